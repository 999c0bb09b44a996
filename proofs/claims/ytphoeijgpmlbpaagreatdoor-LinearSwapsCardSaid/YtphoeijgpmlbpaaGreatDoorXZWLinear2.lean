
import Derived.Test.YtphoeijgpmlbpaaGreatDoorXZM
import Derived.Test.YtphoeijgpmlbpaaGreatDoorXZWDraw
set_option linter.unusedVariables false
set_option linter.unusedSimpArgs false
namespace Go.Hx
open Go Go.Proofs
set_option maxRecDepth 10000
set_option maxHeartbeats 1000000
theorem BN (p0 : fw) (b : SV) (c : SV) (p1 : ad0) (g : SV) (d : ad5) (H : qH p0 p1 = some d) (K : Kp) (G : List Ent) (n : Slr fV K (sv b) p0.op.cases) (o : Slr Ty.i64 K (sv c) p0.op.draws) (p : Slr fG K (sv g) p1) :
  Fc Tryz.prog 60 #[(.agg (fl p0 b c).toArray), (sv g)] K (G) (fun v k j => ∃ (h : SV), v = (sv h) ∧ (.tok 38 5 [(sv h)]) :: G = j ∧ Slr fN k (sv h) d) := by
 refine fO Tryz.func60 rfl Tryz.ntmps60 Tryz.results60 rfl ?_
 unfold qH at H
 refine fc<|fa<|?_
 refine ff rfl (fU (cs := (fl p0 b c)) rfl rfl rfl (fun x => ?_))
 refine Ea Z<|fb<|fc<|fc<|fa<|EF 13 Z<|El (Vi p0.coming) Z (Rb0 Z)<|Ec Z<|fb<|?_
 refine fm rfl ?_ ?_
 ·intro a
  obtain ⟨a, H⟩ := It a H
  refine fc<|fa<|EF 7 Z<|EL 5 (fe p0.result) Z (Rb0 Z)<|?_
  have i : RowR fN K [(fe p0.result)] [p0.result] := RowR.cons rfl (RowR.nil)
  refine ff rfl (gg (T := fN) (rows := [(fe p0.result)]) (l := [p0.result]) rfl rfl rfl i rfl rfl rfl rfl rfl rfl rfl rfl (fun e => ?_))
  refine Ea Z<|fb<|fy<|?_
  obtain m := gm H
  subst d
  refine ⟨(.inl rfl), [(sv e)], ⟨(sv e), _, rfl, rfl, rfl⟩, ?_⟩
  refine Shift.settle (T := fN) .here i rfl ?_
  intro u y q
  exact Re1<|Sd<|⟨e, rfl, rfl, q⟩
 ·intro a
  obtain ⟨a, H⟩ := If a H
  refine ft<|fc<|fa<|Em Z<|EF 0 Z<|EL 7 (fj p0.op b c) Z (Rb0 Z)<|?_
  obtain ⟨t, s, H⟩ := bnd H
  refine ff rfl (Ek Tryz.call67 Z (BM p1 g p0.op b c t s _ _ p n o) ?_)
  rintro _ w _ z ⟨f, rfl, rfl, r⟩
  refine Ea Z<|fb<|fy<|?_
  obtain m := gm H
  subst d
  refine ⟨(.inl rfl), [(sv f)], ⟨(sv f), _, rfl, rfl, rfl⟩, ?_⟩
  exact Re1<|Sd<|⟨f, rfl, rfl, r⟩
theorem xg (p0 : Op) (e : SV) (m : SV) (f : ae8) (H : nE p0 = some f) (K : Kp) (G : List Ent) (r : Slr fV K (sv e) p0.cases) (I : Slr Ty.i64 K (sv m) p0.draws) :
  Fc Tryz.prog 101 #[(.agg (fj p0 e m).toArray)] K (G) (fun v h g => ∃ (u : SV), v = (sv u) ∧ (.tok 167 4 [(sv u)]) :: G = g ∧ Slr gw h (sv u) f) := by
 refine fO Tryz.func101 rfl Tryz.ntmps101 Tryz.results101 rfl ?_
 unfold nE at H
 refine fc<|fa<|?_
 refine ff rfl (fU (cs := (fj p0 e m)) rfl rfl rfl (fun X => ?_))
 refine Ea Z<|fb<|fc<|fc<|fa<|EL 7 (fj p0 e m) Z (Rb0 Z)<|?_
 obtain ⟨c, R, O, H⟩ := ix H
 refine ff rfl (Ek Tryz.call117 Z (wn p0 e m c R O _ _ r I) ?_)
 rintro _ _ _ - ⟨rfl, rfl, rfl⟩
 refine Em Z<|Ex Z<|Ex Z<|?_
 refine ff rfl (fC (cs := (fk (Case.mk false 0 0))) rfl rfl rfl rfl (fun Y => ?_))
 refine ff rfl (Sa (fk c) Z .here Z ?_)
 refine Ea Z<|fb<|fc<|fa<|Em Z<|fb<|?_
 refine fm rfl ?_ ?_
 ·intro p
  have H := ift p H
  refine fc<|fa<|EL 3 (fk c) Z (Rb0 Z)<|Eq Z (fF (cs := (fR (Linear_numbered.mk (-1) c))) rfl rfl rfl rfl rfl rfl)<|?_
  have x : RowR gw K [(fR (Linear_numbered.mk (-1) c))] [(Linear_numbered.mk (-1) c)] := RowR.cons rfl (RowR.nil)
  refine ff rfl (gg (T := gw) (rows := [(fR (Linear_numbered.mk (-1) c))]) (l := [(Linear_numbered.mk (-1) c)]) rfl rfl rfl x rfl rfl rfl rfl rfl rfl rfl rfl (fun t => ?_))
  refine Ea Z<|fb<|fy<|?_
  obtain C := gm H
  subst f
  refine ⟨(.inl rfl), [(sv t)], ⟨(sv t), _, rfl, rfl, rfl⟩, ?_⟩
  refine Shift.settle (T := gw) .here x rfl ?_
  intro V ac M
  exact Re1<|Re1<|Sd<|⟨t, rfl, rfl, M⟩
 ·intro p
  have H := f0 (btf p) H
  refine ft<|fc<|fa<|Ea Z<|fb<|?_
  refine fz (fun o h g => ∃ (d : SV) (s : ae8), [(5, (sv d))] = o ∧ (.tok 167 4 [(sv d)]) :: G = g ∧ uU s = some f ∧ Slr gw h (sv d) s) ?_ ?_
  ·refine fc<|fa<|EF 5 Z<|El (sv e) Z (Rb1 Z)<|Eq Z (ge (T := fV) r rfl rfl)<|Em Z<|fb<|fB<|?_
   refine f8 (fun n167 o h g => ∃ (j : SV) (n : ae8) (a : Int), [(5, (sv j)), (18, (sv e)), (19, (Vi (p0.cases.length : Int))), (20, (Vi a))] = o ∧ (.tok 167 4 [(sv j)]) :: G = g ∧ lp2 (uV p0) n167 n a = some f ∧ Slr gw h (sv j) n) BIG ?_ ?_
   ·exact Shift.nilTok1 167 4<|Re1<|Re1<|Sd<|⟨_, by exact R4, fA, ([] : ae8), 0, rfl, rfl, H, (Slr.nil gw _)⟩
   rintro n167 _ B _ D ⟨j, n, a, rfl, rfl, H, y⟩
   obtain ⟨ae, ad, rfl, F, H⟩ := jF H
   unfold uV at H
   refine fc<|fa<|Ec Z<|fb<|fc<|?_
   refine fm rfl ?_ ?_
   ·intro i
    obtain ⟨i, H⟩ := It i H
    refine ft<|fc<|fB<|fc<|fa<|Em Z<|?_
    obtain ⟨b, A, H⟩ := bnd H
    have z := r.mono D
    obtain ⟨_, rfl, E⟩ := Slr.at z A
    refine Eq Z (Qi (T := fV) z A Z)<|EL 3 (fk b) Z (Rdc.k E rfl)<|?_
    refine ff rfl (fC (cs := (fk (Case.mk false 0 0))) rfl rfl rfl rfl (fun W => ?_))
    refine Ea Z ?_
    refine ff rfl (Sa (fk b) Z .here Z ?_)
    refine fb<|fa<|Em Z<|Em Z<|EL 3 (fk b) Z (Rb0 Z)<|Eq Z (fF (cs := (fR (Linear_numbered.mk a b))) rfl rfl rfl rfl rfl rfl)<|?_
    have w : RowR gw B [(fR (Linear_numbered.mk a b))] [(Linear_numbered.mk a b)] := RowR.cons rfl (RowR.nil)
    refine ff rfl (gg (T := gw) (rows := [(fR (Linear_numbered.mk a b))]) (l := [(Linear_numbered.mk a b)]) rfl rfl rfl w rfl rfl rfl rfl rfl rfl rfl rfl (fun af => ?_))
    obtain ⟨Q, N, H⟩ := bnd H
    refine ff rfl (f7 (T := gw) (bytes := 32) (q := 0) rfl rfl rfl y Mb2 rfl (SrcT.row Mb0 w rfl) N rfl rfl rfl rfl rfl rfl rfl rfl (fun P S aa L => ⟨_, (.there (.there .here)), ?_⟩))
    refine Ow.shift (Re0 (Sd ?_))
    exact Ea Z<|fb<|fa<|Er (wI (a + 1)) Z<|Em Z<|fb<|Pu1<|Re1<|Sd<|⟨_, by exact R4, _, Nat.lt_succ_self _, P, Q, (wI (a + 1)), rfl, rfl, (F ▸ H), L⟩
   ·intro i
    obtain ⟨i, H⟩ := If i H
    exact ga<|Sd<|⟨_, by exact R1, j, n, rfl, rfl, H, y⟩
  rintro _ U _ ab ⟨d, s, rfl, rfl, H, J⟩
  unfold uU at H
  refine fc<|fa<|Em Z<|Ea Z<|fb<|fy<|?_
  obtain C := gm H
  subst f
  refine ⟨(.inl rfl), [(sv d)], ⟨(sv d), _, rfl, rfl, rfl⟩, ?_⟩
  exact Sd ⟨d, rfl, rfl, J⟩
theorem xh (p0 : fw) (c : SV) (d : SV) (p1 : Result) (b : Bool) (H : nF p0 p1 = some b) (K : Kp) (G : List Ent) (h : Slr fV K (sv c) p0.op.cases) (i : Slr Ty.i64 K (sv d) p0.op.draws) :
  Fc Tryz.prog 102 #[(.agg (fl p0 c d).toArray), (.agg (fe p1).toArray)] K (G) (fun v f e => v = (.bool b) ∧ K = f ∧ G = e) := by
 refine fO Tryz.func102 rfl Tryz.ntmps102 Tryz.results102 rfl ?_
 unfold nF at H
 refine fc<|fa<|?_
 refine ff rfl (fU (cs := (fl p0 c d)) rfl rfl rfl (fun b4 => ?_))
 refine ff rfl (fU (cs := (fe p1)) rfl rfl rfl (fun b5 => ?_))
 refine Ea Z<|fb<|fc<|fa<|EF 13 Z<|El (Vi p0.coming) Z (Rb1 Z)<|Ec Z<|Em Z<|?_
 refine Ee Z ?_ ?_
 ·intro a
  obtain ⟨a, H⟩ := It a H
  refine Ez Z<|Ez Z<|Ez Z<|Ez Z<|Et Z<|Ea Z<|fb<|fy<|?_
  obtain g := gm H
  subst b
  refine ⟨(.inl rfl), [(.bool true)], ⟨(.bool true), _, rfl, rfl, rfl⟩, ?_⟩
  exact Re0<|Re0<|Sd<|⟨rfl, rfl, rfl⟩
 ·intro a
  obtain ⟨a, H⟩ := If a H
  refine VF 7 Z<|VL 5 (fe p0.result) Z (Rb1 Z)<|VL 5 (fe p1) Z (Rb0 Z)<|Vq Z (jw rfl rfl (fun w => Result.eqrun p0.result p1 w) (by kernel_rfl))<|Ef Z<|Ea Z<|fb<|fy<|?_
  obtain g := gm H
  subst b
  refine ⟨(.inl rfl), [(.bool (dcd (p0.result = p1)))], ⟨(.bool (dcd (p0.result = p1))), _, rfl, rfl, rfl⟩, ?_⟩
  exact Re0<|Re0<|Sd<|⟨rfl, rfl, rfl⟩
theorem BP (p0 : ad0) (y : SV) (p1 : fw) (f : SV) (g : SV) (p2 : fw) (h : SV) (i : SV) (u : ae7) (H : qJ p0 p1 p2 = some u) (K : Kp) (G : List Ent) (aM : Slr fG K (sv y) p0) (ak : Slr fV K (sv f) p1.op.cases) (al : Slr Ty.i64 K (sv g) p1.op.draws) (aN : Slr fV K (sv h) p2.op.cases) (aO : Slr Ty.i64 K (sv i) p2.op.draws) :
  Fc Tryz.prog 63 #[(sv y), (.agg (fl p1 f g).toArray), (.agg (fl p2 h i).toArray)] K (G) (fun v d c => ∃ (ah : SV), v = (sv ah) ∧ (.tok 131 10 [(sv ah)]) :: G = c ∧ Slr gv d (sv ah) u) := by
 refine fO Tryz.func63 rfl Tryz.ntmps63 Tryz.results63 rfl ?_
 unfold qJ at H
 refine fc<|fa<|?_
 refine ff rfl (fU (cs := (fl p1 f g)) rfl rfl rfl (fun n => ?_))
 refine ff rfl (fU (cs := (fl p2 h i)) rfl rfl rfl (fun o => ?_))
 refine Ea Z<|fb<|fc<|fa<|Ea Z<|fb<|?_
 refine fz (fun j d c => ∃ (B : SV) (ae : ae7), [(7, (sv B))] = j ∧ (.tok 131 10 [(sv B)]) :: G = c ∧ uW ae = some u ∧ Slr gv d (sv B) ae) ?_ ?_
 ·refine fc<|fa<|EF 0 Z<|EL 7 (fj p1.op f g) Z (Rb1 Z)<|?_
  obtain ⟨m, a0, H⟩ := bnd H
  refine ff rfl (Ek Tryz.call101 Z (xg p1.op f g m a0 _ _ ak al) ?_)
  rintro _ bb _ O ⟨p, rfl, rfl, ay⟩
  refine Eq Z (ge (T := gw) ay rfl rfl)<|Em Z<|fb<|fB<|?_
  refine f8 (fun aB j d c => ∃ (I : SV) (P : ae7) (e : Int), [(0, (sv y)), (4, (Vp n)), (5, (Vp o)), (7, (sv I)), (16, (sv p)), (17, (Vi (m.length : Int))), (18, (Vi e))] = j ∧ (.blk o 120 (fl p2 h i)) :: (.blk n 120 (fl p1 f g)) :: (.tok 131 10 [(sv I)]) :: (.tok 167 4 [(sv p)]) :: G = c ∧ lp2 (u2 p0 m p2 p1) aB P e = some u ∧ Slr gv d (sv I) P) BIG ?_ ?_
  ·exact Shift.nilTok1 131 10<|Pu1<|Pu1<|Pu3<|Pu3<|Sd<|⟨_, by exact R7, fA, ([] : ae7), 0, rfl, rfl, H, (Slr.nil gv _)⟩
  rintro aB _ a5 _ C ⟨I, P, e, rfl, rfl, H, am⟩
  obtain ⟨bh, F, rfl, aK, H⟩ := jF H
  unfold u2 at H
  refine fc<|fa<|Ec Z<|fb<|fc<|?_
  refine fm rfl ?_ ?_
  ·intro M
   obtain ⟨M, H⟩ := It M H
   refine ft ?_
   refine fz (fun j d c => ∃ (Q : SV) (W : ae7), [(0, (sv y)), (4, (Vp n)), (5, (Vp o)), (7, (sv Q)), (16, (sv p)), (17, (Vi (m.length : Int))), (18, (Vi e))] = j ∧ (.blk o 120 (fl p2 h i)) :: (.blk n 120 (fl p1 f g)) :: (.tok 131 10 [(sv Q)]) :: (.tok 167 4 [(sv p)]) :: G = c ∧ uX p0 m e p2 p1 F W = some u ∧ Slr gv d (sv Q) W) ?_ ?_
   ·refine fB<|fc<|fa<|?_
    obtain ⟨a, az, H⟩ := bnd H
    have an := ay.mono C
    obtain ⟨_, rfl, aI⟩ := Slr.at an az
    refine Eq Z (Qi (T := gw) an az Z)<|EL 4 (fR a) Z (Rdc.k aI rfl)<|?_
    refine ff rfl (fC (cs := (fR (Linear_numbered.mk 0 (Case.mk false 0 0)))) rfl rfl rfl rfl (fun w => ?_))
    refine ff rfl (Sa (fR a) Z .here Z ?_)
    refine fb<|fc<|fa<|EF 0 Z<|EL 7 (fj p2.op h i) Z (Rb1 Z)<|?_
    obtain ⟨t, aV, H⟩ := bnd H
    have ao := (aN.mono O).mono C
    have ap := (aO.mono O).mono C
    refine ff rfl (Ek Tryz.call101 Z (xg p2.op h i t aV _ _ ao ap) ?_)
    rintro _ a6 _ D ⟨x, rfl, rfl, aq⟩
    refine Eq Z (ge (T := gw) aq rfl rfl)<|Em Z<|fb<|fB<|?_
    refine f8 (fun aC j d c => ∃ (s : SV) (z : ae7) (r : Int), [(0, (sv y)), (4, (Vp n)), (5, (Vp o)), (7, (sv s)), (9, (Vp w)), (16, (sv p)), (17, (Vi (m.length : Int))), (18, (Vi e)), (24, (sv x)), (25, (Vi (t.length : Int))), (26, (Vi r))] = j ∧ (.blk w 167 (fR a)) :: (.blk o 120 (fl p2 h i)) :: (.blk n 120 (fl p1 f g)) :: (.tok 131 10 [(sv s)]) :: (.tok 167 4 [(sv x)]) :: (.tok 167 4 [(sv p)]) :: G = c ∧ lp2 (uZ p0 m e t a p2 p1 F) aC z r = some u ∧ Slr gv d (sv s) z) BIG ?_ ?_
    ·refine Pu5<|Pu1<|Pu5<|Pu5<|Pu5<|Pu5<|?_
     have aQ := am.mono D
     exact Sd ⟨_, by exact R11, I, P, 0, rfl, rfl, H, aQ⟩
    rintro aC _ S _ E ⟨s, z, r, rfl, rfl, H, U⟩
    obtain ⟨bi, V, rfl, aL, H⟩ := jF H
    unfold uZ at H
    refine fc<|fa<|Ec Z<|fb<|fc<|?_
    refine fm rfl ?_ ?_
    ·intro N
     obtain ⟨N, H⟩ := It N H
     refine ft ?_
     refine fz (fun j d c => ∃ (R : SV) (X : ae7), [(0, (sv y)), (4, (Vp n)), (5, (Vp o)), (7, (sv R)), (9, (Vp w)), (16, (sv p)), (17, (Vi (m.length : Int))), (18, (Vi e)), (24, (sv x)), (25, (Vi (t.length : Int))), (26, (Vi r))] = j ∧ (.blk w 167 (fR a)) :: (.blk o 120 (fl p2 h i)) :: (.blk n 120 (fl p1 f g)) :: (.tok 131 10 [(sv R)]) :: (.tok 167 4 [(sv x)]) :: (.tok 167 4 [(sv p)]) :: G = c ∧ o8 p0 m e t r a p2 p1 F V X = some u ∧ Slr gv d (sv R) X) ?_ ?_
     ·refine fB<|fc<|fa<|?_
      obtain ⟨b, aA, H⟩ := bnd H
      have ar := aq.mono E
      obtain ⟨_, rfl, aJ⟩ := Slr.at ar aA
      refine Eq Z (Qi (T := gw) ar aA Z)<|EL 4 (fR b) Z (Rdc.k aJ rfl)<|?_
      refine ff rfl (fC (cs := (fR (Linear_numbered.mk 0 (Case.mk false 0 0)))) rfl rfl rfl rfl (fun ai => ?_))
      refine ff rfl (Sa (fR b) Z .here Z ?_)
      refine fb<|fc<|?_
      refine fz (fun j d c => ∃ (af : Bool), [(0, (sv y)), (4, (Vp n)), (5, (Vp o)), (7, (sv s)), (9, (Vp w)), (11, (Vp ai)), (16, (sv p)), (17, (Vi (m.length : Int))), (18, (Vi e)), (24, (sv x)), (25, (Vi (t.length : Int))), (26, (Vi r)), (47, (.bool af))] = j ∧ S = d ∧ (.blk ai 167 (fR b)) :: (.blk w 167 (fR a)) :: (.blk o 120 (fl p2 h i)) :: (.blk n 120 (fl p1 f g)) :: (.tok 131 10 [(sv s)]) :: (.tok 167 4 [(sv x)]) :: (.tok 167 4 [(sv p)]) :: G = c ∧ rZ p0 z m e t r b a p2 p1 F V af = some u) ?_ ?_
      ·refine fa<|EF 1 Z<|EF 1 Z<|El (.bool a.case_.send) Z (Rb1 Z)<|Eq Z (gd rfl)<|Em Z<|?_
       refine Ee Z ?_ ?_
       ·intro A
        have A := ir A
        have H := f0 (btf A) H
        exact Ez Z<|Ez Z<|Ez Z<|Et Z<|Em Z<|Ez Z<|Ez Z<|Ez Z<|Ez Z<|Ez Z<|Ez Z<|Ez Z<|Et Z<|fb<|Pu6<|Pu6<|Pu6<|Pu6<|Pu6<|Pu6<|Pu6<|Sd<|⟨_, by exact R13, true, rfl, rfl, rfl, H⟩
       ·intro A
        have A := iq A
        have H := ift A H
        refine VF 1 Z<|VF 1 Z<|Vl (.bool b.case_.send) Z (Rb0 Z)<|Ef Z<|Em Z<|?_
        refine Ee Z ?_ ?_
        ·intro Y
         have H := ift Y H
         exact Ez Z<|Ez Z<|Ez Z<|Ez Z<|Ez Z<|Ez Z<|Ez Z<|Et Z<|fb<|Pu6<|Pu6<|Pu6<|Pu6<|Pu6<|Pu6<|Pu6<|Sd<|⟨_, by exact R13, true, rfl, rfl, rfl, H⟩
        ·intro Y
         have H := f0 (btf Y) H
         exact VF 1 Z<|VF 2 Z<|Vl (Vi a.case_.channel) Z (Rb1 Z)<|VF 1 Z<|VF 2 Z<|Vl (Vi b.case_.channel) Z (Rb0 Z)<|Vc Z<|Ef Z<|fb<|Pu6<|Pu6<|Pu6<|Pu6<|Pu6<|Pu6<|Pu6<|Sd<|⟨_, by exact R13, (!(dcd (a.case_.channel = b.case_.channel))), rfl, rfl, rfl, H⟩
      rintro _ _ _ - ⟨af, rfl, rfl, rfl, H⟩
      unfold rZ at H
      refine fm rfl ?_ ?_
      ·intro aa
       have H := ift aa H
       exact ga<|Pu6<|Pu6<|Pu6<|Pu6<|Pu6<|Pu6<|Re6<|Sd<|⟨_, by exact R11, s, z, rfl, rfl, H, U⟩
      ·intro aa
       have H := f0 (btf aa) H
       refine ft ?_
       refine fz (fun j d c => ∃ (J : Nat) (L : Nat), [(0, (sv y)), (4, (Vp n)), (5, (Vp o)), (7, (sv s)), (9, (Vp w)), (12, (Vp J)), (13, (Vp L)), (16, (sv p)), (17, (Vi (m.length : Int))), (18, (Vi e)), (24, (sv x)), (25, (Vi (t.length : Int))), (26, (Vi r))] = j ∧ S = d ∧ (.blk L 38 (fe (Result.mk 2 b.index a.case_.value true 0))) :: (.blk J 38 (fe (Result.mk 1 a.index 0 false 0))) :: (.blk w 167 (fR a)) :: (.blk o 120 (fl p2 h i)) :: (.blk n 120 (fl p1 f g)) :: (.tok 131 10 [(sv s)]) :: (.tok 167 4 [(sv x)]) :: (.tok 167 4 [(sv p)]) :: G = c ∧ uY p0 z m e t r b a p2 p1 F V = some u) ?_ ?_
       ·refine fq _ rfl (Ic Mb0 (Ic Mb1 (Ic Mb2 (Ic Mb3 (Ic Mb4 (Ic Mb5 (Ic Mb6 In0)))))))<|JF 0 0 Z<|Jl 1 (Vi a.index) Z (Rb1 Z)<|Jq 2 Z (fF (cs := (fe (Result.mk 1 a.index 0 false 0))) rfl rfl rfl rfl rfl rfl)<|JF 3 0 Z<|Jl 4 (Vi b.index) Z (Rb0 Z)<|JF 5 1 Z<|JF 6 3 Z<|Jl 7 (.int .u64 a.case_.value) Z (Rb1 Z)<|Jq 8 Z (fF (cs := (fe (Result.mk 2 b.index a.case_.value true 0))) rfl rfl rfl rfl rfl rfl)<|?_
        refine gU 9 10 (by kernel_rfl) ?_ ?_
        ·refine id (Jy Z ?_)
         refine fC (cs := (fe (Result.mk 0 0 0 false 0))) rfl rfl rfl rfl (fun aE => ⟨(Ic Mb1 (Ic Mb2 (Ic Mb3 (Ic Mb4 (Ic Mb5 (Ic Mb6 (Ic Mb7 In0))))))), ?_⟩)
         refine Ao 10 Z ?_
         refine fC (cs := (fe (Result.mk 0 0 0 false 0))) rfl rfl rfl rfl (fun aF => ⟨(Ic Mb2 (Ic Mb3 (Ic Mb4 (Ic Mb5 (Ic Mb6 (Ic Mb7 (Ic Mb8 In0))))))), ?_⟩)
         refine Ao 11 Z ?_
         refine Sa (fe (Result.mk 1 a.index 0 false 0)) Z (.there .here) Z ⟨(Ic Mb2 (Ic Mb3 (Ic Mb4 (Ic Mb5 (Ic Mb6 (Ic Mb7 (Ic Mb8 In0))))))), ?_⟩
         refine Ao 12 Z ?_
         refine Sa (fe (Result.mk 2 b.index a.case_.value true 0)) Z .here Z ⟨(Ic Mb2 (Ic Mb3 (Ic Mb4 (Ic Mb5 (Ic Mb6 (Ic Mb7 (Ic Mb8 In0))))))), ?_⟩
         exact Ad<|Pu8<|Pu8<|Pu8<|Pu8<|Pu8<|Pu8<|Pu7<|Pu7<|Re8<|Sd<|⟨_, by exact R13, aE, aF, rfl, rfl, rfl, H⟩
        ·refine id (Jy Z ?_)
         refine fC (cs := (fe (Result.mk 0 0 0 false 0))) rfl rfl rfl rfl (fun aG => ⟨(Ic Mb1 (Ic Mb2 (Ic Mb3 (Ic Mb4 (Ic Mb5 (Ic Mb6 (Ic Mb7 In0))))))), ?_⟩)
         refine Ao 9 Z ?_
         refine fC (cs := (fe (Result.mk 0 0 0 false 0))) rfl rfl rfl rfl (fun aH => ⟨(Ic Mb2 (Ic Mb3 (Ic Mb4 (Ic Mb5 (Ic Mb6 (Ic Mb7 (Ic Mb8 In0))))))), ?_⟩)
         refine Ao 11 Z ?_
         refine Sa (fe (Result.mk 1 a.index 0 false 0)) Z .here Z ⟨(Ic Mb2 (Ic Mb3 (Ic Mb4 (Ic Mb5 (Ic Mb6 (Ic Mb7 (Ic Mb8 In0))))))), ?_⟩
         refine Ao 12 Z ?_
         refine Sa (fe (Result.mk 2 b.index a.case_.value true 0)) Z (.there .here) Z ⟨(Ic Mb2 (Ic Mb3 (Ic Mb4 (Ic Mb5 (Ic Mb6 (Ic Mb7 (Ic Mb8 In0))))))), ?_⟩
         exact Ad<|Pu8<|Pu8<|Pu8<|Pu8<|Pu8<|Pu8<|Pu6<|Pu7<|Re8<|Sd<|⟨_, by exact R13, aH, aG, rfl, rfl, rfl, H⟩
       rintro _ _ _ - ⟨J, L, rfl, rfl, rfl, H⟩
       unfold uY at H
       refine fz (fun j d c => ∃ (ag : Bool), [(0, (sv y)), (4, (Vp n)), (5, (Vp o)), (7, (sv s)), (9, (Vp w)), (12, (Vp J)), (13, (Vp L)), (16, (sv p)), (17, (Vi (m.length : Int))), (18, (Vi e)), (24, (sv x)), (25, (Vi (t.length : Int))), (26, (Vi r)), (74, (.bool ag))] = j ∧ S = d ∧ (.blk L 38 (fe (Result.mk 2 b.index a.case_.value true 0))) :: (.blk J 38 (fe (Result.mk 1 a.index 0 false 0))) :: (.blk w 167 (fR a)) :: (.blk o 120 (fl p2 h i)) :: (.blk n 120 (fl p1 f g)) :: (.tok 131 10 [(sv s)]) :: (.tok 167 4 [(sv x)]) :: (.tok 167 4 [(sv p)]) :: G = c ∧ rY p0 z m e t r b a p2 p1 F V ag = some u) ?_ ?_
       ·refine fa<|EL 14 (fl p1 f g) Z (Rb4 Z)<|EL 5 (fe (Result.mk 1 a.index 0 false 0)) Z (Rb1 Z)<|?_
        obtain ⟨a2, aW, H⟩ := bnd H
        have au := (((ak.mono O).mono C).mono D).mono E
        have av := (((al.mono O).mono C).mono D).mono E
        refine ff rfl (Ek Tryz.call102 Z (xh p1 f g (Result.mk 1 a.index 0 false 0) a2 aW _ _ au av) ?_)
        rintro _ _ _ - ⟨rfl, rfl, rfl⟩
        refine Em Z ?_
        refine Ee Z ?_ ?_
        ·intro ab
         have H := ift ab H
         refine VL 14 (fl p2 h i) Z (Rb3 Z)<|VL 5 (fe (Result.mk 2 b.index a.case_.value true 0)) Z (Rb0 Z)<|?_
         obtain ⟨a3, aX, H⟩ := bnd H
         have aw := (ao.mono D).mono E
         have ax := (ap.mono D).mono E
         refine hY rfl rfl rfl rfl (Ek Tryz.call102 Z (xh p2 h i (Result.mk 2 b.index a.case_.value true 0) a3 aX _ _ aw ax) ?_)
         rintro _ _ _ - ⟨rfl, rfl, rfl⟩
         refine Et Z<|Em Z<|?_
         refine Ee Z ?_ ?_
         ·intro ac
          have H := ift ac H
          refine Vm Z<|VF 0 Z<|VL 7 (fj p1.op f g) Z (Rb4 Z)<|VL 5 (fe (Result.mk 1 a.index 0 false 0)) Z (Rb1 Z)<|VF 0 Z<|VL 7 (fj p2.op h i) Z (Rb3 Z)<|VL 5 (fe (Result.mk 2 b.index a.case_.value true 0)) Z (Rb0 Z)<|?_
          obtain ⟨aD, aY, H⟩ := bnd H
          have aS := (((aM.mono O).mono C).mono D).mono E
          refine hY rfl rfl rfl rfl (Ek Tryz.call103 Z (BO p0 y p1.op f g (Result.mk 1 a.index 0 false 0) p2.op h i (Result.mk 2 b.index a.case_.value true 0) aD aY _ _ aS au av aw ax) ?_)
          rintro _ _ _ - ⟨rfl, rfl, rfl⟩
          exact Et Z<|fb<|Pu7<|Pu7<|Pu7<|Pu7<|Pu7<|Pu7<|Pu7<|Pu7<|Sd<|⟨_, by exact R14, aD, rfl, rfl, rfl, H⟩
         ·intro ac
          have H := f0 (btf ac) H
          exact Ez Z<|Ez Z<|Ez Z<|Ez Z<|Ez Z<|Ez Z<|Ez Z<|Ez Z<|Ef Z<|fb<|Pu7<|Pu7<|Pu7<|Pu7<|Pu7<|Pu7<|Pu7<|Pu7<|Sd<|⟨_, by exact R14, false, rfl, rfl, rfl, H⟩
        ·intro ab
         have H := f0 (btf ab) H
         refine Ez Z<|Ez Z<|Ez Z<|Ef Z<|Em Z<|Ez Z<|Ez Z<|Ez Z<|Ez Z<|Ez Z<|Ez Z<|Ez Z<|Ez Z<|Ef Z<|fb<|Pu7<|Pu7<|Pu7<|Pu7<|Pu7<|Pu7<|Pu7<|?_
         exact Pu7<|Sd<|⟨_, by exact R14, false, rfl, rfl, rfl, H⟩
       rintro _ _ _ - ⟨ag, rfl, rfl, rfl, H⟩
       unfold rY at H
       refine fm rfl ?_ ?_
       ·intro ad
        have H := ift ad H
        refine fa<|Em Z<|EL 5 (fe (Result.mk 1 a.index 0 false 0)) Z (Rb1 Z)<|EL 5 (fe (Result.mk 2 b.index a.case_.value true 0)) Z (Rb0 Z)<|Eq Z (ly (cs := (ia (gl.mk (Result.mk 1 a.index 0 false 0) (Result.mk 2 b.index a.case_.value true 0)))) rfl rfl rfl rfl rfl rfl)<|?_
        have aj : RowR gv S [(ia (gl.mk (Result.mk 1 a.index 0 false 0) (Result.mk 2 b.index a.case_.value true 0)))] [(gl.mk (Result.mk 1 a.index 0 false 0) (Result.mk 2 b.index a.case_.value true 0))] := RowR.cons rfl (RowR.nil)
        refine ff rfl (gg (T := gv) (rows := [(ia (gl.mk (Result.mk 1 a.index 0 false 0) (Result.mk 2 b.index a.case_.value true 0)))]) (l := [(gl.mk (Result.mk 1 a.index 0 false 0) (Result.mk 2 b.index a.case_.value true 0))]) rfl rfl rfl aj rfl rfl rfl rfl rfl rfl rfl rfl (fun bj => ?_))
        obtain ⟨a4, aZ, H⟩ := bnd H
        refine ff rfl (f7 (T := gv) (bytes := 80) (q := 0) rfl rfl rfl U Mb6 rfl (SrcT.row Mb0 aj rfl) aZ rfl rfl rfl rfl rfl rfl rfl rfl (fun a1 a7 bd aT => ⟨_, (.there (.there (.there (.there (.there (.there .here)))))), ?_⟩))
        refine Ow.shift (Re0 (Sd ?_))
        exact Ea Z<|fb<|Pu7<|Pu7<|Pu7<|Pu7<|Pu7<|Pu7<|Re6<|Re6<|Sd<|⟨_, by exact R11, a1, a4, rfl, rfl, H, aT⟩
       ·intro ad
        have H := f0 (btf ad) H
        exact ft<|Pu7<|Pu7<|Pu7<|Pu7<|Pu7<|Pu7<|Re6<|Re6<|Sd<|⟨_, by exact R11, s, z, rfl, rfl, H, U⟩
     rintro _ a8 _ be ⟨R, X, rfl, rfl, H, aR⟩
     unfold o8 at H
     exact fa<|Er (wI (r + 1)) Z<|Em Z<|fb<|Pu5<|Pu5<|Pu5<|Pu5<|Pu5<|Pu5<|Sd<|⟨_, by exact R11, _, Nat.lt_succ_self _, R, X, (wI (r + 1)), rfl, rfl, (aL ▸ H), aR⟩
    ·intro N
     obtain ⟨N, H⟩ := If N H
     exact ga<|Pu5<|Pu4<|Pu4<|Pu4<|Re4<|Re4<|Sd<|⟨_, by exact R7, s, z, rfl, rfl, H, U⟩
   rintro _ a9 _ bf ⟨Q, W, rfl, rfl, H, aP⟩
   unfold uX at H
   exact fa<|Er (wI (e + 1)) Z<|Em Z<|fb<|Pu3<|Pu3<|Pu3<|Pu3<|Sd<|⟨_, by exact R7, _, Nat.lt_succ_self _, Q, W, (wI (e + 1)), rfl, rfl, (aK ▸ H), aP⟩
  ·intro M
   obtain ⟨M, H⟩ := If M H
   exact ga<|Pu2<|Re1<|Re1<|Re1<|Sd<|⟨_, by exact R1, I, P, rfl, rfl, H, am⟩
 rintro _ ba _ bg ⟨B, ae, rfl, rfl, H, aU⟩
 unfold uW at H
 refine fc<|fa<|Em Z<|Ea Z<|fb<|fy<|?_
 obtain bc := gm H
 subst u
 refine ⟨(.inl rfl), [(sv B)], ⟨(sv B), _, rfl, rfl, rfl⟩, ?_⟩
 exact Sd ⟨B, rfl, rfl, aU⟩
theorem xj (rc : ad4) (ih : ∀ (c : Nat) (o : af9) (d : SV) (b : Bool) (n : ad2) (a : Nat) (l : Array MapEntry) (u : Nat) (e : ae4) (f : SV) (s : List (List Value)) (p1 : ad1) (y : SV) (p2 : ad0) (p : SV) (i : Bool) (j : ae4) (h : ad2) (H : rc o b n e p1 p2 = some (i, j, h)) (K : Kp) (G : List Ent) (ac : Slr (Ty.sl fX) K (sv d) o) (aa : MapR Ty.bool Value.string K l n) (ab : RowR fW K s e) (ad : Slr Ty.i64 K (sv y) p1) (ae : Slr fG K (sv p) p2) (hT : mq K), Fc Tryz.prog 29 #[(Vp c), (sv y), (sv p)] K ((.blk c 84 [(sv d), (.bool b), .nilFunc, (.map (some a)), (sv f)]) :: (.obj a (.map l u)) :: (.row (sv f) 67 6 s.flatten) :: G) (fun v g r => ∃ (L : SV) (E : List (List Value)) (z : Array MapEntry) (P : Nat), v = (.bool i) ∧ (.blk c 84 [(sv d), (.bool b), .nilFunc, (.map (some a)), (sv L)]) :: (.row (sv L) 67 6 E.flatten) :: (.obj a (.map z P)) :: G = r ∧ RowR fW g E j ∧ MapR Ty.bool Value.string g z h)) (c : Nat) (o : af9) (d : SV) (b : Bool) (n : ad2) (a : Nat) (l : Array MapEntry) (u : Nat) (e : ae4) (f : SV) (s : List (List Value)) (p1 : ad1) (y : SV) (p2 : ad0) (p : SV) (p3 : ae4) (J : SV) (i : Bool) (j : ae4) (h : ad2) (H : nI rc o b n e p1 p2 p3 = some (i, j, h)) (K : Kp) (G : List Ent) (ac : Slr (Ty.sl fX) K (sv d) o) (aa : MapR Ty.bool Value.string K l n) (ab : RowR fW K s e) (ad : Slr Ty.i64 K (sv y) p1) (ae : Slr fG K (sv p) p2) (M : Slr fW K (sv J) p3) (hT : mq K) :
  Fc Tryz.prog 62 #[(Vp c), (sv y), (sv p), (sv J)] K ((.blk c 84 [(sv d), (.bool b), .nilFunc, (.map (some a)), (sv f)]) :: (.obj a (.map l u)) :: (.row (sv f) 67 6 s.flatten) :: G) (fun v g r => ∃ (L : SV) (E : List (List Value)) (z : Array MapEntry) (P : Nat), v = (.bool i) ∧ (.blk c 84 [(sv d), (.bool b), .nilFunc, (.map (some a)), (sv L)]) :: (.row (sv L) 67 6 E.flatten) :: (.obj a (.map z P)) :: G = r ∧ RowR fW g E j ∧ MapR Ty.bool Value.string g z h) := by
 refine fO Tryz.func62 rfl Tryz.ntmps62 Tryz.results62 rfl ?_
 unfold nI at H
 refine fc<|fa<|Ea Z<|fb<|fc<|fa<|Em Z<|?_
 obtain ⟨am, aK, H⟩ := bnd H
 refine ff rfl (Ek Tryz.call100 Z (Cm p1 y am aK _ _ ad) ?_)
 rintro _ _ _ - ⟨I, aM, rfl, rfl, rfl, aH⟩
 refine Ea Z<|fb<|?_
 refine fz (fun Q g r => ∃ (O : ad1) (V : List (List Value)), [(0, (Vp c)), (2, (sv p)), (3, (sv J)), (9, (sv I))] = Q ∧ (.blk c 84 [(sv d), (.bool b), .nilFunc, (.map (some a)), (sv f)]) :: (.row (sv I) 3 1 V.flatten) :: (.obj a (.map l u)) :: (.row (sv f) 67 6 s.flatten) :: G = r ∧ nH p2 p3 o b e n rc O = some (i, j, h) ∧ RowR Ty.i64 g V O) ?_ ?_
 ·refine fc<|fa<|Em Z<|Eq Z (ge (T := fW) M rfl rfl)<|Em Z<|fb<|fB<|?_
  refine f8 (fun n209 Q g r => ∃ (x : ad1) (D : List (List Value)) (C : Int), [(0, (Vp c)), (2, (sv p)), (3, (sv J)), (9, (sv I)), (15, (sv J)), (16, (Vi (p3.length : Int))), (17, (Vi C))] = Q ∧ K = g ∧ (.blk c 84 [(sv d), (.bool b), .nilFunc, (.map (some a)), (sv f)]) :: (.row (sv I) 3 1 D.flatten) :: (.obj a (.map l u)) :: (.row (sv f) 67 6 s.flatten) :: G = r ∧ lp2 (u3 p2 p3 o b e n rc) n209 x C = some (i, j, h) ∧ RowR Ty.i64 g D x) BIG ?_ ?_
  ·exact Pu3<|Pu3<|Pu2<|Pu3<|Sd<|⟨_, by exact R7, am, aM, 0, rfl, rfl, rfl, H, aH⟩
  rintro n209 _ _ _ - ⟨x, D, C, rfl, rfl, rfl, H, m⟩
  obtain ⟨aY, aX, rfl, ax, H⟩ := jF H
  unfold u3 at H
  refine fc<|fa<|Ec Z<|fb<|fc<|?_
  refine fm rfl ?_ ?_
  ·intro A
   obtain ⟨A, H⟩ := It A H
   refine ft<|fc<|fB<|fc<|fa<|?_
   obtain ⟨t, ai, H⟩ := bnd H
   obtain ⟨_, rfl, aw⟩ := Slr.at M ai
   refine Eq Z (Qi (T := fW) M ai Z)<|EL 6 (fM t) Z (Rdc.k aw rfl)<|?_
   refine ff rfl (fC (cs := (fM (Done.mk 0 (Result.mk 0 0 0 false 0)))) rfl rfl rfl rfl (fun aU => ?_))
   refine ff rfl (Sa (fM t) Z .here Z ?_)
   refine fb<|fa<|Em Z<|EF 0 Z<|El (Vi t.thread) Z (Rb0 Z)<|?_
   obtain ⟨q, aj, H⟩ := bnd H
   obtain ⟨aZ, af, ay⟩ := RowR.at m aj
   obtain rfl := ay
   refine Eq Z (gy (T := Ty.i64) Mb2 m af (fK aj).1 rfl rfl rfl rfl rfl)<|El (Vi q) Z (gP (T := Ty.i64) Mb2 m af rfl rfl)<|Er (wI (q + 1)) Z<|?_
   obtain ⟨a1, ak, H⟩ := bnd H
   obtain ⟨a0, S, az⟩ := RowR.at m ak
   obtain rfl := az
   refine Eq Z (gy (T := Ty.i64) Mb2 m S (fK ak).1 rfl rfl rfl rfl rfl) ?_
   refine ff rfl (gV (T := Ty.i64) (vs := [(Vi (wI (q + 1)))]) (r' := [(Vi (wI (q + 1)))]) (l' := (f6 x t.thread (wI (q + 1)))) rfl rfl rfl rfl rfl (.there (.there .here)) m S rfl rfl rfl (RowR.set t.thread m rfl) (fun ar => ?_))
   have aV := iV S (v := [(Vi (wI (q + 1)))])
   exact fb<|fa<|Er (wI (C + 1)) Z<|Em Z<|fb<|Pu4<|Pu4<|Pu4<|Pu4<|Re4<|Sd<|⟨_, by exact R7, _, Nat.lt_succ_self _, (f6 x t.thread (wI (q + 1))), (D.set t.thread.toNat [(Vi (wI (q + 1)))]), (wI (C + 1)), rfl, rfl, rfl, (ax ▸ H), ar⟩
  ·intro A
   obtain ⟨A, H⟩ := If A H
   exact ga<|Pu3<|Pu3<|Pu3<|Pu3<|Sd<|⟨_, by exact R4, x, D, rfl, rfl, H, m⟩
 rintro _ aR _ w ⟨O, V, rfl, rfl, H, aq⟩
 unfold nH at H
 refine fc<|fa<|Em Z<|Eq Z (fD rfl)<|EF 4 Z<|El (sv f) Z (Rb0 Z)<|?_
 have ag := ab.mono w
 refine Eq Z (lx (T := fW) Mb3 ag rfl rfl rfl)<|Ea Z<|fb<|fc<|fa<|Em Z<|Em Z<|Eq Z (fD rfl)<|EF 4 Z<|El (sv f) Z (Rb0 Z)<|Em Z<|?_
 obtain ⟨aN, aI, H⟩ := bnd H
 have aA := M.mono w
 refine ff rfl (gW (T := fW) (bytes := 48) rfl rfl rfl Mb3 ag (SrcT.sl aA) aI rfl rfl rfl rfl rfl rfl rfl rfl (fun W aL au => ⟨_, (.there (.there (.there .here))), ?_⟩))
 refine Eq Z (fD rfl)<|EF 4 Z<|?_
 refine ff rfl (So [(sv W)] [(sv d), (.bool b), .nilFunc, (.map (some a)), (sv W)] Z .here Z ?_)
 refine fb<|fc<|fc<|fa<|Em Z<|Em Z<|Em Z<|?_
 refine Ow.shift (Shift.settle (T := Ty.i64) (.there .here) aq rfl (fun aS B aB => Sd ?_))
 obtain ⟨aO, aP, aQ, aJ, H⟩ := kO H
 refine Ow.shift (Pu3 (Sd ?_))
 refine Ow.shift (Pu3 (Sd ?_))
 refine Ow.shift (Pu2 (Sd ?_))
 have aC := (ac.mono w).mono B
 have aD := (aa.mono w).mono B
 have aE := au.mono B
 have aF := (ae.mono w).mono B
 have aG := (hT.mono w).mono B
 refine ff rfl (Ek Tryz.call29 Z (ih c o d b n a l u aN W aL O I p2 p aO aP aQ aJ _ _ aC aD aE aB aF aG) ?_)
 rintro _ aT _ aW ⟨F, al, Y, X, rfl, rfl, N, ah⟩
 refine fb ?_
 refine fm rfl ?_ ?_
 ·intro R
  have H := ift R H
  refine fc<|fa<|Ea Z<|fb<|fy<|?_
  obtain ⟨ao, ap, an⟩ := jH H
  subst i j h
  refine ⟨(.inl rfl), [(.bool true)], ⟨(.bool true), _, rfl, rfl, rfl⟩, ?_⟩
  exact Pu2<|Pu2<|Pu2<|Re3<|Sd<|⟨F, al, Y, X, rfl, rfl, N, ah⟩
 ·intro R
  have H := f0 (btf R) H
  refine ft<|fc<|fa<|Em Z<|Em Z<|Eq Z (fD rfl)<|EF 4 Z<|El (sv F) Z (Rb0 Z)<|Em Z<|?_
  obtain ⟨a2, U, H⟩ := bnd H
  refine Eq Z (DF (T := fW) Mb1 N rfl U rfl rfl rfl rfl)<|Eq Z (fD rfl)<|EF 4 Z<|?_
  refine Ow.shift (Pu1 (Sd ?_))
  have av := RowR.cutH N U
  refine Ow.shift (Shift.cutRow (T := fW) N rfl U (Sd ?_))
  refine ff rfl (So [(sv (jo F 6 0 (e.length : Int).toNat))] [(sv d), (.bool b), .nilFunc, (.map (some a)), (sv (jo F 6 0 (e.length : Int).toNat))] Z (.there .here) Z ?_)
  refine fb<|fc<|fa<|Ea Z<|fb<|fy<|?_
  obtain ⟨ao, ap, an⟩ := jH H
  subst i j h
  refine ⟨(.inl rfl), [(.bool false)], ⟨(.bool false), _, rfl, rfl, rfl⟩, ?_⟩
  exact Pu2<|Pu1<|Pu2<|Re3<|Sd<|⟨(jo F 6 0 (e.length : Int).toNat), (al.take (e.length : Int).toNat), Y, X, rfl, rfl, av, ah⟩
end Go.Hx
namespace Go.Hx
open Go Go.Proofs
set_option maxRecDepth 10000
set_option maxHeartbeats 1000000
theorem xy (p0 : fP) (h : SV) (o : SV) (i : ad0) (H : qm p0 = some i) (K : Kp) (G : List Ent) (s : Slr Ty.i64 K (sv h) p0.capacities) (P : Slr Ty.u64 K (sv o) p0.starts) :
  Fc Tryz.prog 30 #[(.agg (fp p0 h o).toArray)] K (G) (fun v d c => ∃ (p : SV), v = (sv p) ∧ (.tok 104 3 [(sv p)]) :: G = c ∧ Slr fG d (sv p) i) := by
 refine fO Tryz.func30 rfl Tryz.ntmps30 Tryz.results30 rfl ?_
 unfold qm at H
 refine fc<|fa<|?_
 refine ff rfl (fU (cs := (fp p0 h o)) rfl rfl rfl (fun L => ?_))
 refine Ea Z<|fb<|fc<|fa<|Ea Z<|fb<|?_
 refine fz (fun m d c => ∃ (a : SV) (n : ad0), [(3, (sv a))] = m ∧ (.tok 104 3 [(sv a)]) :: G = c ∧ yC n = some i ∧ Slr fG d (sv a) n) ?_ ?_
 ·refine fc<|fa<|EF 0 Z<|El (sv h) Z (Rb0 Z)<|Eq Z (ge (T := Ty.i64) s rfl rfl)<|Em Z<|fb<|fB<|?_
  refine f8 (fun n137 m d c => ∃ (g : SV) (j : ad0) (f : Int), [(3, (sv g)), (7, (sv h)), (8, (Vi (p0.capacities.length : Int))), (9, (Vi f))] = m ∧ (.tok 104 3 [(sv g)]) :: G = c ∧ lp2 (uC p0) n137 j f = some i ∧ Slr fG d (sv g) j) BIG ?_ ?_
  ·exact Shift.nilTok1 104 3<|Re1<|Sd<|⟨_, by exact R4, fA, ([] : ad0), 0, rfl, rfl, H, (Slr.nil fG _)⟩
  rintro n137 _ x _ y ⟨g, j, f, rfl, rfl, H, t⟩
  obtain ⟨R, Q, rfl, A, H⟩ := jF H
  unfold uC at H
  refine fc<|fa<|Ec Z<|fb<|fc<|?_
  refine fm rfl ?_ ?_
  ·intro e
   obtain ⟨e, H⟩ := It e H
   refine ft<|fc<|fB<|fc<|fa<|?_
   obtain ⟨b, w, H⟩ := bnd H
   have u := s.mono y
   obtain ⟨_, rfl, z⟩ := Slr.at u w
   refine Eq Z (Qi (T := Ty.i64) u w Z)<|El (Vi b) Z (Rdc.k z rfl)<|Ea Z<|fb<|fa<|Em Z<|Em Z<|Eq Z (fF (cs := (fx (fL.mk b [] false) fA)) rfl rfl rfl rfl rfl rfl)<|?_
   have r : RowR fG x [(fx (fL.mk b [] false) fA)] [(fL.mk b [] false)] := RowR.cons ⟨fA, rfl, (Slr.nil Ty.u64 _)⟩ (RowR.nil)
   refine ff rfl (gg (T := fG) (rows := [(fx (fL.mk b [] false) fA)]) (l := [(fL.mk b [] false)]) rfl rfl rfl r rfl rfl rfl rfl rfl rfl rfl rfl (fun S => ?_))
   obtain ⟨F, D, H⟩ := bnd H
   refine ff rfl (f7 (T := fG) (bytes := 40) (q := 0) rfl rfl rfl t Mb1 rfl (SrcT.row Mb0 r rfl) D rfl rfl rfl rfl rfl rfl rfl rfl (fun E I N B => ⟨_, (.there .here), ?_⟩))
   refine Ow.shift (Re0 (Sd ?_))
   exact Ea Z<|fb<|fa<|Er (wI (f + 1)) Z<|Em Z<|fb<|Sd<|⟨_, by exact R4, _, Nat.lt_succ_self _, E, F, (wI (f + 1)), rfl, rfl, (A ▸ H), B⟩
  ·intro e
   obtain ⟨e, H⟩ := If e H
   exact ga<|Sd<|⟨_, by exact R1, g, j, rfl, rfl, H, t⟩
 rintro _ J _ O ⟨a, n, rfl, rfl, H, C⟩
 unfold yC at H
 refine fc<|fa<|Em Z<|Ea Z<|fb<|fy<|?_
 obtain M := gm H
 subst i
 refine ⟨(.inl rfl), [(sv a)], ⟨(sv a), _, rfl, rfl, rfl⟩, ?_⟩
 exact Sd ⟨a, rfl, rfl, C⟩
end Go.Hx
namespace Go.Hx
open Go Go.Proofs
set_option maxRecDepth 10000
set_option maxHeartbeats 1000000
theorem zl (fu : Nat) : ∀ (f : Nat) (c : af9) (h : SV) (e : Bool) (ae : ad2) (b : Nat) (I : Array MapEntry) (S : Nat) (af : ae4) (Q : SV) (P : List (List Value)) (p1 : ad1) (u : SV) (p2 : ad0) (w : SV) (r : Bool) (s : ae4) (p : ad2) (H : o9 fu c e ae af p1 p2 = some (r, s, p)) (K : Kp) (G : List Ent) (a1 : Slr (Ty.sl fX) K (sv h) c) (aG : MapR Ty.bool Value.string K I ae) (aq : RowR fW K P af) (a2 : Slr Ty.i64 K (sv u) p1) (bx : Slr fG K (sv w) p2) (hT : mq K),
  Fc Tryz.prog 29 #[(Vp f), (sv u), (sv w)] K ((.blk f 84 [(sv h), (.bool e), .nilFunc, (.map (some b)), (sv Q)]) :: (.obj b (.map I S)) :: (.row (sv Q) 67 6 P.flatten) :: G) (fun v d j => ∃ (ck : SV) (ch : List (List Value)) (bQ : Array MapEntry) (cx : Nat), v = (.bool r) ∧ (.blk f 84 [(sv h), (.bool e), .nilFunc, (.map (some b)), (sv ck)]) :: (.row (sv ck) 67 6 ch.flatten) :: (.obj b (.map bQ cx)) :: G = j ∧ RowR fW d ch s ∧ MapR Ty.bool Value.string d bQ p) := by
 induction fu with
 | zero => intro f c h e ae b I S af Q P p1 u p2 w r s p H K G a1 aG aq a2 bx hT; cases H
 | succ fu ih =>
 intro f c h e ae b I S af Q P p1 u p2 w r s p H K G a1 aG aq a2 bx hT
 have H : qK (o9 fu) c e ae af p1 p2 = some (r, s, p) := H
 generalize o9 fu = rc at H ih
 refine fO Tryz.func29 rfl Tryz.ntmps29 Tryz.results29 rfl ?_
 unfold qK at H
 refine fc<|fa<|Ea Z<|fb<|fc<|fa<|Em Z<|Em Z<|?_
 obtain ⟨o, dH, dv, H⟩ := ix H
 refine Ow.shift (Pu2 (Sd ?_))
 refine Ow.shift (Pu2 (Sd ?_))
 refine Ow.shift (Pu2 (Sd ?_))
 refine ff rfl (Ek Tryz.call57 Z (BC f c h e ae b I S af Q P p1 u o dH dv _ _ a1 aG aq a2) ?_)
 rintro _ dV _ C ⟨rfl, rfl⟩
 refine Em Z<|Ex Z<|Ex Z<|Ea Z<|Ea Z<|fb<|fc<|fc<|fa<|Em Z<|Eq Z (gd rfl)<|fb<|?_
 refine fm rfl ?_ ?_
 ·intro X
  have X := ir X
  have H := f0 (btf X) H
  refine fc<|fc<|fa<|Em Z<|Eq Z (fD rfl)<|EF 2 Z<|El (.nilFunc) Z (Rb0 Z)<|Eq Z (Ac rfl rfl rfl)<|Em Z<|Ez Z<|Ez Z<|Ez Z<|Ez Z<|Ez Z<|Ez Z<|Et Z<|fb<|zX rfl<|fc<|fa<|Ea Z<|fb<|?_
  refine fy ?_
  obtain ⟨aV, aW, aU⟩ := jH H
  subst r s p
  refine ⟨(.inl rfl), [(.bool true)], ⟨(.bool true), _, rfl, rfl, rfl⟩, ?_⟩
  refine Pu1<|Pu2<|Pu2<|?_
  have dk := aq.mono C
  have dl := aG.mono C
  exact Sd ⟨Q, P, I, S, rfl, rfl, dk, dl⟩
 ·intro X
  have X := iq X
  have H := ift X H
  refine ft<|fc<|fa<|Em Z<|Em Z<|?_
  obtain ⟨g, dw, H⟩ := bnd H
  have b9 := a2.mono C
  have bD := bx.mono C
  have bE := hT.mono C
  refine ff rfl (Ek Tryz.call58 Z (BH p1 u p2 w g dw _ _ b9 bD bE) ?_)
  rintro _ dW _ D ⟨rfl, rfl⟩
  refine Ea Z<|fb<|fc<|fc<|fa<|Em Z<|Eq Z (fD rfl)<|EF 3 Z<|El (.map (some b)) Z (Rb0 Z)<|Em Z<|?_
  have bF := (aG.mono C).mono D
  refine Eq Z (DG (kv := Value.string) (k := g) (KeyK.str rfl) bF Mb1 rfl rfl rfl rfl rfl)<|fb<|?_
  refine fm rfl ?_ ?_
  ·intro bu
   have H := ift bu H
   refine fc<|fa<|Ea Z<|fb<|fy<|?_
   obtain ⟨aV, aW, aU⟩ := jH H
   subst r s p
   refine ⟨(.inl rfl), [(.bool false)], ⟨(.bool false), _, rfl, rfl, rfl⟩, ?_⟩
   refine Pu1<|Pu2<|Pu2<|?_
   have dm := (aq.mono C).mono D
   exact Sd ⟨Q, P, I, S, rfl, rfl, dm, bF⟩
  ·intro bu
   have H := f0 (btf bu) H
   refine ft ?_
   refine fz (fun t d j => ∃ (bp : Array MapEntry) (bO : Nat) (bI : ad2) (bf : SV) (bH : ae4) (bb : List (List Value)), [(0, (Vp f)), (9, (.string g))] = t ∧ (.blk f 84 [(sv h), (.bool e), .nilFunc, (.map (some b)), (sv bf)]) :: (.obj b (.map bp bO)) :: (.row (sv bf) 67 6 bb.flatten) :: G = j ∧ u4 g c e rc bI bH = some (r, s, p) ∧ MapR Ty.bool Value.string d bp bI ∧ RowR fW d bb bH) ?_ ?_
   ·refine fc<|fa<|Em Z<|Eq Z (fD rfl)<|EF 0 Z<|El (sv h) Z (Rb0 Z)<|?_
    have bX := (a1.mono C).mono D
    refine Eq Z (ge (T := (Ty.sl fX)) bX rfl rfl)<|Em Z<|fb<|fB<|?_
    refine f8 (fun cc t d j => ∃ (a : Int) (U : Array MapEntry) (ai : Nat) (ad : ad2) (ah : SV) (ac : ae4) (ag : List (List Value)), [(0, (Vp f)), (1, (sv u)), (2, (sv w)), (7, (Vi o)), (9, (.string g)), (56, (Vi (c.length : Int))), (57, (Vi a))] = t ∧ (.blk f 84 [(sv h), (.bool e), .nilFunc, (.map (some b)), (sv ah)]) :: (.obj b (.map U ai)) :: (.row (sv ah) 67 6 ag.flatten) :: G = j ∧ lp3 (vc p1 p2 o g c e rc) cc a ad ac = some (r, s, p) ∧ MapR Ty.bool Value.string d U ad ∧ RowR fW d ag ac) BIG ?_ ?_
    ·refine Pu2<|Pu2<|Pu2<|?_
     have cP := (aq.mono C).mono D
     exact Sd ⟨_, by exact R7, 0, I, S, ae, Q, af, P, rfl, rfl, H, bF, cP⟩
    rintro cc _ dI _ ak ⟨a, U, ai, ad, ah, ac, ag, rfl, rfl, H, aX, aZ⟩
    obtain ⟨d6, L, rfl, cL, H⟩ := xO H
    unfold vc at H
    refine fc<|fa<|Ec Z<|fb<|fc<|?_
    refine fm rfl ?_ ?_
    ·intro aB
     obtain ⟨aB, H⟩ := It aB H
     refine ft ?_
     refine fz (fun t d j => ∃ (aR : Array MapEntry) (bm : Nat) (a7 : ad2) (bg : SV) (a3 : ae4) (bc : List (List Value)), [(0, (Vp f)), (1, (sv u)), (2, (sv w)), (7, (Vi o)), (9, (.string g)), (56, (Vi (c.length : Int))), (57, (Vi a))] = t ∧ (.blk f 84 [(sv h), (.bool e), .nilFunc, (.map (some b)), (sv bg)]) :: (.obj b (.map aR bm)) :: (.row (sv bg) 67 6 bc.flatten) :: G = j ∧ nJ p1 p2 o g c a e L rc a7 a3 = some (r, s, p) ∧ MapR Ty.bool Value.string d aR a7 ∧ RowR fW d bc a3) ?_ ?_
     ·refine fB<|fc<|fa<|Em Z<|Ea Z<|fb<|fc<|fa<|Em Z<|Em Z<|Em Z<|Em Z<|?_
      obtain ⟨i, dD, dn, H⟩ := ix H
      refine Ow.shift (Pu2 (Sd ?_))
      refine Ow.shift (Pu2 (Sd ?_))
      refine Ow.shift (Pu2 (Sd ?_))
      have bz := bX.mono ak
      have bA := (b9.mono D).mono ak
      refine ff rfl (Ek Tryz.call59 Z (zr f c h e ad b U ai ac ah ag p1 u a o i dD dn _ _ bz aX aZ bA) ?_)
      rintro _ _ _ - ⟨z, A, rfl, rfl, rfl, bB, bC⟩
      refine Em Z<|Ex Z<|Ex Z<|?_
      refine ff rfl (fC (cs := (fl (fw.mk (Op.mk 0 0 0 0 0 [] []) (Result.mk 0 0 0 false 0) 0 0) fA fA)) rfl rfl rfl rfl (fun y => ?_))
      refine ff rfl (Sa (fl i z A) Z .here Z ?_)
      refine Ea Z<|fb<|fc<|fc<|fa<|Em Z<|Eq Z (gd rfl)<|fb<|?_
      refine fm rfl ?_ ?_
      ·intro V
       have V := ir V
       have H := f0 (btf V) H
       exact ga<|Pu3<|Pu3<|Pu3<|Re3<|Sd<|⟨_, by exact R7, U, ai, ad, ah, ac, ag, rfl, rfl, H, aX, aZ⟩
      ·intro V
       have V := iq V
       have H := ift V H
       refine ft ?_
       refine fz (fun t d j => ∃ (aS : Array MapEntry) (bn : Nat) (a8 : ad2) (bh : SV) (a4 : ae4) (bd : List (List Value)), [(0, (Vp f)), (1, (sv u)), (2, (sv w)), (7, (Vi o)), (9, (.string g)), (10, (Vi a)), (11, (Vp y)), (56, (Vi (c.length : Int))), (57, (Vi a))] = t ∧ (.blk f 84 [(sv h), (.bool e), .nilFunc, (.map (some b)), (sv bh)]) :: (.blk y 120 (fl i z A)) :: (.obj b (.map aS bn)) :: (.row (sv bh) 67 6 bd.flatten) :: G = j ∧ u7 p1 p2 o g a c e i L rc a8 a4 = some (r, s, p) ∧ MapR Ty.bool Value.string d aS a8 ∧ RowR fW d bd a4) ?_ ?_
       ·refine fc<|fa<|EL 14 (fl i z A) Z (Rb0 Z)<|Em Z<|?_
        obtain ⟨aO, dp, H⟩ := bnd H
        have bY := (bD.mono D).mono ak
        refine ff rfl (Ek Tryz.call60 Z (BN i z A p2 w aO dp _ _ bB bC bY) ?_)
        rintro _ dJ _ J ⟨bi, rfl, rfl, bZ⟩
        refine Eq Z (ge (T := fN) bZ rfl rfl)<|Em Z<|fb<|fB<|?_
        refine f8 (fun cd t d j => ∃ (ab : Int) (aj : Array MapEntry) (ay : Nat) (au : ad2) (aw : SV) (ar : ae4) (av : List (List Value)), [(0, (Vp f)), (1, (sv u)), (2, (sv w)), (7, (Vi o)), (9, (.string g)), (10, (Vi a)), (11, (Vp y)), (56, (Vi (c.length : Int))), (57, (Vi a)), (72, (sv bi)), (73, (Vi (aO.length : Int))), (74, (Vi ab))] = t ∧ (.blk f 84 [(sv h), (.bool e), .nilFunc, (.map (some b)), (sv aw)]) :: (.blk y 120 (fl i z A)) :: (.obj b (.map aj ay)) :: (.row (sv aw) 67 6 av.flatten) :: (.tok 38 5 [(sv bi)]) :: G = j ∧ lp3 (u9 p1 p2 o g a c aO e i L rc) cd ab au ar = some (r, s, p) ∧ MapR Ty.bool Value.string d aj au ∧ RowR fW d av ar) BIG ?_ ?_
        ·refine Pu4<|Pu4<|Pu3<|Pu4<|?_
         have cQ := aX.mono J
         have cR := aZ.mono J
         exact Sd ⟨_, by exact R12, 0, U, ai, ad, ah, ac, ag, rfl, rfl, H, cQ, cR⟩
        rintro cd _ dK _ Y ⟨ab, aj, ay, au, aw, ar, av, rfl, rfl, H, bv, bw⟩
        obtain ⟨d7, dx, rfl, cM, H⟩ := xO H
        unfold u9 at H
        refine fc<|fa<|Ec Z<|fb<|fc<|?_
        refine fm rfl ?_ ?_
        ·intro aC
         obtain ⟨aC, H⟩ := It aC H
         refine ft<|fc<|fB<|fc<|fa<|?_
         obtain ⟨B, ca, H⟩ := bnd H
         have b0 := bZ.mono Y
         obtain ⟨_, rfl, cJ⟩ := Slr.at b0 ca
         refine Eq Z (Qi (T := fN) b0 ca Z)<|EL 5 (fe B) Z (Rdc.k cJ rfl)<|?_
         refine ff rfl (fC (cs := (fe (Result.mk 0 0 0 false 0))) rfl rfl rfl rfl (fun dX => ?_))
         refine ff rfl (Sa (fe B) Z .here Z ?_)
         refine fb<|fc<|fa<|Em Z<|EF 0 Z<|EL 7 (fj i.op z A) Z (Rb2 Z)<|EL 5 (fe B) Z (Rb0 Z)<|?_
         obtain ⟨cl, dE, dq, H⟩ := ix H
         have cS := (bY.mono J).mono Y
         have cT := (bB.mono J).mono Y
         have cU := (bC.mono J).mono Y
         refine ff rfl (Ek Tryz.call61 Z (zu p2 w i.op z A B cl dE dq _ _ cS cT cU) ?_)
         rintro _ cr _ aa ⟨dz, rfl, rfl, cV⟩
         refine Em Z<|Ex Z<|Ex Z<|Ea Z<|Ea Z<|fb<|?_
         refine fz (fun t d j => ∃ (bJ : Bool) (az : Array MapEntry) (aP : Nat) (a9 : ad2) (aM : SV) (a5 : ae4) (aK : List (List Value)), [(0, (Vp f)), (1, (sv u)), (2, (sv w)), (7, (Vi o)), (9, (.string g)), (10, (Vi a)), (11, (Vp y)), (56, (Vi (c.length : Int))), (57, (Vi a)), (72, (sv bi)), (73, (Vi (aO.length : Int))), (74, (Vi ab)), (96, (.bool bJ))] = t ∧ (.blk f 84 [(sv h), (.bool e), .nilFunc, (.map (some b)), (sv aM)]) :: (.blk y 120 (fl i z A)) :: (.obj b (.map az aP)) :: (.row (sv aM) 67 6 aK.flatten) :: (.tok 38 5 [(sv bi)]) :: G = j ∧ r3 p1 p2 o g a c aO ab e i L dx rc bJ a9 a5 = some (r, s, p) ∧ MapR Ty.bool Value.string d az a9 ∧ RowR fW d aK a5) ?_ ?_
         ·refine fa<|Em Z<|Em Z<|?_
          refine Ee Z ?_ ?_
          ·intro bq
           have H := ift bq H
           refine Vm Z<|Vm Z<|Vm Z<|Vm Z<|VL 5 (fe B) Z (Rb0 Z)<|Vq Z (fF (cs := (fM (Done.mk a B))) rfl rfl rfl rfl rfl rfl)<|?_
           have bU : RowR fW cr [(fM (Done.mk a B))] [(Done.mk a B)] := RowR.cons rfl (RowR.nil)
           refine hY rfl rfl rfl rfl (gg (T := fW) (rows := [(fM (Done.mk a B))]) (l := [(Done.mk a B)]) rfl rfl rfl bU rfl rfl rfl rfl rfl rfl rfl rfl (fun dA => ?_))
           refine Ow.shift (Shift.settle (T := fW) .here bU rfl (fun dL al cW => Sd ?_))
           obtain ⟨cm, cn, co, dr, H⟩ := kO H
           refine Ow.shift (Pu5 (Sd ?_))
           refine Ow.shift (Pu5 (Sd ?_))
           refine Ow.shift (Pu4 (Sd ?_))
           have cX := (((bz.mono J).mono Y).mono aa).mono al
           have cY := (bv.mono aa).mono al
           have cZ := (bw.mono aa).mono al
           have c0 := (((bA.mono J).mono Y).mono aa).mono al
           have c1 := cV.mono al
           have c2 := (((((bE.mono D).mono ak).mono J).mono Y).mono aa).mono al
           refine hY rfl rfl rfl rfl (Ek Tryz.call62 Z (xj rc ih f c h e au b aj ay ar aw av p1 u cl dz [(Done.mk a B)] dA cm cn co dr _ _ cX cY cZ c0 c1 cW c2) ?_)
           rintro _ dM _ dZ ⟨dB, dy, cy, cv, rfl, rfl, c3, c4⟩
           exact Et Z<|fb<|Pu6<|Pu2<|Pu3<|Pu6<|Pu4<|Re5<|Re5<|Sd<|⟨_, by exact R13, cm, cy, cv, co, dB, cn, dy, rfl, rfl, H, c4, c3⟩
          ·intro bq
           have H := f0 (btf bq) H
           refine Ez Z<|Ez Z<|Ez Z<|Ez Z<|Ez Z<|Ez Z<|Ez Z<|Ez Z<|Ef Z<|fb<|Pu5<|Pu5<|Pu5<|Pu5<|Pu5<|Re5<|?_
           have c5 := bv.mono aa
           have c6 := bw.mono aa
           exact Sd ⟨_, by exact R13, false, aj, ay, au, aw, ar, av, rfl, rfl, H, c5, c6⟩
         rintro _ dN _ d0 ⟨bJ, az, aP, a9, aM, a5, aK, rfl, rfl, H, bR, bT⟩
         unfold r3 at H
         refine fm rfl ?_ ?_
         ·intro br
          have H := ift br H
          refine fc<|fa<|Ea Z<|fb<|fy<|?_
          obtain ⟨aV, aW, aU⟩ := jH H
          subst r s p
          refine ⟨(.inl rfl), [(.bool true)], ⟨(.bool true), _, rfl, rfl, rfl⟩, ?_⟩
          exact Pu2<|Pu3<|Pu2<|Re3<|Re3<|Sd<|⟨aM, aK, az, aP, rfl, rfl, bT, bR⟩
         ·intro br
          have H := f0 (btf br) H
          exact ft<|fa<|Er (wI (ab + 1)) Z<|Em Z<|fb<|Pu4<|Pu4<|Pu4<|Pu4<|Pu4<|Sd<|⟨_, by exact R12, _, Nat.lt_succ_self _, (wI (ab + 1)), az, aP, a9, aM, a5, aK, rfl, rfl, (cM ▸ H), bR, bT⟩
        ·intro aC
         obtain ⟨aC, H⟩ := If aC H
         exact ga<|Pu3<|Pu3<|Pu3<|Pu3<|Re4<|Sd<|⟨_, by exact R9, aj, ay, au, aw, ar, av, rfl, rfl, H, bv, bw⟩
       rintro _ dO _ am ⟨aS, bn, a8, bh, a4, bd, rfl, rfl, H, cC, cH⟩
       unfold u7 at H
       refine fc<|fa<|Em Z<|Eq Z (fD rfl)<|EF 0 Z<|El (sv h) Z (Rb0 Z)<|?_
       have b1 := bz.mono am
       refine Eq Z (ge (T := (Ty.sl fX)) b1 rfl rfl)<|Em Z<|fb<|fB<|?_
       refine f8 (fun ce t d j => ∃ (n : Int) (F : Array MapEntry) (R : Nat) (N : ad2) (E : SV) (M : ae4) (O : List (List Value)), [(0, (Vp f)), (1, (sv u)), (2, (sv w)), (7, (Vi o)), (9, (.string g)), (10, (Vi a)), (11, (Vp y)), (56, (Vi (c.length : Int))), (57, (Vi a)), (102, (Vi (c.length : Int))), (103, (Vi n))] = t ∧ (.blk f 84 [(sv h), (.bool e), .nilFunc, (.map (some b)), (sv E)]) :: (.blk y 120 (fl i z A)) :: (.obj b (.map F R)) :: (.row (sv E) 67 6 O.flatten) :: G = j ∧ lp3 (u6 p1 p2 o g a c e i L rc) ce n N M = some (r, s, p) ∧ MapR Ty.bool Value.string d F N ∧ RowR fW d O M) BIG ?_ ?_
       ·exact Pu3<|Pu3<|Pu3<|Pu3<|Sd<|⟨_, by exact R11, 0, aS, bn, a8, bh, a4, bd, rfl, rfl, H, cC, cH⟩
       rintro ce _ ct _ an ⟨n, F, R, N, E, M, O, rfl, rfl, H, aY, a0⟩
       obtain ⟨d8, bG, rfl, cN, H⟩ := xO H
       unfold u6 at H
       refine fc<|fa<|Ec Z<|fb<|fc<|?_
       refine fm rfl ?_ ?_
       ·intro aD
        obtain ⟨aD, H⟩ := It aD H
        refine ft ?_
        refine fz (fun t d j => ∃ (aT : Array MapEntry) (bo : Nat) (ba : ad2) (bj : SV) (a6 : ae4) (be : List (List Value)), [(0, (Vp f)), (1, (sv u)), (2, (sv w)), (7, (Vi o)), (9, (.string g)), (10, (Vi a)), (11, (Vp y)), (56, (Vi (c.length : Int))), (57, (Vi a)), (102, (Vi (c.length : Int))), (103, (Vi n))] = t ∧ (.blk f 84 [(sv h), (.bool e), .nilFunc, (.map (some b)), (sv bj)]) :: (.blk y 120 (fl i z A)) :: (.obj b (.map aT bo)) :: (.row (sv bj) 67 6 be.flatten) :: G = j ∧ nK p1 p2 o g a c n e i L bG rc ba a6 = some (r, s, p) ∧ MapR Ty.bool Value.string d aT ba ∧ RowR fW d be a6) ?_ ?_
        ·refine fB<|fc<|fa<|Em Z<|Ea Z<|fb<|fc<|fa<|Em Z<|Em Z<|Em Z<|Em Z<|?_
         obtain ⟨ax, dF, ds, H⟩ := ix H
         refine Ow.shift (Pu3 (Sd ?_))
         refine Ow.shift (Pu3 (Sd ?_))
         refine Ow.shift (Pu2 (Sd ?_))
         have b2 := b1.mono an
         have b3 := (bA.mono am).mono an
         refine ff rfl (Ek Tryz.call59 Z (zr f c h e N b F R M E O p1 u n o ax dF ds _ _ b2 aY a0 b3) ?_)
         rintro _ _ _ - ⟨bk, bl, rfl, rfl, rfl, c7, c8⟩
         refine Em Z<|Ex Z<|Ex Z<|?_
         refine ff rfl (fC (cs := (fl (fw.mk (Op.mk 0 0 0 0 0 [] []) (Result.mk 0 0 0 false 0) 0 0) fA fA)) rfl rfl rfl rfl (fun bM => ?_))
         refine ff rfl (Sa (fl ax bk bl) Z .here Z ?_)
         refine Ea Z<|fb<|fc<|?_
         refine fz (fun t d j => ∃ (bK : Bool), [(0, (Vp f)), (1, (sv u)), (2, (sv w)), (7, (Vi o)), (9, (.string g)), (10, (Vi a)), (11, (Vp y)), (17, (Vi n)), (18, (Vp bM)), (56, (Vi (c.length : Int))), (57, (Vi a)), (102, (Vi (c.length : Int))), (103, (Vi n)), (120, (.bool bK))] = t ∧ ct = d ∧ (.blk f 84 [(sv h), (.bool e), .nilFunc, (.map (some b)), (sv E)]) :: (.blk bM 120 (fl ax bk bl)) :: (.blk y 120 (fl i z A)) :: (.obj b (.map F R)) :: (.row (sv E) 67 6 O.flatten) :: G = j ∧ r0 p1 p2 o g a n c e M ax i N L bG rc bK = some (r, s, p)) ?_ ?_
         ·refine fa<|Em Z<|Eq Z (gd rfl)<|Em Z<|?_
          refine Ee Z ?_ ?_
          ·intro W
           have W := ir W
           have H := f0 (btf W) H
           exact Ez Z<|Ez Z<|Ez Z<|Et Z<|fb<|Pu3<|Pu3<|Pu4<|Pu3<|Pu4<|Sd<|⟨_, by exact R14, true, rfl, rfl, rfl, H⟩
          ·intro W
           have W := iq W
           have H := ift W H
           exact Vm Z<|Vm Z<|Vc Z<|Ef Z<|fb<|Pu3<|Pu3<|Pu4<|Pu3<|Pu4<|Sd<|⟨_, by exact R14, (dcd (n = a)), rfl, rfl, rfl, H⟩
         rintro _ _ _ - ⟨bK, rfl, rfl, rfl, H⟩
         unfold r0 at H
         refine fm rfl ?_ ?_
         ·intro bs
          have H := ift bs H
          exact ga<|Pu4<|Pu4<|Pu4<|Pu3<|Re4<|Sd<|⟨_, by exact R11, F, R, N, E, M, O, rfl, rfl, H, aY, a0⟩
         ·intro bs
          have H := f0 (btf bs) H
          refine ft<|fc<|fa<|Em Z<|EL 14 (fl i z A) Z (Rb2 Z)<|EL 14 (fl ax bk bl) Z (Rb1 Z)<|?_
          obtain ⟨bL, dt, H⟩ := bnd H
          have b4 := (((bD.mono D).mono ak).mono am).mono an
          have c9 := (bB.mono am).mono an
          have da := (bC.mono am).mono an
          refine ff rfl (Ek Tryz.call63 Z (BP p2 w i z A ax bk bl bL dt _ _ b4 c9 da c7 c8) ?_)
          rintro _ dP _ ao ⟨ci, rfl, rfl, b5⟩
          refine Eq Z (ge (T := gv) b5 rfl rfl)<|Em Z<|fb<|fB<|?_
          refine f8 (fun cf t d j => ∃ (aH : Int) (aA : Array MapEntry) (aQ : Nat) (aJ : ad2) (aN : SV) (aI : ae4) (aL : List (List Value)), [(0, (Vp f)), (1, (sv u)), (2, (sv w)), (7, (Vi o)), (9, (.string g)), (10, (Vi a)), (11, (Vp y)), (17, (Vi n)), (56, (Vi (c.length : Int))), (57, (Vi a)), (102, (Vi (c.length : Int))), (103, (Vi n)), (124, (sv ci)), (125, (Vi (bL.length : Int))), (126, (Vi aH))] = t ∧ (.blk f 84 [(sv h), (.bool e), .nilFunc, (.map (some b)), (sv aN)]) :: (.blk y 120 (fl i z A)) :: (.obj b (.map aA aQ)) :: (.row (sv aN) 67 6 aL.flatten) :: (.tok 131 10 [(sv ci)]) :: G = j ∧ lp3 (u5 p1 p2 o g a n c bL e i L bG rc) cf aH aJ aI = some (r, s, p) ∧ MapR Ty.bool Value.string d aA aJ ∧ RowR fW d aL aI) BIG ?_ ?_
          ·refine Pu5<|Pu5<|Pu5<|Pu4<|Re5<|?_
           have db := aY.mono ao
           have dc := a0.mono ao
           exact Sd ⟨_, by exact R15, 0, F, R, N, E, M, O, rfl, rfl, H, db, dc⟩
          rintro cf _ cu _ aF ⟨aH, aA, aQ, aJ, aN, aI, aL, rfl, rfl, H, bS, bV⟩
          obtain ⟨d9, d5, rfl, cO, H⟩ := xO H
          unfold u5 at H
          refine fc<|fa<|Ec Z<|fb<|fc<|?_
          refine fm rfl ?_ ?_
          ·intro aE
           obtain ⟨aE, H⟩ := It aE H
           refine ft<|fc<|fB<|fc<|fa<|?_
           obtain ⟨x, cb, H⟩ := bnd H
           have b6 := b5.mono aF
           obtain ⟨_, rfl, cK⟩ := Slr.at b6 cb
           refine Eq Z (Qi (T := gv) b6 cb Z)<|EL 10 (ia x) Z (Rdc.k cK rfl)<|?_
           refine ff rfl (fC (cs := (ia (gl.mk (Result.mk 0 0 0 false 0) (Result.mk 0 0 0 false 0)))) rfl rfl rfl rfl (fun dY => ?_))
           refine ff rfl (Sa (ia x) Z .here Z ?_)
           refine fb<|fc<|fa<|Em Z<|Em Z<|Em Z<|Em Z<|Eq Z (iD (q := 0) (m := 0) rfl rfl rfl rfl rfl (by decide) rfl (by decide))<|EL 5 (fe x.x0) Z (Rb0 Z)<|Eq Z (fF (cs := (fM (Done.mk a x.x0))) rfl rfl rfl rfl rfl rfl)<|Em Z<|Eq Z (iD (q := 1) (m := 5) rfl rfl rfl rfl rfl (by decide) rfl (by decide))<|EL 5 (fe x.x1) Z (Rb0 Z)<|Eq Z (fF (cs := (fM (Done.mk n x.x1))) rfl rfl rfl rfl rfl rfl)<|?_
           have bW : RowR fW cu [(fM (Done.mk a x.x0)), (fM (Done.mk n x.x1))] [(Done.mk a x.x0), (Done.mk n x.x1)] := RowR.cons rfl (RowR.cons rfl (RowR.nil))
           refine ff rfl (gg (T := fW) (rows := [(fM (Done.mk a x.x0)), (fM (Done.mk n x.x1))]) (l := [(Done.mk a x.x0), (Done.mk n x.x1)]) rfl rfl rfl bW rfl rfl rfl rfl rfl rfl rfl rfl (fun dC => ?_))
           refine Ow.shift (Shift.settle (T := fW) .here bW rfl (fun dQ ap dd => Sd ?_))
           obtain ⟨dG, cp, cq, du, H⟩ := kO H
           refine Ow.shift (Pu5 (Sd ?_))
           refine Ow.shift (Pu5 (Sd ?_))
           refine Ow.shift (Pu4 (Sd ?_))
           have de := ((b2.mono ao).mono aF).mono ap
           have df := bS.mono ap
           have dg := bV.mono ap
           have dh := ((b3.mono ao).mono aF).mono ap
           have di := ((b4.mono ao).mono aF).mono ap
           have dj := ((((((bE.mono D).mono ak).mono am).mono an).mono ao).mono aF).mono ap
           refine ff rfl (Ek Tryz.call62 Z (xj rc ih f c h e aJ b aA aQ aI aN aL p1 u p2 w [(Done.mk a x.x0), (Done.mk n x.x1)] dC dG cp cq du _ _ de df dg dh di dd dj) ?_)
           rintro _ dR _ d1 ⟨cj, cg, bP, bN, rfl, rfl, b7, b8⟩
           refine fb ?_
           refine fm rfl ?_ ?_
           ·intro bt
            have H := ift bt H
            refine fc<|fa<|Ea Z<|fb<|fy<|?_
            obtain ⟨aV, aW, aU⟩ := jH H
            subst r s p
            refine ⟨(.inl rfl), [(.bool true)], ⟨(.bool true), _, rfl, rfl, rfl⟩, ?_⟩
            exact Pu2<|Pu2<|Pu2<|Re3<|Re3<|Re3<|Re3<|Sd<|⟨cj, cg, bP, bN, rfl, rfl, b7, b8⟩
           ·intro bt
            have H := f0 (btf bt) H
            exact ft<|fa<|Er (wI (aH + 1)) Z<|Em Z<|fb<|Pu6<|Pu2<|Pu3<|Pu6<|Pu4<|Re5<|Re5<|Sd<|⟨_, by exact R15, _, Nat.lt_succ_self _, (wI (aH + 1)), bP, bN, cq, cj, cp, cg, rfl, rfl, (cO ▸ H), b8, b7⟩
          ·intro aE
           obtain ⟨aE, H⟩ := If aE H
           exact ga<|Pu3<|Pu3<|Pu3<|Pu3<|Re4<|Sd<|⟨_, by exact R11, aA, aQ, aJ, aN, aI, aL, rfl, rfl, H, bS, bV⟩
        rintro _ dS _ d2 ⟨aT, bo, ba, bj, a6, be, rfl, rfl, H, cD, cI⟩
        unfold nK at H
        exact fa<|Er (wI (n + 1)) Z<|Em Z<|fb<|Pu3<|Pu3<|Pu3<|Pu3<|Sd<|⟨_, by exact R11, _, Nat.lt_succ_self _, (wI (n + 1)), aT, bo, ba, bj, a6, be, rfl, rfl, (cN ▸ H), cD, cI⟩
       ·intro aD
        obtain ⟨aD, H⟩ := If aD H
        exact ga<|Pu3<|Pu3<|Pu2<|Re3<|Sd<|⟨_, by exact R7, F, R, N, E, M, O, rfl, rfl, H, aY, a0⟩
     rintro _ dT _ d3 ⟨aR, bm, a7, bg, a3, bc, rfl, rfl, H, cB, cG⟩
     unfold nJ at H
     exact fa<|Er (wI (a + 1)) Z<|Em Z<|fb<|Pu2<|Pu2<|Pu2<|Sd<|⟨_, by exact R7, _, Nat.lt_succ_self _, (wI (a + 1)), aR, bm, a7, bg, a3, bc, rfl, rfl, (cL ▸ H), cB, cG⟩
    ·intro aB
     obtain ⟨aB, H⟩ := If aB H
     exact ga<|Pu2<|Pu2<|Pu2<|Sd<|⟨_, by exact R2, U, ai, ad, ah, ac, ag, rfl, rfl, H, aX, aZ⟩
   rintro _ dU _ d4 ⟨bp, bO, bI, bf, bH, bb, rfl, rfl, H, cA, cF⟩
   unfold u4 at H
   refine fc<|fa<|Em Z<|Eq Z (fD rfl)<|EF 3 Z<|El (.map (some b)) Z (Rb0 Z)<|Em Z<|?_
   refine ff rfl (AX (T := Ty.bool) (kv := Value.string) (k := g) (x1 := true) (KeyK.str rfl) cA Mb1 rfl rfl rfl rfl rfl (fun cz cw cE => ⟨_, (.there .here), ?_⟩))
   refine fb<|fc<|fa<|Ea Z<|fb<|fy<|?_
   obtain ⟨aV, aW, aU⟩ := jH H
   subst r s p
   refine ⟨(.inl rfl), [(.bool false)], ⟨(.bool false), _, rfl, rfl, rfl⟩, ?_⟩
   exact Pu1<|Pu2<|Pu2<|Sd<|⟨bf, bb, cz, cw, rfl, rfl, cF, cE⟩
theorem xl (p0 : fP) (c : SV) (d : SV) (p1 : ae3) (C : SV) (p2 : ad6) (D : SV) (f : ae4) (g : Bool) (H : nL p0 p1 p2 = some (f, g)) (K : Kp) (G : List Ent) (L : Slr Ty.i64 K (sv c) p0.capacities) (M : Slr Ty.u64 K (sv d) p0.starts) (N : Slr (Ty.sl gK) K (sv C) p1) (ao : Slr f5 K (sv D) p2) (hT : mq K) :
  Fc Tryz.prog 14 #[(.agg (fp p0 c d).toArray), (sv C), (sv D)] K (G) (fun v h u => ∃ (V : SV) (U : List (List Value)), v = (.tuple #[(sv V), (.bool g)]) ∧ (.row (sv V) 67 6 U.flatten) :: G = u ∧ RowR fW h U f) := by
 refine fO Tryz.func14 rfl Tryz.ntmps14 Tryz.results14 rfl ?_
 unfold nL at H
 refine fc<|fa<|?_
 refine ff rfl (fU (cs := (fp p0 c d)) rfl rfl rfl (fun a2 => ?_))
 refine Ea Z<|Ea Z<|fb<|fc<|fa<|Em Z<|Em Z<|?_
 obtain ⟨o, aW, E, aN, H⟩ := kO H
 refine ff rfl (Ek Tryz.call28 Z (BB p1 C p2 D o aW E aN _ _ N ao) ?_)
 rintro _ aX _ a ⟨i, n, e, J, F, rfl, rfl, O, P⟩
 refine Ea Z<|fb<|fc<|fa<|Em Z<|Eq Z (fD rfl)<|EF 1 Z<|?_
 refine ff rfl (So [(.bool true)] [(sv n), (.bool true), .nilFunc, (.map (some e)), (sv fA)] Z (.there .here) Z ?_)
 refine fb<|fc<|?_
 refine fz (fun ad h u => ∃ (B : Bool) (w : Array MapEntry) (I : Nat) (A : ad2) (b : SV) (z : ae4) (m : List (List Value)), [(8, (Vp i)), (22, (.bool B))] = ad ∧ (.blk i 84 [(sv n), (.bool true), .nilFunc, (.map (some e)), (sv b)]) :: (.obj e (.map w I)) :: (.row (sv b) 67 6 m.flatten) :: G = u ∧ vd o B A z = some (f, g) ∧ MapR Ty.bool Value.string h w A ∧ RowR fW h m z) ?_ ?_
 ·obtain ⟨W, Q, H⟩ := bnd H
  obtain ⟨p, R, H⟩ := bnd H
  obtain ⟨q, s, t, S, H⟩ := kO H
  refine fq _ rfl (Ic Mb2 In0)<|Jm 0 Z<|Jm 1 Z<|?_
  have ap := N.mono a
  refine Jq 2 Z (ge (T := (Ty.sl gK)) ap rfl rfl)<|JL 4 3 (fp p0 c d) Z (Rb0 Z)<|?_
  refine gU 3 5 (by kernel_rfl) ?_ ?_
  ·refine id (Jy Z ?_)
   refine jv (T := Ty.i64) (r := [(Vi 0)]) rfl rfl rfl Q rfl rfl rfl rfl rfl rfl rfl rfl rfl rfl (fun aQ a9 aj a7 => ⟨(Ic Mb3 In0), ?_⟩)
   refine Ao 5 Z ?_
   have aq := L.mono a
   have ar := M.mono a
   refine Ek Tryz.call30 Z (xy p0 c d p R _ _ aq ar) ?_
   rintro _ aY _ j ⟨aR, rfl, rfl, au⟩
   refine ⟨(Ic Mb4 In0), ?_⟩
   refine Ao 6 Z ?_
   have aw := aj.mono j
   refine OpW.shift (Shift.settle (T := Ty.i64) (.there .here) aw rfl (fun X k av => Sd ?_))
   have ak : RowR fW X [] [] := RowR.nil
   refine OpW.shift (Shift.nilRow 67 6 (Sd ?_))
   refine OpW.shift (Pu3 (Sd ?_))
   refine OpW.shift (Pu4 (Sd ?_))
   have ax := (O.mono j).mono k
   have ay := (P.mono j).mono k
   have az := au.mono k
   have aA := ((hT.mono a).mono j).mono k
   refine Ek Tryz.call29 Z (zl 100 i o n true E e J F ([] : ae4) fA ([] : List (List Value)) W aQ p aR q s t S _ _ ax ay ak av az aA) ?_
   rintro _ aZ _ a3 ⟨aS, aO, ae, ab, rfl, rfl, aB, aC⟩
   refine ⟨(Ic Mb5 In0), ?_⟩
   exact Jq 7 Z (gd rfl)<|Ad<|Pu1<|Pu2<|Pu2<|Re3<|Re3<|Re3<|Sd<|⟨_, by exact R2, (!(q)), ae, ab, t, aS, s, aO, rfl, rfl, H, aC, aB⟩
  ·refine id (Jy Z ?_)
   have aD := L.mono a
   have aE := M.mono a
   refine Ek Tryz.call30 Z (xy p0 c d p R _ _ aD aE) ?_
   rintro _ a0 _ y ⟨aT, rfl, rfl, aF⟩
   refine ⟨(Ic Mb3 In0), ?_⟩
   refine Ao 3 Z ?_
   refine jv (T := Ty.i64) (r := [(Vi 0)]) rfl rfl rfl Q rfl rfl rfl rfl rfl rfl rfl rfl rfl rfl (fun aU ba al a8 => ⟨(Ic Mb4 In0), ?_⟩)
   refine Ao 6 Z ?_
   refine OpW.shift (Shift.settle (T := Ty.i64) .here al rfl (fun Y l aG => Sd ?_))
   have am : RowR fW Y [] [] := RowR.nil
   refine OpW.shift (Shift.nilRow 67 6 (Sd ?_))
   refine OpW.shift (Pu3 (Sd ?_))
   refine OpW.shift (Pu4 (Sd ?_))
   have aH := (O.mono y).mono l
   have aI := (P.mono y).mono l
   have aJ := aF.mono l
   have aK := ((hT.mono a).mono y).mono l
   refine Ek Tryz.call29 Z (zl 100 i o n true E e J F ([] : ae4) fA ([] : List (List Value)) W aU p aT q s t S _ _ aH aI am aG aJ aK) ?_
   rintro _ a1 _ a4 ⟨aV, aP, af, ac, rfl, rfl, aL, aM⟩
   refine ⟨(Ic Mb5 In0), ?_⟩
   exact Jq 7 Z (gd rfl)<|Ad<|Pu1<|Pu2<|Pu2<|Re3<|Re3<|Re3<|Sd<|⟨_, by exact R2, (!(q)), af, ac, t, aV, s, aP, rfl, rfl, H, aM, aL⟩
 rintro _ aa _ a5 ⟨B, w, I, A, b, z, m, rfl, rfl, H, a6, ai⟩
 unfold vd at H
 refine fm rfl ?_ ?_
 ·intro x
  have H := ift x H
  refine fc<|fa<|Ea Z<|Ea Z<|fb<|fy<|?_
  obtain ⟨ag, ah⟩ := hX H
  subst f g
  refine ⟨(.inl rfl), [(sv fA), (.bool false)], ⟨(sv fA), _, rfl, rfl, ⟨(.bool false), _, rfl, rfl, rfl⟩⟩, ?_⟩
  have an : RowR fW aa [] [] := RowR.nil
  exact Shift.nilRow 67 6<|Re1<|Re1<|Re1<|Sd<|⟨fA, ([] : List (List Value)), rfl, rfl, an⟩
 ·intro x
  have H := f0 (btf x) H
  refine ft<|fc<|fa<|Em Z<|Eq Z (fD rfl)<|EF 4 Z<|El (sv b) Z (Rb0 Z)<|Ea Z<|Ea Z<|fb<|fy<|?_
  obtain ⟨ag, ah⟩ := hX H
  subst f g
  refine ⟨(.inl rfl), [(sv b), (.bool true)], ⟨(sv b), _, rfl, rfl, ⟨(.bool true), _, rfl, rfl, rfl⟩⟩, ?_⟩
  exact Pu2<|Re1<|Re1<|Sd<|⟨b, m, rfl, rfl, ai⟩
theorem m6 (p0 : fP) (a : SV) (b : SV) (p1 : ae3) (c : SV) (p2 : ad6) (d : SV) (e : Bool) (H : mI p0 p1 p2 = some e) (K : Kp) (G : List Ent) (g : Slr Ty.i64 K (sv a) p0.capacities) (h : Slr Ty.u64 K (sv b) p0.starts) (i : Slr (Ty.sl gK) K (sv c) p1) (j : Slr f5 K (sv d) p2) (hT : mq K) :
  Fc Tryz.prog 9 #[(.agg (fp p0 a b).toArray), (sv c), (sv d)] K (G) (fun v l f => v = (.bool e) ∧ G = f) := by
 refine fO Tryz.func9 rfl Tryz.ntmps9 Tryz.results9 rfl ?_
 unfold mI at H
 refine fc<|fa<|?_
 refine ff rfl (fU (cs := (fp p0 a b)) rfl rfl rfl (fun n => ?_))
 refine Ea Z<|fb<|fc<|fa<|EL 3 (fp p0 a b) Z (Rb0 Z)<|Em Z<|Em Z<|?_
 obtain ⟨x11, x12, k, H⟩ := ix H
 refine ff rfl (Ek Tryz.call14 Z (xl p0 a b p1 c p2 d x11 x12 k _ _ g h i j hT) ?_)
 rintro _ m _ p ⟨s, r, rfl, rfl, q⟩
 refine Em Z<|Ex Z<|Ex Z<|Ea Z<|Ea Z<|fb<|fc<|fa<|Em Z<|Ea Z<|fb<|fy<|?_
 obtain o := gm H
 subst e
 refine ⟨(.inl rfl), [(.bool x12)], ⟨(.bool x12), _, rfl, rfl, rfl⟩, ?_⟩
 exact Re0<|Re0<|Sd<|⟨rfl, rfl⟩
end Go.Hx
namespace Go.Hx
open Go Go.Proofs
set_option maxRecDepth 10000
set_option maxHeartbeats 1000000
theorem CB  (m : Bool) (H : ve = some m) (K : Kp) (G : List Ent) (hT : mq K) :
  Fc Tryz.prog 7 #[] K (G) (fun v U n => v = (.bool m) ∧ G = n) := by
 refine fO Tryz.func7 rfl Tryz.ntmps7 Tryz.results7 rfl ?_
 unfold ve at H
 refine fc<|fa<|Ea Z<|fb<|fc<|fa<|?_
 have B : RowR Ty.i64 K [[(Vi 1)]] [1] := RowR.cons rfl (RowR.nil)
 refine ff rfl (gg (T := Ty.i64) (rows := [[(Vi 1)]]) (l := [1]) rfl rfl rfl B rfl rfl rfl rfl rfl rfl rfl rfl (fun a => ?_))
 have C : RowR Ty.u64 K [[(.int .u64 0)]] [0] := RowR.cons rfl (RowR.nil)
 refine ff rfl (gg (T := Ty.u64) (rows := [[(.int .u64 0)]]) (l := [0]) rfl rfl rfl C rfl rfl rfl rfl rfl rfl rfl rfl (fun b => ?_))
 refine Ow.shift (Shift.settle (T := Ty.i64) (.there .here) B rfl (fun aG w am => Sd ?_))
 have ao := C.mono w
 refine Ow.shift (Shift.settle (T := Ty.u64) .here ao rfl (fun u x an => Sd ?_))
 refine Eq Z (fF (cs := (fp (fP.mk [1] [0] 2) a b)) rfl rfl rfl rfl rfl rfl) ?_
 refine ff rfl (fC (cs := (fp (fP.mk [] [] 0) fA fA)) rfl rfl rfl rfl (fun aJ => ?_))
 refine ff rfl (Sa (fp (fP.mk [1] [0] 2) a b) Z .here Z ?_)
 refine fb<|fc<|fa<|Eq Z (fF (cs := (fj (Op.mk 1 0 0 5 0 [] []) fA fA)) rfl rfl rfl rfl rfl rfl)<|?_
 have D : RowR gK u [(fj (Op.mk 1 0 0 5 0 [] []) fA fA)] [(Op.mk 1 0 0 5 0 [] [])] := RowR.cons ⟨fA, fA, rfl, (Slr.nil fV _), (Slr.nil Ty.i64 _)⟩ (RowR.nil)
 refine ff rfl (gg (T := gK) (rows := [(fj (Op.mk 1 0 0 5 0 [] []) fA fA)]) (l := [(Op.mk 1 0 0 5 0 [] [])]) rfl rfl rfl D rfl rfl rfl rfl rfl rfl rfl rfl (fun s => ?_))
 refine Eq Z (fF (cs := (fj (Op.mk 2 0 0 0 0 [] []) fA fA)) rfl rfl rfl rfl rfl rfl) ?_
 have E : RowR gK u [(fj (Op.mk 2 0 0 0 0 [] []) fA fA)] [(Op.mk 2 0 0 0 0 [] [])] := RowR.cons ⟨fA, fA, rfl, (Slr.nil fV _), (Slr.nil Ty.i64 _)⟩ (RowR.nil)
 refine ff rfl (gg (T := gK) (rows := [(fj (Op.mk 2 0 0 0 0 [] []) fA fA)]) (l := [(Op.mk 2 0 0 0 0 [] [])]) rfl rfl rfl E rfl rfl rfl rfl rfl rfl rfl rfl (fun t => ?_))
 refine Ow.shift (Shift.settle (T := gK) (.there .here) D rfl (fun aH j ap => Sd ?_))
 have Y := E.mono j
 refine Ow.shift (Shift.settle (T := gK) .here Y rfl (fun o k X => Sd ?_))
 have aa := ap.mono k
 have y : RowR (Ty.sl gK) o [[(sv s)], [(sv t)]] [[(Op.mk 1 0 0 5 0 [] [])], [(Op.mk 2 0 0 0 0 [] [])]] := RowR.cons ⟨s, rfl, aa⟩ (RowR.cons ⟨t, rfl, X⟩ (RowR.nil))
 refine ff rfl (gg (T := (Ty.sl gK)) (rows := [[(sv s)], [(sv t)]]) (l := [[(Op.mk 1 0 0 5 0 [] [])], [(Op.mk 2 0 0 0 0 [] [])]]) rfl rfl rfl y rfl rfl rfl rfl rfl rfl rfl rfl (fun r => ?_))
 refine Ea Z<|fb<|fc<|fa<|Eq Z (fF (cs := (fe (Result.mk 2 (-1) 5 true 0))) rfl rfl rfl rfl rfl rfl)<|?_
 refine ff rfl (fC (cs := (fe (Result.mk 0 0 0 false 0))) rfl rfl rfl rfl (fun aI => ?_))
 refine ff rfl (Sa (fe (Result.mk 2 (-1) 5 true 0)) Z .here Z ?_)
 refine fb<|fc<|fa<|Eq Z (fF (cs := (fJ (Event.mk 1 0 false (Result.mk 0 0 0 false 0)))) rfl rfl rfl rfl rfl rfl)<|EL 5 (fe (Result.mk 2 (-1) 5 true 0)) Z (Rb0 Z)<|Eq Z (fF (cs := (fJ (Event.mk 1 0 true (Result.mk 2 (-1) 5 true 0)))) rfl rfl rfl rfl rfl rfl)<|Eq Z (fF (cs := (fJ (Event.mk 0 0 false (Result.mk 0 0 0 false 0)))) rfl rfl rfl rfl rfl rfl)<|?_
 have z : RowR f5 o [(fJ (Event.mk 1 0 false (Result.mk 0 0 0 false 0))), (fJ (Event.mk 1 0 true (Result.mk 2 (-1) 5 true 0))), (fJ (Event.mk 0 0 false (Result.mk 0 0 0 false 0)))] [(Event.mk 1 0 false (Result.mk 0 0 0 false 0)), (Event.mk 1 0 true (Result.mk 2 (-1) 5 true 0)), (Event.mk 0 0 false (Result.mk 0 0 0 false 0))] := RowR.cons rfl (RowR.cons rfl (RowR.cons rfl (RowR.nil)))
 refine ff rfl (gg (T := f5) (rows := [(fJ (Event.mk 1 0 false (Result.mk 0 0 0 false 0))), (fJ (Event.mk 1 0 true (Result.mk 2 (-1) 5 true 0))), (fJ (Event.mk 0 0 false (Result.mk 0 0 0 false 0)))]) (l := [(Event.mk 1 0 false (Result.mk 0 0 0 false 0)), (Event.mk 1 0 true (Result.mk 2 (-1) 5 true 0)), (Event.mk 0 0 false (Result.mk 0 0 0 false 0))]) rfl rfl rfl z rfl rfl rfl rfl rfl rfl rfl rfl (fun av => ?_))
 refine Ea Z<|fb<|fc<|fa<|Eq Z (fF (cs := (fJ (Event.mk 0 0 false (Result.mk 0 0 0 false 0)))) rfl rfl rfl rfl rfl rfl)<|Eq Z (fF (cs := (fJ (Event.mk 1 0 false (Result.mk 0 0 0 false 0)))) rfl rfl rfl rfl rfl rfl)<|EL 5 (fe (Result.mk 2 (-1) 5 true 0)) Z (Rb1 Z)<|Eq Z (fF (cs := (fJ (Event.mk 1 0 true (Result.mk 2 (-1) 5 true 0)))) rfl rfl rfl rfl rfl rfl)<|?_
 have A : RowR f5 o [(fJ (Event.mk 0 0 false (Result.mk 0 0 0 false 0))), (fJ (Event.mk 1 0 false (Result.mk 0 0 0 false 0))), (fJ (Event.mk 1 0 true (Result.mk 2 (-1) 5 true 0)))] [(Event.mk 0 0 false (Result.mk 0 0 0 false 0)), (Event.mk 1 0 false (Result.mk 0 0 0 false 0)), (Event.mk 1 0 true (Result.mk 2 (-1) 5 true 0))] := RowR.cons rfl (RowR.cons rfl (RowR.cons rfl (RowR.nil)))
 refine ff rfl (gg (T := f5) (rows := [(fJ (Event.mk 0 0 false (Result.mk 0 0 0 false 0))), (fJ (Event.mk 1 0 false (Result.mk 0 0 0 false 0))), (fJ (Event.mk 1 0 true (Result.mk 2 (-1) 5 true 0)))]) (l := [(Event.mk 0 0 false (Result.mk 0 0 0 false 0)), (Event.mk 1 0 false (Result.mk 0 0 0 false 0)), (Event.mk 1 0 true (Result.mk 2 (-1) 5 true 0))]) rfl rfl rfl A rfl rfl rfl rfl rfl rfl rfl rfl (fun R => ?_))
 refine Ea Z<|fb<|fc<|fa<|EL 3 (fp (fP.mk [1] [0] 2) a b) Z (Rb6 Z)<|Em Z<|Em Z<|?_
 refine Ow.shift (Shift.settle (T := (Ty.sl gK)) (.there (.there (.there .here))) y rfl (fun az g ab => Sd ?_))
 have ac := A.mono g
 refine Ow.shift (Shift.settle (T := f5) .here ac rfl (fun aA h F => Sd ?_))
 obtain ⟨S, aw, aq, H⟩ := ix H
 have I := ((((am.mono x).mono j).mono k).mono g).mono h
 have J := (((an.mono j).mono k).mono g).mono h
 have L := ab.mono h
 have M := (((((hT.mono w).mono x).mono j).mono k).mono g).mono h
 refine ff rfl (Ek Tryz.call14 Z (xl (fP.mk [1] [0] 2) a b [[(Op.mk 1 0 0 5 0 [] [])], [(Op.mk 2 0 0 0 0 [] [])]] r [(Event.mk 0 0 false (Result.mk 0 0 0 false 0)), (Event.mk 1 0 false (Result.mk 0 0 0 false 0)), (Event.mk 1 0 true (Result.mk 2 (-1) 5 true 0))] R S aw aq _ _ I J L F M) ?_)
 rintro _ aB _ d ⟨aN, aM, rfl, rfl, ad⟩
 refine Em Z<|Ex Z<|Ex Z<|Ea Z<|Ea Z<|fb<|?_
 refine fz (fun V U n => ∃ (i : Bool), [(0, (.bool i))] = V ∧ G = n ∧ nM i = some m) ?_ ?_
 ·refine fa<|EL 3 (fp (fP.mk [1] [0] 2) a b) Z (Rb7 Z)<|Em Z<|Em Z<|?_
  have af := ((z.mono g).mono h).mono d
  refine Ow.shift (Shift.settle (T := f5) (.there (.there .here)) af rfl (fun aC e ae => Sd ?_))
  obtain ⟨ax, ar, H⟩ := bnd H
  have N := (I.mono d).mono e
  have O := (J.mono d).mono e
  have P := (L.mono d).mono e
  have Q := (M.mono d).mono e
  refine ff rfl (Ek Tryz.call9 Z (m6 (fP.mk [1] [0] 2) a b [[(Op.mk 1 0 0 5 0 [] [])], [(Op.mk 2 0 0 0 0 [] [])]] r [(Event.mk 1 0 false (Result.mk 0 0 0 false 0)), (Event.mk 1 0 true (Result.mk 2 (-1) 5 true 0)), (Event.mk 0 0 false (Result.mk 0 0 0 false 0))] av ax ar _ _ N O P ae Q) ?_)
  rintro _ aD _ f ⟨rfl, rfl⟩
  refine Eq Z (gd rfl)<|Em Z<|?_
  refine Ee Z ?_ ?_
  ·intro c
   have c := ir c
   have H := f0 (btf c) H
   refine VL 3 (fp (fP.mk [1] [0] 2) a b) Z (Rb7 Z)<|Vm Z<|Vm Z<|?_
   obtain ⟨ay, au, H⟩ := bnd H
   have ag := N.mono f
   have ah := O.mono f
   have ai := P.mono f
   have aj := ((F.mono d).mono e).mono f
   have ak := Q.mono f
   refine hY rfl rfl rfl rfl (Ek Tryz.call9 Z (m6 (fP.mk [1] [0] 2) a b [[(Op.mk 1 0 0 5 0 [] [])], [(Op.mk 2 0 0 0 0 [] [])]] r [(Event.mk 0 0 false (Result.mk 0 0 0 false 0)), (Event.mk 1 0 false (Result.mk 0 0 0 false 0)), (Event.mk 1 0 true (Result.mk 2 (-1) 5 true 0))] R ay au _ _ ag ah ai aj ak) ?_)
   rintro _ aE _ W ⟨rfl, rfl⟩
   refine Et Z<|Em Z<|?_
   refine Ee Z ?_ ?_
   ·intro p
    have H := ift p H
    refine Vm Z<|Et Z<|Em Z<|?_
    refine Ee Z ?_ ?_
    ·intro q
     have H := ift q H
     refine Vm Z ?_
     have al := ((ad.mono e).mono f).mono W
     exact Vq Z (lx (T := fW) Mb0 al rfl rfl rfl)<|Vc Z<|Et Z<|Ea Z<|fb<|Re0<|Re0<|Re0<|Re0<|Re0<|Re0<|Re0<|Re0<|Re0<|Re0<|Sd<|⟨_, by exact R1, (dcd ((S.length : Int) = 2)), rfl, rfl, H⟩
    ·intro q
     have H := f0 (btf q) H
     exact Ez Z<|Ez Z<|Ez Z<|Ef Z<|Ea Z<|fb<|Re0<|Re0<|Re0<|Re0<|Re0<|Re0<|Re0<|Re0<|Re0<|Re0<|Sd<|⟨_, by exact R1, false, rfl, rfl, H⟩
   ·intro p
    have H := f0 (btf p) H
    exact Ez Z<|Ef Z<|Em Z<|Ez Z<|Ez Z<|Ez Z<|Ef Z<|Ea Z<|fb<|Re0<|Re0<|Re0<|Re0<|Re0<|Re0<|Re0<|Re0<|Re0<|Re0<|Sd<|⟨_, by exact R1, false, rfl, rfl, H⟩
  ·intro c
   have c := iq c
   have H := ift c H
   refine Ez Z<|Ez Z<|Ez Z<|Ez Z<|Ef Z<|Em Z<|Ez Z<|Ef Z<|Em Z<|Ez Z<|Ez Z<|Ez Z<|Ef Z<|Ea Z<|fb<|Re0<|Re0<|Re0<|Re0<|Re0<|Re0<|Re0<|?_
   exact Re0<|Re0<|Re0<|Sd<|⟨_, by exact R1, false, rfl, rfl, H⟩
 rintro _ aF _ aL ⟨i, rfl, rfl, H⟩
 unfold nM at H
 refine fy ?_
 obtain aK := gm H
 subst m
 refine ⟨(.inl rfl), [(.bool i)], ⟨(.bool i), _, rfl, rfl, rfl⟩, ?_⟩
 exact Sd ⟨rfl, rfl⟩
end Go.Hx
namespace Go.Hx
open Go Go.Proofs
set_option maxRecDepth 10000
set_option maxHeartbeats 1000000
theorem pU (p0 : fP) (e : SV) (o : SV) (j : ad0) (H : o4 p0 = some j) (K : Kp) (G : List Ent) (q : Slr Ty.i64 K (sv e) p0.capacities) (Q : Slr Ty.u64 K (sv o) p0.starts) :
  Fc Tryz.prog 27 #[(.agg (fp p0 e o).toArray)] K (G) (fun v b f => ∃ (z : SV) (t : List (List Value)), v = (sv z) ∧ (.row (sv z) 104 3 t.flatten) :: (.tok 36 1 (col 1 t)) :: G = f ∧ RowR fG b t j) := by
 refine fO Tryz.func27 rfl Tryz.ntmps27 Tryz.results27 rfl ?_
 unfold o4 at H
 refine fc<|fa<|?_
 refine ff rfl (fU (cs := (fp p0 e o)) rfl rfl rfl (fun u => ?_))
 refine Ea Z<|fb<|fc<|fa<|Ea Z<|fb<|?_
 refine fz (fun p b f => ∃ (d : SV) (s : ad0) (i : List (List Value)), [(3, (sv d))] = p ∧ (.row (sv d) 104 3 i.flatten) :: (.tok 36 1 (col 1 i)) :: G = f ∧ yx s = some j ∧ RowR fG b i s) ?_ ?_
 ·refine fc<|fa<|Ea Z<|fb<|fB<|?_
  refine f8 (fun n148 p b f => ∃ (n : SV) (m : ad0) (c : List (List Value)) (h : Int), [(1, (Vp u)), (3, (sv n)), (4, (Vi h))] = p ∧ K = b ∧ (.blk u 27 (fp p0 e o)) :: (.row (sv n) 104 3 c.flatten) :: (.tok 36 1 (col 1 c)) :: G = f ∧ lp2 (wT p0) n148 m h = some j ∧ RowR fG b c m) BIG ?_ ?_
  ·have B : RowR fG K [] [] := RowR.nil
   exact Shift.nilRow 104 3<|Shift.tok0 36 1 1<|Pu1<|Pu2<|Sd<|⟨_, by exact R3, fA, ([] : ad0), ([] : List (List Value)), 0, rfl, rfl, rfl, H, B⟩
  rintro n148 _ _ _ - ⟨n, m, c, h, rfl, rfl, rfl, H, w⟩
  obtain ⟨S, R, rfl, E, H⟩ := jF H
  unfold wT at H
  refine fc<|fc<|fa<|Em Z<|EF 0 Z<|El (sv e) Z (Rb0 Z)<|Eq Z (ge (T := Ty.i64) q rfl rfl)<|Ec Z<|fb<|?_
  refine fm rfl ?_ ?_
  ·intro g
   obtain ⟨g, H⟩ := It g H
   refine ft<|fc<|fB<|fa<|Em Z<|EF 0 Z<|El (sv e) Z (Rb0 Z)<|Em Z<|?_
   obtain ⟨a, y, H⟩ := bnd H
   obtain ⟨_, rfl, D⟩ := Slr.at q y
   refine Eq Z (Qi (T := Ty.i64) q y Z)<|El (Vi a) Z (Rdc.k D rfl)<|Eq Z (fF (cs := (fx (fL.mk a [] false) fA)) rfl rfl rfl rfl rfl rfl)<|?_
   have x : RowR fG K [(fx (fL.mk a [] false) fA)] [(fL.mk a [] false)] := RowR.cons ⟨fA, rfl, (Slr.nil Ty.u64 _)⟩ (RowR.nil)
   refine ff rfl (gg (T := fG) (rows := [(fx (fL.mk a [] false) fA)]) (l := [(fL.mk a [] false)]) rfl rfl rfl x rfl rfl rfl rfl rfl rfl rfl rfl (fun U => ?_))
   obtain ⟨M, I, H⟩ := bnd H
   refine ff rfl (Aa (T := fG) (bytes := 40) rfl rfl rfl Mb2 w Mb0 x I rfl rfl rfl rfl rfl rfl rfl rfl (fun L J F C => ⟨_, (.there (.there .here)), ?_⟩))
   refine Ow.shift (Shift.tokNil (.there (.there (.there .here))) (Sd ?_))
   have hse := DY (k := 1) (rows := c) (r := (fx (fL.mk a [] false) fA)) (v := (sv fA)) rfl
   rw [show (Value.slice none 0 0) = (sv fA) from rfl, hse, ← F]
   clear hse
   refine Ow.shift (Re0 (Sd ?_))
   exact Ea Z<|fb<|fa<|Em Z<|Er (wI (h + 1)) Z<|Ea Z<|fb<|Pu2<|Pu2<|Pu2<|Sd<|⟨_, by exact R3, _, Nat.lt_succ_self _, L, M, J, (wI (h + 1)), rfl, rfl, rfl, (E ▸ H), C⟩
  ·intro g
   obtain ⟨g, H⟩ := If g H
   exact ga<|Pu2<|Pu2<|Re2<|Sd<|⟨_, by exact R1, n, m, c, rfl, rfl, H, w⟩
 rintro _ N _ P ⟨d, s, i, rfl, rfl, H, A⟩
 unfold yx at H
 refine fc<|fa<|Em Z<|Ea Z<|fb<|fy<|?_
 obtain O := gm H
 subst j
 refine ⟨(.inl rfl), [(sv d)], ⟨(sv d), _, rfl, rfl, rfl⟩, ?_⟩
 exact Pu1<|Pu1<|Sd<|⟨d, i, rfl, rfl, A⟩
theorem lB (p0 : ad0) (c : SV) (p1 : Int) (b : Bool) (H : pI p0 p1 = some b) (K : Kp) (G : List Ent) (g : Slr fG K (sv c) p0) :
  Fc Tryz.prog 107 #[(sv c), (Vi p1)] K (G) (fun v e d => v = (.bool b) ∧ K = e ∧ G = d) := by
 refine fO Tryz.func107 rfl Tryz.ntmps107 Tryz.results107 rfl ?_
 unfold pI at H
 refine fc<|fa<|Ea Z<|fb<|fc<|fa<|Em Z<|Ec Z<|Em Z<|?_
 refine Ee Z ?_ ?_
 ·intro a
  obtain ⟨a, H⟩ := It a H
  refine Vm Z<|Vm Z<|Vq Z (ge (T := fG) g rfl rfl)<|Vc Z<|Et Z<|Ea Z<|fb<|fy<|?_
  obtain f := gm H
  subst b
  refine ⟨(.inl rfl), [(.bool (dcd (p1 < (p0.length : Int))))], ⟨(.bool (dcd (p1 < (p0.length : Int)))), _, rfl, rfl, rfl⟩, ?_⟩
  exact Sd ⟨rfl, rfl, rfl⟩
 ·intro a
  obtain ⟨a, H⟩ := If a H
  refine Ez Z<|Ez Z<|Ez Z<|Ez Z<|Ef Z<|Ea Z<|fb<|fy<|?_
  obtain f := gm H
  subst b
  refine ⟨(.inl rfl), [(.bool false)], ⟨(.bool false), _, rfl, rfl, rfl⟩, ?_⟩
  exact Sd ⟨rfl, rfl, rfl⟩
theorem zm (p0 : ad0) (j : SV) (p1 : Case) (c : Bool) (H : pi p0 p1 = some c) (K : Kp) (G : List Ent) (i : Slr fG K (sv j) p0) :
  Fc Tryz.prog 79 #[(sv j), (.agg (fk p1).toArray)] K (G) (fun v o n => v = (.bool c) ∧ K = o ∧ G = n) := by
 refine fO Tryz.func79 rfl Tryz.ntmps79 Tryz.results79 rfl ?_
 unfold pi at H
 refine fc<|fa<|?_
 refine ff rfl (fU (cs := (fk p1)) rfl rfl rfl (fun t => ?_))
 refine Ea Z<|fb<|fc<|fc<|fa<|Em Z<|EF 1 Z<|El (Vi p1.channel) Z (Rb0 Z)<|?_
 obtain ⟨s, r, H⟩ := bnd H
 refine ff rfl (Ek Tryz.call107 Z (lB p0 j p1.channel s r _ _ i) ?_)
 rintro _ _ _ - ⟨rfl, rfl, rfl⟩
 refine Eq Z (gd rfl)<|fb<|?_
 refine fm rfl ?_ ?_
 ·intro b
  have b := ir b
  have H := f0 (btf b) H
  refine fc<|fa<|Ea Z<|fb<|fy<|?_
  obtain d := gm H
  subst c
  refine ⟨(.inl rfl), [(.bool false)], ⟨(.bool false), _, rfl, rfl, rfl⟩, ?_⟩
  exact Re0<|Sd<|⟨rfl, rfl, rfl⟩
 ·intro b
  have b := iq b
  have H := ift b H
  refine ft<|fc<|fa<|Em Z<|EF 1 Z<|El (Vi p1.channel) Z (Rb0 Z)<|?_
  obtain ⟨a, m, H⟩ := bnd H
  obtain ⟨r25, q, p⟩ := Slr.at i m
  obtain ⟨e, rfl, l⟩ := q
  refine Eq Z (Qi (T := fG) i m Z)<|EL 3 (fx a e) Z (Rdc.k p rfl)<|?_
  refine ff rfl (fC (cs := (fx (fL.mk 0 [] false) fA)) rfl rfl rfl rfl (fun u => ?_))
  refine ff rfl (Sa (fx a e) Z .here Z ?_)
  refine fb<|fc<|fc<|fa<|EF 0 Z<|El (.bool p1.send) Z (Rb1 Z)<|fb<|?_
  refine fm rfl ?_ ?_
  ·intro f
   have H := ift f H
   refine fc<|fa<|EF 2 Z<|El (.bool a.closed) Z (Rb0 Z)<|Em Z<|?_
   refine Ee Z ?_ ?_
   ·intro g
    have H := ift g H
    refine Ez Z<|Ez Z<|Ez Z<|Ez Z<|Ez Z<|Ez Z<|Et Z<|Ea Z<|fb<|fy<|?_
    obtain d := gm H
    subst c
    refine ⟨(.inl rfl), [(.bool true)], ⟨(.bool true), _, rfl, rfl, rfl⟩, ?_⟩
    exact Re0<|Re0<|Sd<|⟨rfl, rfl, rfl⟩
   ·intro g
    have H := f0 (btf g) H
    refine VF 1 Z<|Vl (sv e) Z (Rb0 Z)<|Vq Z (ge (T := Ty.u64) l rfl rfl)<|VF 0 Z<|Vl (Vi a.capacity) Z (Rb0 Z)<|Vc Z<|Ef Z<|Ea Z<|fb<|fy<|?_
    obtain d := gm H
    subst c
    refine ⟨(.inl rfl), [(.bool (dcd ((a.buffer.length : Int) < a.capacity)))], ⟨(.bool (dcd ((a.buffer.length : Int) < a.capacity))), _, rfl, rfl, rfl⟩, ?_⟩
    exact Re0<|Re0<|Sd<|⟨rfl, rfl, rfl⟩
  ·intro f
   have H := f0 (btf f) H
   refine ft<|fc<|fa<|EF 2 Z<|El (.bool a.closed) Z (Rb0 Z)<|Em Z<|?_
   refine Ee Z ?_ ?_
   ·intro h
    have H := ift h H
    refine Ez Z<|Ez Z<|Ez Z<|Ez Z<|Et Z<|Ea Z<|fb<|fy<|?_
    obtain d := gm H
    subst c
    refine ⟨(.inl rfl), [(.bool true)], ⟨(.bool true), _, rfl, rfl, rfl⟩, ?_⟩
    exact Re0<|Re0<|Sd<|⟨rfl, rfl, rfl⟩
   ·intro h
    have H := f0 (btf h) H
    refine VF 1 Z<|Vl (sv e) Z (Rb0 Z)<|Vq Z (ge (T := Ty.u64) l rfl rfl)<|Vc Z<|Ef Z<|Ea Z<|fb<|fy<|?_
    obtain d := gm H
    subst c
    refine ⟨(.inl rfl), [(.bool (dcd ((a.buffer.length : Int) > 0)))], ⟨(.bool (dcd ((a.buffer.length : Int) > 0))), _, rfl, rfl, rfl⟩, ?_⟩
    exact Re0<|Re0<|Sd<|⟨rfl, rfl, rfl⟩
end Go.Hx
namespace Go.Hx
open Go Go.Proofs
set_option maxRecDepth 10000
set_option maxHeartbeats 1000000
theorem BR (p0 : fP) (b : SV) (c : SV) (d : fY) (H : qR p0 = some d) (K : Kp) (G : List Ent) (i : Slr Ty.i64 K (sv b) p0.capacities) (j : Slr Ty.u64 K (sv c) p0.starts) :
  Fc Tryz.prog 21 #[(.agg (fp p0 b c).toArray)] K (G) (fun v f h => ∃ (e : SV) (g : SV), v = (.agg (fh d e g).toArray) ∧ (.tok 104 3 [(sv e)]) :: G = h ∧ Slr fG f (sv e) d.chans ∧ Slr fQ f (sv g) d.waiting) := by
 refine fO Tryz.func21 rfl Tryz.ntmps21 Tryz.results21 rfl ?_
 unfold qR at H
 refine fc<|fa<|?_
 refine ff rfl (fU (cs := (fp p0 b c)) rfl rfl rfl (fun o => ?_))
 refine ff rfl (fC (cs := (fh (fY.mk [] [] 0) fA fA)) rfl rfl rfl rfl (fun p => ?_))
 refine fb<|fc<|fa<|EL 3 (fp p0 b c) Z (Rb1 Z)<|?_
 obtain ⟨x15, m, H⟩ := bnd H
 refine ff rfl (Ek Tryz.call27 Z (pU p0 b c x15 m _ _ i j) ?_)
 rintro _ n _ r ⟨a, t, rfl, rfl, k⟩
 refine Ow.shift (Shift.settle (T := fG) .here k rfl (fun K22 s l => Sd ?_))
 refine Eq Z (fF (cs := (fh (fY.mk x15 [] 0) a fA)) rfl rfl rfl rfl rfl rfl) ?_
 refine ff rfl (Sa (fh (fY.mk x15 [] 0) a fA) Z (.there (.there .here)) Z ?_)
 refine fb<|fy<|?_
 obtain q := gm H
 subst d
 refine ⟨(.inl rfl), [(.agg (fh (fY.mk x15 [] 0) a fA).toArray)], ⟨(.agg (fh (fY.mk x15 [] 0) a fA).toArray), _, rfl, ⟨_, 3, (fh (fY.mk x15 [] 0) a fA), rfl, rfl, rfl, rfl, ⟨rfl, Rb2 Z⟩, rfl⟩, rfl⟩, ?_⟩
 exact Re1<|Re1<|Re1<|Sd<|⟨a, fA, rfl, rfl, l, (Slr.nil fQ _)⟩
theorem m9 (p0 : fY) (g : SV) (a : SV) (p1 : Int) (p2 : fL) (c : SV) (e : fY) (H : pd p0 p1 p2 = some e) (K : Kp) (G : List Ent) (q : Slr fG K (sv g) p0.chans) (r : Slr fQ K (sv a) p0.waiting) (s : Slr Ty.u64 K (sv c) p2.buffer) :
  Fc Tryz.prog 73 #[(.agg (fh p0 g a).toArray), (Vi p1), (.agg (fx p2 c).toArray)] K (G) (fun v h n => ∃ (l : SV) (k : List (List Value)) (m : SV), v = (.agg (fh e l m).toArray) ∧ K = h ∧ (.row (sv l) 104 3 k.flatten) :: G = n ∧ RowR fG h k e.chans ∧ Slr fQ h (sv m) e.waiting) := by
 refine fO Tryz.func73 rfl Tryz.ntmps73 Tryz.results73 rfl ?_
 unfold pd at H
 refine fc<|fa<|?_
 refine ff rfl (fU (cs := (fh p0 g a)) rfl rfl rfl (fun x => ?_))
 refine ff rfl (fU (cs := (fx p2 c)) rfl rfl rfl (fun y => ?_))
 refine ff rfl (fC (cs := (fh (fY.mk [] [] 0) fA fA)) rfl rfl rfl rfl (fun z => ?_))
 refine fb<|fc<|fa<|EF 0 Z<|El (sv g) Z (Rb2 Z)<|?_
 have o : RowR fG K [] [] := RowR.nil
 refine Ow.shift (Shift.nilRow 104 3 (Sd ?_))
 obtain ⟨d, u, H⟩ := bnd H
 refine ff rfl (gW (T := fG) (bytes := 40) rfl rfl rfl Mb0 o (SrcT.sl q) u rfl rfl rfl rfl rfl rfl rfl rfl (fun b w f => ⟨_, .here, ?_⟩))
 refine EF 0 Z ?_
 refine ff rfl (So [(sv b)] (fh (fY.mk d p0.waiting p0.tick) b a) Z (.there (.there (.there .here))) Z ?_)
 refine fb<|fc<|fa<|EF 0 Z<|El (sv b) Z (Rb3 Z)<|Em Z<|EL 3 (fx p2 c) Z (Rb2 Z)<|?_
 obtain ⟨F, j, H⟩ := bnd H
 obtain ⟨D, i, t⟩ := RowR.at f j
 obtain ⟨E, rfl, C⟩ := t
 refine Eq Z (gy (T := fG) Mb0 f i (fK j).1 rfl rfl rfl rfl rfl) ?_
 refine ff rfl (gV (T := fG) (vs := (fx p2 c)) (r' := (fx p2 c)) (l' := (f6 d p1 p2)) rfl rfl rfl rfl rfl .here f i rfl rfl rfl (RowR.set p1 f ⟨c, rfl, s⟩) (fun p => ?_))
 have B := iV i (v := (fx p2 c))
 refine fb<|fc<|fa<|EL 3 (fh (fY.mk (f6 d p1 p2) p0.waiting p0.tick) b a) Z (Rb3 Z)<|?_
 refine ff rfl (Sa (fh (fY.mk (f6 d p1 p2) p0.waiting p0.tick) b a) Z (.there .here) Z ?_)
 refine fb<|fy<|?_
 obtain A := gm H
 subst e
 refine ⟨(.inl rfl), [(.agg (fh (fY.mk (f6 d p1 p2) p0.waiting p0.tick) b a).toArray)], ⟨(.agg (fh (fY.mk (f6 d p1 p2) p0.waiting p0.tick) b a).toArray), _, rfl, ⟨_, 3, (fh (fY.mk (f6 d p1 p2) p0.waiting p0.tick) b a), rfl, rfl, rfl, rfl, ⟨rfl, Rb1 Z⟩, rfl⟩, rfl⟩, ?_⟩
 exact Re1<|Re1<|Re1<|Sd<|⟨b, (w.set p1.toNat (fx p2 c)), a, rfl, rfl, rfl, p, r⟩
end Go.Hx
namespace Go.Hx
open Go Go.Proofs
set_option maxRecDepth 10000
set_option maxHeartbeats 1000000
theorem zo (p0 : Op) (f : SV) (g : SV) (d : Case) (e : Bool) (H : r5 p0 = some (d, e)) (K : Kp) (G : List Ent) (u : Slr fV K (sv f) p0.cases) (w : Slr Ty.i64 K (sv g) p0.draws) :
  Fc Tryz.prog 81 #[(.agg (fj p0 f g).toArray)] K (G) (fun v i h => v = (.tuple #[(.agg (fk d).toArray), (.bool e)]) ∧ K = i ∧ G = h) := by
 refine fO Tryz.func81 rfl Tryz.ntmps81 Tryz.results81 rfl ?_
 unfold r5 at H
 refine fc<|fa<|?_
 refine ff rfl (fU (cs := (fj p0 f g)) rfl rfl rfl (fun p => ?_))
 refine ff rfl (fC (cs := (fk (Case.mk false 0 0))) rfl rfl rfl rfl (fun q => ?_))
 refine Ea Z<|fb<|fc<|?_
 refine fz (fun r i h => ∃ (o : Bool) (k : Int) (l : Int) (a : Int) (m : Int) (b : Int) (i32 : Int) (n : Int), [(1, (Vp p)), (2, (Vp q)), (11, (.bool o))] = r ∧ K = i ∧ (.blk q 108 (fk (Case.mk false k l))) :: (.blk p 51 (fj (Op.mk a m b i32 n p0.cases p0.draws) f g)) :: G = h ∧ nW p0 o k l a m b i32 n = some (d, e)) ?_ ?_
 ·refine fa<|EF 0 Z<|El (Vi p0.kind) Z (Rb1 Z)<|Ec Z<|Em Z<|?_
  refine Ee Z ?_ ?_
  ·intro c
   have c := ky (ir (c))
   have H := f0 c H
   exact VF 0 Z<|Vl (Vi p0.kind) Z (Rb1 Z)<|Vc Z<|Et Z<|fb<|Pu1<|Pu1<|Sd<|⟨_, by exact R3, (!(dcd (p0.kind = 2))), 0, 0, p0.kind, p0.mode, p0.channel, p0.value, p0.deadline, rfl, rfl, rfl, H⟩
  ·intro c
   have c := kz (iq (c))
   have H := ift c H
   exact Ez Z<|Ez Z<|Ez Z<|Ef Z<|fb<|Pu1<|Pu1<|Sd<|⟨_, by exact R3, false, 0, 0, p0.kind, p0.mode, p0.channel, p0.value, p0.deadline, rfl, rfl, rfl, H⟩
 rintro _ _ _ - ⟨o, k, l, a, m, b, i32, n, rfl, rfl, rfl, H⟩
 unfold nW at H
 refine fm rfl ?_ ?_
 ·intro j
  have H := ift j H
  refine fc<|fa<|Eq Z (fF (cs := (fk (Case.mk false 0 0))) rfl rfl rfl rfl rfl rfl)<|?_
  refine ff rfl (Sa (fk (Case.mk false 0 0)) Z .here Z ?_)
  refine Ea Z<|fb<|fy<|?_
  obtain ⟨s, t⟩ := hX H
  subst d e
  refine ⟨(.inl rfl), [(.agg (fk (Case.mk false 0 0)).toArray), (.bool false)], ⟨(.agg (fk (Case.mk false 0 0)).toArray), _, rfl, ⟨_, 3, (fk (Case.mk false 0 0)), rfl, rfl, rfl, rfl, ⟨rfl, Rb0 Z⟩, rfl⟩, ⟨(.bool false), _, rfl, rfl, rfl⟩⟩, ?_⟩
  exact Re0<|Re0<|Sd<|⟨rfl, rfl, rfl⟩
 ·intro j
  have H := f0 (btf j) H
  refine ft<|fc<|fa<|EF 0 Z<|El (Vi a) Z (Rb1 Z)<|Ec Z<|EF 2 Z<|El (Vi b) Z (Rb1 Z)<|EF 3 Z<|El (.int .u64 i32) Z (Rb1 Z)<|Eq Z (fF (cs := (fk (Case.mk (dcd (a = 1)) b i32))) rfl rfl rfl rfl rfl rfl)<|?_
  refine ff rfl (Sa (fk (Case.mk (dcd (a = 1)) b i32)) Z .here Z ?_)
  refine Ea Z<|fb<|fy<|?_
  obtain ⟨s, t⟩ := hX H
  subst d e
  refine ⟨(.inl rfl), [(.agg (fk (Case.mk (dcd (a = 1)) b i32)).toArray), (.bool true)], ⟨(.agg (fk (Case.mk (dcd (a = 1)) b i32)).toArray), _, rfl, ⟨_, 3, (fk (Case.mk (dcd (a = 1)) b i32)), rfl, rfl, rfl, rfl, ⟨rfl, Rb0 Z⟩, rfl⟩, ⟨(.bool true), _, rfl, rfl, rfl⟩⟩, ?_⟩
  exact Re0<|Re0<|Sd<|⟨rfl, rfl, rfl⟩
theorem kY (p0 : Op) (a : SV) (d : SV) (e : af2) (H : mV p0 = some e) (K : Kp) (G : List Ent) (j : Slr fV K (sv a) p0.cases) (o : Slr Ty.i64 K (sv d) p0.draws) :
  Fc Tryz.prog 44 #[(.agg (fj p0 a d).toArray)] K (G) (fun v n m => ∃ (k : SV), v = (sv k) ∧ G = m ∧ Slr fV n (sv k) e) := by
 refine fO Tryz.func44 rfl Tryz.ntmps44 Tryz.results44 rfl ?_
 unfold mV at H
 refine fc<|fa<|?_
 refine ff rfl (fU (cs := (fj p0 a d)) rfl rfl rfl (fun t => ?_))
 refine Ea Z<|fb<|fc<|fc<|fa<|EF 0 Z<|El (Vi p0.kind) Z (Rb0 Z)<|Ec Z<|fb<|?_
 refine fm rfl ?_ ?_
 ·intro c
  obtain ⟨c, H⟩ := It c H
  refine fc<|fa<|EF 5 Z<|El (sv a) Z (Rb0 Z)<|Ea Z<|fb<|fy<|?_
  obtain h := gm H
  subst e
  refine ⟨(.inl rfl), [(sv a)], ⟨(sv a), _, rfl, rfl, rfl⟩, ?_⟩
  exact Re0<|Sd<|⟨a, rfl, rfl, j⟩
 ·intro c
  obtain ⟨c, H⟩ := If c H
  refine ft<|fc<|fc<|fa<|EL 7 (fj p0 a d) Z (Rb0 Z)<|?_
  obtain ⟨b, r, q, H⟩ := ix H
  refine ff rfl (Ek Tryz.call81 Z (zo p0 a d b r q _ _ j o) ?_)
  rintro _ _ _ - ⟨rfl, rfl, rfl⟩
  refine Em Z<|Ex Z<|Ex Z<|?_
  refine ff rfl (fC (cs := (fk (Case.mk false 0 0))) rfl rfl rfl rfl (fun u => ?_))
  refine ff rfl (Sa (fk b) Z .here Z ?_)
  refine Ea Z<|fb<|fc<|fa<|Em Z<|fb<|?_
  refine fm rfl ?_ ?_
  ·intro f
   have H := ift f H
   refine fc<|fa<|EL 3 (fk b) Z (Rb0 Z)<|?_
   have i : RowR fV K [(fk b)] [b] := RowR.cons rfl (RowR.nil)
   refine ff rfl (gg (T := fV) (rows := [(fk b)]) (l := [b]) rfl rfl rfl i rfl rfl rfl rfl rfl rfl rfl rfl (fun g => ?_))
   refine Ea Z<|fb<|fy<|?_
   obtain h := gm H
   subst e
   refine ⟨(.inl rfl), [(sv g)], ⟨(sv g), _, rfl, rfl, rfl⟩, ?_⟩
   refine Shift.settle (T := fV) .here i rfl ?_
   intro s w p
   exact Re0<|Re0<|Re0<|Sd<|⟨g, rfl, rfl, p⟩
  ·intro f
   have H := f0 (btf f) H
   refine ft<|fc<|fa<|Ea Z<|fb<|fy<|?_
   obtain h := gm H
   subst e
   refine ⟨(.inl rfl), [(sv fA)], ⟨(sv fA), _, rfl, rfl, rfl⟩, ?_⟩
   exact Re0<|Re0<|Sd<|⟨fA, rfl, rfl, (Slr.nil fV _)⟩
end Go.Hx
namespace Go.Hx
open Go Go.Proofs
set_option maxRecDepth 10000
set_option maxHeartbeats 1000000
theorem pW (p0 : Op) (i : SV) (j : SV) (p1 : Int) (p2 : Bool) (c : Int) (H : pe p0 p1 p2 = some c) (K : Kp) (G : List Ent) (y : Slr fV K (sv i) p0.cases) (z : Slr Ty.i64 K (sv j) p0.draws) :
  Fc Tryz.prog 74 #[(.agg (fj p0 i j).toArray), (Vi p1), (.bool p2)] K (G) (fun v d b => v = (Vi c) ∧ G = b) := by
 refine fO Tryz.func74 rfl Tryz.ntmps74 Tryz.results74 rfl ?_
 unfold pe at H
 refine fc<|fa<|?_
 refine ff rfl (fU (cs := (fj p0 i j)) rfl rfl rfl (fun E => ?_))
 refine Ea Z<|fb<|fc<|fa<|EL 7 (fj p0 i j) Z (Rb0 Z)<|?_
 obtain ⟨n, A, H⟩ := bnd H
 refine ff rfl (Ek Tryz.call44 Z (kY p0 i j n A _ _ y z) ?_)
 rintro _ o _ I ⟨r, rfl, rfl, h⟩
 refine Ea Z<|fb<|?_
 refine fz (fun e d b => [] = e ∧ G = b ∧ yG = some c) ?_ ?_
 ·refine fc<|fa<|Ea Z<|fb<|fB<|?_
  refine f8 (fun n131 e d b => ∃ (a : Int), [(1, (Vi p1)), (2, (.bool p2)), (7, (sv r)), (8, (Vi a))] = e ∧ o = d ∧ G = b ∧ lp1 (qT p1 p2 n) n131 a = some c) BIG ?_ ?_
  ·exact Re0<|Sd<|⟨_, by exact R4, 0, rfl, rfl, rfl, H⟩
  rintro n131 _ _ _ - ⟨a, rfl, rfl, rfl, H⟩
  obtain ⟨J, B, rfl, x, H⟩ := nr H
  unfold qT at H
  refine fc<|fc<|fa<|Em Z<|Em Z<|Eq Z (ge (T := fV) h rfl rfl)<|Ec Z<|fb<|?_
  refine fm rfl ?_ ?_
  ·intro f
   obtain ⟨f, H⟩ := It f H
   refine ft<|fc<|fB<|?_
   refine fz (fun e d b => ∃ (m : Bool), [(1, (Vi p1)), (2, (.bool p2)), (7, (sv r)), (8, (Vi a)), (32, (.bool m))] = e ∧ o = d ∧ G = b ∧ qS p1 p2 n a B m = some c) ?_ ?_
   ·refine fa<|Em Z<|Em Z<|?_
    obtain ⟨C, p, H⟩ := bnd H
    obtain ⟨_, rfl, u⟩ := Slr.at h p
    refine Eq Z (Qi (T := fV) h p Z)<|EF 1 Z<|El (Vi C.channel) Z (Rdc.k u rfl)<|Em Z<|Ec Z<|Em Z<|?_
    refine Ee Z ?_ ?_
    ·intro g
     obtain ⟨g, H⟩ := It g H
     refine Vm Z<|Vm Z<|?_
     obtain ⟨s, q, H⟩ := bnd H
     obtain ⟨_, rfl, w⟩ := Slr.at h q
     exact Vq Z (Qi (T := fV) h q Z)<|VF 0 Z<|Vl (.bool s.send) Z (Rdc.k w rfl)<|Vm Z<|Vq Z (oK rfl rfl rfl)<|Et Z<|fb<|Sd<|⟨_, by exact R5, (s.send == p2), rfl, rfl, rfl, H⟩
    ·intro g
     obtain ⟨g, H⟩ := If g H
     exact Ez Z<|Ez Z<|Ez Z<|Ez Z<|Ez Z<|Ez Z<|Ez Z<|Ef Z<|fb<|Sd<|⟨_, by exact R5, false, rfl, rfl, rfl, H⟩
   rintro _ _ _ - ⟨m, rfl, rfl, rfl, H⟩
   unfold qS at H
   refine fm rfl ?_ ?_
   ·intro l
    have H := ift l H
    refine fc<|fa<|Em Z<|Ea Z<|fb<|fy<|?_
    obtain t := gm H
    subst c
    refine ⟨(.inl rfl), [(Vi a)], ⟨(Vi a), _, rfl, rfl, rfl⟩, ?_⟩
    exact Sd ⟨rfl, rfl⟩
   ·intro l
    have H := f0 (btf l) H
    exact ft<|fa<|Em Z<|Er (wI (a + 1)) Z<|Ea Z<|fb<|Sd<|⟨_, by exact R4, _, Nat.lt_succ_self _, (wI (a + 1)), rfl, rfl, rfl, (x ▸ H)⟩
  ·intro f
   obtain ⟨f, H⟩ := If f H
   exact ga<|Sd<|⟨[], trivial, rfl, rfl, H⟩
 rintro _ D _ F ⟨rfl, rfl, H⟩
 unfold yG at H
 refine fc<|fa<|Ea Z<|fb<|fy<|?_
 obtain t := gm H
 subst c
 refine ⟨(.inl rfl), [(Vi (-1))], ⟨(Vi (-1)), _, rfl, rfl, rfl⟩, ?_⟩
 exact Sd ⟨rfl, rfl⟩
theorem na (p0 : Op) (c : SV) (d : SV) (p1 : Int) (b : Int) (H : pg p0 p1 = some b) (K : Kp) (G : List Ent) (h : Slr fV K (sv c) p0.cases) (i : Slr Ty.i64 K (sv d) p0.draws) :
  Fc Tryz.prog 75 #[(.agg (fj p0 c d).toArray), (Vi p1)] K (G) (fun v f e => v = (Vi b) ∧ K = f ∧ G = e) := by
 refine fO Tryz.func75 rfl Tryz.ntmps75 Tryz.results75 rfl ?_
 unfold pg at H
 refine fc<|fa<|?_
 refine ff rfl (fU (cs := (fj p0 c d)) rfl rfl rfl (fun b3 => ?_))
 refine Ea Z<|fb<|fc<|fc<|fa<|EF 0 Z<|El (Vi p0.kind) Z (Rb0 Z)<|Ec Z<|fb<|?_
 refine fm rfl ?_ ?_
 ·intro a
  obtain ⟨a, H⟩ := It a H
  refine fc<|fa<|Em Z<|Ea Z<|fb<|fy<|?_
  obtain g := gm H
  subst b
  refine ⟨(.inl rfl), [(Vi p1)], ⟨(Vi p1), _, rfl, rfl, rfl⟩, ?_⟩
  exact Re0<|Sd<|⟨rfl, rfl, rfl⟩
 ·intro a
  obtain ⟨a, H⟩ := If a H
  refine ft<|fc<|fa<|Ea Z<|fb<|fy<|?_
  obtain g := gm H
  subst b
  refine ⟨(.inl rfl), [(Vi (-1))], ⟨(Vi (-1)), _, rfl, rfl, rfl⟩, ?_⟩
  exact Re0<|Sd<|⟨rfl, rfl, rfl⟩
theorem wk (p0 : fY) (a : SV) (e : SV) (p1 : Int) (h : fY) (H : mO p0 p1 = some h) (K : Kp) (G : List Ent) (C : Slr fG K (sv a) p0.chans) (b : Slr fQ K (sv e) p0.waiting) :
  Fc Tryz.prog 76 #[(.agg (fh p0 a e).toArray), (Vi p1)] K (G) (fun v i k => ∃ (w : SV) (r : SV), v = (.agg (fh h w r).toArray) ∧ (.tok 96 8 [(sv r)]) :: G = k ∧ Slr fG i (sv w) h.chans ∧ Slr fQ i (sv r) h.waiting) := by
 refine fO Tryz.func76 rfl Tryz.ntmps76 Tryz.results76 rfl ?_
 unfold mO at H
 refine fc<|fa<|?_
 refine ff rfl (fU (cs := (fh p0 a e)) rfl rfl rfl (fun s => ?_))
 refine ff rfl (fC (cs := (fh (fY.mk [] [] 0) fA fA)) rfl rfl rfl rfl (fun t => ?_))
 refine fb ?_
 refine fz (fun x i k => ∃ (c : SV) (d : af0), [(2, (Vp s)), (4, (Vp t))] = x ∧ (.blk t 60 (fh (fY.mk [] [] 0) fA fA)) :: (.blk s 60 (fh (fY.mk p0.chans d p0.tick) a c)) :: (.tok 96 8 [(sv c)]) :: G = k ∧ qU p0 d = some h ∧ Slr fQ i (sv c) d) ?_ ?_
 ·obtain ⟨al, j, H⟩ := bnd H
  obtain ⟨am, l, H⟩ := bnd H
  obtain ⟨an, f, H⟩ := bnd H
  obtain ⟨g, m, H⟩ := bnd H
  refine fq _ rfl (Ic Mb0 In0)<|JF 0 1 Z<|Jm 2 Z<|JF 5 1 Z<|Jm 7 Z<|Jr 8 (wI (p1 + 1)) Z<|?_
  refine gU 1 6 (by kernel_rfl) ?_ ?_
  ·refine id (Jyq Z (gn (v := (sv e)) rfl rfl rfl (Rb1 Z)) ⟨(Ic Mb0 In0), ?_⟩)
   have u := Slr.cut b j
   refine Jq 3 Z (sG (T := fQ) b j rfl rfl rfl rfl) ?_
   refine gU 4 6 (by kernel_rfl) ?_ ?_
   ·refine id (Jy Z ?_)
    refine OpW.shift (Shift.nilTok1 96 8 (Sd ?_))
    refine f7 (T := fQ) (bytes := 96) (q := 0) rfl rfl rfl (Slr.nil fQ _) Mb0 rfl (SrcT.sl u) l rfl rfl rfl rfl rfl rfl rfl rfl (fun ai W y E => ⟨_, .here, ⟨(Ic Mb1 In0), ?_⟩⟩)
    refine gx 6 (by kernel_rfl) (Jyq Z (gn (v := (sv e)) rfl rfl rfl (Rb2 Z)) ⟨(Ic Mb1 In0), ?_⟩)
    have F := Slr.cutL b f
    refine Jq 9 Z (lw (T := fQ) b f rfl rfl rfl rfl rfl) ?_
    refine Ao 10 Z ?_
    have I := F.mono y
    refine f7 (T := fQ) (bytes := 96) (q := 0) rfl rfl rfl E Mb0 rfl (SrcT.sl I) m rfl rfl rfl rfl rfl rfl rfl rfl (fun n X af J => ⟨_, .here, ⟨(Ic Mb1 In0), ?_⟩⟩)
    refine JF 11 1 Z ?_
    refine Ao 12 Z ?_
    refine So [(sv n)] (fh (fY.mk p0.chans g p0.tick) a n) Z (.there (.there .here)) Z ⟨(Ic Mb1 In0), ?_⟩
    exact Ad<|Pu2<|Pu2<|Sd<|⟨_, by exact R2, n, g, rfl, rfl, H, J⟩
   ·refine id (Jyq Z (gn (v := (sv e)) rfl rfl rfl (Rb1 Z)) ⟨(Ic Mb0 In0), ?_⟩)
    have L := Slr.cutL b f
    refine Jq 9 Z (lw (T := fQ) b f rfl rfl rfl rfl rfl) ?_
    refine Ao 4 Z ?_
    refine OpW.shift (Shift.nilTok1 96 8 (Sd ?_))
    refine f7 (T := fQ) (bytes := 96) (q := 0) rfl rfl rfl (Slr.nil fQ _) Mb0 rfl (SrcT.sl u) l rfl rfl rfl rfl rfl rfl rfl rfl (fun aj Y z M => ⟨_, .here, ⟨(Ic Mb1 In0), ?_⟩⟩)
    refine Ao 10 Z ?_
    have N := L.mono z
    refine f7 (T := fQ) (bytes := 96) (q := 0) rfl rfl rfl M Mb0 rfl (SrcT.sl N) m rfl rfl rfl rfl rfl rfl rfl rfl (fun o aa ag O => ⟨_, .here, ⟨(Ic Mb1 In0), ?_⟩⟩)
    refine JF 11 1 Z ?_
    refine Ao 12 Z ?_
    refine So [(sv o)] (fh (fY.mk p0.chans g p0.tick) a o) Z (.there (.there .here)) Z ⟨(Ic Mb1 In0), ?_⟩
    exact Ad<|Pu2<|Pu2<|Sd<|⟨_, by exact R2, o, g, rfl, rfl, H, O⟩
  ·refine id (Jyq Z (gn (v := (sv e)) rfl rfl rfl (Rb1 Z)) ⟨(Ic Mb0 In0), ?_⟩)
   have P := Slr.cutL b f
   refine Jq 9 Z (lw (T := fQ) b f rfl rfl rfl rfl rfl) ?_
   refine gx 1 (by kernel_rfl) (Jyq Z (gn (v := (sv e)) rfl rfl rfl (Rb1 Z)) ⟨(Ic Mb0 In0), ?_⟩)
   have Q := Slr.cut b j
   refine Jq 3 Z (sG (T := fQ) b j rfl rfl rfl rfl) ?_
   refine Ao 4 Z ?_
   refine OpW.shift (Shift.nilTok1 96 8 (Sd ?_))
   refine f7 (T := fQ) (bytes := 96) (q := 0) rfl rfl rfl (Slr.nil fQ _) Mb0 rfl (SrcT.sl Q) l rfl rfl rfl rfl rfl rfl rfl rfl (fun ak ab A R => ⟨_, .here, ⟨(Ic Mb1 In0), ?_⟩⟩)
   refine Ao 10 Z ?_
   have S := P.mono A
   refine f7 (T := fQ) (bytes := 96) (q := 0) rfl rfl rfl R Mb0 rfl (SrcT.sl S) m rfl rfl rfl rfl rfl rfl rfl rfl (fun p ac ah U => ⟨_, .here, ⟨(Ic Mb1 In0), ?_⟩⟩)
   refine JF 11 1 Z ?_
   refine Ao 12 Z ?_
   refine So [(sv p)] (fh (fY.mk p0.chans g p0.tick) a p) Z (.there (.there .here)) Z ⟨(Ic Mb1 In0), ?_⟩
   exact Ad<|Pu2<|Pu2<|Sd<|⟨_, by exact R2, p, g, rfl, rfl, H, U⟩
 rintro _ ad _ B ⟨c, d, rfl, rfl, H, D⟩
 unfold qU at H
 refine fc<|fa<|EL 3 (fh (fY.mk p0.chans d p0.tick) a c) Z (Rb1 Z)<|?_
 refine ff rfl (Sa (fh (fY.mk p0.chans d p0.tick) a c) Z .here Z ?_)
 refine fb<|fy<|?_
 obtain ae := gm H
 subst h
 refine ⟨(.inl rfl), [(.agg (fh (fY.mk p0.chans d p0.tick) a c).toArray)], ⟨(.agg (fh (fY.mk p0.chans d p0.tick) a c).toArray), _, rfl, ⟨_, 3, (fh (fY.mk p0.chans d p0.tick) a c), rfl, rfl, rfl, rfl, ⟨rfl, Rb0 Z⟩, rfl⟩, rfl⟩, ?_⟩
 refine Pu2<|Re1<|Re1<|?_
 have V := C.mono B
 exact Sd ⟨a, c, rfl, rfl, V, D⟩
theorem pX (p0 : ae4) (h : SV) (p1 : Int) (p2 : Result) (e : ae4) (H : r6 p0 p1 p2 = some e) (K : Kp) (G : List Ent) (i : Slr fW K (sv h) p0) :
  Fc Tryz.prog 77 #[(sv h), (Vi p1), (.agg (fe p2).toArray)] K (G) (fun v c b => ∃ (r : SV), v = (sv r) ∧ (.tok 67 6 [(sv r)]) :: G = b ∧ Slr fW c (sv r) e) := by
 refine fO Tryz.func77 rfl Tryz.ntmps77 Tryz.results77 rfl ?_
 unfold r6 at H
 refine fc<|fa<|?_
 refine ff rfl (fU (cs := (fe p2)) rfl rfl rfl (fun d => ?_))
 refine Ea Z<|fb<|fc<|fa<|Em Z<|Eq Z (ge (T := fW) i rfl rfl)<|Ea Z<|fb<|?_
 refine fz (fun f c b => ∃ (n : Int), [(0, (sv h)), (1, (Vi p1)), (5, (Vp d)), (7, (Vi n))] = f ∧ (.blk d 38 (fe p2)) :: G = b ∧ qV p0 p1 p2 n = some e) ?_ ?_
 ·refine fB ?_
  refine f8 (fun n147 f c b => ∃ (a : Int), [(0, (sv h)), (1, (Vi p1)), (5, (Vp d)), (7, (Vi a))] = f ∧ K = c ∧ (.blk d 38 (fe p2)) :: G = b ∧ lp1 (vg p0 p1 p2) n147 a = some e) BIG ?_ ?_
  ·exact Sd ⟨_, by exact R4, (p0.length : Int), rfl, rfl, rfl, H⟩
  rintro n147 _ _ _ - ⟨a, rfl, rfl, rfl, H⟩
  obtain ⟨Y, R, rfl, E, H⟩ := nr H
  unfold vg at H
  refine fc ?_
  refine fz (fun f c b => ∃ (o : Bool), [(0, (sv h)), (1, (Vi p1)), (5, (Vp d)), (7, (Vi a)), (22, (.bool o))] = f ∧ K = c ∧ (.blk d 38 (fe p2)) :: G = b ∧ qW p0 p1 a p2 R o = some e) ?_ ?_
  ·refine fa<|Em Z<|Ec Z<|Em Z<|?_
   refine Ee Z ?_ ?_
   ·intro g
    obtain ⟨g, H⟩ := It g H
    refine Vm Z<|Vm Z<|Vr (wI (a - 1)) Z<|?_
    obtain ⟨y, u, H⟩ := bnd H
    obtain ⟨_, rfl, D⟩ := Slr.at i u
    exact Vq Z (Qi (T := fW) i u Z)<|VF 0 Z<|Vl (Vi y.thread) Z (Rdc.k D rfl)<|Vm Z<|Vc Z<|Et Z<|fb<|Sd<|⟨_, by exact R5, (dcd (y.thread > p1)), rfl, rfl, rfl, H⟩
   ·intro g
    obtain ⟨g, H⟩ := If g H
    exact Ez Z<|Ez Z<|Ez Z<|Ez Z<|Ez Z<|Ez Z<|Ez Z<|Ez Z<|Ef Z<|fb<|Sd<|⟨_, by exact R5, false, rfl, rfl, rfl, H⟩
  rintro _ _ _ - ⟨o, rfl, rfl, rfl, H⟩
  unfold qW at H
  refine fm rfl ?_ ?_
  ·intro j
   have H := ift j H
   exact ft<|fB<|fa<|Em Z<|Er (wI (a - 1)) Z<|Ea Z<|fb<|Sd<|⟨_, by exact R4, _, Nat.lt_succ_self _, (wI (a - 1)), rfl, rfl, rfl, (E ▸ H)⟩
  ·intro j
   have H := f0 (btf j) H
   exact ga<|Sd<|⟨_, by exact R4, a, rfl, rfl, H⟩
 rintro _ S _ A ⟨n, rfl, rfl, H⟩
 unfold qV at H
 refine fc<|fa<|Em Z<|Em Z<|?_
 obtain ⟨ad, w, H⟩ := bnd H
 have m := i.mono A
 have F := Slr.cut m w
 refine Eq Z (sG (T := fW) m w rfl rfl rfl rfl) ?_
 refine Ow.shift (Shift.nilTok1 67 6 (Sd ?_))
 obtain ⟨ae, O, H⟩ := bnd H
 refine ff rfl (f7 (T := fW) (bytes := 48) (q := 0) rfl rfl rfl (Slr.nil fW _) Mb0 rfl (SrcT.sl F) O rfl rfl rfl rfl rfl rfl rfl rfl (fun aa z B I => ⟨_, .here, ?_⟩))
 refine Ea Z<|fb<|fc<|?_
 obtain ⟨af, P, H⟩ := bnd H
 obtain ⟨ag, x, H⟩ := bnd H
 obtain ⟨ah, Q, H⟩ := bnd H
 refine fq _ rfl (Ic Mb1 In0)<|Jm 0 Z<|Jm 1 Z<|JL 2 5 (fe p2) Z (Rb0 Z)<|Jq 3 Z (fF (cs := (fM (Done.mk p1 p2))) rfl rfl rfl rfl rfl rfl)<|Jm 6 Z<|Jm 7 Z<|?_
 have t := m.mono B
 have J := Slr.cutL t x
 refine Jq 8 Z (lw (T := fW) t x rfl rfl rfl rfl rfl) ?_
 refine Ao 4 Z ?_
 have s : RowR fW z [(fM (Done.mk p1 p2))] [(Done.mk p1 p2)] := RowR.cons rfl (RowR.nil)
 refine gg (T := fW) (rows := [(fM (Done.mk p1 p2))]) (l := [(Done.mk p1 p2)]) rfl rfl rfl s rfl rfl rfl rfl rfl rfl rfl rfl (fun ab => ⟨(Ic Mb2 In0), ?_⟩)
 refine Ao 5 Z ?_
 refine f7 (T := fW) (bytes := 48) (q := 0) rfl rfl rfl I Mb1 rfl (SrcT.row Mb0 s rfl) P rfl rfl rfl rfl rfl rfl rfl rfl (fun ac U C L => ⟨_, (.there .here), ⟨(Ic Mb2 In0), ?_⟩⟩)
 refine Aw.shift (Re0 (Sd ⟨(Ic Mb1 In0), ?_⟩))
 refine Ao 9 Z ?_
 have M := J.mono C
 refine f7 (T := fW) (bytes := 48) (q := 0) rfl rfl rfl L Mb0 rfl (SrcT.sl M) Q rfl rfl rfl rfl rfl rfl rfl rfl (fun p V X N => ⟨_, .here, ⟨(Ic Mb1 In0), ?_⟩⟩)
 refine Ja 10 Z<|Ad<|fy<|?_
 obtain W := gm H
 subst e
 refine ⟨(.inl rfl), [(sv p)], ⟨(sv p), _, rfl, rfl, rfl⟩, ?_⟩
 exact Re1<|Sd<|⟨p, rfl, rfl, N⟩
theorem BS (p0 : fY) (b : SV) (g : SV) (p1 : Int) (p2 : Op) (C : SV) (D : SV) (h : fY) (q : ae4) (H : qY p0 p1 p2 = some (h, q)) (K : Kp) (G : List Ent) (I : Slr fG K (sv b) p0.chans) (aK : Slr fQ K (sv g) p0.waiting) (b4 : Slr fV K (sv C) p2.cases) (b5 : Slr Ty.i64 K (sv D) p2.draws) :
  Fc Tryz.prog 41 #[(.agg (fh p0 b g).toArray), (Vi p1), (.agg (fj p2 C D).toArray)] K (G) (fun v a c => ∃ (aX : SV) (aY : SV) (aA : SV), v = (.tuple #[(.agg (fh h aX aY).toArray), (sv aA)]) ∧ (.tok 67 6 [(sv aA)]) :: G = c ∧ Slr fG a (sv aX) h.chans ∧ Slr fQ a (sv aY) h.waiting ∧ Slr fW a (sv aA) q) := by
 refine fO Tryz.func41 rfl Tryz.ntmps41 Tryz.results41 rfl ?_
 unfold qY at H
 refine fc<|fa<|?_
 refine ff rfl (fU (cs := (fh p0 b g)) rfl rfl rfl (fun d => ?_))
 refine ff rfl (fU (cs := (fj p2 C D)) rfl rfl rfl (fun j => ?_))
 refine ff rfl (fC (cs := (fh (fY.mk [] [] 0) fA fA)) rfl rfl rfl rfl (fun e => ?_))
 refine Ea Z<|fb<|fc<|?_
 refine fz (fun i a c => ∃ (aw : Bool), [(1, (Vi p1)), (3, (Vp d)), (5, (Vp j)), (6, (Vp e)), (34, (.bool aw))] = i ∧ K = a ∧ (.blk e 60 (fh (fY.mk [] [] 0) fA fA)) :: (.blk j 51 (fj p2 C D)) :: (.blk d 60 (fh p0 b g)) :: G = c ∧ nZ p1 p2 p0 aw = some (h, q)) ?_ ?_
 ·refine fa<|EF 2 Z<|El (Vi p2.channel) Z (Rb1 Z)<|Ec Z<|Em Z<|?_
  refine Ee Z ?_ ?_
  ·intro X
   obtain ⟨X, H⟩ := It X H
   exact Ez Z<|Ez Z<|Ez Z<|Ez Z<|Ez Z<|Ez Z<|Et Z<|Em Z<|Ez Z<|Ez Z<|Ez Z<|Ez Z<|Ez Z<|Ez Z<|Ez Z<|Et Z<|fb<|Pu2<|Pu2<|Pu2<|Sd<|⟨_, by exact R5, true, rfl, rfl, rfl, H⟩
  ·intro X
   obtain ⟨X, H⟩ := If X H
   refine VF 2 Z<|Vl (Vi p2.channel) Z (Rb1 Z)<|VF 0 Z<|Vl (sv b) Z (Rb2 Z)<|Vq Z (ge (T := fG) I rfl rfl)<|Vc Z<|Ef Z<|Em Z<|?_
   refine Ee Z ?_ ?_
   ·intro Y
    obtain ⟨Y, H⟩ := It Y H
    exact Ez Z<|Ez Z<|Ez Z<|Ez Z<|Ez Z<|Ez Z<|Ez Z<|Et Z<|fb<|Pu2<|Pu2<|Pu2<|Sd<|⟨_, by exact R5, true, rfl, rfl, rfl, H⟩
   ·intro Y
    obtain ⟨Y, H⟩ := If Y H
    refine VF 0 Z<|Vl (sv b) Z (Rb2 Z)<|VF 2 Z<|Vl (Vi p2.channel) Z (Rb1 Z)<|?_
    obtain ⟨a1, aR, H⟩ := bnd H
    obtain ⟨ca, bb, a7⟩ := Slr.at I aR
    obtain ⟨cd, rfl, b6⟩ := bb
    exact Vq Z (Qi (T := fG) I aR Z)<|VF 2 Z<|Vl (.bool a1.closed) Z (Rdc.k a7 rfl)<|Ef Z<|fb<|Pu2<|Pu2<|Pu2<|Sd<|⟨_, by exact R5, a1.closed, rfl, rfl, rfl, H⟩
 rintro _ _ _ - ⟨aw, rfl, rfl, rfl, H⟩
 unfold nZ at H
 refine fm rfl ?_ ?_
 ·intro ap
  have H := ift ap H
  refine fc<|fa<|EL 3 (fh p0 b g) Z (Rb2 Z)<|Em Z<|Eq Z (fF (cs := (fe (Result.mk 5 (-1) 0 false 0))) rfl rfl rfl rfl rfl rfl)<|Eq Z (fF (cs := (fM (Done.mk p1 (Result.mk 5 (-1) 0 false 0)))) rfl rfl rfl rfl rfl rfl)<|?_
  have aH : RowR fW K [(fM (Done.mk p1 (Result.mk 5 (-1) 0 false 0)))] [(Done.mk p1 (Result.mk 5 (-1) 0 false 0))] := RowR.cons rfl (RowR.nil)
  refine ff rfl (gg (T := fW) (rows := [(fM (Done.mk p1 (Result.mk 5 (-1) 0 false 0)))]) (l := [(Done.mk p1 (Result.mk 5 (-1) 0 false 0))]) rfl rfl rfl aH rfl rfl rfl rfl rfl rfl rfl rfl (fun az => ?_))
  refine ff rfl (Sa (fh p0 b g) Z (.there .here) Z ?_)
  refine Ea Z<|fb<|fy<|?_
  obtain ⟨a3, a4⟩ := hX H
  subst h q
  refine ⟨(.inl rfl), [(.agg (fh p0 b g).toArray), (sv az)], ⟨(.agg (fh p0 b g).toArray), _, rfl, ⟨_, 3, (fh p0 b g), rfl, rfl, rfl, rfl, ⟨rfl, Rb1 Z⟩, rfl⟩, ⟨(sv az), _, rfl, rfl, rfl⟩⟩, ?_⟩
  refine Shift.settle (T := fW) .here aH rfl ?_
  intro bV aE bt
  refine Re1<|Re1<|Re1<|?_
  have bu := I.mono aE
  have bv := aK.mono aE
  exact Sd ⟨b, g, az, rfl, rfl, bu, bv, bt⟩
 ·intro ap
  have H := f0 (btf ap) H
  refine ft<|fc<|fa<|EF 0 Z<|El (sv b) Z (Rb2 Z)<|EF 2 Z<|El (Vi p2.channel) Z (Rb1 Z)<|?_
  obtain ⟨F, aS, H⟩ := bnd H
  obtain ⟨cb, bc, a8⟩ := Slr.at I aS
  obtain ⟨ah, rfl, bw⟩ := bc
  refine Eq Z (Qi (T := fG) I aS Z)<|EL 3 (fx F ah) Z (Rdc.k a8 rfl)<|?_
  refine ff rfl (fC (cs := (fx (fL.mk 0 [] false) fA)) rfl rfl rfl rfl (fun bZ => ?_))
  refine ff rfl (Sa (fx F ah) Z .here Z ?_)
  refine fb<|fc<|fa<|EF 2 Z<|?_
  refine ff rfl (So [(.bool true)] (fx (fL.mk F.capacity F.buffer true) ah) Z .here Z ?_)
  refine fb<|fc<|fa<|EL 3 (fh p0 b g) Z (Rb3 Z)<|EF 2 Z<|El (Vi p2.channel) Z (Rb2 Z)<|EL 3 (fx (fL.mk F.capacity F.buffer true) ah) Z (Rb0 Z)<|?_
  obtain ⟨ak, bM, H⟩ := bnd H
  refine ff rfl (Ek Tryz.call73 Z (m9 p0 b g p2.channel (fL.mk F.capacity F.buffer true) ah ak bM _ _ I aK bw) ?_)
  rintro _ _ _ - ⟨aV, cc, aW, rfl, rfl, rfl, bx, bz⟩
  refine ff rfl (Sa (fh ak aV aW) Z (.there (.there (.there (.there .here)))) Z ?_)
  refine fb<|fc<|fa<|Em Z<|Eq Z (fF (cs := (fe (Result.mk 6 (-1) 0 false 0))) rfl rfl rfl rfl rfl rfl)<|Eq Z (fF (cs := (fM (Done.mk p1 (Result.mk 6 (-1) 0 false 0)))) rfl rfl rfl rfl rfl rfl)<|?_
  have aI : RowR fW K [(fM (Done.mk p1 (Result.mk 6 (-1) 0 false 0)))] [(Done.mk p1 (Result.mk 6 (-1) 0 false 0))] := RowR.cons rfl (RowR.nil)
  refine ff rfl (gg (T := fW) (rows := [(fM (Done.mk p1 (Result.mk 6 (-1) 0 false 0)))]) (l := [(Done.mk p1 (Result.mk 6 (-1) 0 false 0))]) rfl rfl rfl aI rfl rfl rfl rfl rfl rfl rfl rfl (fun bP => ?_))
  refine Ea Z<|fb<|?_
  refine fz (fun i a c => ∃ (N : SV) (av : ae4) (x : SV) (t : ad0) (y : SV) (u : af0) (A : Int), [(3, (Vp d)), (6, (Vp e)), (9, (sv N))] = i ∧ (.blk e 60 (fh (fY.mk [] [] 0) fA fA)) :: (.blk d 60 (fh (fY.mk t u A) x y)) :: (.tok 67 6 [(sv N)]) :: G = c ∧ qX av t u A = some (h, q) ∧ Slr fW a (sv N) av ∧ Slr fG a (sv x) t ∧ Slr fQ a (sv y) u) ?_ ?_
  ·refine fc<|fa<|Ea Z<|fb<|fB<|?_
   refine f8 (fun aU i a c => ∃ (R : SV) (af : ae4) (f : Int) (ai : SV) (P : ad0) (aj : SV) (Q : af0) (ac : Int), [(3, (Vp d)), (5, (Vp j)), (6, (Vp e)), (9, (sv R)), (10, (Vi f))] = i ∧ (.blk e 60 (fh (fY.mk [] [] 0) fA fA)) :: (.blk j 51 (fj p2 C D)) :: (.blk d 60 (fh (fY.mk P Q ac) ai aj)) :: (.tok 67 6 [(sv R)]) :: G = c ∧ lp5 (r7 p2) aU af f P Q ac = some (h, q) ∧ Slr fW a (sv R) af ∧ Slr fG a (sv ai) P ∧ Slr fQ a (sv aj) Q) BIG ?_ ?_
   ·refine Shift.settle (T := fW) .here aI rfl ?_
    intro bW aF bD
    have bF := bx.mono aF
    refine Shift.settle (T := fG) (.there .here) bF rfl ?_
    intro bX aG bE
    refine Pu5<|Pu5<|Pu5<|Re4<|Re4<|?_
    have bG := bD.mono aG
    have bH := (bz.mono aF).mono aG
    exact Sd ⟨_, by exact R5, bP, [(Done.mk p1 (Result.mk 6 (-1) 0 false 0))], 0, aV, ak.chans, aW, ak.waiting, ak.tick, rfl, rfl, H, bG, bE, bH⟩
   rintro aU _ bY _ b3 ⟨R, af, f, ai, P, aj, Q, ac, rfl, rfl, H, aN, aO, aP⟩
   obtain ⟨b8, au, rfl, a9, H⟩ := D4 H
   unfold r7 at H
   refine fc<|fc<|fa<|Em Z<|Ec Z<|fb<|?_
   refine fm rfl ?_ ?_
   ·intro aa
    obtain ⟨aa, H⟩ := It aa H
    refine ft ?_
    refine fz (fun i a c => ∃ (ag : SV) (am : ae4) (an : SV) (ad : ad0) (ao : SV) (ae : af0) (al : Int), [(3, (Vp d)), (5, (Vp j)), (6, (Vp e)), (9, (sv ag)), (10, (Vi f))] = i ∧ (.blk e 60 (fh (fY.mk [] [] 0) fA fA)) :: (.blk j 51 (fj p2 C D)) :: (.blk d 60 (fh (fY.mk ad ae al) an ao)) :: (.tok 67 6 [(sv ag)]) :: G = c ∧ vh f p2 au am ad ae al = some (h, q) ∧ Slr fW a (sv ag) am ∧ Slr fG a (sv an) ad ∧ Slr fQ a (sv ao) ae) ?_ ?_
    ·refine fB<|fc<|fa<|Ea Z<|fb<|fB<|?_
     refine f8 (fun aT i a c => ∃ (w : SV) (J : ae4) (r : Int) (B : SV) (m : ad0) (o : SV) (n : af0) (s : Int), [(3, (Vp d)), (5, (Vp j)), (6, (Vp e)), (9, (sv w)), (10, (Vi f)), (11, (Vi r))] = i ∧ (.blk e 60 (fh (fY.mk [] [] 0) fA fA)) :: (.blk j 51 (fj p2 C D)) :: (.blk d 60 (fh (fY.mk m n s) B o)) :: (.tok 67 6 [(sv w)]) :: G = c ∧ lp5 (nY f p2 au) aT J r m n s = some (h, q) ∧ Slr fW a (sv w) J ∧ Slr fG a (sv B) m ∧ Slr fQ a (sv o) n) BIG ?_ ?_
     ·exact Pu3<|Pu3<|Pu3<|Pu3<|Sd<|⟨_, by exact R6, R, af, 0, ai, P, aj, Q, ac, rfl, rfl, H, aN, aO, aP⟩
     rintro aT _ bQ _ b0 ⟨w, J, r, B, m, o, n, s, rfl, rfl, H, aq, ar, O⟩
     obtain ⟨b7, bN, rfl, aJ, H⟩ := D4 H
     unfold nY at H
     refine fc<|fc<|fa<|Em Z<|EF 1 Z<|El (sv o) Z (Rb2 Z)<|Eq Z (ge (T := fQ) O rfl rfl)<|Ec Z<|fb<|?_
     refine fm rfl ?_ ?_
     ·intro U
      obtain ⟨U, H⟩ := It U H
      refine ft<|fB<|fc<|fa<|EF 1 Z<|El (sv o) Z (Rb2 Z)<|Em Z<|?_
      obtain ⟨p, aQ, H⟩ := bnd H
      obtain ⟨b9, ba, a6⟩ := Slr.at O aQ
      obtain ⟨L, M, rfl, aL, aM⟩ := ba
      refine Eq Z (Qi (T := fQ) O aQ Z)<|EL 8 (gp p L M) Z (Rdc.k a6 rfl)<|?_
      refine ff rfl (fC (cs := (gp (gB.mk 0 (Op.mk 0 0 0 0 0 [] [])) fA fA)) rfl rfl rfl rfl (fun aB => ?_))
      refine ff rfl (Sa (gp p L M) Z .here Z ?_)
      refine fb<|fc<|fa<|EF 1 Z<|EL 7 (fj p.op L M) Z (Rb0 Z)<|EF 2 Z<|El (Vi p2.channel) Z (Rb2 Z)<|Em Z<|Ec Z<|?_
      obtain ⟨aZ, bI, H⟩ := bnd H
      refine ff rfl (Ek Tryz.call74 Z (pW p.op L M p2.channel (dcd (f = 1)) aZ bI _ _ aL aM) ?_)
      rintro _ a2 _ z ⟨rfl, rfl⟩
      refine Ea Z<|fb<|fc<|fc<|fa<|Em Z<|Ec Z<|fb<|?_
      refine fm rfl ?_ ?_
      ·intro V
       obtain ⟨V, H⟩ := It V H
       refine fc<|fa<|Em Z<|Er (wI (r + 1)) Z<|Ea Z<|fb<|ga<|Pu4<|Pu4<|Pu4<|Pu4<|Re4<|?_
       have bg := aq.mono z
       have bh := ar.mono z
       have bi := O.mono z
       exact Sd ⟨_, by exact R6, _, Nat.lt_succ_self _, w, J, (wI (r + 1)), B, m, o, n, s, rfl, rfl, (aJ ▸ H), bg, bh, bi⟩
      ·intro V
       obtain ⟨V, H⟩ := If V H
       refine ft<|fc<|fa<|EF 1 Z<|EL 7 (fj p.op L M) Z (Rb0 Z)<|Em Z<|?_
       obtain ⟨E, bJ, H⟩ := bnd H
       have bj := aL.mono z
       have bk := aM.mono z
       refine ff rfl (Ek Tryz.call75 Z (na p.op L M aZ E bJ _ _ bj bk) ?_)
       rintro _ _ _ - ⟨rfl, rfl, rfl⟩
       refine Eq Z (fF (cs := (fe (Result.mk 2 E 0 false 0))) rfl rfl rfl rfl rfl rfl) ?_
       refine ff rfl (fC (cs := (fe (Result.mk 0 0 0 false 0))) rfl rfl rfl rfl (fun aC => ?_))
       refine ff rfl (Sa (fe (Result.mk 2 E 0 false 0)) Z .here Z ?_)
       refine fb ?_
       refine fz (fun i a c => ∃ (ab : Int), [(3, (Vp d)), (5, (Vp j)), (6, (Vp e)), (9, (sv w)), (10, (Vi f)), (11, (Vi r)), (12, (Vp aB)), (14, (Vp aC))] = i ∧ a2 = a ∧ (.blk aC 38 (fe (Result.mk ab E 0 false 0))) :: (.blk aB 96 (gp p L M)) :: (.blk e 60 (fh (fY.mk [] [] 0) fA fA)) :: (.blk j 51 (fj p2 C D)) :: (.blk d 60 (fh (fY.mk m n s) B o)) :: (.tok 67 6 [(sv w)]) :: G = c ∧ nX J f r E p p2 m n s au bN ab = some (h, q)) ?_ ?_
       ·refine fc<|fa<|Em Z<|Ec Z<|fb<|?_
        refine fm rfl ?_ ?_
        ·intro W
         obtain ⟨W, H⟩ := It W H
         refine fa<|EF 0 Z<|?_
         refine ff rfl (So [(Vi 5)] (fe (Result.mk 5 E 0 false 0)) Z .here Z ?_)
         exact fb<|Pu5<|Pu5<|Pu5<|Pu5<|Pu5<|Pu5<|Sd<|⟨_, by exact R8, 5, rfl, rfl, rfl, H⟩
        ·intro W
         obtain ⟨W, H⟩ := If W H
         exact ft<|Pu5<|Pu5<|Pu5<|Pu5<|Pu5<|Pu5<|Sd<|⟨_, by exact R8, 2, rfl, rfl, rfl, H⟩
       rintro _ _ _ - ⟨ab, rfl, rfl, rfl, H⟩
       unfold nX at H
       refine fc<|fa<|EL 3 (fh (fY.mk m n s) B o) Z (Rb4 Z)<|Em Z<|?_
       obtain ⟨S, bK, H⟩ := bnd H
       have bl := ar.mono z
       have bm := O.mono z
       refine ff rfl (Ek Tryz.call76 Z (wk (fY.mk m n s) B o r S bK _ _ bl bm) ?_)
       rintro _ bR _ a5 ⟨ax, ay, rfl, rfl, bn, bo⟩
       refine ff rfl (jM (vs := (fh S ax ay)) (all' := (fh S ax ay)) rfl rfl rfl rfl rfl (.there (.there (.there (.there (.there .here))))) rfl rfl rfl ?_)
       refine fb<|fa<|Em Z<|EF 0 Z<|El (Vi p.thread) Z (Rb2 Z)<|EL 5 (fe (Result.mk ab E 0 false 0)) Z (Rb1 Z)<|?_
       obtain ⟨a0, bL, H⟩ := bnd H
       have bp := (aq.mono z).mono a5
       refine ff rfl (Ek Tryz.call77 Z (pX J w p.thread (Result.mk ab E 0 false 0) a0 bL _ _ bp) ?_)
       rintro _ bS _ aD ⟨bO, rfl, rfl, bq⟩
       refine Ea Z<|fb<|Pu6<|Pu6<|Pu6<|Re4<|Re4<|Re4<|Re4<|?_
       have br := bn.mono aD
       have bs := bo.mono aD
       exact Sd ⟨_, by exact R6, _, Nat.lt_succ_self _, bO, a0, r, ax, S.chans, ay, S.waiting, S.tick, rfl, rfl, (aJ ▸ H), bq, br, bs⟩
     ·intro U
      obtain ⟨U, H⟩ := If U H
      exact ga<|Pu3<|Pu3<|Pu3<|Pu3<|Sd<|⟨_, by exact R5, w, J, B, m, o, n, s, rfl, rfl, H, aq, ar, O⟩
    rintro _ bT _ b1 ⟨ag, am, an, ad, ao, ae, al, rfl, rfl, H, bd, be, bf⟩
    unfold vh at H
    exact fa<|Em Z<|Er (wI (f + 1)) Z<|Ea Z<|fb<|Pu3<|Pu3<|Pu3<|Pu3<|Sd<|⟨_, by exact R5, _, Nat.lt_succ_self _, ag, am, (wI (f + 1)), an, ad, ao, ae, al, rfl, rfl, (a9 ▸ H), bd, be, bf⟩
   ·intro aa
    obtain ⟨aa, H⟩ := If aa H
    exact ga<|Pu3<|Pu3<|Pu2<|Re3<|Sd<|⟨_, by exact R3, R, af, ai, P, aj, Q, ac, rfl, rfl, H, aN, aO, aP⟩
  rintro _ bU _ b2 ⟨N, av, x, t, y, u, A, rfl, rfl, H, bA, bB, bC⟩
  unfold qX at H
  refine fc<|fa<|EL 3 (fh (fY.mk t u A) x y) Z (Rb1 Z)<|Em Z<|?_
  refine ff rfl (Sa (fh (fY.mk t u A) x y) Z .here Z ?_)
  refine Ea Z<|fb<|fy<|?_
  obtain ⟨a3, a4⟩ := hX H
  subst h q
  refine ⟨(.inl rfl), [(.agg (fh (fY.mk t u A) x y).toArray), (sv N)], ⟨(.agg (fh (fY.mk t u A) x y).toArray), _, rfl, ⟨_, 3, (fh (fY.mk t u A) x y), rfl, rfl, rfl, rfl, ⟨rfl, Rb0 Z⟩, rfl⟩, ⟨(sv N), _, rfl, rfl, rfl⟩⟩, ?_⟩
  exact Pu2<|Re1<|Re1<|Sd<|⟨x, y, N, rfl, rfl, bB, bC, bA⟩
theorem xm (p0 : fY) (i : SV) (a : SV) (p1 : Int) (p2 : Case) (f : Int) (H : oa p0 p1 p2 = some f) (K : Kp) (G : List Ent) (M : Slr fG K (sv i) p0.chans) (N : Slr fQ K (sv a) p0.waiting) :
  Fc Tryz.prog 80 #[(.agg (fh p0 i a).toArray), (Vi p1), (.agg (fk p2).toArray)] K (G) (fun v m b => v = (Vi f) ∧ G = b) := by
 refine fO Tryz.func80 rfl Tryz.ntmps80 Tryz.results80 rfl ?_
 unfold oa at H
 refine fc<|fa<|?_
 refine ff rfl (fU (cs := (fh p0 i a)) rfl rfl rfl (fun j => ?_))
 refine ff rfl (fU (cs := (fk p2)) rfl rfl rfl (fun l => ?_))
 refine Ea Z<|fb<|fc<|?_
 refine fz (fun g m b => ∃ (s : Bool), [(1, (Vi p1)), (3, (Vp j)), (5, (Vp l)), (18, (.bool s))] = g ∧ K = m ∧ (.blk l 108 (fk p2)) :: (.blk j 60 (fh p0 i a)) :: G = b ∧ q9 p1 p2 p0 s = some f) ?_ ?_
 ·refine fa<|EF 1 Z<|El (Vi p2.channel) Z (Rb0 Z)<|Ec Z<|Em Z<|?_
  refine Ee Z ?_ ?_
  ·intro n
   obtain ⟨n, H⟩ := It n H
   exact Ez Z<|Ez Z<|Ez Z<|Ez Z<|Ez Z<|Ez Z<|Et Z<|fb<|Pu1<|Pu1<|Sd<|⟨_, by exact R4, true, rfl, rfl, rfl, H⟩
  ·intro n
   obtain ⟨n, H⟩ := If n H
   exact VF 1 Z<|Vl (Vi p2.channel) Z (Rb0 Z)<|VF 0 Z<|Vl (sv i) Z (Rb1 Z)<|Vq Z (ge (T := fG) M rfl rfl)<|Vc Z<|Ef Z<|fb<|Pu1<|Pu1<|Sd<|⟨_, by exact R4, (dcd (p2.channel ≥ (p0.chans.length : Int))), rfl, rfl, rfl, H⟩
 rintro _ _ _ - ⟨s, rfl, rfl, rfl, H⟩
 unfold q9 at H
 refine fm rfl ?_ ?_
 ·intro q
  have H := ift q H
  refine fc<|fa<|Ea Z<|fb<|fy<|?_
  obtain w := gm H
  subst f
  refine ⟨(.inl rfl), [(Vi (-1))], ⟨(Vi (-1)), _, rfl, rfl, rfl⟩, ?_⟩
  exact Re0<|Re0<|Sd<|⟨rfl, rfl⟩
 ·intro q
  have H := f0 (btf q) H
  refine ft ?_
  refine fz (fun g m b => [] = g ∧ G = b ∧ yI = some f) ?_ ?_
  ·refine fc<|fa<|Ea Z<|fb<|fB<|?_
   refine f8 (fun z g m b => ∃ (e : Int), [(1, (Vi p1)), (3, (Vp j)), (5, (Vp l)), (7, (Vi e))] = g ∧ (.blk l 108 (fk p2)) :: (.blk j 60 (fh p0 i a)) :: G = b ∧ lp1 (q8 p1 p2 p0) z e = some f) BIG ?_ ?_
   ·exact Pu1<|Pu1<|Sd<|⟨_, by exact R4, 0, rfl, rfl, H⟩
   rintro z _ W _ E ⟨e, rfl, rfl, H⟩
   obtain ⟨ai, V, rfl, L, H⟩ := nr H
   unfold q8 at H
   refine fc<|fc<|fa<|Em Z<|EF 1 Z<|El (sv a) Z (Rb1 Z)<|?_
   have h := N.mono E
   refine Eq Z (ge (T := fQ) h rfl rfl)<|Ec Z<|fb<|?_
   refine fm rfl ?_ ?_
   ·intro o
    obtain ⟨o, H⟩ := It o H
    refine ft<|fc<|fB<|?_
    refine fz (fun g m b => ∃ (t : Bool), [(1, (Vi p1)), (3, (Vp j)), (5, (Vp l)), (7, (Vi e)), (48, (.bool t))] = g ∧ (.blk l 108 (fk p2)) :: (.blk j 60 (fh p0 i a)) :: G = b ∧ q7 p1 e p2 p0 V t = some f) ?_ ?_
    ·obtain ⟨u, p, H⟩ := bnd H
     rcases gQ (!(dcd (u.thread = p1))) with x | x <;> revert x
     ·intro c
      have c := ky (ir (c))
      have H := f0 c H
      obtain ⟨C, y, H⟩ := bnd H
      obtain ⟨D, U, H⟩ := bnd H
      refine fq _ rfl (Ic Mb0 (Ic Mb1 In0))<|JF 0 1 Z<|Jl 1 (sv a) Z (Rb1 Z)<|Jm 2 Z<|?_
      obtain ⟨aj, O, F⟩ := Slr.at h p
      obtain ⟨am, an, rfl, ae, af⟩ := O
      refine Jq 3 Z (Qi (T := fQ) h p Z)<|JF 4 0 Z<|Jl 5 (Vi u.thread) Z (Rdc.k F rfl)<|Jm 6 Z<|Jc 7 Z<|Jm 8 Z<|Aw.known (d := 34) rfl (kp (io c))<|BF 9 1 Z<|Bl 10 (sv a) Z (Rb1 Z)<|Bm 11 Z<|?_
      obtain ⟨ak, P, I⟩ := Slr.at h y
      obtain ⟨A, B, rfl, R, S⟩ := P
      refine Bq 12 Z (Qi (T := fQ) h y Z)<|BF 13 1 Z<|BL 14 7 (fj C.op A B) Z (Rdc.k I rfl)<|BF 15 1 Z<|Bl 16 (Vi p2.channel) Z (Rb0 Z)<|BF 17 0 Z<|Bl 18 (.bool p2.send) Z (Rb0 Z)<|Bq 19 Z (gd rfl)<|?_
      refine gx 20 (by kernel_rfl) (jK rfl rfl rfl rfl rfl ?_)
      refine Ek Tryz.call74 Z (pW C.op A B p2.channel (!(p2.send)) D U _ _ R S) ?_
      rintro _ X _ ab ⟨rfl, rfl⟩
      refine ⟨(Ic Mb0 (Ic Mb1 In0)), ?_⟩
      exact Bc 21 Z<|Jt 22 Z<|Ad<|Pu1<|Pu1<|Sd<|⟨_, by exact R5, (dcd (D ≥ 0)), rfl, rfl, H⟩
     ·intro c
      have c := kz (iq (c))
      have H := ift c H
      refine fq _ rfl (Ic Mb0 (Ic Mb1 In0))<|JF 0 1 Z<|Jl 1 (sv a) Z (Rb1 Z)<|Jm 2 Z<|?_
      obtain ⟨al, Q, J⟩ := Slr.at h p
      obtain ⟨ao, ap, rfl, ag, ah⟩ := Q
      refine Jq 3 Z (Qi (T := fQ) h p Z)<|JF 4 0 Z<|Jl 5 (Vi u.thread) Z (Rdc.k J rfl)<|Jm 6 Z<|Jc 7 Z<|Jm 8 Z<|Aw.known (d := 34) rfl (kB (hZ c))<|Jz 9 Z<|Jz 10 Z<|Jz 11 Z<|Jz 12 Z<|Jz 13 Z<|Jz 14 Z<|Jz 15 Z<|Jz 16 Z<|Jz 17 Z<|Jz 18 Z<|Jz 19 Z<|Jz 20 Z<|Jz 21 Z<|Jf 22 Z<|Ad<|?_
      exact Pu1<|Pu1<|Sd<|⟨_, by exact R5, false, rfl, rfl, H⟩
    rintro _ Y _ ac ⟨t, rfl, rfl, H⟩
    unfold q7 at H
    refine fm rfl ?_ ?_
    ·intro r
     have H := ift r H
     refine fc<|fa<|Em Z<|Ea Z<|fb<|fy<|?_
     obtain w := gm H
     subst f
     refine ⟨(.inl rfl), [(Vi e)], ⟨(Vi e), _, rfl, rfl, rfl⟩, ?_⟩
     exact Re0<|Re0<|Sd<|⟨rfl, rfl⟩
    ·intro r
     have H := f0 (btf r) H
     exact ft<|fa<|Em Z<|Er (wI (e + 1)) Z<|Ea Z<|fb<|Pu1<|Pu1<|Sd<|⟨_, by exact R4, _, Nat.lt_succ_self _, (wI (e + 1)), rfl, rfl, (L ▸ H)⟩
   ·intro o
    obtain ⟨o, H⟩ := If o H
    exact ga<|Re0<|Re0<|Sd<|⟨[], trivial, rfl, rfl, H⟩
  rintro _ aa _ ad ⟨rfl, rfl, H⟩
  unfold yI at H
  refine fc<|fa<|Ea Z<|fb<|fy<|?_
  obtain w := gm H
  subst f
  refine ⟨(.inl rfl), [(Vi (-1))], ⟨(Vi (-1)), _, rfl, rfl, rfl⟩, ?_⟩
  exact Sd ⟨rfl, rfl⟩
theorem xp (p0 : fY) (a : SV) (b : SV) (p1 : Int) (p2 : Case) (c : Bool) (H : ob p0 p1 p2 = some c) (K : Kp) (G : List Ent) (f : Slr fG K (sv a) p0.chans) (i : Slr fQ K (sv b) p0.waiting) :
  Fc Tryz.prog 43 #[(.agg (fh p0 a b).toArray), (Vi p1), (.agg (fk p2).toArray)] K (G) (fun v l g => v = (.bool c) ∧ G = g) := by
 refine fO Tryz.func43 rfl Tryz.ntmps43 Tryz.results43 rfl ?_
 unfold ob at H
 refine fc<|fa<|?_
 refine ff rfl (fU (cs := (fh p0 a b)) rfl rfl rfl (fun n => ?_))
 refine ff rfl (fU (cs := (fk p2)) rfl rfl rfl (fun o => ?_))
 refine Ea Z<|fb<|fc<|fa<|EF 0 Z<|El (sv a) Z (Rb1 Z)<|EL 3 (fk p2) Z (Rb0 Z)<|?_
 obtain ⟨x19, j, H⟩ := bnd H
 refine ff rfl (Ek Tryz.call79 Z (zm p0.chans a p2 x19 j _ _ f) ?_)
 rintro _ _ _ - ⟨rfl, rfl, rfl⟩
 refine Em Z ?_
 refine Ee Z ?_ ?_
 ·intro d
  have H := ift d H
  refine Ez Z<|Ez Z<|Ez Z<|Ez Z<|Ez Z<|Et Z<|Ea Z<|fb<|fy<|?_
  obtain h := gm H
  subst c
  refine ⟨(.inl rfl), [(.bool true)], ⟨(.bool true), _, rfl, rfl, rfl⟩, ?_⟩
  exact Re0<|Re0<|Sd<|⟨rfl, rfl⟩
 ·intro d
  have H := f0 (btf d) H
  refine VL 3 (fh p0 a b) Z (Rb1 Z)<|Vm Z<|VL 3 (fk p2) Z (Rb0 Z)<|?_
  obtain ⟨e, k, H⟩ := bnd H
  refine hY rfl rfl rfl rfl (Ek Tryz.call80 Z (xm p0 a b p1 p2 e k _ _ f i) ?_)
  rintro _ m _ p ⟨rfl, rfl⟩
  refine Vc Z<|Ef Z<|Ea Z<|fb<|fy<|?_
  obtain h := gm H
  subst c
  refine ⟨(.inl rfl), [(.bool (dcd (e ≥ 0)))], ⟨(.bool (dcd (e ≥ 0))), _, rfl, rfl, rfl⟩, ?_⟩
  exact Re0<|Re0<|Sd<|⟨rfl, rfl⟩
end Go.Hx
namespace Go.Hx
open Go Go.Proofs
set_option maxRecDepth 10000
set_option maxHeartbeats 1000000
theorem BU (p0 : ad1) (g : SV) (p1 : Int) (c : Int) (H : qZ p0 p1 = some c) (K : Kp) (G : List Ent) (d : Slr Ty.i64 K (sv g) p0) :
  Fc Tryz.prog 121 #[(sv g), (Vi p1)] K (G) (fun v i h => v = (Vi c) ∧ K = i ∧ G = h) := by
 refine fO Tryz.func121 rfl Tryz.ntmps121 Tryz.results121 rfl ?_
 unfold qZ at H
 refine fc<|fa<|Ea Z<|fb<|fc<|fc<|fa<|Em Z<|Em Z<|Eq Z (ge (T := Ty.i64) d rfl rfl)<|Ec Z<|fb<|?_
 refine fm rfl ?_ ?_
 ·intro a
  obtain ⟨a, H⟩ := It a H
  refine fc<|fa<|Ea Z<|fb<|fy<|?_
  obtain e := gm H
  subst c
  refine ⟨(.inl rfl), [(Vi 0)], ⟨(Vi 0), _, rfl, rfl, rfl⟩, ?_⟩
  exact Sd ⟨rfl, rfl, rfl⟩
 ·intro a
  obtain ⟨a, H⟩ := If a H
  refine ft<|fc<|fa<|Em Z<|Em Z<|?_
  obtain ⟨x12, f, H⟩ := bnd H
  obtain ⟨_, rfl, j⟩ := Slr.at d f
  refine Eq Z (Qi (T := Ty.i64) d f Z)<|El (Vi x12) Z (Rdc.k j rfl)<|Em Z<|Er (wI (p1 + 1)) Z<|?_
  obtain ⟨x17, l, H⟩ := bnd H
  refine Eq Z (Bg l rfl rfl)<|Ea Z<|fb<|fc<|fc<|fa<|Em Z<|Ec Z<|fb<|?_
  refine fm rfl ?_ ?_
  ·intro b
   obtain ⟨b, H⟩ := It b H
   refine fa<|Em Z<|Em Z<|Er (wI (p1 + 1)) Z<|Er (wI (x17 + (wI (p1 + 1)))) Z<|Ea Z<|fb<|fc<|fa<|Em Z<|Ea Z<|fb<|fy<|?_
   obtain e := gm H
   subst c
   refine ⟨(.inl rfl), [(Vi (wI (x17 + (wI (p1 + 1)))))], ⟨(Vi (wI (x17 + (wI (p1 + 1))))), _, rfl, rfl, rfl⟩, ?_⟩
   exact Sd ⟨rfl, rfl, rfl⟩
  ·intro b
   obtain ⟨b, H⟩ := If b H
   refine ft<|fc<|fa<|Em Z<|Ea Z<|fb<|fy<|?_
   obtain e := gm H
   subst c
   refine ⟨(.inl rfl), [(Vi x17)], ⟨(Vi x17), _, rfl, rfl, rfl⟩, ?_⟩
   exact Sd ⟨rfl, rfl, rfl⟩
theorem DT (p0 : Int) (p1 : ad1) (k : SV) (h : ad1) (H : wV p0 p1 = some h) (K : Kp) (G : List Ent) (ag : Slr Ty.i64 K (sv k) p1) :
  Fc Tryz.prog 106 #[(Vi p0), (sv k)] K (G) (fun v b c => ∃ (S : SV) (R : List (List Value)), v = (sv S) ∧ (.row (sv S) 3 1 R.flatten) :: G = c ∧ RowR Ty.i64 b R h) := by
 refine fO Tryz.func106 rfl Tryz.ntmps106 Tryz.results106 rfl ?_
 unfold wV at H
 refine fc<|fa<|Ea Z<|fb<|fc<|?_
 refine fz (fun g b c => ∃ (F : Bool), [(0, (Vi p0)), (1, (sv k)), (16, (.bool F))] = g ∧ K = b ∧ G = c ∧ qh p0 p1 F = some h) ?_ ?_
 ·refine fa<|Em Z<|Ec Z<|Em Z<|?_
  refine Ee Z ?_ ?_
  ·intro n
   obtain ⟨n, H⟩ := It n H
   exact Ez Z<|Ez Z<|Et Z<|fb<|Sd<|⟨_, by exact R3, true, rfl, rfl, rfl, H⟩
  ·intro n
   obtain ⟨n, H⟩ := If n H
   exact Vm Z<|Vc Z<|Ef Z<|fb<|Sd<|⟨_, by exact R3, (dcd (p0 > 20)), rfl, rfl, rfl, H⟩
 rintro _ _ _ - ⟨F, rfl, rfl, rfl, H⟩
 unfold qh at H
 refine fm rfl ?_ ?_
 ·intro A
  have H := ift A H
  refine fc<|fa<|Ea Z<|fb<|fy<|?_
  obtain V := gm H
  subst h
  refine ⟨(.inl rfl), [(sv fA)], ⟨(sv fA), _, rfl, rfl, rfl⟩, ?_⟩
  have X : RowR Ty.i64 K [] [] := RowR.nil
  exact Shift.nilRow 3 1<|Sd<|⟨fA, ([] : List (List Value)), rfl, rfl, X⟩
 ·intro A
  have H := f0 (btf A) H
  refine ft<|fc<|fa<|Em Z<|?_
  obtain ⟨aq, an, H⟩ := bnd H
  refine ff rfl (jv (T := Ty.i64) (r := [(Vi 0)]) rfl rfl rfl an rfl rfl rfl rfl rfl rfl rfl rfl rfl rfl (fun f ap Y ay => ?_))
  refine Ea Z<|fb<|?_
  refine fz (fun g b c => ∃ (x : ad1) (y : List (List Value)), [(0, (Vi p0)), (1, (sv k)), (5, (sv f))] = g ∧ (.row (sv f) 3 1 y.flatten) :: G = c ∧ uu p0 p1 x = some h ∧ RowR Ty.i64 b y x) ?_ ?_
  ·refine fc<|fa<|Ea Z<|fb<|fB<|?_
   refine f8 (fun n207 g b c => ∃ (m : ad1) (s : List (List Value)) (a : Int), [(0, (Vi p0)), (1, (sv k)), (5, (sv f)), (6, (Vi a))] = g ∧ K = b ∧ (.row (sv f) 3 1 s.flatten) :: G = c ∧ lp2 (uv p0 p1) n207 m a = some h ∧ RowR Ty.i64 b s m) BIG ?_ ?_
   ·exact Sd ⟨_, by exact R4, aq, ap, 0, rfl, rfl, rfl, H, Y⟩
   rintro n207 _ _ _ - ⟨m, s, a, rfl, rfl, rfl, H, q⟩
   obtain ⟨aB, az, rfl, ae, H⟩ := jF H
   unfold uv at H
   refine fc<|fc<|fa<|Em Z<|Em Z<|Ec Z<|fb<|?_
   refine fm rfl ?_ ?_
   ·intro o
    obtain ⟨o, H⟩ := It o H
    refine ft<|fc<|fB<|fa<|Em Z<|Em Z<|Em Z<|?_
    obtain ⟨aI, L, H⟩ := bnd H
    obtain ⟨aD, B, ah⟩ := RowR.at q L
    obtain rfl := ah
    refine Eq Z (gy (T := Ty.i64) Mb0 q B (fK L).1 rfl rfl rfl rfl rfl) ?_
    refine ff rfl (gV (T := Ty.i64) (vs := [(Vi a)]) (r' := [(Vi a)]) (l' := (f6 m a a)) rfl rfl rfl rfl rfl .here q B rfl rfl rfl (RowR.set a q rfl) (fun ab => ?_))
    have au := iV B (v := [(Vi a)])
    exact fb<|fa<|Em Z<|Er (wI (a + 1)) Z<|Ea Z<|fb<|Sd<|⟨_, by exact R4, _, Nat.lt_succ_self _, (f6 m a a), (s.set a.toNat [(Vi a)]), (wI (a + 1)), rfl, rfl, rfl, (ae ▸ H), ab⟩
   ·intro o
    obtain ⟨o, H⟩ := If o H
    exact ga<|Sd<|⟨_, by exact R3, m, s, rfl, rfl, H, q⟩
  rintro _ U _ W ⟨x, y, rfl, rfl, H, aa⟩
  unfold uu at H
  refine fz (fun g b c => ∃ (E : ad1) (z : List (List Value)), [(5, (sv f))] = g ∧ (.row (sv f) 3 1 z.flatten) :: G = c ∧ yH E = some h ∧ RowR Ty.i64 b z E) ?_ ?_
  ·refine fc<|fa<|Em Z<|Er (wI (p0 - 1)) Z<|Ea Z<|fb<|fB<|?_
   refine f8 (fun Q g b c => ∃ (j : ad1) (t : List (List Value)) (e : Int), [(1, (sv k)), (5, (sv f)), (7, (Vi e))] = g ∧ U = b ∧ (.row (sv f) 3 1 t.flatten) :: G = c ∧ lp2 (ut p1) Q j e = some h ∧ RowR Ty.i64 b t j) BIG ?_ ?_
   ·exact Sd ⟨_, by exact R3, x, y, (wI (p0 - 1)), rfl, rfl, rfl, H, aa⟩
   rintro Q _ _ _ - ⟨j, t, e, rfl, rfl, rfl, H, d⟩
   obtain ⟨aC, aA, rfl, af, H⟩ := jF H
   unfold ut at H
   refine fc<|fc<|fa<|Em Z<|Ec Z<|fb<|?_
   refine fm rfl ?_ ?_
   ·intro p
    obtain ⟨p, H⟩ := It p H
    refine ft<|fc<|fB<|fc<|fa<|Em Z<|Em Z<|?_
    obtain ⟨u, ao, H⟩ := bnd H
    have am := ag.mono W
    refine ff rfl (Ek Tryz.call121 Z (BU p1 k e u ao _ _ am) ?_)
    rintro _ _ _ - ⟨rfl, rfl, rfl⟩
    refine Ea Z<|fb<|fc<|?_
    obtain ⟨l, M, H⟩ := bnd H
    obtain ⟨i, N, H⟩ := bnd H
    refine fq _ rfl (Ic Mb0 In0)<|Jm 0 Z<|Jm 1 Z<|?_
    obtain ⟨aE, I, ai⟩ := RowR.at d M
    obtain rfl := ai
    refine Jq 2 Z (gy (T := Ty.i64) Mb0 d I (fK M).1 rfl rfl rfl rfl rfl)<|Jl 3 (Vi l) Z (gP (T := Ty.i64) Mb0 d I rfl rfl)<|Jm 4 Z<|Jm 5 Z<|?_
    obtain ⟨aF, J, aj⟩ := RowR.at d N
    obtain rfl := aj
    refine Jq 6 Z (gy (T := Ty.i64) Mb0 d J (fK N).1 rfl rfl rfl rfl rfl)<|Jl 7 (Vi i) Z (gP (T := Ty.i64) Mb0 d J rfl rfl)<|Ja 8 Z<|Ja 9 Z<|Ad<|fa<|Em Z<|Em Z<|Em Z<|Em Z<|Em Z<|Em Z<|?_
    obtain ⟨aJ, O, H⟩ := bnd H
    obtain ⟨aG, C, ak⟩ := RowR.at d O
    obtain rfl := ak
    refine Eq Z (gy (T := Ty.i64) Mb0 d C (fK O).1 rfl rfl rfl rfl rfl) ?_
    refine ff rfl (gV (T := Ty.i64) (vs := [(Vi i)]) (r' := [(Vi i)]) (l' := (f6 j e i)) rfl rfl rfl rfl rfl .here d C rfl rfl rfl (RowR.set e d rfl) (fun w => ?_))
    have av := iV C (v := [(Vi i)])
    obtain ⟨aK, P, H⟩ := bnd H
    obtain ⟨aH, D, al⟩ := RowR.at w P
    obtain rfl := al
    refine Eq Z (gy (T := Ty.i64) Mb0 w D (fK P).1 rfl rfl rfl rfl rfl) ?_
    refine ff rfl (gV (T := Ty.i64) (vs := [(Vi l)]) (r' := [(Vi l)]) (l' := (f6 (f6 j e i) u l)) rfl rfl rfl rfl rfl .here w D rfl rfl rfl (RowR.set u w rfl) (fun ad => ?_))
    have aw := iV D (v := [(Vi l)])
    exact fb<|fa<|Em Z<|Er (wI (e - 1)) Z<|Ea Z<|fb<|Sd<|⟨_, by exact R3, _, Nat.lt_succ_self _, (f6 (f6 j e i) u l), ((t.set e.toNat [(Vi i)]).set u.toNat [(Vi l)]), (wI (e - 1)), rfl, rfl, rfl, (af ▸ H), ad⟩
   ·intro p
    obtain ⟨p, H⟩ := If p H
    exact ga<|Sd<|⟨_, by exact R1, j, t, rfl, rfl, H, d⟩
  rintro _ ar _ ax ⟨E, z, rfl, rfl, H, ac⟩
  unfold yH at H
  refine fc<|fa<|Em Z<|Ea Z<|fb<|fy<|?_
  obtain V := gm H
  subst h
  refine ⟨(.inl rfl), [(sv f)], ⟨(sv f), _, rfl, rfl, rfl⟩, ?_⟩
  exact Sd ⟨f, z, rfl, rfl, ac⟩
end Go.Hx
namespace Go.Hx
open Go Go.Proofs
set_option maxRecDepth 10000
set_option maxHeartbeats 1000000
theorem DO (p0 : Op) (b : SV) (a : SV) (d : ad1) (H : rO p0 = some d) (K : Kp) (G : List Ent) (i : Slr fV K (sv b) p0.cases) (j : Slr Ty.i64 K (sv a) p0.draws) :
  Fc Tryz.prog 78 #[(.agg (fj p0 b a).toArray)] K (G) (fun v h g => ∃ (f : SV) (e : List (List Value)), v = (sv f) ∧ (.row (sv f) 3 1 e.flatten) :: G = g ∧ RowR Ty.i64 h e d) := by
 refine fO Tryz.func78 rfl Tryz.ntmps78 Tryz.results78 rfl ?_
 unfold rO at H
 refine fc<|fa<|?_
 refine ff rfl (fU (cs := (fj p0 b a)) rfl rfl rfl (fun o => ?_))
 refine Ea Z<|fb<|fc<|fa<|EF 5 Z<|El (sv b) Z (Rb0 Z)<|Eq Z (ge (T := fV) i rfl rfl)<|EF 6 Z<|El (sv a) Z (Rb0 Z)<|?_
 obtain ⟨x10, l, H⟩ := bnd H
 refine ff rfl (Ek Tryz.call106 Z (DT (p0.cases.length : Int) p0.draws a x10 l _ _ j) ?_)
 rintro _ n _ q ⟨c, m, rfl, rfl, k⟩
 refine Ea Z<|fb<|fy<|?_
 obtain p := gm H
 subst d
 refine ⟨(.inl rfl), [(sv c)], ⟨(sv c), _, rfl, rfl, rfl⟩, ?_⟩
 exact Re1<|Sd<|⟨c, m, rfl, rfl, k⟩
end Go.Hx
namespace Go.Hx
open Go Go.Proofs
set_option maxRecDepth 10000
set_option maxHeartbeats 1000000
theorem BV (p0 : fY) (b : SV) (c : SV) (p1 : Int) (p2 : Op) (a : SV) (d : SV) (e : Int) (H : rb p0 p1 p2 = some e) (K : Kp) (G : List Ent) (L : Slr fG K (sv b) p0.chans) (M : Slr fQ K (sv c) p0.waiting) (t : Slr fV K (sv a) p2.cases) (N : Slr Ty.i64 K (sv d) p2.draws) :
  Fc Tryz.prog 42 #[(.agg (fh p0 b c).toArray), (Vi p1), (.agg (fj p2 a d).toArray)] K (G) (fun v q f => v = (Vi e) ∧ G = f) := by
 refine fO Tryz.func42 rfl Tryz.ntmps42 Tryz.results42 rfl ?_
 unfold rb at H
 refine fc<|fa<|?_
 refine ff rfl (fU (cs := (fh p0 b c)) rfl rfl rfl (fun r => ?_))
 refine ff rfl (fU (cs := (fj p2 a d)) rfl rfl rfl (fun s => ?_))
 refine Ea Z<|fb<|fc<|fa<|EL 7 (fj p2 a d) Z (Rb0 Z)<|?_
 obtain ⟨D, V, H⟩ := bnd H
 refine ff rfl (Ek Tryz.call78 Z (DO p2 a d D V _ _ t N) ?_)
 rintro _ ad _ n ⟨B, W, rfl, rfl, Q⟩
 refine Ea Z<|fb<|?_
 refine fz (fun l q f => [] = l ∧ G = f ∧ yJ = some e) ?_ ?_
 ·refine fc<|fa<|Ea Z<|fb<|fB<|?_
  refine f8 (fun n261 l q f => ∃ (i : Int), [(1, (Vi p1)), (3, (Vp r)), (5, (Vp s)), (7, (sv B)), (8, (Vi i))] = l ∧ (.blk s 51 (fj p2 a d)) :: (.blk r 60 (fh p0 b c)) :: (.row (sv B) 3 1 W.flatten) :: G = f ∧ lp1 (ra p1 D p2 p0) n261 i = some e) BIG ?_ ?_
  ·exact Pu2<|Pu2<|Sd<|⟨_, by exact R5, 0, rfl, rfl, H⟩
  rintro n261 _ aa _ j ⟨i, rfl, rfl, H⟩
  obtain ⟨ag, af, rfl, J, H⟩ := nr H
  unfold ra at H
  refine fc<|fc<|fa<|Em Z<|Em Z<|?_
  have h := Q.mono j
  refine Eq Z (lx (T := Ty.i64) Mb2 h rfl rfl rfl)<|Ec Z<|fb<|?_
  refine fm rfl ?_ ?_
  ·intro g
   obtain ⟨g, H⟩ := It g H
   refine ft<|fc<|fB<|fc<|?_
   obtain ⟨X, y, H⟩ := bnd H
   obtain ⟨C, z, H⟩ := bnd H
   obtain ⟨Y, U, H⟩ := bnd H
   refine fq _ rfl (Ic Mb0 (Ic Mb1 (Ic Mb2 In0)))<|JL 0 3 (fh p0 b c) Z (Rb1 Z)<|Jm 1 Z<|JF 2 5 Z<|Jl 3 (sv a) Z (Rb0 Z)<|Jm 4 Z<|Jm 5 Z<|?_
   obtain ⟨ah, u, O⟩ := RowR.at h y
   obtain rfl := O
   refine Jq 6 Z (gy (T := Ty.i64) Mb2 h u (fK y).1 rfl rfl rfl rfl rfl)<|Jl 7 (Vi X) Z (gP (T := Ty.i64) Mb2 h u rfl rfl)<|?_
   have x := (t.mono n).mono j
   obtain ⟨_, rfl, I⟩ := Slr.at x z
   refine Jq 8 Z (Qi (T := fV) x z Z)<|JL 9 3 (fk C) Z (Rdc.k I rfl)<|?_
   refine Ao 10 Z ?_
   have R := (L.mono n).mono j
   have S := (M.mono n).mono j
   refine Ek Tryz.call43 Z (xp p0 b c p1 C Y U _ _ R S) ?_
   rintro _ ab _ F ⟨rfl, rfl⟩
   refine ⟨(Ic Mb0 (Ic Mb1 (Ic Mb2 In0))), ?_⟩
   refine Ad ?_
   refine fm rfl ?_ ?_
   ·intro m
    have H := ift m H
    refine fc<|fa<|Em Z<|Em Z<|?_
    obtain ⟨p, A, H⟩ := bnd H
    have o := h.mono F
    obtain ⟨ai, w, P⟩ := RowR.at o A
    obtain rfl := P
    refine Eq Z (gy (T := Ty.i64) Mb2 o w (fK A).1 rfl rfl rfl rfl rfl)<|El (Vi p) Z (gP (T := Ty.i64) Mb2 o w rfl rfl)<|Ea Z<|fb<|fy<|?_
    obtain E := gm H
    subst e
    refine ⟨(.inl rfl), [(Vi p)], ⟨(Vi p), _, rfl, rfl, rfl⟩, ?_⟩
    exact Re0<|Re0<|Re0<|Sd<|⟨rfl, rfl⟩
   ·intro m
    have H := f0 (btf m) H
    exact ft<|fa<|Em Z<|Er (wI (i + 1)) Z<|Ea Z<|fb<|Pu2<|Pu2<|Pu2<|Sd<|⟨_, by exact R5, _, Nat.lt_succ_self _, (wI (i + 1)), rfl, rfl, (J ▸ H)⟩
  ·intro g
   obtain ⟨g, H⟩ := If g H
   exact ga<|Re0<|Re0<|Re0<|Sd<|⟨[], trivial, rfl, rfl, H⟩
 rintro _ ac _ ae ⟨rfl, rfl, H⟩
 unfold yJ at H
 refine fc<|fa<|Ea Z<|fb<|fy<|?_
 obtain E := gm H
 subst e
 refine ⟨(.inl rfl), [(Vi (-1))], ⟨(Vi (-1)), _, rfl, rfl, rfl⟩, ?_⟩
 exact Sd ⟨rfl, rfl⟩
theorem lA (p0 : fY) (d : SV) (c : SV) (p1 : Int) (p2 : Op) (aA : SV) (aB : SV) (p3 : Int) (p4 : Case) (h : fY) (u : ae4) (H : rf p0 p1 p2 p3 p4 = some (h, u)) (K : Kp) (G : List Ent) (x : Slr fG K (sv d) p0.chans) (C : Slr fQ K (sv c) p0.waiting) (ch : Slr fV K (sv aA) p2.cases) (ci : Slr Ty.i64 K (sv aB) p2.draws) :
  Fc Tryz.prog 45 #[(.agg (fh p0 d c).toArray), (Vi p1), (.agg (fj p2 aA aB).toArray), (Vi p3), (.agg (fk p4).toArray)] K (G) (fun v i B => ∃ (bZ : SV) (b0 : SV) (a8 : SV), v = (.tuple #[(.agg (fh h bZ b0).toArray), (sv a8)]) ∧ (.tok 67 6 [(sv a8)]) :: G = B ∧ Slr fG i (sv bZ) h.chans ∧ Slr fQ i (sv b0) h.waiting ∧ Slr fW i (sv a8) u) := by
 refine fO Tryz.func45 rfl Tryz.ntmps45 Tryz.results45 rfl ?_
 unfold rf at H
 refine fc<|fa<|?_
 refine ff rfl (fU (cs := (fh p0 d c)) rfl rfl rfl (fun V => ?_))
 refine ff rfl (fU (cs := (fj p2 aA aB)) rfl rfl rfl (fun ew => ?_))
 refine ff rfl (fU (cs := (fk p4)) rfl rfl rfl (fun W => ?_))
 refine ff rfl (fC (cs := (fh (fY.mk [] [] 0) fA fA)) rfl rfl rfl rfl (fun E => ?_))
 refine Ea Z<|fb<|fc<|fa<|EF 0 Z<|El (sv d) Z (Rb3 Z)<|EF 1 Z<|El (Vi p4.channel) Z (Rb1 Z)<|?_
 obtain ⟨b, bQ, H⟩ := bnd H
 obtain ⟨eE, cj, cd⟩ := Slr.at x bQ
 obtain ⟨y, rfl, aG⟩ := cj
 refine Eq Z (Qi (T := fG) x bQ Z)<|EL 3 (fx b y) Z (Rdc.k cd rfl)<|?_
 refine ff rfl (fC (cs := (fx (fL.mk 0 [] false) fA)) rfl rfl rfl rfl (fun X => ?_))
 refine ff rfl (Sa (fx b y) Z .here Z ?_)
 refine fb<|fc<|fa<|EL 7 (fj p2 aA aB) Z (Rb3 Z)<|Em Z<|?_
 obtain ⟨a, dL, H⟩ := bnd H
 refine ff rfl (Ek Tryz.call75 Z (na p2 aA aB p3 a dL _ _ ch ci) ?_)
 rintro _ _ _ - ⟨rfl, rfl, rfl⟩
 refine Ea Z<|fb<|fc<|fa<|EL 3 (fh p0 d c) Z (Rb4 Z)<|Em Z<|EL 3 (fk p4) Z (Rb2 Z)<|?_
 obtain ⟨U, dM, H⟩ := bnd H
 refine ff rfl (Ek Tryz.call80 Z (xm p0 d c p1 p4 U dM _ _ x C) ?_)
 rintro _ w _ g ⟨rfl, rfl⟩
 refine Ea Z<|fb<|fc<|fc<|fa<|EF 0 Z<|El (.bool p4.send) Z (Rb2 Z)<|fb<|?_
 refine fm rfl ?_ ?_
 ·intro aL
  have H := ift aL H
  refine fc<|fc<|fa<|EF 2 Z<|El (.bool b.closed) Z (Rb0 Z)<|fb<|?_
  refine fm rfl ?_ ?_
  ·intro aM
   have H := ift aM H
   refine fc<|fa<|EL 3 (fh p0 d c) Z (Rb4 Z)<|Em Z<|Em Z<|Eq Z (fF (cs := (fe (Result.mk 5 a 0 false 0))) rfl rfl rfl rfl rfl rfl)<|Eq Z (fF (cs := (fM (Done.mk p1 (Result.mk 5 a 0 false 0)))) rfl rfl rfl rfl rfl rfl)<|?_
   have bu : RowR fW w [(fM (Done.mk p1 (Result.mk 5 a 0 false 0)))] [(Done.mk p1 (Result.mk 5 a 0 false 0))] := RowR.cons rfl (RowR.nil)
   refine ff rfl (gg (T := fW) (rows := [(fM (Done.mk p1 (Result.mk 5 a 0 false 0)))]) (l := [(Done.mk p1 (Result.mk 5 a 0 false 0))]) rfl rfl rfl bu rfl rfl rfl rfl rfl rfl rfl rfl (fun a1 => ?_))
   refine ff rfl (Sa (fh p0 d c) Z (.there (.there .here)) Z ?_)
   refine Ea Z<|fb<|fy<|?_
   obtain ⟨N, O⟩ := hX H
   subst h u
   refine ⟨(.inl rfl), [(.agg (fh p0 d c).toArray), (sv a1)], ⟨(.agg (fh p0 d c).toArray), _, rfl, ⟨_, 3, (fh p0 d c), rfl, rfl, rfl, rfl, ⟨rfl, Rb2 Z⟩, rfl⟩, ⟨(sv a1), _, rfl, rfl, rfl⟩⟩, ?_⟩
   refine Shift.settle (T := fW) .here bu rfl ?_
   intro ed bi cN
   refine Re1<|Re1<|Re1<|Re1<|Re1<|?_
   have cO := (x.mono g).mono bi
   have cP := (C.mono g).mono bi
   exact Sd ⟨d, c, a1, rfl, rfl, cO, cP, cN⟩
  ·intro aM
   have H := f0 (btf aM) H
   refine ft<|fc<|fa<|Em Z<|Em Z<|Eq Z (fF (cs := (fe (Result.mk 1 a 0 false 0))) rfl rfl rfl rfl rfl rfl)<|Eq Z (fF (cs := (fM (Done.mk p1 (Result.mk 1 a 0 false 0)))) rfl rfl rfl rfl rfl rfl)<|?_
   have aP : RowR fW w [(fM (Done.mk p1 (Result.mk 1 a 0 false 0)))] [(Done.mk p1 (Result.mk 1 a 0 false 0))] := RowR.cons rfl (RowR.nil)
   refine ff rfl (gg (T := fW) (rows := [(fM (Done.mk p1 (Result.mk 1 a 0 false 0)))]) (l := [(Done.mk p1 (Result.mk 1 a 0 false 0))]) rfl rfl rfl aP rfl rfl rfl rfl rfl rfl rfl rfl (fun af => ?_))
   refine Ea Z<|fb<|fc<|fc<|fa<|Em Z<|Ec Z<|fb<|?_
   refine fm rfl ?_ ?_
   ·intro ap
    obtain ⟨ap, H⟩ := It ap H
    refine fc<|fa<|EF 1 Z<|El (sv c) Z (Rb5 Z)<|Em Z<|?_
    obtain ⟨L, bR, H⟩ := bnd H
    have aR := C.mono g
    obtain ⟨eF, ck, ce⟩ := Slr.at aR bR
    obtain ⟨ag, ah, rfl, cQ, cR⟩ := ck
    refine Eq Z (Qi (T := fQ) aR bR Z)<|EL 8 (gp L ag ah) Z (Rdc.k ce rfl)<|?_
    refine ff rfl (fC (cs := (gp (gB.mk 0 (Op.mk 0 0 0 0 0 [] [])) fA fA)) rfl rfl rfl rfl (fun ex => ?_))
    refine ff rfl (Sa (gp L ag ah) Z .here Z ?_)
    refine fb<|fc<|?_
    obtain ⟨an, dN, H⟩ := bnd H
    obtain ⟨b4, dO, H⟩ := bnd H
    obtain ⟨a9, dP, H⟩ := bnd H
    obtain ⟨d2, dQ, H⟩ := bnd H
    refine fq _ rfl (Ic Mb0 (Ic Mb2 (Ic Mb4 (Ic Mb5 (Ic Mb6 In0)))))<|JL 0 3 (fh p0 d c) Z (Rb4 Z)<|Jm 1 Z<|Jm 3 Z<|JF 4 0 Z<|Jl 5 (Vi L.thread) Z (Rb0 Z)<|JF 6 1 Z<|JL 7 7 (fj L.op ag ah) Z (Rb0 Z)<|JF 8 1 Z<|JL 9 7 (fj L.op ag ah) Z (Rb0 Z)<|JF 10 1 Z<|Jl 11 (Vi p4.channel) Z (Rb2 Z)<|JF 14 2 Z<|Jl 15 (.int .u64 p4.value) Z (Rb2 Z)<|?_
    refine Ao 2 Z ?_
    have cS := x.mono g
    refine Ek Tryz.call76 Z (wk p0 d c U an dN _ _ cS aR) ?_
    rintro _ ee _ aN ⟨ai, aj, rfl, rfl, cT, cU⟩
    refine ⟨(Ic Mb1 (Ic Mb3 (Ic Mb5 (Ic Mb6 (Ic Mb7 In0))))), ?_⟩
    refine Ao 12 Z ?_
    have bH := cQ.mono aN
    have bI := cR.mono aN
    refine Ek Tryz.call74 Z (pW L.op ag ah p4.channel false b4 dO _ _ bH bI) ?_
    rintro _ ef _ aw ⟨rfl, rfl⟩
    refine ⟨(Ic Mb1 (Ic Mb3 (Ic Mb5 (Ic Mb6 (Ic Mb7 In0))))), ?_⟩
    refine Ao 13 Z ?_
    have cV := bH.mono aw
    have cW := bI.mono aw
    refine Ek Tryz.call75 Z (na L.op ag ah b4 a9 dP _ _ cV cW) ?_
    rintro _ _ _ - ⟨rfl, rfl, rfl⟩
    refine ⟨(Ic Mb1 (Ic Mb3 (Ic Mb5 (Ic Mb6 (Ic Mb7 In0))))), ?_⟩
    refine Jq 16 Z (fF (cs := (fe (Result.mk 2 a9 p4.value true 0))) rfl rfl rfl rfl rfl rfl) ?_
    refine Ao 17 Z ?_
    have cY := (aP.mono aN).mono aw
    refine OpW.shift (Shift.settle (T := fW) (.there (.there .here)) cY rfl (fun eg bj cX => Sd ?_))
    refine Ek Tryz.call77 Z (pX [(Done.mk p1 (Result.mk 1 a 0 false 0))] af L.thread (Result.mk 2 a9 p4.value true 0) d2 dQ _ _ cX) ?_
    rintro _ eh _ bk ⟨a2, rfl, rfl, cZ⟩
    refine ⟨(Ic Mb2 (Ic Mb4 (Ic Mb6 (Ic Mb7 (Ic Mb8 In0))))), ?_⟩
    refine Ao 18 Z ?_
    refine jM (vs := (fh an ai aj)) (all' := (fh an ai aj)) rfl rfl rfl rfl rfl (.there (.there (.there (.there (.there .here))))) rfl rfl rfl ⟨(Ic Mb2 (Ic Mb4 (Ic Mb6 (Ic Mb7 (Ic Mb8 In0))))), ?_⟩
    refine Ja 19 Z<|Ad<|fy<|?_
    obtain ⟨N, O⟩ := hX H
    subst h u
    refine ⟨(.inl rfl), [(.agg (fh an ai aj).toArray), (sv a2)], ⟨(.agg (fh an ai aj).toArray), _, rfl, ⟨_, 3, (fh an ai aj), rfl, rfl, rfl, rfl, ⟨rfl, Rb5 Z⟩, rfl⟩, ⟨(sv a2), _, rfl, rfl, rfl⟩⟩, ?_⟩
    refine Re1<|Re1<|Re1<|Re1<|Re1<|Re1<|Re1<|Re1<|?_
    have c0 := ((cT.mono aw).mono bj).mono bk
    have c1 := ((cU.mono aw).mono bj).mono bk
    exact Sd ⟨ai, aj, a2, rfl, rfl, c0, c1, cZ⟩
   ·intro ap
    obtain ⟨ap, H⟩ := If ap H
    refine ft ?_
    refine fz (fun M i B => ∃ (ak : SV) (ae : ad1), [(5, (Vp V)), (9, (Vp W)), (10, (Vp E)), (12, (Vp X)), (15, (sv af))] = M ∧ (.blk X 104 (fx (fL.mk b.capacity ae b.closed) ak)) :: (.blk E 60 (fh (fY.mk [] [] 0) fA fA)) :: (.blk W 108 (fk p4)) :: (.blk V 60 (fh p0 d c)) :: (.tok 36 1 [(sv ak)]) :: (.row (sv af) 67 6 [(fM (Done.mk p1 (Result.mk 1 a 0 false 0)))].flatten) :: G = B ∧ vi p1 a b p4 p0 ae = some (h, u) ∧ Slr Ty.u64 i (sv ak) ae) ?_ ?_
    ·obtain ⟨eT, aU, H⟩ := bnd H
     obtain ⟨ao, aV, H⟩ := bnd H
     refine fq _ rfl (Ic Mb0 (Ic Mb2 (Ic Mb3 (Ic Mb4 (Ic Mb5 In0)))))<|JF 0 1 Z<|JF 3 2 Z<|Jl 4 (.int .u64 p4.value) Z (Rb2 Z)<|?_
     refine gU 1 5 (by kernel_rfl) ?_ ?_
     ·refine id (Jyq Z (gn (v := (sv y)) rfl rfl rfl (Rb1 Z)) ⟨(Ic Mb0 (Ic Mb2 (Ic Mb3 (Ic Mb4 (Ic Mb5 In0))))), ?_⟩)
      refine gU 2 5 (by kernel_rfl) ?_ ?_
      ·refine id (Jy Z ?_)
       refine OpW.shift (Shift.nilTok1 36 1 (Sd ?_))
       have c3 := aG.mono g
       refine f7 (T := Ty.u64) (bytes := 8) (q := 0) rfl rfl rfl (Slr.nil Ty.u64 _) Mb0 rfl (SrcT.sl c3) aU rfl rfl rfl rfl rfl rfl rfl rfl (fun eM b7 eA c4 => ⟨_, .here, ⟨(Ic Mb1 (Ic Mb3 (Ic Mb4 (Ic Mb5 (Ic Mb6 In0))))), ?_⟩⟩)
       refine Ao 5 Z ?_
       have bv : RowR Ty.u64 b7 [[(.int .u64 p4.value)]] [p4.value] := RowR.cons rfl (RowR.nil)
       refine gg (T := Ty.u64) (rows := [[(.int .u64 p4.value)]]) (l := [p4.value]) rfl rfl rfl bv rfl rfl rfl rfl rfl rfl rfl rfl (fun eN => ⟨(Ic Mb2 (Ic Mb4 (Ic Mb5 (Ic Mb6 (Ic Mb7 In0))))), ?_⟩)
       refine Ao 6 Z ?_
       refine f7 (T := Ty.u64) (bytes := 8) (q := 0) rfl rfl rfl c4 Mb1 rfl (SrcT.row Mb0 bv rfl) aV rfl rfl rfl rfl rfl rfl rfl rfl (fun a3 ei eB c5 => ⟨_, (.there .here), ⟨(Ic Mb2 (Ic Mb4 (Ic Mb5 (Ic Mb6 (Ic Mb7 In0))))), ?_⟩⟩)
       refine Aw.shift (Re0 (Sd ⟨(Ic Mb1 (Ic Mb3 (Ic Mb4 (Ic Mb5 (Ic Mb6 In0))))), ?_⟩))
       refine JF 7 1 Z ?_
       refine Ao 8 Z ?_
       refine So [(sv a3)] (fx (fL.mk b.capacity ao b.closed) a3) Z (.there (.there .here)) Z ⟨(Ic Mb1 (Ic Mb3 (Ic Mb4 (Ic Mb5 (Ic Mb6 In0))))), ?_⟩
       exact Ad<|Pu1<|Pu1<|Pu6<|Pu5<|Pu5<|Pu5<|Re6<|Sd<|⟨_, by exact R5, a3, ao, rfl, rfl, H, c5⟩
      ·refine id (Jy Z ?_)
       have bw : RowR Ty.u64 w [[(.int .u64 p4.value)]] [p4.value] := RowR.cons rfl (RowR.nil)
       refine gg (T := Ty.u64) (rows := [[(.int .u64 p4.value)]]) (l := [p4.value]) rfl rfl rfl bw rfl rfl rfl rfl rfl rfl rfl rfl (fun eO => ⟨(Ic Mb1 (Ic Mb3 (Ic Mb4 (Ic Mb5 (Ic Mb6 In0))))), ?_⟩)
       refine Ao 2 Z ?_
       refine OpW.shift (Shift.nilTok1 36 1 (Sd ?_))
       have c6 := aG.mono g
       refine f7 (T := Ty.u64) (bytes := 8) (q := 0) rfl rfl rfl (Slr.nil Ty.u64 _) Mb0 rfl (SrcT.sl c6) aU rfl rfl rfl rfl rfl rfl rfl rfl (fun eP ej b8 c7 => ⟨_, .here, ⟨(Ic Mb2 (Ic Mb4 (Ic Mb5 (Ic Mb6 (Ic Mb7 In0))))), ?_⟩⟩)
       refine Ao 6 Z ?_
       have c8 := bw.mono b8
       refine f7 (T := Ty.u64) (bytes := 8) (q := 0) rfl rfl rfl c7 Mb0 rfl (SrcT.row Mb1 c8 rfl) aV rfl rfl rfl rfl rfl rfl rfl rfl (fun a4 ek eC c9 => ⟨_, .here, ⟨(Ic Mb2 (Ic Mb4 (Ic Mb5 (Ic Mb6 (Ic Mb7 In0))))), ?_⟩⟩)
       refine Aw.shift (Re1 (Sd ⟨(Ic Mb1 (Ic Mb3 (Ic Mb4 (Ic Mb5 (Ic Mb6 In0))))), ?_⟩))
       refine JF 7 1 Z ?_
       refine Ao 8 Z ?_
       refine So [(sv a4)] (fx (fL.mk b.capacity ao b.closed) a4) Z (.there (.there .here)) Z ⟨(Ic Mb1 (Ic Mb3 (Ic Mb4 (Ic Mb5 (Ic Mb6 In0))))), ?_⟩
       exact Ad<|Pu1<|Pu1<|Pu6<|Pu5<|Pu5<|Pu5<|Re6<|Sd<|⟨_, by exact R5, a4, ao, rfl, rfl, H, c9⟩
     ·refine id (Jy Z ?_)
      have bx : RowR Ty.u64 w [[(.int .u64 p4.value)]] [p4.value] := RowR.cons rfl (RowR.nil)
      refine gg (T := Ty.u64) (rows := [[(.int .u64 p4.value)]]) (l := [p4.value]) rfl rfl rfl bx rfl rfl rfl rfl rfl rfl rfl rfl (fun eQ => ⟨(Ic Mb1 (Ic Mb3 (Ic Mb4 (Ic Mb5 (Ic Mb6 In0))))), ?_⟩)
      refine gx 1 (by kernel_rfl) (Jyq Z (gn (v := (sv y)) rfl rfl rfl (Rb2 Z)) ⟨(Ic Mb1 (Ic Mb3 (Ic Mb4 (Ic Mb5 (Ic Mb6 In0))))), ?_⟩)
      refine Ao 2 Z ?_
      refine OpW.shift (Shift.nilTok1 36 1 (Sd ?_))
      have da := aG.mono g
      refine f7 (T := Ty.u64) (bytes := 8) (q := 0) rfl rfl rfl (Slr.nil Ty.u64 _) Mb0 rfl (SrcT.sl da) aU rfl rfl rfl rfl rfl rfl rfl rfl (fun eR el b9 db => ⟨_, .here, ⟨(Ic Mb2 (Ic Mb4 (Ic Mb5 (Ic Mb6 (Ic Mb7 In0))))), ?_⟩⟩)
      refine Ao 6 Z ?_
      have dc := bx.mono b9
      refine f7 (T := Ty.u64) (bytes := 8) (q := 0) rfl rfl rfl db Mb0 rfl (SrcT.row Mb1 dc rfl) aV rfl rfl rfl rfl rfl rfl rfl rfl (fun a5 em eD dd => ⟨_, .here, ⟨(Ic Mb2 (Ic Mb4 (Ic Mb5 (Ic Mb6 (Ic Mb7 In0))))), ?_⟩⟩)
      refine Aw.shift (Re1 (Sd ⟨(Ic Mb1 (Ic Mb3 (Ic Mb4 (Ic Mb5 (Ic Mb6 In0))))), ?_⟩))
      refine JF 7 1 Z ?_
      refine Ao 8 Z ?_
      refine So [(sv a5)] (fx (fL.mk b.capacity ao b.closed) a5) Z (.there (.there .here)) Z ⟨(Ic Mb1 (Ic Mb3 (Ic Mb4 (Ic Mb5 (Ic Mb6 In0))))), ?_⟩
      exact Ad<|Pu1<|Pu1<|Pu6<|Pu5<|Pu5<|Pu5<|Re6<|Sd<|⟨_, by exact R5, a5, ao, rfl, rfl, H, dd⟩
    rintro _ en _ aO ⟨ak, ae, rfl, rfl, H, c2⟩
    unfold vi at H
    refine fc<|fa<|EL 3 (fh p0 d c) Z (Rb3 Z)<|EF 1 Z<|El (Vi p4.channel) Z (Rb2 Z)<|EL 3 (fx (fL.mk b.capacity ae b.closed) ak) Z (Rb0 Z)<|?_
    obtain ⟨aC, dR, H⟩ := bnd H
    have de := (x.mono g).mono aO
    have df := (C.mono g).mono aO
    refine ff rfl (Ek Tryz.call73 Z (m9 p0 d c p4.channel (fL.mk b.capacity ae b.closed) ak aC dR _ _ de df c2) ?_)
    rintro _ _ _ - ⟨ay, eI, az, rfl, rfl, rfl, dg, dh⟩
    refine Em Z ?_
    refine ff rfl (Sa (fh aC ay az) Z (.there (.there .here)) Z ?_)
    refine Ea Z<|fb<|fy<|?_
    obtain ⟨N, O⟩ := hX H
    subst h u
    refine ⟨(.inl rfl), [(.agg (fh aC ay az).toArray), (sv af)], ⟨(.agg (fh aC ay az).toArray), _, rfl, ⟨_, 3, (fh aC ay az), rfl, rfl, rfl, rfl, ⟨rfl, Rb2 Z⟩, rfl⟩, ⟨(sv af), _, rfl, rfl, rfl⟩⟩, ?_⟩
    refine Shift.settle (T := fG) .here dg rfl ?_
    intro eo bl di
    have dk := (aP.mono aO).mono bl
    refine Shift.settle (T := fW) (.there (.there (.there (.there (.there (.there .here)))))) dk rfl ?_
    intro ep bm dj
    refine Pu6<|Re1<|Re1<|Re1<|Re1<|Re1<|Re1<|?_
    have dl := di.mono bm
    have dm := (dh.mono bl).mono bm
    exact Sd ⟨ay, az, af, rfl, rfl, dl, dm, dj⟩
 ·intro aL
  have H := f0 (btf aL) H
  refine ft<|fc<|fa<|Em Z<|Eq Z (fF (cs := (fe (Result.mk 2 a 0 false 0))) rfl rfl rfl rfl rfl rfl)<|?_
  refine ff rfl (fC (cs := (fe (Result.mk 0 0 0 false 0))) rfl rfl rfl rfl (fun aF => ?_))
  refine ff rfl (Sa (fe (Result.mk 2 a 0 false 0)) Z .here Z ?_)
  refine fb ?_
  refine fz (fun M i B => ∃ (f : Int) (e : Bool) (J : SV) (I : ad1), [(1, (Vi p1)), (5, (Vp V)), (9, (Vp W)), (10, (Vp E)), (12, (Vp X)), (14, (Vi U)), (17, (Vp aF))] = M ∧ w = i ∧ (.blk aF 38 (fe (Result.mk 2 a f e 0))) :: (.blk X 104 (fx (fL.mk b.capacity I b.closed) J)) :: (.blk E 60 (fh (fY.mk [] [] 0) fA fA)) :: (.blk W 108 (fk p4)) :: (.blk V 60 (fh p0 d c)) :: G = B ∧ sa p1 U a b p4 p0 f e I = some (h, u) ∧ Slr Ty.u64 i (sv J) I) ?_ ?_
  ·refine fc<|fa<|EF 1 Z<|El (sv y) Z (Rb1 Z)<|?_
   have ab := aG.mono g
   refine Eq Z (ge (T := Ty.u64) ab rfl rfl)<|Ec Z<|fb<|?_
   refine fm rfl ?_ ?_
   ·intro aq
    obtain ⟨aq, H⟩ := It aq H
    refine fc<|fa<|EF 1 Z<|El (sv y) Z (Rb1 Z)<|?_
    obtain ⟨aD, bS, H⟩ := bnd H
    obtain ⟨_, rfl, cf⟩ := Slr.at ab bS
    refine Eq Z (Qi (T := Ty.u64) ab bS Z)<|El (.int .u64 aD) Z (Rdc.k cf rfl)<|EF 2 Z<|?_
    refine ff rfl (So [(.int .u64 aD)] (fe (Result.mk 2 a aD false 0)) Z .here Z ?_)
    refine EF 3 Z ?_
    refine ff rfl (So [(.bool true)] (fe (Result.mk 2 a aD true 0)) Z .here Z ?_)
    refine fb<|fa<|EF 1 Z<|El (sv y) Z (Rb1 Z)<|?_
    obtain ⟨b5, bT, H⟩ := bnd H
    have dn := Slr.cutL ab bT
    refine Eq Z (lw (T := Ty.u64) ab bT rfl rfl rfl rfl rfl)<|EF 1 Z<|?_
    refine ff rfl (So [(sv (jo y 1 ((1 : Int).toNat) b.buffer.length))] (fx (fL.mk b.capacity b5 b.closed) (jo y 1 ((1 : Int).toNat) b.buffer.length)) Z (.there .here) Z ?_)
    exact fb<|Pu5<|Pu4<|Pu4<|Pu4<|Pu4<|Re5<|Sd<|⟨_, by exact R7, aD, true, (jo y 1 ((1 : Int).toNat) b.buffer.length), b5, rfl, rfl, rfl, H, dn⟩
   ·intro aq
    obtain ⟨aq, H⟩ := If aq H
    refine fc<|fa<|Em Z<|Ec Z<|fb<|?_
    refine fm rfl ?_ ?_
    ·intro ar
     obtain ⟨ar, H⟩ := It ar H
     refine fc<|fq _ rfl (Ic Mb0 (Ic Mb1 (Ic Mb3 (Ic Mb4 (Ic Mb5 In0)))))<|JL 0 3 (fh p0 d c) Z (Rb4 Z)<|Jm 1 Z<|JL 2 5 (fe (Result.mk 2 a 0 false 0)) Z (Rb0 Z)<|Jq 3 Z (fF (cs := (fM (Done.mk p1 (Result.mk 2 a 0 false 0)))) rfl rfl rfl rfl rfl rfl)<|?_
     refine gU 4 5 (by kernel_rfl) ?_ ?_
     ·refine id (Jy Z ?_)
      have bz : RowR fW w [(fM (Done.mk p1 (Result.mk 2 a 0 false 0)))] [(Done.mk p1 (Result.mk 2 a 0 false 0))] := RowR.cons rfl (RowR.nil)
      refine gg (T := fW) (rows := [(fM (Done.mk p1 (Result.mk 2 a 0 false 0)))]) (l := [(Done.mk p1 (Result.mk 2 a 0 false 0))]) rfl rfl rfl bz rfl rfl rfl rfl rfl rfl rfl rfl (fun a6 => ⟨(Ic Mb1 (Ic Mb2 (Ic Mb4 (Ic Mb5 (Ic Mb6 In0))))), ?_⟩)
      refine Ao 5 Z ?_
      refine Sa (fh p0 d c) Z (.there (.there (.there .here))) Z ⟨(Ic Mb1 (Ic Mb2 (Ic Mb4 (Ic Mb5 (Ic Mb6 In0))))), ?_⟩
      refine Ja 6 Z<|Ad<|fy<|?_
      obtain ⟨N, O⟩ := hX H
      subst h u
      refine ⟨(.inl rfl), [(.agg (fh p0 d c).toArray), (sv a6)], ⟨(.agg (fh p0 d c).toArray), _, rfl, ⟨_, 3, (fh p0 d c), rfl, rfl, rfl, rfl, ⟨rfl, Rb3 Z⟩, rfl⟩, ⟨(sv a6), _, rfl, rfl, rfl⟩⟩, ?_⟩
      refine Shift.settle (T := fW) .here bz rfl ?_
      intro er bn dp
      refine Re1<|Re1<|Re1<|Re1<|Re1<|Re1<|?_
      have dq := (x.mono g).mono bn
      have dr := (C.mono g).mono bn
      exact Sd ⟨d, c, a6, rfl, rfl, dq, dr, dp⟩
     ·refine id (Jy Z ?_)
      refine Sa (fh p0 d c) Z (.there (.there .here)) Z ⟨(Ic Mb0 (Ic Mb1 (Ic Mb3 (Ic Mb4 (Ic Mb5 In0))))), ?_⟩
      refine Ao 4 Z ?_
      have bA : RowR fW w [(fM (Done.mk p1 (Result.mk 2 a 0 false 0)))] [(Done.mk p1 (Result.mk 2 a 0 false 0))] := RowR.cons rfl (RowR.nil)
      refine gg (T := fW) (rows := [(fM (Done.mk p1 (Result.mk 2 a 0 false 0)))]) (l := [(Done.mk p1 (Result.mk 2 a 0 false 0))]) rfl rfl rfl bA rfl rfl rfl rfl rfl rfl rfl rfl (fun a7 => ⟨(Ic Mb1 (Ic Mb2 (Ic Mb4 (Ic Mb5 (Ic Mb6 In0))))), ?_⟩)
      refine Ja 6 Z<|Ad<|fy<|?_
      obtain ⟨N, O⟩ := hX H
      subst h u
      refine ⟨(.inl rfl), [(.agg (fh p0 d c).toArray), (sv a7)], ⟨(.agg (fh p0 d c).toArray), _, rfl, ⟨_, 3, (fh p0 d c), rfl, rfl, rfl, rfl, ⟨rfl, Rb3 Z⟩, rfl⟩, ⟨(sv a7), _, rfl, rfl, rfl⟩⟩, ?_⟩
      refine Shift.settle (T := fW) .here bA rfl ?_
      intro es bo ds
      refine Re1<|Re1<|Re1<|Re1<|Re1<|Re1<|?_
      have dt := (x.mono g).mono bo
      have du := (C.mono g).mono bo
      exact Sd ⟨d, c, a7, rfl, rfl, dt, du, ds⟩
    ·intro ar
     obtain ⟨ar, H⟩ := If ar H
     exact ft<|Pu5<|Pu4<|Pu4<|Pu4<|Pu4<|Re5<|Sd<|⟨_, by exact R7, 0, false, y, b.buffer, rfl, rfl, rfl, H, ab⟩
  rintro _ _ _ - ⟨f, e, J, I, rfl, rfl, rfl, H, aH⟩
  unfold sa at H
  refine fc<|fc<|fa<|Em Z<|Ec Z<|fb<|?_
  refine fm rfl ?_ ?_
  ·intro au
   obtain ⟨au, H⟩ := It au H
   refine fz (fun M i B => ∃ (al : SV) (aW : List (List Value)) (R : SV) (P : ad0) (aX : List (List Value)) (S : SV) (Q : af0) (ac : Int), [(10, (Vp E)), (11, (sv al))] = M ∧ w = i ∧ (.blk E 60 (fh (fY.mk P Q ac) R S)) :: (.row (sv al) 67 6 aW.flatten) :: (.row (sv R) 104 3 aX.flatten) :: G = B ∧ yK p1 a f e P Q ac = some (h, u) ∧ RowR fW i aW [(Done.mk p1 (Result.mk 2 a f e 0))] ∧ RowR fG i aX P ∧ Slr fQ i (sv S) Q) ?_ ?_
   ·obtain ⟨s, bU, H⟩ := bnd H
    refine fq _ rfl (Ic Mb0 (Ic Mb1 (Ic Mb3 (Ic Mb4 In0))))<|JL 0 3 (fh p0 d c) Z (Rb3 Z)<|JF 1 1 Z<|Jl 2 (Vi p4.channel) Z (Rb2 Z)<|JL 3 3 (fx (fL.mk b.capacity I b.closed) J) Z (Rb1 Z)<|Jm 5 Z<|JL 6 5 (fe (Result.mk 2 a f e 0)) Z (Rb0 Z)<|Jq 7 Z (fF (cs := (fM (Done.mk p1 (Result.mk 2 a f e 0)))) rfl rfl rfl rfl rfl rfl)<|?_
    refine gU 4 8 (by kernel_rfl) ?_ ?_
    ·refine id (Jy Z ?_)
     have dw := x.mono g
     have dx := C.mono g
     refine Ek Tryz.call73 Z (m9 p0 d c p4.channel (fL.mk b.capacity I b.closed) J s bU _ _ dw dx aH) ?_
     rintro _ _ _ - ⟨aI, bW, aJ, rfl, rfl, rfl, bJ, bK⟩
     refine ⟨(Ic Mb1 (Ic Mb2 (Ic Mb4 (Ic Mb5 In0)))), ?_⟩
     refine gU 8 9 (by kernel_rfl) ?_ ?_
     ·refine id (Jy Z ?_)
      have bB : RowR fW w [(fM (Done.mk p1 (Result.mk 2 a f e 0)))] [(Done.mk p1 (Result.mk 2 a f e 0))] := RowR.cons rfl (RowR.nil)
      refine gg (T := fW) (rows := [(fM (Done.mk p1 (Result.mk 2 a f e 0)))]) (l := [(Done.mk p1 (Result.mk 2 a f e 0))]) rfl rfl rfl bB rfl rfl rfl rfl rfl rfl rfl rfl (fun dZ => ⟨(Ic Mb2 (Ic Mb3 (Ic Mb5 (Ic Mb6 In0)))), ?_⟩)
      refine Ao 9 Z ?_
      refine Sa (fh s aI aJ) Z (.there (.there (.there (.there .here)))) Z ⟨(Ic Mb2 (Ic Mb3 (Ic Mb5 (Ic Mb6 In0)))), ?_⟩
      exact Ja 10 Z<|Ad<|Pu1<|Pu1<|Pu4<|Re3<|Re3<|Re3<|Re3<|Sd<|⟨_, by exact R2, dZ, [(fM (Done.mk p1 (Result.mk 2 a f e 0)))], aI, s.chans, bW, aJ, s.waiting, s.tick, rfl, rfl, rfl, H, bB, bJ, bK⟩
     ·refine id (Jy Z ?_)
      refine Sa (fh s aI aJ) Z (.there (.there (.there .here))) Z ⟨(Ic Mb1 (Ic Mb2 (Ic Mb4 (Ic Mb5 In0)))), ?_⟩
      refine Ao 8 Z ?_
      have bC : RowR fW w [(fM (Done.mk p1 (Result.mk 2 a f e 0)))] [(Done.mk p1 (Result.mk 2 a f e 0))] := RowR.cons rfl (RowR.nil)
      refine gg (T := fW) (rows := [(fM (Done.mk p1 (Result.mk 2 a f e 0)))]) (l := [(Done.mk p1 (Result.mk 2 a f e 0))]) rfl rfl rfl bC rfl rfl rfl rfl rfl rfl rfl rfl (fun d0 => ⟨(Ic Mb2 (Ic Mb3 (Ic Mb5 (Ic Mb6 In0)))), ?_⟩)
      exact Ja 10 Z<|Ad<|Pu1<|Pu1<|Pu4<|Re3<|Re3<|Re3<|Re3<|Sd<|⟨_, by exact R2, d0, [(fM (Done.mk p1 (Result.mk 2 a f e 0)))], aI, s.chans, bW, aJ, s.waiting, s.tick, rfl, rfl, rfl, H, bC, bJ, bK⟩
    ·refine id (Jy Z ?_)
     have bD : RowR fW w [(fM (Done.mk p1 (Result.mk 2 a f e 0)))] [(Done.mk p1 (Result.mk 2 a f e 0))] := RowR.cons rfl (RowR.nil)
     refine gg (T := fW) (rows := [(fM (Done.mk p1 (Result.mk 2 a f e 0)))]) (l := [(Done.mk p1 (Result.mk 2 a f e 0))]) rfl rfl rfl bD rfl rfl rfl rfl rfl rfl rfl rfl (fun d1 => ⟨(Ic Mb1 (Ic Mb2 (Ic Mb4 (Ic Mb5 In0)))), ?_⟩)
     refine Ao 4 Z ?_
     have dy := x.mono g
     have dz := C.mono g
     refine Ek Tryz.call73 Z (m9 p0 d c p4.channel (fL.mk b.capacity I b.closed) J s bU _ _ dy dz aH) ?_
     rintro _ _ _ - ⟨bX, dU, bY, rfl, rfl, rfl, dA, dB⟩
     refine ⟨(Ic Mb2 (Ic Mb3 (Ic Mb5 (Ic Mb6 In0)))), ?_⟩
     refine Ao 9 Z ?_
     refine Sa (fh s bX bY) Z (.there (.there (.there (.there .here)))) Z ⟨(Ic Mb2 (Ic Mb3 (Ic Mb5 (Ic Mb6 In0)))), ?_⟩
     exact Ja 10 Z<|Ad<|Pu1<|Pu4<|Re3<|Re3<|Re3<|Re3<|Sd<|⟨_, by exact R2, d1, [(fM (Done.mk p1 (Result.mk 2 a f e 0)))], bX, s.chans, dU, bY, s.waiting, s.tick, rfl, rfl, rfl, H, bD, dA, dB⟩
   rintro _ _ _ - ⟨al, aW, R, P, aX, S, Q, ac, rfl, rfl, rfl, H, ca, cb, dv⟩
   unfold yK at H
   refine fy ?_
   obtain ⟨N, O⟩ := hX H
   subst h u
   refine ⟨(.inl rfl), [(.agg (fh (fY.mk P Q ac) R S).toArray), (sv al)], ⟨(.agg (fh (fY.mk P Q ac) R S).toArray), _, rfl, ⟨_, 3, (fh (fY.mk P Q ac) R S), rfl, rfl, rfl, rfl, ⟨rfl, Rb0 Z⟩, rfl⟩, ⟨(sv al), _, rfl, rfl, rfl⟩⟩, ?_⟩
   refine Shift.settle (T := fG) (.there (.there .here)) cb rfl ?_
   intro et bp dC
   have dE := ca.mono bp
   refine Shift.settle (T := fW) (.there .here) dE rfl ?_
   intro eu bq dD
   refine Pu1<|Re1<|Re1<|?_
   have dF := dC.mono bq
   have dG := (dv.mono bp).mono bq
   exact Sd ⟨R, S, al, rfl, rfl, dF, dG, dD⟩
  ·intro au
   obtain ⟨au, H⟩ := If au H
   refine ft<|fc<|fa<|EF 1 Z<|El (sv c) Z (Rb4 Z)<|Em Z<|?_
   obtain ⟨t, bV, H⟩ := bnd H
   have aS := C.mono g
   obtain ⟨eG, cl, cg⟩ := Slr.at aS bV
   obtain ⟨z, A, rfl, bL, bM⟩ := cl
   refine Eq Z (Qi (T := fQ) aS bV Z)<|EL 8 (gp t z A) Z (Rdc.k cg rfl)<|?_
   refine ff rfl (fC (cs := (gp (gB.mk 0 (Op.mk 0 0 0 0 0 [] [])) fA fA)) rfl rfl rfl rfl (fun bb => ?_))
   refine ff rfl (Sa (gp t z A) Z .here Z ?_)
   refine fb<|fc<|fa<|EF 1 Z<|EL 7 (fj t.op z A) Z (Rb0 Z)<|EF 1 Z<|El (Vi p4.channel) Z (Rb4 Z)<|?_
   obtain ⟨aE, dS, H⟩ := bnd H
   refine ff rfl (Ek Tryz.call74 Z (pW t.op z A p4.channel true aE dS _ _ bL bM) ?_)
   rintro _ ev _ aa ⟨rfl, rfl⟩
   refine Ea Z<|fb<|fc<|fa<|EF 1 Z<|EL 7 (fj t.op z A) Z (Rb0 Z)<|?_
   obtain ⟨d3, dT, H⟩ := bnd H
   have aT := bL.mono aa
   have aQ := bM.mono aa
   refine ff rfl (Ek Tryz.call44 Z (kY t.op z A d3 dT _ _ aT aQ) ?_)
   rintro _ d4 _ F ⟨eJ, rfl, rfl, bE⟩
   refine Em Z ?_
   obtain ⟨D, bN, H⟩ := bnd H
   obtain ⟨_, rfl, cc⟩ := Slr.at bE bN
   refine Eq Z (Qi (T := fV) bE bN Z)<|EF 2 Z<|El (.int .u64 D.value) Z (Rdc.k cc rfl)<|Ea Z<|fb<|?_
   refine fz (fun M i B => ∃ (j : Int) (n : Bool) (ax : SV) (ad : ad1), [(1, (Vi p1)), (5, (Vp V)), (9, (Vp W)), (10, (Vp E)), (12, (Vp X)), (14, (Vi U)), (17, (Vp aF)), (18, (Vp bb)), (19, (Vi aE))] = M ∧ (.blk bb 96 (gp t z A)) :: (.blk aF 38 (fe (Result.mk 2 a j n 0))) :: (.blk X 104 (fx (fL.mk b.capacity ad b.closed) ax)) :: (.blk E 60 (fh (fY.mk [] [] 0) fA fA)) :: (.blk W 108 (fk p4)) :: (.blk V 60 (fh p0 d c)) :: G = B ∧ oc p1 U aE t a b p4 p0 j n ad = some (h, u) ∧ Slr Ty.u64 i (sv ax) ad) ?_ ?_
   ·refine fc<|fa<|EF 3 Z<|El (.bool e) Z (Rb1 Z)<|fb<|?_
    refine fm rfl ?_ ?_
    ·intro aK
     have H := ift aK H
     refine fa<|EF 1 Z<|El (sv J) Z (Rb2 Z)<|?_
     refine Ow.shift (Shift.nilTok1 36 1 (Sd ?_))
     obtain ⟨eS, dH, H⟩ := bnd H
     have cn := (aH.mono aa).mono F
     refine ff rfl (f7 (T := Ty.u64) (bytes := 8) (q := 0) rfl rfl rfl (Slr.nil Ty.u64 _) Mb0 rfl (SrcT.sl cn) dH rfl rfl rfl rfl rfl rfl rfl rfl (fun eK b6 ey co => ⟨_, .here, ?_⟩))
     refine Em Z ?_
     have br : RowR Ty.u64 b6 [[(.int .u64 D.value)]] [D.value] := RowR.cons rfl (RowR.nil)
     refine ff rfl (gg (T := Ty.u64) (rows := [[(.int .u64 D.value)]]) (l := [D.value]) rfl rfl rfl br rfl rfl rfl rfl rfl rfl rfl rfl (fun eL => ?_))
     obtain ⟨b1, dI, H⟩ := bnd H
     refine ff rfl (f7 (T := Ty.u64) (bytes := 8) (q := 0) rfl rfl rfl co Mb1 rfl (SrcT.row Mb0 br rfl) dI rfl rfl rfl rfl rfl rfl rfl rfl (fun aY d5 ez cp => ⟨_, (.there .here), ?_⟩))
     refine Ow.shift (Re0 (Sd ?_))
     refine EF 1 Z ?_
     refine ff rfl (So [(sv aY)] (fx (fL.mk b.capacity b1 b.closed) aY) Z (.there (.there (.there .here))) Z ?_)
     exact fb<|Pu6<|Pu6<|Pu6<|Pu6<|Pu6<|Pu6<|Re6<|Sd<|⟨_, by exact R9, f, e, aY, b1, rfl, rfl, H, cp⟩
    ·intro aK
     have H := f0 (btf aK) H
     refine fa<|Em Z<|EF 2 Z<|?_
     refine ff rfl (So [(.int .u64 D.value)] (fe (Result.mk 2 a D.value e 0)) Z (.there .here) Z ?_)
     refine EF 3 Z ?_
     refine ff rfl (So [(.bool true)] (fe (Result.mk 2 a D.value true 0)) Z (.there .here) Z ?_)
     refine fb<|Pu5<|Pu5<|Pu5<|Pu5<|Pu5<|Pu5<|?_
     have cq := (aH.mono aa).mono F
     exact Sd ⟨_, by exact R9, D.value, true, J, I, rfl, rfl, H, cq⟩
   rintro _ d6 _ Y ⟨j, n, ax, ad, rfl, rfl, H, cm⟩
   unfold oc at H
   refine fc ?_
   obtain ⟨b2, dJ, H⟩ := bnd H
   obtain ⟨r, dK, H⟩ := bnd H
   refine fq _ rfl (Ic Mb0 (Ic Mb1 (Ic Mb2 (Ic Mb3 (Ic Mb4 In0)))))<|Jm 1 Z<|JF 3 1 Z<|Jl 4 (Vi p4.channel) Z (Rb4 Z)<|JL 5 3 (fx (fL.mk b.capacity ad b.closed) ax) Z (Rb2 Z)<|?_
   refine gx 0 (by kernel_rfl) (Jyq Z (ji (m := 3) (cs := (fh p0 d c)) rfl rfl rfl rfl ⟨rfl, Rb5 Z⟩) ⟨(Ic Mb0 (Ic Mb1 (Ic Mb2 (Ic Mb3 (Ic Mb4 In0))))), ?_⟩)
   refine Ao 2 Z ?_
   have cr := (((x.mono g).mono aa).mono F).mono Y
   have ct := ((aS.mono aa).mono F).mono Y
   refine Ek Tryz.call76 Z (wk p0 d c U b2 dJ _ _ cr ct) ?_
   rintro _ ba _ av ⟨dV, dW, rfl, rfl, cu, cv⟩
   refine ⟨(Ic Mb1 (Ic Mb2 (Ic Mb3 (Ic Mb4 (Ic Mb5 In0))))), ?_⟩
   refine Ao 6 Z ?_
   have cw := cm.mono av
   refine Ek Tryz.call73 Z (m9 b2 dV dW p4.channel (fL.mk b.capacity ad b.closed) ax r dK _ _ cu cv cw) ?_
   rintro _ _ _ - ⟨o, eH, p, rfl, rfl, rfl, bF, bG⟩
   refine ⟨(Ic Mb2 (Ic Mb3 (Ic Mb4 (Ic Mb5 (Ic Mb6 In0))))), ?_⟩
   refine Ao 7 Z ?_
   refine jM (vs := (fh r o p)) (all' := (fh r o p)) rfl rfl rfl rfl rfl (.there (.there (.there (.there (.there (.there (.there .here))))))) rfl rfl rfl ⟨(Ic Mb2 (Ic Mb3 (Ic Mb4 (Ic Mb5 (Ic Mb6 In0))))), ?_⟩
   refine Ad<|fc<|?_
   obtain ⟨am, bO, H⟩ := bnd H
   obtain ⟨b3, bP, H⟩ := bnd H
   refine fq _ rfl (Ic Mb0 (Ic Mb1 (Ic Mb2 (Ic Mb3 (Ic Mb4 (Ic Mb6 (Ic Mb7 In0)))))))<|JL 0 3 (fh r o p) Z (Rb6 Z)<|Jm 1 Z<|JL 2 5 (fe (Result.mk 2 a j n 0)) Z (Rb3 Z)<|Jq 3 Z (fF (cs := (fM (Done.mk p1 (Result.mk 2 a j n 0)))) rfl rfl rfl rfl rfl rfl)<|JF 5 0 Z<|Jl 6 (Vi t.thread) Z (Rb2 Z)<|JF 7 1 Z<|JL 8 7 (fj t.op z A) Z (Rb2 Z)<|Jm 9 Z<|?_
   refine gU 4 10 (by kernel_rfl) ?_ ?_
   ·refine id (Jy Z ?_)
    have bs : RowR fW ba [(fM (Done.mk p1 (Result.mk 2 a j n 0)))] [(Done.mk p1 (Result.mk 2 a j n 0))] := RowR.cons rfl (RowR.nil)
    refine gg (T := fW) (rows := [(fM (Done.mk p1 (Result.mk 2 a j n 0)))]) (l := [(Done.mk p1 (Result.mk 2 a j n 0))]) rfl rfl rfl bs rfl rfl rfl rfl rfl rfl rfl rfl (fun dX => ⟨(Ic Mb1 (Ic Mb2 (Ic Mb3 (Ic Mb4 (Ic Mb5 (Ic Mb7 (Ic Mb8 In0))))))), ?_⟩)
    refine Ao 10 Z ?_
    have cx := ((aT.mono F).mono Y).mono av
    have cy := ((aQ.mono F).mono Y).mono av
    refine Ek Tryz.call75 Z (na t.op z A aE am bO _ _ cx cy) ?_
    rintro _ _ _ - ⟨rfl, rfl, rfl⟩
    refine ⟨(Ic Mb1 (Ic Mb2 (Ic Mb3 (Ic Mb4 (Ic Mb5 (Ic Mb7 (Ic Mb8 In0))))))), ?_⟩
    refine Jq 11 Z (fF (cs := (fe (Result.mk 1 am 0 false 0))) rfl rfl rfl rfl rfl rfl) ?_
    refine Ao 12 Z ?_
    refine OpW.shift (Shift.settle (T := fW) .here bs rfl (fun d7 bc cz => Sd ?_))
    refine Ek Tryz.call77 Z (pX [(Done.mk p1 (Result.mk 2 a j n 0))] dX t.thread (Result.mk 1 am 0 false 0) b3 bP _ _ cz) ?_
    rintro _ d8 _ bd ⟨aZ, rfl, rfl, cA⟩
    refine ⟨(Ic Mb2 (Ic Mb3 (Ic Mb4 (Ic Mb5 (Ic Mb6 (Ic Mb8 (Ic Mb9 In0))))))), ?_⟩
    refine Ao 13 Z ?_
    refine jM (vs := (fh r o p)) (all' := (fh r o p)) rfl rfl rfl rfl rfl (.there (.there (.there (.there (.there (.there (.there .here))))))) rfl rfl rfl ⟨(Ic Mb2 (Ic Mb3 (Ic Mb4 (Ic Mb5 (Ic Mb6 (Ic Mb8 (Ic Mb9 In0))))))), ?_⟩
    refine Ja 14 Z<|Ad<|fy<|?_
    obtain ⟨N, O⟩ := hX H
    subst h u
    refine ⟨(.inl rfl), [(.agg (fh r o p).toArray), (sv aZ)], ⟨(.agg (fh r o p).toArray), _, rfl, ⟨_, 3, (fh r o p), rfl, rfl, rfl, rfl, ⟨rfl, Rb7 Z⟩, rfl⟩, ⟨(sv aZ), _, rfl, rfl, rfl⟩⟩, ?_⟩
    have cC := (bF.mono bc).mono bd
    refine Shift.settle (T := fG) (.there (.there .here)) cC rfl ?_
    intro d9 be cB
    refine Re1<|Re1<|Re1<|Re1<|Re1<|Re1<|Re1<|Re1<|Re1<|?_
    have cD := ((bG.mono bc).mono bd).mono be
    have cE := cA.mono be
    exact Sd ⟨o, p, aZ, rfl, rfl, cB, cD, cE⟩
   ·refine id (Jy Z ?_)
    have cF := ((aT.mono F).mono Y).mono av
    have cG := ((aQ.mono F).mono Y).mono av
    refine Ek Tryz.call75 Z (na t.op z A aE am bO _ _ cF cG) ?_
    rintro _ _ _ - ⟨rfl, rfl, rfl⟩
    refine ⟨(Ic Mb0 (Ic Mb1 (Ic Mb2 (Ic Mb3 (Ic Mb4 (Ic Mb6 (Ic Mb7 In0))))))), ?_⟩
    refine Jq 11 Z (fF (cs := (fe (Result.mk 1 am 0 false 0))) rfl rfl rfl rfl rfl rfl) ?_
    refine Ao 4 Z ?_
    have bt : RowR fW ba [(fM (Done.mk p1 (Result.mk 2 a j n 0)))] [(Done.mk p1 (Result.mk 2 a j n 0))] := RowR.cons rfl (RowR.nil)
    refine gg (T := fW) (rows := [(fM (Done.mk p1 (Result.mk 2 a j n 0)))]) (l := [(Done.mk p1 (Result.mk 2 a j n 0))]) rfl rfl rfl bt rfl rfl rfl rfl rfl rfl rfl rfl (fun dY => ⟨(Ic Mb1 (Ic Mb2 (Ic Mb3 (Ic Mb4 (Ic Mb5 (Ic Mb7 (Ic Mb8 In0))))))), ?_⟩)
    refine Ao 12 Z ?_
    refine OpW.shift (Shift.settle (T := fW) .here bt rfl (fun ea bf cH => Sd ?_))
    refine Ek Tryz.call77 Z (pX [(Done.mk p1 (Result.mk 2 a j n 0))] dY t.thread (Result.mk 1 am 0 false 0) b3 bP _ _ cH) ?_
    rintro _ eb _ bg ⟨a0, rfl, rfl, cI⟩
    refine ⟨(Ic Mb2 (Ic Mb3 (Ic Mb4 (Ic Mb5 (Ic Mb6 (Ic Mb8 (Ic Mb9 In0))))))), ?_⟩
    refine Ao 13 Z ?_
    refine jM (vs := (fh r o p)) (all' := (fh r o p)) rfl rfl rfl rfl rfl (.there (.there (.there (.there (.there (.there (.there .here))))))) rfl rfl rfl ⟨(Ic Mb2 (Ic Mb3 (Ic Mb4 (Ic Mb5 (Ic Mb6 (Ic Mb8 (Ic Mb9 In0))))))), ?_⟩
    refine Ja 14 Z<|Ad<|fy<|?_
    obtain ⟨N, O⟩ := hX H
    subst h u
    refine ⟨(.inl rfl), [(.agg (fh r o p).toArray), (sv a0)], ⟨(.agg (fh r o p).toArray), _, rfl, ⟨_, 3, (fh r o p), rfl, rfl, rfl, rfl, ⟨rfl, Rb7 Z⟩, rfl⟩, ⟨(sv a0), _, rfl, rfl, rfl⟩⟩, ?_⟩
    have cK := (bF.mono bf).mono bg
    refine Shift.settle (T := fG) (.there (.there .here)) cK rfl ?_
    intro ec bh cJ
    refine Re1<|Re1<|Re1<|Re1<|Re1<|Re1<|Re1<|Re1<|Re1<|?_
    have cL := ((bG.mono bf).mono bg).mono bh
    have cM := cI.mono bh
    exact Sd ⟨o, p, a0, rfl, rfl, cJ, cL, cM⟩
end Go.Hx
namespace Go.Hx
open Go Go.Proofs
set_option maxRecDepth 10000
set_option maxHeartbeats 1000000
theorem BW (p0 : fY) (a : SV) (b : SV) (p1 : Int) (p2 : Op) (c : SV) (d : SV) (i : fY) (o : ae4) (p : Bool) (H : ri p0 p1 p2 = some (i, o, p)) (K : Kp) (G : List Ent) (h : Slr fG K (sv a) p0.chans) (s : Slr fQ K (sv b) p0.waiting) (I : Slr fV K (sv c) p2.cases) (J : Slr Ty.i64 K (sv d) p2.draws) :
  Fc Tryz.prog 24 #[(.agg (fh p0 a b).toArray), (Vi p1), (.agg (fj p2 c d).toArray)] K (G) (fun v g n => ∃ (bb : SV) (bc : SV) (aG : SV), v = (.tuple #[(.agg (fh i bb bc).toArray), (sv aG), (.bool p)]) ∧ (.tok 67 6 [(sv aG)]) :: G = n ∧ Slr fG g (sv bb) i.chans ∧ Slr fQ g (sv bc) i.waiting ∧ Slr fW g (sv aG) o) := by
 refine fO Tryz.func24 rfl Tryz.ntmps24 Tryz.results24 rfl ?_
 unfold ri at H
 refine fc<|fa<|?_
 refine ff rfl (fU (cs := (fh p0 a b)) rfl rfl rfl (fun u => ?_))
 refine ff rfl (fU (cs := (fj p2 c d)) rfl rfl rfl (fun F => ?_))
 refine ff rfl (fC (cs := (fh (fY.mk [] [] 0) fA fA)) rfl rfl rfl rfl (fun r => ?_))
 refine Ea Z<|Ea Z<|fb<|fc<|fc<|fa<|EF 0 Z<|El (Vi p2.kind) Z (Rb1 Z)<|fb<|fB<|fc<|fa<|Ec Z<|Ea Z<|fb<|?_
 refine fm rfl ?_ ?_
 ·intro Y
  obtain ⟨Y, H⟩ := It Y H
  refine fc<|fa<|EL 3 (fh p0 a b) Z (Rb2 Z)<|Em Z<|EL 7 (fj p2 c d) Z (Rb1 Z)<|?_
  obtain ⟨Q, cT, cJ, H⟩ := ix H
  refine ff rfl (Ek Tryz.call41 Z (BS p0 a b p1 p2 c d Q cT cJ _ _ h s I J) ?_)
  rintro _ c1 _ dl ⟨N, O, aB, rfl, rfl, bG, bH, bI⟩
  refine Em Z<|Ex Z<|Ex Z<|?_
  refine ff rfl (fC (cs := (fh (fY.mk [] [] 0) fA fA)) rfl rfl rfl rfl (fun di => ?_))
  refine ff rfl (Sa (fh Q N O) Z .here Z ?_)
  refine Ea Z<|fb<|fc<|fa<|EL 3 (fh Q N O) Z (Rb0 Z)<|Em Z<|?_
  refine ff rfl (Sa (fh Q N O) Z (.there (.there .here)) Z ?_)
  refine Ea Z<|Ea Z<|fb<|fy<|?_
  obtain ⟨V, W, X⟩ := jH H
  subst i o p
  refine ⟨(.inl rfl), [(.agg (fh Q N O).toArray), (sv aB), (.bool false)], ⟨(.agg (fh Q N O).toArray), _, rfl, ⟨_, 3, (fh Q N O), rfl, rfl, rfl, rfl, ⟨rfl, Rb2 Z⟩, rfl⟩, ⟨(sv aB), _, rfl, rfl, ⟨(.bool false), _, rfl, rfl, rfl⟩⟩⟩, ?_⟩
  exact Pu1<|Re1<|Re1<|Re1<|Re1<|Sd<|⟨N, O, aB, rfl, rfl, bG, bH, bI⟩
 ·intro Y
  obtain ⟨Y, H⟩ := If Y H
  refine fz (fun t g n => ∃ (aw : Bool), [(1, (Vi p1)), (3, (Vp u)), (5, (Vp F)), (6, (Vp r)), (28, (.bool aw))] = t ∧ K = g ∧ (.blk r 60 (fh (fY.mk [] [] 0) fA fA)) :: (.blk F 51 (fj p2 c d)) :: (.blk u 60 (fh p0 a b)) :: G = n ∧ sc p1 p2 p0 aw = some (i, o, p)) ?_ ?_
  ·refine fc<|fa<|Ec Z<|Ea Z<|fb<|?_
   refine fm rfl ?_ ?_
   ·intro aa
    obtain ⟨aa, H⟩ := It aa H
    exact ft<|Pu2<|Pu2<|Pu2<|Sd<|⟨_, by exact R5, (dcd (p2.kind = 5)), rfl, rfl, rfl, H⟩
   ·intro aa
    obtain ⟨aa, H⟩ := If aa H
    exact fa<|Ec Z<|Ea Z<|fb<|Pu2<|Pu2<|Pu2<|Sd<|⟨_, by exact R5, (dcd (p2.kind = 6)), rfl, rfl, rfl, H⟩
  rintro _ _ _ - ⟨aw, rfl, rfl, rfl, H⟩
  unfold sc at H
  refine fm rfl ?_ ?_
  ·intro an
   have H := ift an H
   refine fc<|fa<|Ea Z<|fb<|?_
   refine fz (fun t g n => ∃ (y : Int), [(1, (Vi p1)), (3, (Vp u)), (6, (Vp r)), (11, (Vi y))] = t ∧ K = g ∧ (.blk r 60 (fh (fY.mk [] [] 0) fA fA)) :: (.blk u 60 (fh p0 a b)) :: G = n ∧ od p1 p0 y = some (i, o, p)) ?_ ?_
   ·refine fz (fun t g n => ∃ (ax : Bool), [(1, (Vi p1)), (3, (Vp u)), (5, (Vp F)), (6, (Vp r)), (11, (Vi 0)), (41, (.bool ax))] = t ∧ K = g ∧ (.blk r 60 (fh (fY.mk [] [] 0) fA fA)) :: (.blk F 51 (fj p2 c d)) :: (.blk u 60 (fh p0 a b)) :: G = n ∧ rh p1 p2 p0 ax = some (i, o, p)) ?_ ?_
    ·refine fa<|EF 2 Z<|El (Vi p2.channel) Z (Rb1 Z)<|Ec Z<|Em Z<|?_
     refine Ee Z ?_ ?_
     ·intro ab
      obtain ⟨ab, H⟩ := It ab H
      exact VF 2 Z<|Vl (Vi p2.channel) Z (Rb1 Z)<|VF 0 Z<|Vl (sv a) Z (Rb2 Z)<|Vq Z (ge (T := fG) h rfl rfl)<|Vc Z<|Et Z<|fb<|Pu2<|Pu2<|Pu2<|Sd<|⟨_, by exact R6, (dcd (p2.channel < (p0.chans.length : Int))), rfl, rfl, rfl, H⟩
     ·intro ab
      obtain ⟨ab, H⟩ := If ab H
      exact Ez Z<|Ez Z<|Ez Z<|Ez Z<|Ez Z<|Ez Z<|Ef Z<|fb<|Pu2<|Pu2<|Pu2<|Sd<|⟨_, by exact R6, false, rfl, rfl, rfl, H⟩
    rintro _ _ _ - ⟨ax, rfl, rfl, rfl, H⟩
    unfold rh at H
    refine fm rfl ?_ ?_
    ·intro ao
     have H := ift ao H
     refine fc<|fa<|EF 0 Z<|El (sv a) Z (Rb2 Z)<|EF 2 Z<|El (Vi p2.channel) Z (Rb1 Z)<|?_
     obtain ⟨cU, aX, H⟩ := bnd H
     obtain ⟨dx, bv, bq⟩ := Slr.at h aX
     obtain ⟨cN, rfl, bJ⟩ := bv
     refine Eq Z (Qi (T := fG) h aX Z)<|EF 1 Z<|El (sv cN) Z (Rdc.k bq rfl)<|Eq Z (ge (T := Ty.u64) bJ rfl rfl)<|Ea Z<|fb<|fc<|fa<|EF 0 Z<|El (Vi p2.kind) Z (Rb1 Z)<|Ec Z<|fb<|?_
     refine fm rfl ?_ ?_
     ·intro ac
      obtain ⟨ac, H⟩ := It ac H
      refine fa<|EF 0 Z<|El (sv a) Z (Rb2 Z)<|EF 2 Z<|El (Vi p2.channel) Z (Rb1 Z)<|?_
      obtain ⟨bd, aY, H⟩ := bnd H
      obtain ⟨dy, bw, br⟩ := Slr.at h aY
      obtain ⟨dB, rfl, dw⟩ := bw
      exact Eq Z (Qi (T := fG) h aY Z)<|EF 0 Z<|El (Vi bd.capacity) Z (Rdc.k br rfl)<|Ea Z<|fb<|Pu2<|Pu1<|Re2<|Sd<|⟨_, by exact R4, bd.capacity, rfl, rfl, rfl, H⟩
     ·intro ac
      obtain ⟨ac, H⟩ := If ac H
      exact ft<|Pu2<|Pu1<|Re2<|Sd<|⟨_, by exact R4, (cU.buffer.length : Int), rfl, rfl, rfl, H⟩
    ·intro ao
     have H := f0 (btf ao) H
     exact ft<|Pu2<|Pu1<|Re2<|Sd<|⟨_, by exact R4, 0, rfl, rfl, rfl, H⟩
   rintro _ _ _ - ⟨y, rfl, rfl, rfl, H⟩
   unfold od at H
   refine fc<|fa<|EL 3 (fh p0 a b) Z (Rb1 Z)<|Em Z<|Em Z<|Eq Z (fF (cs := (fe (Result.mk 7 (-1) 0 false y))) rfl rfl rfl rfl rfl rfl)<|Eq Z (fF (cs := (fM (Done.mk p1 (Result.mk 7 (-1) 0 false y)))) rfl rfl rfl rfl rfl rfl)<|?_
   have aN : RowR fW K [(fM (Done.mk p1 (Result.mk 7 (-1) 0 false y)))] [(Done.mk p1 (Result.mk 7 (-1) 0 false y))] := RowR.cons rfl (RowR.nil)
   refine ff rfl (gg (T := fW) (rows := [(fM (Done.mk p1 (Result.mk 7 (-1) 0 false y)))]) (l := [(Done.mk p1 (Result.mk 7 (-1) 0 false y))]) rfl rfl rfl aN rfl rfl rfl rfl rfl rfl rfl rfl (fun aC => ?_))
   refine ff rfl (Sa (fh p0 a b) Z (.there .here) Z ?_)
   refine Ea Z<|Ea Z<|fb<|fy<|?_
   obtain ⟨V, W, X⟩ := jH H
   subst i o p
   refine ⟨(.inl rfl), [(.agg (fh p0 a b).toArray), (sv aC), (.bool false)], ⟨(.agg (fh p0 a b).toArray), _, rfl, ⟨_, 3, (fh p0 a b), rfl, rfl, rfl, rfl, ⟨rfl, Rb1 Z⟩, rfl⟩, ⟨(sv aC), _, rfl, rfl, ⟨(.bool false), _, rfl, rfl, rfl⟩⟩⟩, ?_⟩
   refine Shift.settle (T := fW) .here aN rfl ?_
   intro c2 aH bK
   refine Re1<|Re1<|?_
   have bL := h.mono aH
   have bM := s.mono aH
   exact Sd ⟨a, b, aC, rfl, rfl, bL, bM, bK⟩
  ·intro an
   have H := f0 (btf an) H
   refine ft<|fc<|fa<|Ea Z<|fb<|?_
   refine fz (fun t g n => ∃ (L : Int), [(1, (Vi p1)), (3, (Vp u)), (5, (Vp F)), (6, (Vp r)), (12, (Vi L))] = t ∧ (.blk r 60 (fh (fY.mk [] [] 0) fA fA)) :: (.blk F 51 (fj p2 c d)) :: (.blk u 60 (fh p0 a b)) :: G = n ∧ sb p1 p2 p0 L = some (i, o, p)) ?_ ?_
   ·refine fc<|fa<|EF 0 Z<|El (Vi p2.kind) Z (Rb1 Z)<|Ec Z<|fb<|?_
    refine fm rfl ?_ ?_
    ·intro ad
     obtain ⟨ad, H⟩ := It ad H
     refine fa<|EL 3 (fh p0 a b) Z (Rb2 Z)<|Em Z<|EL 7 (fj p2 c d) Z (Rb1 Z)<|?_
     obtain ⟨be, cK, H⟩ := bnd H
     refine ff rfl (Ek Tryz.call42 Z (BV p0 a b p1 p2 c d be cK _ _ h s I J) ?_)
     rintro _ c3 _ dm ⟨rfl, rfl⟩
     exact Ea Z<|fb<|Pu2<|Pu2<|Pu2<|Sd<|⟨_, by exact R5, be, rfl, rfl, H⟩
    ·intro ad
     obtain ⟨ad, H⟩ := If ad H
     refine fc ?_
     obtain ⟨cV, cL, H⟩ := bnd H
     obtain ⟨bf, aZ, H⟩ := bnd H
     obtain ⟨cW, cM, H⟩ := bnd H
     refine fq _ rfl (Ic Mb0 (Ic Mb1 (Ic Mb2 In0)))<|JL 0 3 (fh p0 a b) Z (Rb2 Z)<|Jm 1 Z<|JL 2 7 (fj p2 c d) Z (Rb1 Z)<|?_
     refine Ao 3 Z ?_
     refine Ek Tryz.call44 Z (kY p2 c d cV cL _ _ I J) ?_
     rintro _ c4 _ aI ⟨dC, rfl, rfl, aT⟩
     refine ⟨(Ic Mb0 (Ic Mb1 (Ic Mb2 In0))), ?_⟩
     obtain ⟨_, rfl, bs⟩ := Slr.at aT aZ
     refine gx 4 (by kernel_rfl) (Jyq Z (Qi (T := fV) aT aZ Z) ⟨(Ic Mb0 (Ic Mb1 (Ic Mb2 In0))), ?_⟩)
     refine gx 5 (by kernel_rfl) (Jyq Z (ji (m := 3) (cs := (fk bf)) rfl rfl rfl rfl ⟨rfl, Rdc.k bs rfl⟩) ⟨(Ic Mb0 (Ic Mb1 (Ic Mb2 In0))), ?_⟩)
     refine Ao 6 Z ?_
     have bN := h.mono aI
     have bO := s.mono aI
     refine Ek Tryz.call43 Z (xp p0 a b p1 bf cW cM _ _ bN bO) ?_
     rintro _ c5 _ dn ⟨rfl, rfl⟩
     refine ⟨(Ic Mb0 (Ic Mb1 (Ic Mb2 In0))), ?_⟩
     refine Ad ?_
     refine fm rfl ?_ ?_
     ·intro ap
      have H := ift ap H
      exact fa<|Ea Z<|fb<|Pu2<|Pu2<|Pu2<|Sd<|⟨_, by exact R5, 0, rfl, rfl, H⟩
     ·intro ap
      have H := f0 (btf ap) H
      exact ft<|Pu2<|Pu2<|Pu2<|Sd<|⟨_, by exact R5, (-1), rfl, rfl, H⟩
   rintro _ U _ e ⟨L, rfl, rfl, H⟩
   unfold sb at H
   refine fc<|fc<|fa<|Em Z<|Ec Z<|fb<|?_
   refine fm rfl ?_ ?_
   ·intro ae
    obtain ⟨ae, H⟩ := It ae H
    refine fz (fun t g n => ∃ (am : Nat) (P : SV) (av : ae4) (C : SV) (z : ad0) (D : SV) (A : af0) (M : Int), [(6, (Vp r)), (13, (Vp am)), (14, (sv P))] = t ∧ (.blk am 60 (fh (fY.mk z A M) C D)) :: (.blk r 60 (fh (fY.mk [] [] 0) fA fA)) :: (.tok 67 6 [(sv P)]) :: G = n ∧ yL av z A M = some (i, o, p) ∧ Slr fW g (sv P) av ∧ Slr fG g (sv C) z ∧ Slr fQ g (sv D) A) ?_ ?_
    ·obtain ⟨bg, a0, H⟩ := bnd H
     obtain ⟨E, R, H⟩ := bnd H
     obtain ⟨f, x, aj, H⟩ := ix H
     refine fq _ rfl (Ic Mb0 (Ic Mb1 (Ic Mb2 In0)))<|JL 0 3 (fh p0 a b) Z (Rb2 Z)<|Jm 1 Z<|JL 2 7 (fj p2 c d) Z (Rb1 Z)<|Jm 3 Z<|JL 4 7 (fj p2 c d) Z (Rb1 Z)<|Jm 6 Z<|?_
     refine gU 5 13 (by kernel_rfl) ?_ ?_
     ·refine id (Jy Z ?_)
      have ah := I.mono e
      have ai := J.mono e
      refine Ek Tryz.call44 Z (kY p2 c d bg a0 _ _ ah ai) ?_
      rintro _ c6 _ j ⟨dD, rfl, rfl, al⟩
      refine ⟨(Ic Mb0 (Ic Mb1 (Ic Mb2 In0))), ?_⟩
      refine gU 7 13 (by kernel_rfl) ?_ ?_
      ·obtain ⟨_, rfl, aS⟩ := Slr.at al R
       refine id (Jyq Z (Qi (T := fV) al R Z) ⟨(Ic Mb0 (Ic Mb1 (Ic Mb2 In0))), ?_⟩)
       refine gU 8 13 (by kernel_rfl) ?_ ?_
       ·refine id (Jyq Z (ji (m := 3) (cs := (fk E)) rfl rfl rfl rfl ⟨rfl, Rdc.k aS rfl⟩) ⟨(Ic Mb0 (Ic Mb1 (Ic Mb2 In0))), ?_⟩)
        refine gU 9 13 (by kernel_rfl) ?_ ?_
        ·refine id (Jy Z ?_)
         have bS := (h.mono e).mono j
         have bT := (s.mono e).mono j
         have bU := ah.mono j
         have bV := ai.mono j
         refine Ek Tryz.call45 Z (lA p0 a b p1 p2 c d L E f x aj _ _ bS bT bU bV) ?_
         rintro _ c7 _ dp ⟨a1, a2, cO, rfl, rfl, bW, bX, bY⟩
         refine ⟨(Ic Mb1 (Ic Mb2 (Ic Mb3 In0))), ?_⟩
         refine Jm 10 Z<|Jx 11 Z<|Jx 12 Z<|?_
         refine Ao 13 Z ?_
         refine fC (cs := (fh (fY.mk [] [] 0) fA fA)) rfl rfl rfl rfl (fun bi => ⟨(Ic Mb2 (Ic Mb3 (Ic Mb4 In0))), ?_⟩)
         refine Ao 14 Z ?_
         refine Sa (fh f a1 a2) Z .here Z ⟨(Ic Mb2 (Ic Mb3 (Ic Mb4 In0))), ?_⟩
         exact Ja 15 Z<|Ad<|Pu1<|Pu2<|Pu2<|Re3<|Re3<|Sd<|⟨_, by exact R3, bi, cO, x, a1, f.chans, a2, f.waiting, f.tick, rfl, rfl, H, bY, bW, bX⟩
        ·refine id (Jy Z ?_)
         refine fC (cs := (fh (fY.mk [] [] 0) fA fA)) rfl rfl rfl rfl (fun bj => ⟨(Ic Mb1 (Ic Mb2 (Ic Mb3 In0))), ?_⟩)
         refine Ao 9 Z ?_
         have bZ := (h.mono e).mono j
         have b0 := (s.mono e).mono j
         have b1 := ah.mono j
         have b2 := ai.mono j
         refine Ek Tryz.call45 Z (lA p0 a b p1 p2 c d L E f x aj _ _ bZ b0 b1 b2) ?_
         rintro _ c8 _ dq ⟨a3, a4, cP, rfl, rfl, b3, b4, b5⟩
         refine ⟨(Ic Mb2 (Ic Mb3 (Ic Mb4 In0))), ?_⟩
         refine Jm 10 Z<|Jx 11 Z<|Jx 12 Z<|?_
         refine Ao 14 Z ?_
         refine Sa (fh f a3 a4) Z (.there .here) Z ⟨(Ic Mb2 (Ic Mb3 (Ic Mb4 In0))), ?_⟩
         exact Ja 15 Z<|Ad<|Pu2<|Pu2<|Re3<|Re3<|Sd<|⟨_, by exact R3, bj, cP, x, a3, f.chans, a4, f.waiting, f.tick, rfl, rfl, H, b5, b3, b4⟩
       ·refine id (Jy Z ?_)
        refine fC (cs := (fh (fY.mk [] [] 0) fA fA)) rfl rfl rfl rfl (fun bk => ⟨(Ic Mb1 (Ic Mb2 (Ic Mb3 In0))), ?_⟩)
        refine gx 8 (by kernel_rfl) (Jyq Z (ji (m := 3) (cs := (fk E)) rfl rfl rfl rfl ⟨rfl, Rdc.k aS rfl⟩) ⟨(Ic Mb1 (Ic Mb2 (Ic Mb3 In0))), ?_⟩)
        refine Ao 9 Z ?_
        have b6 := (h.mono e).mono j
        have b7 := (s.mono e).mono j
        have b8 := ah.mono j
        have b9 := ai.mono j
        refine Ek Tryz.call45 Z (lA p0 a b p1 p2 c d L E f x aj _ _ b6 b7 b8 b9) ?_
        rintro _ c9 _ dr ⟨a5, a6, cQ, rfl, rfl, ca, cb, cc⟩
        refine ⟨(Ic Mb2 (Ic Mb3 (Ic Mb4 In0))), ?_⟩
        refine Jm 10 Z<|Jx 11 Z<|Jx 12 Z<|?_
        refine Ao 14 Z ?_
        refine Sa (fh f a5 a6) Z (.there .here) Z ⟨(Ic Mb2 (Ic Mb3 (Ic Mb4 In0))), ?_⟩
        exact Ja 15 Z<|Ad<|Pu2<|Pu2<|Re3<|Re3<|Sd<|⟨_, by exact R3, bk, cQ, x, a5, f.chans, a6, f.waiting, f.tick, rfl, rfl, H, cc, ca, cb⟩
      ·refine id (Jy Z ?_)
       refine fC (cs := (fh (fY.mk [] [] 0) fA fA)) rfl rfl rfl rfl (fun bl => ⟨(Ic Mb1 (Ic Mb2 (Ic Mb3 In0))), ?_⟩)
       obtain ⟨_, rfl, bt⟩ := Slr.at al R
       refine gx 7 (by kernel_rfl) (Jyq Z (Qi (T := fV) al R Z) ⟨(Ic Mb1 (Ic Mb2 (Ic Mb3 In0))), ?_⟩)
       refine gx 8 (by kernel_rfl) (Jyq Z (ji (m := 3) (cs := (fk E)) rfl rfl rfl rfl ⟨rfl, Rdc.k bt rfl⟩) ⟨(Ic Mb1 (Ic Mb2 (Ic Mb3 In0))), ?_⟩)
       refine Ao 9 Z ?_
       have cd := (h.mono e).mono j
       have ce := (s.mono e).mono j
       have cf := ah.mono j
       have cg := ai.mono j
       refine Ek Tryz.call45 Z (lA p0 a b p1 p2 c d L E f x aj _ _ cd ce cf cg) ?_
       rintro _ da _ ds ⟨a7, a8, cR, rfl, rfl, ch, ci, cj⟩
       refine ⟨(Ic Mb2 (Ic Mb3 (Ic Mb4 In0))), ?_⟩
       refine Jm 10 Z<|Jx 11 Z<|Jx 12 Z<|?_
       refine Ao 14 Z ?_
       refine Sa (fh f a7 a8) Z (.there .here) Z ⟨(Ic Mb2 (Ic Mb3 (Ic Mb4 In0))), ?_⟩
       exact Ja 15 Z<|Ad<|Pu2<|Pu2<|Re3<|Re3<|Sd<|⟨_, by exact R3, bl, cR, x, a7, f.chans, a8, f.waiting, f.tick, rfl, rfl, H, cj, ch, ci⟩
     ·refine id (Jy Z ?_)
      refine fC (cs := (fh (fY.mk [] [] 0) fA fA)) rfl rfl rfl rfl (fun bm => ⟨(Ic Mb1 (Ic Mb2 (Ic Mb3 In0))), ?_⟩)
      refine Ao 5 Z ?_
      have aU := I.mono e
      have aV := J.mono e
      refine Ek Tryz.call44 Z (kY p2 c d bg a0 _ _ aU aV) ?_
      rintro _ db _ ak ⟨dE, rfl, rfl, aW⟩
      refine ⟨(Ic Mb1 (Ic Mb2 (Ic Mb3 In0))), ?_⟩
      obtain ⟨_, rfl, bu⟩ := Slr.at aW R
      refine gx 7 (by kernel_rfl) (Jyq Z (Qi (T := fV) aW R Z) ⟨(Ic Mb1 (Ic Mb2 (Ic Mb3 In0))), ?_⟩)
      refine gx 8 (by kernel_rfl) (Jyq Z (ji (m := 3) (cs := (fk E)) rfl rfl rfl rfl ⟨rfl, Rdc.k bu rfl⟩) ⟨(Ic Mb1 (Ic Mb2 (Ic Mb3 In0))), ?_⟩)
      refine Ao 9 Z ?_
      have ck := (h.mono e).mono ak
      have cl := (s.mono e).mono ak
      have cm := aU.mono ak
      have cn := aV.mono ak
      refine Ek Tryz.call45 Z (lA p0 a b p1 p2 c d L E f x aj _ _ ck cl cm cn) ?_
      rintro _ dc _ dt ⟨a9, ba, cS, rfl, rfl, co, cp, cq⟩
      refine ⟨(Ic Mb2 (Ic Mb3 (Ic Mb4 In0))), ?_⟩
      refine Jm 10 Z<|Jx 11 Z<|Jx 12 Z<|?_
      refine Ao 14 Z ?_
      refine Sa (fh f a9 ba) Z (.there .here) Z ⟨(Ic Mb2 (Ic Mb3 (Ic Mb4 In0))), ?_⟩
      exact Ja 15 Z<|Ad<|Pu2<|Pu2<|Re3<|Re3<|Sd<|⟨_, by exact R3, bm, cS, x, a9, f.chans, ba, f.waiting, f.tick, rfl, rfl, H, cq, co, cp⟩
    rintro _ dd _ du ⟨am, P, av, C, z, D, A, M, rfl, rfl, H, bP, bQ, bR⟩
    unfold yL at H
    refine fc<|fa<|EL 3 (fh (fY.mk z A M) C D) Z (Rb0 Z)<|Em Z<|?_
    refine ff rfl (Sa (fh (fY.mk z A M) C D) Z (.there .here) Z ?_)
    refine Ea Z<|Ea Z<|fb<|fy<|?_
    obtain ⟨V, W, X⟩ := jH H
    subst i o p
    refine ⟨(.inl rfl), [(.agg (fh (fY.mk z A M) C D).toArray), (sv P), (.bool false)], ⟨(.agg (fh (fY.mk z A M) C D).toArray), _, rfl, ⟨_, 3, (fh (fY.mk z A M) C D), rfl, rfl, rfl, rfl, ⟨rfl, Rb1 Z⟩, rfl⟩, ⟨(sv P), _, rfl, rfl, ⟨(.bool false), _, rfl, rfl, rfl⟩⟩⟩, ?_⟩
    exact Pu2<|Re1<|Re1<|Sd<|⟨C, D, P, rfl, rfl, bQ, bR, bP⟩
   ·intro ae
    obtain ⟨ae, H⟩ := If ae H
    refine ft<|fc<|fc<|fa<|EF 1 Z<|El (Vi p2.mode) Z (Rb1 Z)<|Ec Z<|fb<|?_
    refine fm rfl ?_ ?_
    ·intro af
     obtain ⟨af, H⟩ := It af H
     refine fc<|fa<|EL 3 (fh p0 a b) Z (Rb2 Z)<|Em Z<|Eq Z (fF (cs := (fe (Result.mk 3 (-1) 0 false 0))) rfl rfl rfl rfl rfl rfl)<|Eq Z (fF (cs := (fM (Done.mk p1 (Result.mk 3 (-1) 0 false 0)))) rfl rfl rfl rfl rfl rfl)<|?_
     have aO : RowR fW U [(fM (Done.mk p1 (Result.mk 3 (-1) 0 false 0)))] [(Done.mk p1 (Result.mk 3 (-1) 0 false 0))] := RowR.cons rfl (RowR.nil)
     refine ff rfl (gg (T := fW) (rows := [(fM (Done.mk p1 (Result.mk 3 (-1) 0 false 0)))]) (l := [(Done.mk p1 (Result.mk 3 (-1) 0 false 0))]) rfl rfl rfl aO rfl rfl rfl rfl rfl rfl rfl rfl (fun aD => ?_))
     refine ff rfl (Sa (fh p0 a b) Z (.there .here) Z ?_)
     refine Ea Z<|Ea Z<|fb<|fy<|?_
     obtain ⟨V, W, X⟩ := jH H
     subst i o p
     refine ⟨(.inl rfl), [(.agg (fh p0 a b).toArray), (sv aD), (.bool false)], ⟨(.agg (fh p0 a b).toArray), _, rfl, ⟨_, 3, (fh p0 a b), rfl, rfl, rfl, rfl, ⟨rfl, Rb1 Z⟩, rfl⟩, ⟨(sv aD), _, rfl, rfl, ⟨(.bool false), _, rfl, rfl, rfl⟩⟩⟩, ?_⟩
     refine Shift.settle (T := fW) .here aO rfl ?_
     intro de aJ cr
     refine Re1<|Re1<|Re1<|?_
     have ct := (h.mono e).mono aJ
     have cu := (s.mono e).mono aJ
     exact Sd ⟨a, b, aD, rfl, rfl, ct, cu, cr⟩
    ·intro af
     obtain ⟨af, H⟩ := If af H
     refine ft<|fc<|?_
     refine fz (fun t g n => ∃ (ay : Bool), [(1, (Vi p1)), (3, (Vp u)), (5, (Vp F)), (6, (Vp r)), (114, (.bool ay))] = t ∧ U = g ∧ (.blk r 60 (fh (fY.mk [] [] 0) fA fA)) :: (.blk F 51 (fj p2 c d)) :: (.blk u 60 (fh p0 a b)) :: G = n ∧ oe p1 p2 p0 ay = some (i, o, p)) ?_ ?_
     ·refine fa<|EF 1 Z<|El (Vi p2.mode) Z (Rb1 Z)<|Ec Z<|Em Z<|?_
      refine Ee Z ?_ ?_
      ·intro ag
       obtain ⟨ag, H⟩ := It ag H
       exact VF 4 Z<|Vl (Vi p2.deadline) Z (Rb1 Z)<|VF 2 Z<|Vl (Vi p0.tick) Z (Rb2 Z)<|Vc Z<|Et Z<|fb<|Pu2<|Pu2<|Pu2<|Sd<|⟨_, by exact R5, (dcd (p2.deadline ≤ p0.tick)), rfl, rfl, rfl, H⟩
      ·intro ag
       obtain ⟨ag, H⟩ := If ag H
       exact Ez Z<|Ez Z<|Ez Z<|Ez Z<|Ez Z<|Ef Z<|fb<|Pu2<|Pu2<|Pu2<|Sd<|⟨_, by exact R5, false, rfl, rfl, rfl, H⟩
     rintro _ _ _ - ⟨ay, rfl, rfl, rfl, H⟩
     unfold oe at H
     refine fm rfl ?_ ?_
     ·intro aq
      have H := ift aq H
      refine fc<|fa<|EL 3 (fh p0 a b) Z (Rb2 Z)<|Em Z<|Eq Z (fF (cs := (fe (Result.mk 4 (-1) 0 false 0))) rfl rfl rfl rfl rfl rfl)<|Eq Z (fF (cs := (fM (Done.mk p1 (Result.mk 4 (-1) 0 false 0)))) rfl rfl rfl rfl rfl rfl)<|?_
      have aP : RowR fW U [(fM (Done.mk p1 (Result.mk 4 (-1) 0 false 0)))] [(Done.mk p1 (Result.mk 4 (-1) 0 false 0))] := RowR.cons rfl (RowR.nil)
      refine ff rfl (gg (T := fW) (rows := [(fM (Done.mk p1 (Result.mk 4 (-1) 0 false 0)))]) (l := [(Done.mk p1 (Result.mk 4 (-1) 0 false 0))]) rfl rfl rfl aP rfl rfl rfl rfl rfl rfl rfl rfl (fun aE => ?_))
      refine ff rfl (Sa (fh p0 a b) Z (.there .here) Z ?_)
      refine Ea Z<|Ea Z<|fb<|fy<|?_
      obtain ⟨V, W, X⟩ := jH H
      subst i o p
      refine ⟨(.inl rfl), [(.agg (fh p0 a b).toArray), (sv aE), (.bool false)], ⟨(.agg (fh p0 a b).toArray), _, rfl, ⟨_, 3, (fh p0 a b), rfl, rfl, rfl, rfl, ⟨rfl, Rb1 Z⟩, rfl⟩, ⟨(sv aE), _, rfl, rfl, ⟨(.bool false), _, rfl, rfl, rfl⟩⟩⟩, ?_⟩
      refine Shift.settle (T := fW) .here aP rfl ?_
      intro df aK cv
      refine Re1<|Re1<|Re1<|?_
      have cw := (h.mono e).mono aK
      have cx := (s.mono e).mono aK
      exact Sd ⟨a, b, aE, rfl, rfl, cw, cx, cv⟩
     ·intro aq
      have H := f0 (btf aq) H
      refine ft ?_
      refine fz (fun t g n => ∃ (w : SV) (B : af0), [(3, (Vp u)), (6, (Vp r))] = t ∧ (.blk r 60 (fh (fY.mk [] [] 0) fA fA)) :: (.blk u 60 (fh (fY.mk p0.chans B p0.tick) a w)) :: (.tok 96 8 [(sv w)]) :: G = n ∧ yM p0 B = some (i, o, p) ∧ Slr fQ g (sv w) B) ?_ ?_
      ·obtain ⟨dJ, ar, H⟩ := bnd H
       obtain ⟨S, au, H⟩ := bnd H
       refine fq _ rfl (Ic Mb0 (Ic Mb1 In0))<|JF 0 1 Z<|Jm 3 Z<|JL 4 7 (fj p2 c d) Z (Rb1 Z)<|Jq 5 Z (fF (cs := (gp (gB.mk p1 p2) c d)) rfl rfl rfl rfl rfl rfl)<|?_
       refine gU 1 6 (by kernel_rfl) ?_ ?_
       ·refine id (Jyq Z (gn (v := (sv b)) rfl rfl rfl (Rb2 Z)) ⟨(Ic Mb0 (Ic Mb1 In0)), ?_⟩)
        refine gU 2 6 (by kernel_rfl) ?_ ?_
        ·refine id (Jy Z ?_)
         refine OpW.shift (Shift.nilTok1 96 8 (Sd ?_))
         have cz := s.mono e
         refine f7 (T := fQ) (bytes := 96) (q := 0) rfl rfl rfl (Slr.nil fQ _) Mb0 rfl (SrcT.sl cz) ar rfl rfl rfl rfl rfl rfl rfl rfl (fun dF bh aL cA => ⟨_, .here, ⟨(Ic Mb1 (Ic Mb2 In0)), ?_⟩⟩)
         refine Ao 6 Z ?_
         have cB := (I.mono e).mono aL
         have cC := (J.mono e).mono aL
         have aQ : RowR fQ bh [(gp (gB.mk p1 p2) c d)] [(gB.mk p1 p2)] := RowR.cons ⟨c, d, rfl, cB, cC⟩ (RowR.nil)
         refine gg (T := fQ) (rows := [(gp (gB.mk p1 p2) c d)]) (l := [(gB.mk p1 p2)]) rfl rfl rfl aQ rfl rfl rfl rfl rfl rfl rfl rfl (fun dG => ⟨(Ic Mb2 (Ic Mb3 In0)), ?_⟩)
         refine Ao 7 Z ?_
         refine f7 (T := fQ) (bytes := 96) (q := 0) rfl rfl rfl cA Mb1 rfl (SrcT.row Mb0 aQ rfl) au rfl rfl rfl rfl rfl rfl rfl rfl (fun aF dg dv cD => ⟨_, (.there .here), ⟨(Ic Mb2 (Ic Mb3 In0)), ?_⟩⟩)
         refine Aw.shift (Re0 (Sd ⟨(Ic Mb1 (Ic Mb2 In0)), ?_⟩))
         refine JF 8 1 Z ?_
         refine Ao 9 Z ?_
         refine So [(sv aF)] (fh (fY.mk p0.chans S p0.tick) a aF) Z (.there (.there (.there .here))) Z ⟨(Ic Mb1 (Ic Mb2 In0)), ?_⟩
         exact Ad<|Pu3<|Pu2<|Re3<|Sd<|⟨_, by exact R2, aF, S, rfl, rfl, H, cD⟩
        ·refine id (Jy Z ?_)
         have cE := I.mono e
         have cF := J.mono e
         have aR : RowR fQ U [(gp (gB.mk p1 p2) c d)] [(gB.mk p1 p2)] := RowR.cons ⟨c, d, rfl, cE, cF⟩ (RowR.nil)
         refine gg (T := fQ) (rows := [(gp (gB.mk p1 p2) c d)]) (l := [(gB.mk p1 p2)]) rfl rfl rfl aR rfl rfl rfl rfl rfl rfl rfl rfl (fun dH => ⟨(Ic Mb1 (Ic Mb2 In0)), ?_⟩)
         refine Ao 2 Z ?_
         refine OpW.shift (Shift.nilTok1 96 8 (Sd ?_))
         have cG := s.mono e
         refine f7 (T := fQ) (bytes := 96) (q := 0) rfl rfl rfl (Slr.nil fQ _) Mb0 rfl (SrcT.sl cG) ar rfl rfl rfl rfl rfl rfl rfl rfl (fun dI dh bp cH => ⟨_, .here, ⟨(Ic Mb2 (Ic Mb3 In0)), ?_⟩⟩)
         refine Ao 7 Z ?_
         have cI := aR.mono bp
         refine f7 (T := fQ) (bytes := 96) (q := 0) rfl rfl rfl cH Mb0 rfl (SrcT.row Mb1 cI rfl) au rfl rfl rfl rfl rfl rfl rfl rfl (fun az cX dj bx => ⟨_, .here, ⟨(Ic Mb2 (Ic Mb3 In0)), ?_⟩⟩)
         refine Aw.shift (Re1 (Sd ⟨(Ic Mb1 (Ic Mb2 In0)), ?_⟩))
         refine JF 8 1 Z ?_
         refine Ao 9 Z ?_
         refine So [(sv az)] (fh (fY.mk p0.chans S p0.tick) a az) Z (.there (.there (.there .here))) Z ⟨(Ic Mb1 (Ic Mb2 In0)), ?_⟩
         exact Ad<|Pu3<|Pu2<|Re3<|Sd<|⟨_, by exact R2, az, S, rfl, rfl, H, bx⟩
       ·refine id (Jy Z ?_)
        have bz := I.mono e
        have bA := J.mono e
        have aM : RowR fQ U [(gp (gB.mk p1 p2) c d)] [(gB.mk p1 p2)] := RowR.cons ⟨c, d, rfl, bz, bA⟩ (RowR.nil)
        refine gg (T := fQ) (rows := [(gp (gB.mk p1 p2) c d)]) (l := [(gB.mk p1 p2)]) rfl rfl rfl aM rfl rfl rfl rfl rfl rfl rfl rfl (fun dz => ⟨(Ic Mb1 (Ic Mb2 In0)), ?_⟩)
        refine gx 1 (by kernel_rfl) (Jyq Z (gn (v := (sv b)) rfl rfl rfl (Rb3 Z)) ⟨(Ic Mb1 (Ic Mb2 In0)), ?_⟩)
        refine Ao 2 Z ?_
        refine OpW.shift (Shift.nilTok1 96 8 (Sd ?_))
        have bB := s.mono e
        refine f7 (T := fQ) (bytes := 96) (q := 0) rfl rfl rfl (Slr.nil fQ _) Mb0 rfl (SrcT.sl bB) ar rfl rfl rfl rfl rfl rfl rfl rfl (fun dA cY bn bC => ⟨_, .here, ⟨(Ic Mb2 (Ic Mb3 In0)), ?_⟩⟩)
        refine Ao 7 Z ?_
        have bD := aM.mono bn
        refine f7 (T := fQ) (bytes := 96) (q := 0) rfl rfl rfl bC Mb0 rfl (SrcT.row Mb1 bD rfl) au rfl rfl rfl rfl rfl rfl rfl rfl (fun aA cZ dk bE => ⟨_, .here, ⟨(Ic Mb2 (Ic Mb3 In0)), ?_⟩⟩)
        refine Aw.shift (Re1 (Sd ⟨(Ic Mb1 (Ic Mb2 In0)), ?_⟩))
        refine JF 8 1 Z ?_
        refine Ao 9 Z ?_
        refine So [(sv aA)] (fh (fY.mk p0.chans S p0.tick) a aA) Z (.there (.there (.there .here))) Z ⟨(Ic Mb1 (Ic Mb2 In0)), ?_⟩
        exact Ad<|Pu3<|Pu2<|Re3<|Sd<|⟨_, by exact R2, aA, S, rfl, rfl, H, bE⟩
      rintro _ c0 _ bo ⟨w, B, rfl, rfl, H, cy⟩
      unfold yM at H
      refine fc<|fa<|EL 3 (fh (fY.mk p0.chans B p0.tick) a w) Z (Rb1 Z)<|?_
      refine ff rfl (Sa (fh (fY.mk p0.chans B p0.tick) a w) Z .here Z ?_)
      refine Ea Z<|Ea Z<|fb<|fy<|?_
      obtain ⟨V, W, X⟩ := jH H
      subst i o p
      refine ⟨(.inl rfl), [(.agg (fh (fY.mk p0.chans B p0.tick) a w).toArray), (sv fA), (.bool true)], ⟨(.agg (fh (fY.mk p0.chans B p0.tick) a w).toArray), _, rfl, ⟨_, 3, (fh (fY.mk p0.chans B p0.tick) a w), rfl, rfl, rfl, rfl, ⟨rfl, Rb0 Z⟩, rfl⟩, ⟨(sv fA), _, rfl, rfl, ⟨(.bool true), _, rfl, rfl, rfl⟩⟩⟩, ?_⟩
      refine Shift.nilTok1 67 6<|Re1<|Re1<|Re1<|?_
      have bF := (h.mono e).mono bo
      exact Sd ⟨a, w, fA, rfl, rfl, bF, cy, (Slr.nil fW _)⟩
end Go.Hx
