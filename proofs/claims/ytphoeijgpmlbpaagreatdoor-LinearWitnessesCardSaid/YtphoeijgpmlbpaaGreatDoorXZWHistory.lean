
import Derived.Test.YtphoeijgpmlbpaaGreatDoorXZM
import Derived.Test.YtphoeijgpmlbpaaGreatDoorXZShelf
set_option linter.unusedVariables false
set_option linter.unusedSimpArgs false
namespace Go.Hx
open Go Go.Proofs
set_option maxRecDepth 10000
set_option maxHeartbeats 1000000
theorem zX (p0 : ad4) (j : SV) (p1 : Int) (p2 : Int) (p3 : Bool) (c : Int) (H : pz p0 p1 p2 p3 = some c) (K : Kp) (G : List Ent) (m : Slr f4 K (sv j) p0) :
  Fc Tryz.prog 87 #[(sv j), (Vi p1), (Vi p2), (.bool p3)] K (G) (fun v e b => v = (Vi c) ∧ G = b) := by
 refine fN Tryz.func87 rfl Tryz.ntmps87 Tryz.results87 rfl ?_
 unfold pz at H
 refine fc<|fa<|Ea Z<|fb<|?_
 refine fz (fun f e b => [] = f ∧ G = b ∧ qI = some c) ?_ ?_
 ·refine fc<|fa<|Em Z<|Eq Z (gg (T := f4) m rfl rfl)<|Em Z<|fb<|fA<|?_
  refine f7 (fun n117 f e b => ∃ (a : Int), [(1, (Vi p1)), (2, (Vi p2)), (3, (.bool p3)), (11, (sv j)), (12, (Vi (p0.length : Int))), (13, (Vi a))] = f ∧ K = e ∧ G = b ∧ lp1 (sw p1 p2 p3 p0) n117 a = some c) BIG ?_ ?_
  ·exact Sd ⟨_, by exact R6, 0, rfl, rfl, rfl, H⟩
  rintro n117 _ _ _ - ⟨a, rfl, rfl, rfl, H⟩
  obtain ⟨x, s, rfl, r, H⟩ := lx H
  unfold sw at H
  refine fc<|fa<|Ec Z<|fb<|fc<|?_
  refine fm rfl ?_ ?_
  ·intro g
   obtain ⟨g, H⟩ := It g H
   refine ft<|fc<|fA<|fc<|fa<|Em Z<|?_
   obtain ⟨d, o, H⟩ := bnd H
   obtain ⟨_, rfl, q⟩ := Slr.at m o
   refine Eq Z (Qi (T := f4) m o Z)<|EL 8 (fZ d) Z (Rdc.k q rfl)<|?_
   refine ff rfl (fC (cs := (fZ (Event.mk 0 0 false (Result.mk 0 0 0 false 0)))) rfl rfl rfl rfl (fun u => ?_))
   refine Ea Z ?_
   refine ff rfl (Sa (fZ d) Z .here Z ?_)
   refine fb ?_
   refine fz (fun f e b => ∃ (n : Bool), [(1, (Vi p1)), (2, (Vi p2)), (3, (.bool p3)), (9, (Vi a)), (11, (sv j)), (12, (Vi (p0.length : Int))), (13, (Vi a)), (33, (.bool n))] = f ∧ K = e ∧ G = b ∧ su p1 p2 p3 a p0 s n = some c) ?_ ?_
   ·refine fa<|EF 0 Z<|El (Vi d.thread) Z (Rb0 Z)<|Em Z<|Ec Z<|Em Z<|?_
    refine Ee Z ?_ ?_
    ·intro h
     obtain ⟨h, H⟩ := It h H
     refine VF 1 Z<|Vl (Vi d.op) Z (Rb0 Z)<|Vm Z<|Vc Z<|Et Z<|Em Z<|?_
     refine Ee Z ?_ ?_
     ·intro i
      obtain ⟨i, H⟩ := It i H
      exact VF 2 Z<|Vl (.bool d.ret) Z (Rb0 Z)<|Vm Z<|Vq Z (zq rfl rfl rfl)<|Et Z<|fb<|Re0<|Sd<|⟨_, by exact R8, (d.ret == p3), rfl, rfl, rfl, H⟩
     ·intro i
      obtain ⟨i, H⟩ := If i H
      exact Ez Z<|Ez Z<|Ez Z<|Ez Z<|Ef Z<|fb<|Re0<|Sd<|⟨_, by exact R8, false, rfl, rfl, rfl, H⟩
    ·intro h
     obtain ⟨h, H⟩ := If h H
     exact Ez Z<|Ez Z<|Ez Z<|Ez Z<|Ef Z<|Em Z<|Ez Z<|Ez Z<|Ez Z<|Ez Z<|Ef Z<|fb<|Re0<|Sd<|⟨_, by exact R8, false, rfl, rfl, rfl, H⟩
   rintro _ _ _ - ⟨n, rfl, rfl, rfl, H⟩
   unfold su at H
   refine fm rfl ?_ ?_
   ·intro l
    have H := ift l H
    refine fc<|fa<|Em Z<|Ea Z<|fb<|fx<|?_
    obtain p := gn H
    subst c
    refine ⟨(.inl rfl), [(Vi a)], ⟨(Vi a), _, rfl, rfl, rfl⟩, ?_⟩
    exact Sd ⟨rfl, rfl⟩
   ·intro l
    have H := fX (btf l) H
    exact ft<|fa<|Er (wI (a + 1)) Z<|Em Z<|fb<|Sd<|⟨_, by exact R6, _, Nat.lt_succ_self _, (wI (a + 1)), rfl, rfl, rfl, (r ▸ H)⟩
  ·intro g
   obtain ⟨g, H⟩ := If g H
   exact f9<|Sd<|⟨[], trivial, rfl, rfl, H⟩
 rintro _ t _ w ⟨rfl, rfl, H⟩
 unfold qI at H
 refine fc<|fa<|Ea Z<|fb<|fx<|?_
 obtain p := gn H
 subst c
 refine ⟨(.inl rfl), [(Vi (-1))], ⟨(Vi (-1)), _, rfl, rfl, rfl⟩, ?_⟩
 exact Sd ⟨rfl, rfl⟩
theorem yi (p0 : ad4) (a : SV) (p1 : Int) (p2 : Int) (c : Int) (H : qJ p0 p1 p2 = some c) (K : Kp) (G : List Ent) (e : Slr f4 K (sv a) p0) :
  Fc Tryz.prog 55 #[(sv a), (Vi p1), (Vi p2)] K (G) (fun v g d => v = (Vi c) ∧ G = d) := by
 refine fN Tryz.func55 rfl Tryz.ntmps55 Tryz.results55 rfl ?_
 unfold qJ at H
 refine fc<|fa<|Ea Z<|fb<|fc<|fa<|Em Z<|Em Z<|Em Z<|?_
 obtain ⟨b, f, H⟩ := bnd H
 refine ff rfl (Ek Tryz.call87 Z (zX p0 a p1 p2 false b f _ _ e) ?_)
 rintro _ h _ j ⟨rfl, rfl⟩
 refine Ea Z<|fb<|fx<|?_
 obtain i := gn H
 subst c
 refine ⟨(.inl rfl), [(Vi b)], ⟨(Vi b), _, rfl, rfl, rfl⟩, ?_⟩
 exact Sd ⟨rfl, rfl⟩
theorem ES (p0 : ad4) (e : SV) (p1 : Int) (p2 : Int) (c : Result) (d : Int) (H : uy p0 p1 p2 = some (c, d)) (K : Kp) (G : List Ent) (f : Slr f4 K (sv e) p0) :
  Fc Tryz.prog 56 #[(sv e), (Vi p1), (Vi p2)] K (G) (fun v p i => v = (.tuple #[(.agg (fe c).toArray), (Vi d)]) ∧ G = i) := by
 refine fN Tryz.func56 rfl Tryz.ntmps56 Tryz.results56 rfl ?_
 unfold uy at H
 refine fc<|fa<|?_
 refine ff rfl (fC (cs := (fe (Result.mk 0 0 0 false 0))) rfl rfl rfl rfl (fun r => ?_))
 refine Ea Z<|fb<|fc<|fa<|Em Z<|Em Z<|Em Z<|?_
 obtain ⟨x14, o, H⟩ := bnd H
 refine ff rfl (Ek Tryz.call87 Z (zX p0 e p1 p2 true x14 o _ _ f) ?_)
 rintro _ q _ m ⟨rfl, rfl⟩
 refine Ea Z<|fb<|fc<|fc<|fa<|Em Z<|Ec Z<|fb<|?_
 refine fm rfl ?_ ?_
 ·intro a
  obtain ⟨a, H⟩ := It a H
  refine fc<|fa<|Eq Z (fH (cs := (fe (Result.mk 0 0 0 false 0))) rfl rfl rfl rfl rfl rfl)<|?_
  refine ff rfl (Sa (fe (Result.mk 0 0 0 false 0)) Z .here Z ?_)
  refine Ea Z<|fb<|fx<|?_
  obtain ⟨j, l⟩ := hY H
  subst c d
  refine ⟨(.inl rfl), [(.agg (fe (Result.mk 0 0 0 false 0)).toArray), (Vi (-1))], ⟨(.agg (fe (Result.mk 0 0 0 false 0)).toArray), _, rfl, ⟨_, 5, (fe (Result.mk 0 0 0 false 0)), rfl, rfl, rfl, rfl, ⟨rfl, Rb0 Z⟩, rfl⟩, ⟨(Vi (-1)), _, rfl, rfl, rfl⟩⟩, ?_⟩
  exact Re0<|Sd<|⟨rfl, rfl⟩
 ·intro a
  obtain ⟨a, H⟩ := If a H
  refine ft<|fc<|fa<|Em Z<|Em Z<|?_
  obtain ⟨b, h, H⟩ := bnd H
  have g := f.mono m
  obtain ⟨_, rfl, n⟩ := Slr.at g h
  refine Eq Z (Qi (T := f4) g h Z)<|EF 3 Z<|EL 5 (fe b.result) Z (Rdc.k n rfl)<|Em Z<|?_
  refine ff rfl (Sa (fe b.result) Z .here Z ?_)
  refine Ea Z<|fb<|fx<|?_
  obtain ⟨j, l⟩ := hY H
  subst c d
  refine ⟨(.inl rfl), [(.agg (fe b.result).toArray), (Vi x14)], ⟨(.agg (fe b.result).toArray), _, rfl, ⟨_, 5, (fe b.result), rfl, rfl, rfl, rfl, ⟨rfl, Rb0 Z⟩, rfl⟩, ⟨(Vi x14), _, rfl, rfl, rfl⟩⟩, ?_⟩
  exact Re0<|Sd<|⟨rfl, rfl⟩
end Go.Hx
namespace Go.Hx
open Go Go.Proofs
set_option maxRecDepth 10000
set_option maxHeartbeats 1000000
theorem CC (p0 : ae3) (J : SV) (p1 : ad4) (w : SV) (z : af9) (A : Bool) (B : ad2) (H : qK p0 p1 = some (z, A, B)) (K : Kp) (G : List Ent) (an : Slr (Ty.sl gC) K (sv J) p0) (ao : Slr f4 K (sv w) p1) :
  Fc Tryz.prog 28 #[(sv J), (sv w)] K (G) (fun v p o => ∃ (ay : Nat) (aZ : SV) (az : Nat) (aA : Array MapEntry) (a2 : Nat), v = (Vp ay) ∧ (.obj az (.map aA a2)) :: (.blk ay 84 [(sv aZ), (.bool A), .nilFunc, (.map (some az)), (sv fB)]) :: G = o ∧ Slr (Ty.sl fY) p (sv aZ) z ∧ MapR Ty.bool Value.string p aA B) := by
 refine fN Tryz.func28 rfl Tryz.ntmps28 Tryz.results28 rfl ?_
 unfold qK at H
 refine fc<|fa<|Ea Z<|fb<|fc<|fa<|Em Z<|Eq Z (gg (T := (Ty.sl gC)) an rfl rfl)<|?_
 obtain ⟨bQ, aT, H⟩ := bnd H
 refine ff rfl (jx (T := (Ty.sl fY)) (r := [(sv fB)]) rfl rfl rfl aT rfl rfl rfl rfl rfl rfl rfl rfl rfl ⟨fB, rfl, (Slr.nil fY _)⟩ (fun f bN cc bJ => ?_))
 obtain ⟨aY, bO, aP, bu, bd⟩ := NestR.new fY K aT
 obtain rfl : bN = aY.map one := by rw [bJ, aP]; exact kM.symm
 refine Ow.shift (Shift.nestNew aP bu 120 14 (Sd ?_))
 refine ff rfl (AV Ty.bool Value.string rfl (fun j I F a6 => ?_))
 refine Eq Z (fH (cs := [(sv f), (.bool false), .nilFunc, (.map (some j)), (sv fB)]) rfl rfl rfl rfl rfl rfl) ?_
 refine ff rfl (fR (cs := [(sv f), (.bool false), .nilFunc, (.map (some j)), (sv fB)]) rfl rfl rfl (fun m => ?_))
 refine Ea Z<|fb<|?_
 refine fz (fun t p o => ∃ (av : af9) (ak : List Value) (aw : List (List (List Value))), [(5, (Vp m))] = t ∧ (.blk m 84 [(sv f), (.bool false), .nilFunc, (.map (some j)), (sv fB)]) :: (.row (sv f) 121 1 (ak.map one).flatten) :: (.rws 120 14 ak (aw.map List.flatten)) :: (.obj j (.map I F)) :: G = o ∧ u3 av = some (z, A, B) ∧ NestR fY p ak aw av) ?_ ?_
 ·refine fc<|fa<|Em Z<|Eq Z (gg (T := (Ty.sl gC)) an rfl rfl)<|Em Z<|fb<|fA<|?_
  refine f7 (fun aV t p o => ∃ (a : Int) (V : af9) (P : List Value) (W : List (List (List Value))), [(0, (sv J)), (1, (sv w)), (5, (Vp m)), (17, (Vi (p0.length : Int))), (18, (Vi a))] = t ∧ (.blk m 84 [(sv f), (.bool false), .nilFunc, (.map (some j)), (sv fB)]) :: (.row (sv f) 121 1 (P.map one).flatten) :: (.rws 120 14 P (W.map List.flatten)) :: (.obj j (.map I F)) :: G = o ∧ lp2 (u7 p0 p1) aV a V = some (z, A, B) ∧ NestR fY p P W V) BIG ?_ ?_
  ·exact Pu1<|Pu2<|Pu3<|Pu3<|Sd<|⟨_, by exact R5, 0, bQ, aY, bO, rfl, rfl, H, bd⟩
  rintro aV _ bR _ aa ⟨a, V, P, W, rfl, rfl, H, aB⟩
  obtain ⟨cg, ae, rfl, bl, H⟩ := jL H
  unfold u7 at H
  refine fc<|fa<|Ec Z<|fb<|fc<|?_
  refine fm rfl ?_ ?_
  ·intro R
   obtain ⟨R, H⟩ := It R H
   refine ft ?_
   refine fz (fun t p o => ∃ (af : af9) (X : List Value) (ah : List (List (List Value))), [(0, (sv J)), (1, (sv w)), (5, (Vp m)), (17, (Vi (p0.length : Int))), (18, (Vi a))] = t ∧ (.blk m 84 [(sv f), (.bool false), .nilFunc, (.map (some j)), (sv fB)]) :: (.row (sv f) 121 1 (X.map one).flatten) :: (.rws 120 14 X (ah.map List.flatten)) :: (.obj j (.map I F)) :: G = o ∧ uz p0 p1 a ae af = some (z, A, B) ∧ NestR fY p X ah af) ?_ ?_
   ·refine fA<|fc<|fa<|Em Z<|Ea Z<|fb<|fc<|fa<|Em Z<|Em Z<|?_
    obtain ⟨Q, aQ, H⟩ := bnd H
    have aM := an.mono aa
    obtain ⟨ci, br, bj⟩ := Slr.at aM aQ
    obtain ⟨aj, rfl, aN⟩ := br
    refine Eq Z (Qi (T := (Ty.sl gC)) aM aQ Z)<|El (sv aj) Z (Rdc.k bj rfl)<|Eq Z (gg (T := gC) aN rfl rfl)<|Em Z<|fb<|fA<|?_
    refine f7 (fun aW t p o => ∃ (q : Int) (x : af9) (g : List Value) (y : List (List (List Value))), [(0, (sv J)), (1, (sv w)), (5, (Vp m)), (6, (Vi a)), (17, (Vi (p0.length : Int))), (18, (Vi a)), (24, (sv aj)), (25, (Vi (Q.length : Int))), (26, (Vi q))] = t ∧ (.blk m 84 [(sv f), (.bool false), .nilFunc, (.map (some j)), (sv fB)]) :: (.row (sv f) 121 1 (g.map one).flatten) :: (.rws 120 14 g (y.map List.flatten)) :: (.obj j (.map I F)) :: G = o ∧ lp2 (u6 p0 p1 a Q ae) aW q x = some (z, A, B) ∧ NestR fY p g y x) BIG ?_ ?_
    ·exact Pu3<|Pu3<|Pu3<|Pu3<|Sd<|⟨_, by exact R9, 0, V, P, W, rfl, rfl, H, aB⟩
    rintro aW _ bS _ ab ⟨q, x, g, y, rfl, rfl, H, ac⟩
    obtain ⟨ch, aU, rfl, bm, H⟩ := jL H
    unfold u6 at H
    refine fc<|fa<|Ec Z<|fb<|fc<|?_
    refine fm rfl ?_ ?_
    ·intro S
     obtain ⟨S, H⟩ := It S H
     refine ft ?_
     refine fz (fun t p o => ∃ (ag : af9) (Y : List Value) (ai : List (List (List Value))), [(0, (sv J)), (1, (sv w)), (5, (Vp m)), (6, (Vi a)), (17, (Vi (p0.length : Int))), (18, (Vi a)), (24, (sv aj)), (25, (Vi (Q.length : Int))), (26, (Vi q))] = t ∧ (.blk m 84 [(sv f), (.bool false), .nilFunc, (.map (some j)), (sv fB)]) :: (.row (sv f) 121 1 (Y.map one).flatten) :: (.rws 120 14 Y (ai.map List.flatten)) :: (.obj j (.map I F)) :: G = o ∧ u4 p0 p1 a Q q ae aU ag = some (z, A, B) ∧ NestR fY p Y ai ag) ?_ ?_
     ·refine fA<|fc<|fa<|Em Z<|?_
      obtain ⟨b, aR, H⟩ := bnd H
      have aO := aN.mono ab
      obtain ⟨cj, bs, bk⟩ := Slr.at aO aR
      obtain ⟨c, d, rfl, aq, ar⟩ := bs
      refine Eq Z (Qi (T := gC) aO aR Z)<|EL 7 (fh b c d) Z (Rdc.k bk rfl)<|?_
      refine ff rfl (fC (cs := (fh (Op.mk 0 0 0 0 0 [] []) fB fB)) rfl rfl rfl rfl (fun b1 => ?_))
      refine Ea Z ?_
      refine ff rfl (Sa (fh b c d) Z .here Z ?_)
      refine fb ?_
      refine fz (fun t p o => ∃ (am : Nat) (e : Int), [(0, (sv J)), (1, (sv w)), (5, (Vp m)), (6, (Vi a)), (7, (Vi q)), (9, (Vp am)), (17, (Vi (p0.length : Int))), (18, (Vi a)), (24, (sv aj)), (25, (Vi (Q.length : Int))), (26, (Vi q))] = t ∧ (.blk am 120 (fl (fw.mk b (Result.mk 0 0 0 false 0) e 0) c d)) :: (.blk m 84 [(sv f), (.bool false), .nilFunc, (.map (some j)), (sv fB)]) :: (.row (sv f) 121 1 (g.map one).flatten) :: (.rws 120 14 g (y.map List.flatten)) :: (.obj j (.map I F)) :: G = o ∧ u5 p0 p1 a q Q b x ae aU e = some (z, A, B)) ?_ ?_
      ·obtain ⟨E, aS, H⟩ := bnd H
       refine fq _ rfl (Ic Mb0 (Ic Mb1 (Ic Mb2 (Ic Mb3 (Ic Mb4 In0)))))<|JL 0 7 (fh b c d) Z (Rb0 Z)<|Jm 1 Z<|Jm 2 Z<|Jm 3 Z<|?_
       refine gY 4 6 (by kernel_rfl) ?_ ?_
       ·refine id (Jy Z ?_)
        have bv := (ao.mono aa).mono ab
        refine Ek Tryz.call55 Z (yi p1 w a q E aS _ _ bv) ?_
        rintro _ bT _ b5 ⟨rfl, rfl⟩
        refine ⟨(Ic Mb0 (Ic Mb1 (Ic Mb2 (Ic Mb3 (Ic Mb4 In0))))), ?_⟩
        refine Jq 5 Z (fH (cs := (fl (fw.mk b (Result.mk 0 0 0 false 0) E 0) c d)) rfl rfl rfl rfl rfl rfl) ?_
        refine Ao 6 Z ?_
        refine fC (cs := (fl (fw.mk (Op.mk 0 0 0 0 0 [] []) (Result.mk 0 0 0 false 0) 0 0) fB fB)) rfl rfl rfl rfl (fun a0 => ⟨(Ic Mb1 (Ic Mb2 (Ic Mb3 (Ic Mb4 (Ic Mb5 In0))))), ?_⟩)
        refine Ao 7 Z ?_
        refine Sa (fl (fw.mk b (Result.mk 0 0 0 false 0) E 0) c d) Z .here Z ⟨(Ic Mb1 (Ic Mb2 (Ic Mb3 (Ic Mb4 (Ic Mb5 In0))))), ?_⟩
        exact Ad<|Pu5<|Pu5<|Pu5<|Pu5<|Pu4<|Re5<|Sd<|⟨_, by exact R11, a0, E, rfl, rfl, H⟩
       ·refine id (Jy Z ?_)
        refine fC (cs := (fl (fw.mk (Op.mk 0 0 0 0 0 [] []) (Result.mk 0 0 0 false 0) 0 0) fB fB)) rfl rfl rfl rfl (fun a1 => ⟨(Ic Mb1 (Ic Mb2 (Ic Mb3 (Ic Mb4 (Ic Mb5 In0))))), ?_⟩)
        refine Ao 4 Z ?_
        have bw := (ao.mono aa).mono ab
        refine Ek Tryz.call55 Z (yi p1 w a q E aS _ _ bw) ?_
        rintro _ bU _ b6 ⟨rfl, rfl⟩
        refine ⟨(Ic Mb1 (Ic Mb2 (Ic Mb3 (Ic Mb4 (Ic Mb5 In0))))), ?_⟩
        refine Jq 5 Z (fH (cs := (fl (fw.mk b (Result.mk 0 0 0 false 0) E 0) c d)) rfl rfl rfl rfl rfl rfl) ?_
        refine Ao 7 Z ?_
        refine Sa (fl (fw.mk b (Result.mk 0 0 0 false 0) E 0) c d) Z .here Z ⟨(Ic Mb1 (Ic Mb2 (Ic Mb3 (Ic Mb4 (Ic Mb5 In0))))), ?_⟩
        exact Ad<|Pu5<|Pu5<|Pu5<|Pu5<|Pu4<|Re5<|Sd<|⟨_, by exact R11, a1, E, rfl, rfl, H⟩
      rintro _ bV _ u ⟨am, e, rfl, rfl, H⟩
      unfold u5 at H
      refine fc<|fc<|fa<|EF 12 Z<|El (Vi e) Z (Rb0 Z)<|Ec Z<|fb<|?_
      refine fm rfl ?_ ?_
      ·intro U
       obtain ⟨U, H⟩ := It U H
       refine f9<|Pu4<|Pu4<|Pu4<|Pu4<|Re4<|?_
       have bx := ac.mono u
       exact Sd ⟨_, by exact R5, x, g, y, rfl, rfl, H, bx⟩
      ·intro U
       obtain ⟨U, H⟩ := If U H
       refine ft<|fc<|fa<|Em Z<|Em Z<|Em Z<|?_
       obtain ⟨h, i, bI, H⟩ := ir H
       have bz := ((ao.mono aa).mono ab).mono u
       refine ff rfl (Ek Tryz.call56 Z (ES p1 w a q h i bI _ _ bz) ?_)
       rintro _ al _ C ⟨rfl, rfl⟩
       refine Em Z<|Ex Z<|Ex Z<|EF 7 Z<|?_
       refine ff rfl (So (fe h) (fl (fw.mk b h e 0) c d) Z .here Z ?_)
       refine EF 13 Z ?_
       refine ff rfl (So [(Vi i)] (fl (fw.mk b h e i) c d) Z .here Z ?_)
       refine fb ?_
       obtain ⟨cw, ad, H⟩ := bnd H
       obtain ⟨ax, au, H⟩ := bnd H
       obtain ⟨cx, L, H⟩ := bnd H
       refine fq _ rfl (Ic Mb0 (Ic Mb1 (Ic Mb4 In0)))<|Jm 0 Z<|Jq 1 Z (fD rfl)<|JF 2 0 Z<|Jl 3 (sv f) Z (Rb1 Z)<|Jm 4 Z<|Jm 5 Z<|Jq 6 Z (fD rfl)<|JF 7 0 Z<|Jl 8 (sv f) Z (Rb1 Z)<|Jm 9 Z<|JL 12 14 (fl (fw.mk b h e i) c d) Z (Rb0 Z)<|?_
       refine gY 10 13 (by kernel_rfl) ?_ ?_
       ·have n := (ac.mono u).mono C
        obtain ⟨aX, ck, ap, aK, aL, aC⟩ := NestR.at n ad
        refine id (Jyq Z (gz (T := qk) Mb2 n.heads ap (fL ad).1 rfl rfl rfl rfl rfl) ⟨(Ic Mb0 (Ic Mb1 (Ic Mb4 In0))), ?_⟩)
        refine gY 11 13 (by kernel_rfl) ?_ ?_
        ·refine Jy Z ?_
         refine OpW.shift (Shift.nestTake (.there (.there (.there .here))) aK aL (Sd ?_))
         refine mf rfl rfl (gv (v := (sv aX)) rfl rfl rfl (gQ (T := qk) Mb4 n.heads ap rfl rfl)) ⟨(Ic Mb2 (Ic Mb3 (Ic Mb5 In0))), ?_⟩
         refine Ao 13 Z ?_
         have bA := (aq.mono u).mono C
         have bB := (ar.mono u).mono C
         have aD : RowR fY al [(fl (fw.mk b h e i) c d)] [(fw.mk b h e i)] := RowR.cons ⟨c, d, rfl, bA, bB⟩ (RowR.nil)
         refine gk (T := fY) (rows := [(fl (fw.mk b h e i) c d)]) (l := [(fw.mk b h e i)]) rfl rfl rfl aD rfl rfl rfl rfl rfl rfl rfl rfl (fun ct => ⟨(Ic Mb3 (Ic Mb4 (Ic Mb6 In0))), ?_⟩)
         refine Ao 14 Z ?_
         refine gZ (T := fY) (bytes := 144) rfl rfl rfl Mb1 aC (SrcT.row Mb0 aD rfl) au rfl rfl rfl rfl rfl rfl rfl rfl (fun M bK be => ⟨_, (.there .here), ⟨(Ic Mb3 (Ic Mb4 (Ic Mb6 In0))), ?_⟩⟩)
         refine Aw.shift (Re0 (Sd ⟨(Ic Mb2 (Ic Mb3 (Ic Mb5 In0))), ?_⟩))
         obtain ⟨cp, cl, aG, bn, cd, b9⟩ := NestR.at n L
         refine gB 15 (by kernel_rfl) (Jyq Z (gz (T := qk) Mb4 n.heads aG (fL L).1 rfl rfl rfl rfl rfl) ⟨(Ic Mb2 (Ic Mb3 (Ic Mb5 In0))), ?_⟩)
         refine Ao 16 Z ?_
         refine gP (T := qk) (vs := [(sv M)]) (r' := [(sv M)]) (l' := f8 g a (sv M)) rfl rfl rfl rfl rfl (.there (.there (.there (.there .here)))) n.heads aG rfl rfl rfl (RowR.set a n.heads ⟨rfl, _, rfl⟩) (fun _ => ⟨(Ic Mb2 (Ic Mb3 (Ic Mb5 In0))), ?_⟩)
         have hse := iJ g a.toNat (sv M)
         rw [hse]
         clear hse
         have ba := NestR.set (s := M) a n be
         refine Aw.shift (Shift.nestOver .here .here (List.getElem?_eq_some_iff.1 bn).1 (Sd ⟨(Ic Mb1 (Ic Mb2 (Ic Mb4 In0))), ?_⟩))
         exact Ad<|Pu4<|Pu1<|Pu4<|Pu4<|Re4<|Sd<|⟨_, by exact R9, (f8 x a ax), (g.set a.toNat (sv M)), (y.set a.toNat bK), rfl, rfl, H, ba⟩
        ·refine id (Jy Z ?_)
         have bC := (aq.mono u).mono C
         have bD := (ar.mono u).mono C
         have aE : RowR fY al [(fl (fw.mk b h e i) c d)] [(fw.mk b h e i)] := RowR.cons ⟨c, d, rfl, bC, bD⟩ (RowR.nil)
         refine gk (T := fY) (rows := [(fl (fw.mk b h e i) c d)]) (l := [(fw.mk b h e i)]) rfl rfl rfl aE rfl rfl rfl rfl rfl rfl rfl rfl (fun cu => ⟨(Ic Mb1 (Ic Mb2 (Ic Mb5 In0))), ?_⟩)
         refine Aw.shift (Shift.nestTake (.there (.there (.there (.there .here)))) aK aL (Sd ⟨(Ic Mb3 (Ic Mb4 (Ic Mb6 In0))), ?_⟩))
         refine gB 11 (by kernel_rfl) (Jyq Z (gv (v := (sv aX)) rfl rfl rfl (gQ (T := qk) Mb5 n.heads ap rfl rfl)) ⟨(Ic Mb3 (Ic Mb4 (Ic Mb6 In0))), ?_⟩)
         refine Ao 14 Z ?_
         refine gZ (T := fY) (bytes := 144) rfl rfl rfl Mb0 aC (SrcT.row Mb2 aE rfl) au rfl rfl rfl rfl rfl rfl rfl rfl (fun N bL bf => ⟨_, .here, ⟨(Ic Mb3 (Ic Mb4 (Ic Mb6 In0))), ?_⟩⟩)
         refine Aw.shift (Re2 (Sd ⟨(Ic Mb2 (Ic Mb3 (Ic Mb5 In0))), ?_⟩))
         obtain ⟨cq, cm, aH, bo, ce, ca⟩ := NestR.at n L
         refine gB 15 (by kernel_rfl) (Jyq Z (gz (T := qk) Mb4 n.heads aH (fL L).1 rfl rfl rfl rfl rfl) ⟨(Ic Mb2 (Ic Mb3 (Ic Mb5 In0))), ?_⟩)
         refine Ao 16 Z ?_
         refine gP (T := qk) (vs := [(sv N)]) (r' := [(sv N)]) (l' := f8 g a (sv N)) rfl rfl rfl rfl rfl (.there (.there (.there (.there .here)))) n.heads aH rfl rfl rfl (RowR.set a n.heads ⟨rfl, _, rfl⟩) (fun _ => ⟨(Ic Mb2 (Ic Mb3 (Ic Mb5 In0))), ?_⟩)
         have hse := iJ g a.toNat (sv N)
         rw [hse]
         clear hse
         have bb := NestR.set (s := N) a n bf
         refine Aw.shift (Shift.nestOver .here .here (List.getElem?_eq_some_iff.1 bo).1 (Sd ⟨(Ic Mb1 (Ic Mb2 (Ic Mb4 In0))), ?_⟩))
         exact Ad<|Pu4<|Pu1<|Pu4<|Pu4<|Re4<|Sd<|⟨_, by exact R9, (f8 x a ax), (g.set a.toNat (sv N)), (y.set a.toNat bL), rfl, rfl, H, bb⟩
       ·refine id (Jy Z ?_)
        have bE := (aq.mono u).mono C
        have bF := (ar.mono u).mono C
        have aF : RowR fY al [(fl (fw.mk b h e i) c d)] [(fw.mk b h e i)] := RowR.cons ⟨c, d, rfl, bE, bF⟩ (RowR.nil)
        refine gk (T := fY) (rows := [(fl (fw.mk b h e i) c d)]) (l := [(fw.mk b h e i)]) rfl rfl rfl aF rfl rfl rfl rfl rfl rfl rfl rfl (fun cv => ⟨(Ic Mb1 (Ic Mb2 (Ic Mb5 In0))), ?_⟩)
        have D := (ac.mono u).mono C
        obtain ⟨bP, cn, aI, bp, bt, bg⟩ := NestR.at D ad
        refine gB 10 (by kernel_rfl) (Jyq Z (gz (T := qk) Mb3 D.heads aI (fL ad).1 rfl rfl rfl rfl rfl) ⟨(Ic Mb1 (Ic Mb2 (Ic Mb5 In0))), ?_⟩)
        refine Aw.shift (Shift.nestTake (.there (.there (.there (.there .here)))) bp bt (Sd ⟨(Ic Mb3 (Ic Mb4 (Ic Mb6 In0))), ?_⟩))
        refine gB 11 (by kernel_rfl) (Jyq Z (gv (v := (sv bP)) rfl rfl rfl (gQ (T := qk) Mb5 D.heads aI rfl rfl)) ⟨(Ic Mb3 (Ic Mb4 (Ic Mb6 In0))), ?_⟩)
        refine Ao 14 Z ?_
        refine gZ (T := fY) (bytes := 144) rfl rfl rfl Mb0 bg (SrcT.row Mb2 aF rfl) au rfl rfl rfl rfl rfl rfl rfl rfl (fun O bM bh => ⟨_, .here, ⟨(Ic Mb3 (Ic Mb4 (Ic Mb6 In0))), ?_⟩⟩)
        refine Aw.shift (Re2 (Sd ⟨(Ic Mb2 (Ic Mb3 (Ic Mb5 In0))), ?_⟩))
        obtain ⟨cr, co, aJ, bq, cf, cb⟩ := NestR.at D L
        refine gB 15 (by kernel_rfl) (Jyq Z (gz (T := qk) Mb4 D.heads aJ (fL L).1 rfl rfl rfl rfl rfl) ⟨(Ic Mb2 (Ic Mb3 (Ic Mb5 In0))), ?_⟩)
        refine Ao 16 Z ?_
        refine gP (T := qk) (vs := [(sv O)]) (r' := [(sv O)]) (l' := f8 g a (sv O)) rfl rfl rfl rfl rfl (.there (.there (.there (.there .here)))) D.heads aJ rfl rfl rfl (RowR.set a D.heads ⟨rfl, _, rfl⟩) (fun _ => ⟨(Ic Mb2 (Ic Mb3 (Ic Mb5 In0))), ?_⟩)
        have hse := iJ g a.toNat (sv O)
        rw [hse]
        clear hse
        have bc := NestR.set (s := O) a D bh
        refine Aw.shift (Shift.nestOver .here .here (List.getElem?_eq_some_iff.1 bq).1 (Sd ⟨(Ic Mb1 (Ic Mb2 (Ic Mb4 In0))), ?_⟩))
        exact Ad<|Pu4<|Pu1<|Pu4<|Pu4<|Re4<|Sd<|⟨_, by exact R9, (f8 x a ax), (g.set a.toNat (sv O)), (y.set a.toNat bM), rfl, rfl, H, bc⟩
     rintro _ bW _ b7 ⟨ag, Y, ai, rfl, rfl, H, a9⟩
     unfold u4 at H
     exact fa<|Er (wI (q + 1)) Z<|Em Z<|fb<|Pu3<|Pu3<|Pu3<|Pu3<|Sd<|⟨_, by exact R9, _, Nat.lt_succ_self _, (wI (q + 1)), ag, Y, ai, rfl, rfl, (bm ▸ H), a9⟩
    ·intro S
     obtain ⟨S, H⟩ := If S H
     exact f9<|Pu3<|Pu3<|Pu3<|Pu3<|Sd<|⟨_, by exact R5, x, g, y, rfl, rfl, H, ac⟩
   rintro _ bX _ b8 ⟨af, X, ah, rfl, rfl, H, a8⟩
   unfold uz at H
   exact fa<|Er (wI (a + 1)) Z<|Em Z<|fb<|Pu3<|Pu3<|Pu3<|Pu3<|Sd<|⟨_, by exact R5, _, Nat.lt_succ_self _, (wI (a + 1)), af, X, ah, rfl, rfl, (bl ▸ H), a8⟩
  ·intro R
   obtain ⟨R, H⟩ := If R H
   exact f9<|Pu3<|Pu3<|Pu3<|Pu3<|Sd<|⟨_, by exact R1, V, P, W, rfl, rfl, H, aB⟩
 rintro _ bY _ a3 ⟨av, ak, aw, rfl, rfl, H, a7⟩
 unfold u3 at H
 refine fc<|fa<|Em Z<|Ea Z<|fb<|fx<|?_
 obtain ⟨b2, b3, b4⟩ := jP H
 subst z A B
 refine ⟨(.inl rfl), [(Vp m)], ⟨(Vp m), _, rfl, rfl, rfl⟩, ?_⟩
 refine Shift.nestSettle (T := fY) rfl (.there (.there .here)) a7 ?_
 intro bZ a4 bi
 refine Shift.settle (T := (Ty.sl fY)) (.there .here) bi rfl ?_
 intro b0 a5 bG
 refine Pu2<|Re2<|?_
 have bH := ((a6.mono a3).mono a4).mono a5
 exact Sd ⟨m, f, j, I, F, rfl, rfl, bG, bH⟩
theorem CE (l : Nat) (g : af9) (d : SV) (c : Bool) (u : ad2) (a : Nat) (m : Array MapEntry) (s : Nat) (w : ad8) (b : SV) (o : List (List Value)) (p1 : ad1) (y : SV) (p : Int) (q : Bool) (H : qM g c u w p1 = some (p, q)) (K : Kp) (G : List Ent) (aa : Slr (Ty.sl fY) K (sv d) g) (aB : MapR Ty.bool Value.string K m u) (aC : RowR fP K o w) (ap : Slr Ty.i64 K (sv y) p1) :
  Fc Tryz.prog 57 #[(Vp l), (sv y)] K ((.blk l 84 [(sv d), (.bool c), .nilFunc, (.map (some a)), (sv b)]) :: (.obj a (.map m s)) :: (.row (sv b) 67 6 o.flatten) :: G) (fun v r e => v = (.tuple #[(Vi p), (.bool q)]) ∧ (.blk l 84 [(sv d), (.bool c), .nilFunc, (.map (some a)), (sv b)]) :: (.obj a (.map m s)) :: (.row (sv b) 67 6 o.flatten) :: G = e) := by
 refine fN Tryz.func57 rfl Tryz.ntmps57 Tryz.results57 rfl ?_
 unfold qM at H
 refine fc<|fa<|Ea Z<|Ea Z<|fb<|fc<|fa<|Ea Z<|Ea Z<|fb<|?_
 refine fz (fun h r e => ∃ (C : Int) (E : Bool), [(6, (Vi C)), (7, (.bool E))] = h ∧ (.blk l 84 [(sv d), (.bool c), .nilFunc, (.map (some a)), (sv b)]) :: (.obj a (.map m s)) :: (.row (sv b) 67 6 o.flatten) :: G = e ∧ vc g c w u C E = some (p, q)) ?_ ?_
 ·refine fc<|fa<|Em Z<|Eq Z (fD rfl)<|EF 0 Z<|El (sv d) Z (Rb0 Z)<|Eq Z (gg (T := (Ty.sl fY)) aa rfl rfl)<|Em Z<|fb<|fA<|?_
  refine f7 (fun ai h r e => ∃ (D : Int) (F : Bool) (f : Int), [(1, (sv y)), (6, (Vi D)), (7, (.bool F)), (15, (sv d)), (16, (Vi (g.length : Int))), (17, (Vi f))] = h ∧ (.blk l 84 [(sv d), (.bool c), .nilFunc, (.map (some a)), (sv b)]) :: (.obj a (.map m s)) :: (.row (sv b) 67 6 o.flatten) :: G = e ∧ lp3 (vf p1 g c w u) ai D F f = some (p, q)) BIG ?_ ?_
  ·exact Pu2<|Pu2<|Pu2<|Sd<|⟨_, by exact R6, 0, false, 0, rfl, rfl, H⟩
  rintro ai _ V _ X ⟨D, F, f, rfl, rfl, H⟩
  obtain ⟨aF, O, rfl, ao, H⟩ := xt H
  unfold vf at H
  refine fc<|fa<|Ec Z<|fb<|fc<|?_
  refine fm rfl ?_ ?_
  ·intro z
   obtain ⟨z, H⟩ := It z H
   refine ft ?_
   refine fz (fun h r e => ∃ (I : Int) (J : Bool), [(1, (sv y)), (6, (Vi I)), (7, (.bool J)), (15, (sv d)), (16, (Vi (g.length : Int))), (17, (Vi f))] = h ∧ (.blk l 84 [(sv d), (.bool c), .nilFunc, (.map (some a)), (sv b)]) :: (.obj a (.map m s)) :: (.row (sv b) 67 6 o.flatten) :: G = e ∧ vd p1 g f c w u O I J = some (p, q)) ?_ ?_
   ·refine fA<|fc<|fa<|Em Z<|?_
    obtain ⟨ak, ae, H⟩ := bnd H
    have ab := aa.mono X
    obtain ⟨aH, aq, al⟩ := Slr.at ab ae
    obtain ⟨Q, rfl, ac⟩ := aq
    refine Eq Z (Qi (T := (Ty.sl fY)) ab ae Z)<|El (sv Q) Z (Rdc.k al rfl)<|Ea Z<|Ea Z<|fb<|fc<|fa<|Em Z<|Em Z<|Em Z<|?_
    obtain ⟨U, af, H⟩ := bnd H
    have ad := ap.mono X
    obtain ⟨_, rfl, am⟩ := Slr.at ad af
    refine Eq Z (Qi (T := Ty.i64) ad af Z)<|El (Vi U) Z (Rdc.k am rfl)<|?_
    obtain ⟨L, ag, H⟩ := bnd H
    have N := Slr.cutL ac ag
    refine Eq Z (lP (T := fY) ac ag rfl rfl rfl rfl rfl)<|Eq Z (gg (T := fY) N rfl rfl)<|Em Z<|fb<|fA<|?_
    refine f7 (fun aj h r e => ∃ (n : Int) (x : Bool) (i : Int), [(1, (sv y)), (6, (Vi n)), (7, (.bool x)), (15, (sv d)), (16, (Vi (g.length : Int))), (17, (Vi f)), (27, (sv (jz Q 14 U.toNat ak.length))), (28, (Vi (L.length : Int))), (29, (Vi i))] = h ∧ V = r ∧ (.blk l 84 [(sv d), (.bool c), .nilFunc, (.map (some a)), (sv b)]) :: (.obj a (.map m s)) :: (.row (sv b) 67 6 o.flatten) :: G = e ∧ lp3 (ve p1 g f L c w u O) aj n x i = some (p, q)) BIG ?_ ?_
    ·exact Pu2<|Pu2<|Pu2<|Sd<|⟨_, by exact R9, D, F, 0, rfl, rfl, rfl, H⟩
    rintro aj _ _ _ - ⟨n, x, i, rfl, rfl, rfl, H⟩
    obtain ⟨aG, au, rfl, Y, H⟩ := xt H
    unfold ve at H
    refine fc<|fa<|Ec Z<|fb<|fc<|?_
    refine fm rfl ?_ ?_
    ·intro A
     obtain ⟨A, H⟩ := It A H
     refine ft<|fc<|fA<|fc<|fa<|?_
     obtain ⟨j, ah, H⟩ := bnd H
     obtain ⟨aI, ar, an⟩ := Slr.at N ah
     obtain ⟨R, S, rfl, aD, aE⟩ := ar
     refine Eq Z (Qi (T := fY) N ah Z)<|EL 14 (fl j R S) Z (Rdc.k an rfl)<|?_
     refine ff rfl (fC (cs := (fl (fw.mk (Op.mk 0 0 0 0 0 [] []) (Result.mk 0 0 0 false 0) 0 0) fB fB)) rfl rfl rfl rfl (fun W => ?_))
     refine ff rfl (Sa (fl j R S) Z .here Z ?_)
     refine fb ?_
     refine fz (fun h r e => ∃ (P : Bool), [(1, (sv y)), (6, (Vi n)), (7, (.bool x)), (11, (Vp W)), (15, (sv d)), (16, (Vi (g.length : Int))), (17, (Vi f)), (27, (sv (jz Q 14 U.toNat ak.length))), (28, (Vi (L.length : Int))), (29, (Vi i)), (45, (.bool P))] = h ∧ V = r ∧ (.blk l 84 [(sv d), (.bool c), .nilFunc, (.map (some a)), (sv b)]) :: (.blk W 120 (fl j R S)) :: (.obj a (.map m s)) :: (.row (sv b) 67 6 o.flatten) :: G = e ∧ sx p1 n x g f L i c w j u O au P = some (p, q)) ?_ ?_
     ·refine fa<|EF 13 Z<|El (Vi j.coming) Z (Rb0 Z)<|Ec Z<|Em Z<|?_
      refine Ee Z ?_ ?_
      ·intro B
       obtain ⟨B, H⟩ := It B H
       refine Vm Z<|Vq Z (gi rfl)<|Vm Z<|?_
       refine Ee Z ?_ ?_
       ·intro t
        have t := ix t
        have H := fX (btf t) H
        exact Ez Z<|Ez Z<|Ez Z<|Ez Z<|Vt Z<|Et Z<|fb<|Pu3<|Pu3<|Pu2<|Pu3<|Sd<|⟨_, by exact R11, true, rfl, rfl, rfl, H⟩
       ·intro t
        have t := iw t
        have H := ift t H
        exact VF 13 Z<|Vl (Vi j.coming) Z (Rb0 Z)<|Vm Z<|Vc Z<|Vf Z<|Et Z<|fb<|Pu3<|Pu3<|Pu2<|Pu3<|Sd<|⟨_, by exact R11, (dcd (j.coming < n)), rfl, rfl, rfl, H⟩
      ·intro B
       obtain ⟨B, H⟩ := If B H
       exact Ez Z<|Ez Z<|Ez Z<|f0 rfl rfl rfl rfl rfl<|f0 rfl rfl rfl rfl rfl<|f0 rfl rfl rfl rfl rfl<|f0 rfl rfl rfl rfl rfl<|Ez Z<|Ef Z<|fb<|Pu3<|Pu3<|Pu2<|Pu3<|Sd<|⟨_, by exact R11, false, rfl, rfl, rfl, H⟩
     rintro _ _ _ - ⟨P, rfl, rfl, rfl, H⟩
     unfold sx at H
     refine fm rfl ?_ ?_
     ·intro M
      have H := ift M H
      exact fa<|EF 13 Z<|El (Vi j.coming) Z (Rb1 Z)<|Ea Z<|Ea Z<|fb<|fa<|Er (wI (i + 1)) Z<|Em Z<|fb<|Pu3<|Pu3<|Pu2<|Re3<|Sd<|⟨_, by exact R9, _, Nat.lt_succ_self _, j.coming, true, (wI (i + 1)), rfl, rfl, rfl, (Y ▸ H)⟩
     ·intro M
      have H := fX (btf M) H
      exact ft<|fa<|Er (wI (i + 1)) Z<|Em Z<|fb<|Pu3<|Pu3<|Pu2<|Re3<|Sd<|⟨_, by exact R9, _, Nat.lt_succ_self _, n, x, (wI (i + 1)), rfl, rfl, rfl, (Y ▸ H)⟩
    ·intro A
     obtain ⟨A, H⟩ := If A H
     exact f9<|Pu2<|Pu2<|Pu2<|Sd<|⟨_, by exact R6, n, x, rfl, rfl, H⟩
   rintro _ av _ az ⟨I, J, rfl, rfl, H⟩
   unfold vd at H
   exact fa<|Er (wI (f + 1)) Z<|Em Z<|fb<|Pu2<|Pu2<|Pu2<|Sd<|⟨_, by exact R6, _, Nat.lt_succ_self _, I, J, (wI (f + 1)), rfl, rfl, (ao ▸ H)⟩
  ·intro z
   obtain ⟨z, H⟩ := If z H
   exact f9<|Pu2<|Pu2<|Pu2<|Sd<|⟨_, by exact R2, D, F, rfl, rfl, H⟩
 rintro _ aw _ aA ⟨C, E, rfl, rfl, H⟩
 unfold vc at H
 refine fc<|fa<|Em Z<|Em Z<|Ea Z<|Ea Z<|fb<|fx<|?_
 obtain ⟨ax, ay⟩ := hY H
 subst p q
 refine ⟨(.inl rfl), [(Vi C), (.bool E)], ⟨(Vi C), _, rfl, rfl, ⟨(.bool E), _, rfl, rfl, rfl⟩⟩, ?_⟩
 exact Pu2<|Pu2<|Pu2<|Sd<|⟨rfl, rfl⟩
end Go.Hx
namespace Go.Hx
open Go Go.Proofs
set_option maxRecDepth 10000
set_option maxHeartbeats 1000000
theorem Du (p0 : ad1) (d : SV) (b : List (List Value)) (p1 : Int) (p2 : Int) (f : ad1) (H : zc p0 p1 p2 = some f) (K : Kp) (G : List Ent) (h : RowR Ty.u8 K b p0) (hT : mO K) :
  Fc Tryz.prog 116 #[(sv d), (.int .u64 p1), (Vi p2)] K ((.row (sv d) 5 1 b.flatten) :: G) (fun v a g => ∃ (e : SV) (c : List (List Value)), v = (sv e) ∧ K = a ∧ (.row (sv e) 5 1 c.flatten) :: G = g ∧ RowR Ty.u8 a c f) :=
 qE H h hT
theorem Dm (p0 : ad1) (m : SV) (j : List (List Value)) (p1 : Int) (p2 : Int) (h : ad1) (H : vg p0 p1 p2 = some h) (K : Kp) (G : List Ent) (o : RowR Ty.u8 K j p0) (hT : mO K) :
  Fc Tryz.prog 114 #[(sv m), (Vi p1), (Vi p2)] K ((.row (sv m) 5 1 j.flatten) :: G) (fun v a i => ∃ (q : SV) (p : List (List Value)), v = (sv q) ∧ K = a ∧ (.row (sv q) 5 1 p.flatten) :: G = i ∧ RowR Ty.u8 a p h) := by
 refine fN Tryz.func114 rfl Tryz.ntmps114 Tryz.results114 rfl ?_
 unfold vg at H
 refine fc<|fa<|Ea Z<|fb<|fc<|fa<|Em Z<|Eq Z (kJ (c := wU p1) rfl rfl rfl rfl)<|Ea Z<|fb<|?_
 refine fz (fun r a i => ∃ (g : SV) (e : ad1) (f : List (List Value)) (i32 : Int) (d : Int), [(0, (sv g)), (2, (Vi i32)), (7, (.int .u64 d))] = r ∧ K = a ∧ (.row (sv g) 5 1 f.flatten) :: G = i ∧ qN e i32 d = some h ∧ RowR Ty.u8 a f e) ?_ ?_
 ·refine fc<|fa<|Em Z<|Ec Z<|fb<|?_
  refine fm rfl ?_ ?_
  ·intro b
   obtain ⟨b, H⟩ := It b H
   refine fc<|fa<|Em Z<|?_
   have n : RowR Ty.u8 K [[(.int .u8 45)]] [45] := RowR.cons rfl (RowR.nil)
   refine ff rfl (gk (T := Ty.u8) (rows := [[(.int .u8 45)]]) (l := [45]) rfl rfl rfl n rfl rfl rfl rfl rfl rfl rfl rfl (fun E => ?_))
   obtain ⟨B, w, H⟩ := bnd H
   refine ff rfl (gZ (T := Ty.u8) (bytes := 1) rfl rfl rfl Mb1 o (SrcT.row Mb0 n rfl) w rfl rfl rfl rfl rfl rfl rfl rfl (fun A y t => ⟨_, (.there .here), ?_⟩))
   refine Ow.shift (Re0 (Sd ?_))
   exact Ea Z<|fb<|fa<|Em Z<|Eq Z (FG (c := wU (0 - (wU p1))) rfl rfl)<|Ea Z<|fb<|Sd<|⟨_, by exact R3, A, B, y, p2, (wU (0 - (wU p1))), rfl, rfl, rfl, H, t⟩
  ·intro b
   obtain ⟨b, H⟩ := If b H
   exact ft<|Sd<|⟨_, by exact R3, m, p0, j, p2, (wU p1), rfl, rfl, rfl, H, o⟩
 rintro _ _ _ - ⟨g, e, f, i32, d, rfl, rfl, rfl, H, s⟩
 unfold qN at H
 refine fc<|fa<|Em Z<|Em Z<|Em Z<|?_
 obtain ⟨C, x, H⟩ := bnd H
 refine ff rfl (Ek Tryz.call116 Z (Du e g f d i32 C x _ _ s hT) ?_)
 rintro _ _ _ - ⟨k, z, rfl, rfl, rfl, u⟩
 refine Ea Z<|fb<|fx<|?_
 obtain D := gn H
 subst h
 refine ⟨(.inl rfl), [(sv k)], ⟨(sv k), _, rfl, rfl, rfl⟩, ?_⟩
 exact Sd ⟨k, z, rfl, rfl, rfl, u⟩
theorem Dv (p0 : ad1) (d : SV) (b : List (List Value)) (p1 : Bool) (f : ad1) (H : zd p0 p1 = some f) (K : Kp) (G : List Ent) (h : RowR Ty.u8 K b p0) :
  Fc Tryz.prog 115 #[(sv d), (.bool p1)] K ((.row (sv d) 5 1 b.flatten) :: G) (fun v a g => ∃ (e : SV) (c : List (List Value)), v = (sv e) ∧ K = a ∧ (.row (sv e) 5 1 c.flatten) :: G = g ∧ RowR Ty.u8 a c f) :=
 y3 H h
theorem Dw (p0 : ad1) (d : SV) (b : List (List Value)) (p1 : Int) (p2 : Int) (f : ad1) (H : ze p0 p1 p2 = some f) (K : Kp) (G : List Ent) (h : RowR Ty.u8 K b p0) (hT : mO K) :
  Fc Tryz.prog 116 #[(sv d), (.int .u64 p1), (Vi p2)] K ((.row (sv d) 5 1 b.flatten) :: G) (fun v a g => ∃ (e : SV) (c : List (List Value)), v = (sv e) ∧ K = a ∧ (.row (sv e) 5 1 c.flatten) :: G = g ∧ RowR Ty.u8 a c f) :=
 qE H h hT
end Go.Hx
namespace Go.Hx
open Go Go.Proofs
set_option maxRecDepth 10000
set_option maxHeartbeats 1000000
theorem CG (p0 : ad1) (c : SV) (a : List (List Value)) (p1 : Int) (p2 : Int) (d : ad1) (H : qO p0 p1 p2 = some d) (K : Kp) (G : List Ent) (i : RowR Ty.u8 K a p0) (hT : mO K) :
  Fc Tryz.prog 88 #[(sv c), (Vi p1), (Vi p2)] K ((.row (sv c) 5 1 a.flatten) :: G) (fun v e h => ∃ (g : SV) (f : List (List Value)), v = (sv g) ∧ K = e ∧ (.row (sv g) 5 1 f.flatten) :: G = h ∧ RowR Ty.u8 e f d) := by
 refine fN Tryz.func88 rfl Tryz.ntmps88 Tryz.results88 rfl ?_
 unfold qO at H
 refine fc<|fa<|Ea Z<|fb<|fc<|fa<|Em Z<|Em Z<|Em Z<|?_
 obtain ⟨m, k, H⟩ := bnd H
 refine ff rfl (Ek Tryz.call114 Z (Dm p0 c a p1 p2 m k _ _ i hT) ?_)
 rintro _ _ _ - ⟨b, l, rfl, rfl, rfl, j⟩
 refine Ea Z<|fb<|fx<|?_
 obtain n := gn H
 subst d
 refine ⟨(.inl rfl), [(sv b)], ⟨(sv b), _, rfl, rfl, rfl⟩, ?_⟩
 exact Sd ⟨b, l, rfl, rfl, rfl, j⟩
theorem CH (p0 : ad1) (c : SV) (a : List (List Value)) (p1 : Bool) (d : ad1) (H : qP p0 p1 = some d) (K : Kp) (G : List Ent) (i : RowR Ty.u8 K a p0) :
  Fc Tryz.prog 89 #[(sv c), (.bool p1)] K ((.row (sv c) 5 1 a.flatten) :: G) (fun v e h => ∃ (g : SV) (f : List (List Value)), v = (sv g) ∧ K = e ∧ (.row (sv g) 5 1 f.flatten) :: G = h ∧ RowR Ty.u8 e f d) := by
 refine fN Tryz.func89 rfl Tryz.ntmps89 Tryz.results89 rfl ?_
 unfold qP at H
 refine fc<|fa<|Ea Z<|fb<|fc<|fa<|Em Z<|Em Z<|?_
 obtain ⟨m, k, H⟩ := bnd H
 refine ff rfl (Ek Tryz.call115 Z (Dv p0 c a p1 m k _ _ i) ?_)
 rintro _ _ _ - ⟨b, l, rfl, rfl, rfl, j⟩
 refine Ea Z<|fb<|fx<|?_
 obtain n := gn H
 subst d
 refine ⟨(.inl rfl), [(sv b)], ⟨(sv b), _, rfl, rfl, rfl⟩, ?_⟩
 exact Sd ⟨b, l, rfl, rfl, rfl, j⟩
theorem CJ (p0 : ad1) (c : SV) (a : List (List Value)) (p1 : Int) (p2 : Int) (d : ad1) (H : qQ p0 p1 p2 = some d) (K : Kp) (G : List Ent) (i : RowR Ty.u8 K a p0) (hT : mO K) :
  Fc Tryz.prog 90 #[(sv c), (.int .u64 p1), (Vi p2)] K ((.row (sv c) 5 1 a.flatten) :: G) (fun v e h => ∃ (g : SV) (f : List (List Value)), v = (sv g) ∧ K = e ∧ (.row (sv g) 5 1 f.flatten) :: G = h ∧ RowR Ty.u8 e f d) := by
 refine fN Tryz.func90 rfl Tryz.ntmps90 Tryz.results90 rfl ?_
 unfold qQ at H
 refine fc<|fa<|Ea Z<|fb<|fc<|fa<|Em Z<|Em Z<|Em Z<|?_
 obtain ⟨m, k, H⟩ := bnd H
 refine ff rfl (Ek Tryz.call116 Z (Dw p0 c a p1 p2 m k _ _ i hT) ?_)
 rintro _ _ _ - ⟨b, l, rfl, rfl, rfl, j⟩
 refine Ea Z<|fb<|fx<|?_
 obtain n := gn H
 subst d
 refine ⟨(.inl rfl), [(sv b)], ⟨(sv b), _, rfl, rfl, rfl⟩, ?_⟩
 exact Sd ⟨b, l, rfl, rfl, rfl, j⟩
end Go.Hx
namespace Go.Hx
open Go Go.Proofs
set_option maxRecDepth 10000
set_option maxHeartbeats 1000000
theorem CL (p0 : ad1) (O : SV) (p1 : ad0) (f : SV) (e : ByteArray) (H : qS p0 p1 = some e) (K : Kp) (G : List Ent) (I : Slr Ty.i64 K (sv O) p0) (aC : Slr fF K (sv f) p1) (hT : mO K) :
  Fc Tryz.prog 58 #[(sv O), (sv f)] K (G) (fun v a b => v = (.string e) ∧ G = b) := by
 refine fN Tryz.func58 rfl Tryz.ntmps58 Tryz.results58 rfl ?_
 unfold qS at H
 refine fc<|fa<|Ea Z<|fb<|fc<|fa<|Ea Z<|fb<|?_
 refine fz (fun c a b => ∃ (B : SV) (s : ad1) (x : List (List Value)), [(1, (sv f)), (5, (sv B))] = c ∧ (.row (sv B) 5 1 x.flatten) :: G = b ∧ qR p1 s = some e ∧ RowR Ty.u8 a x s) ?_ ?_
 ·refine fc<|fa<|Em Z<|Eq Z (gg (T := Ty.i64) I rfl rfl)<|Em Z<|fb<|fA<|?_
  refine f7 (fun ag c a b => ∃ (q : SV) (o : ad1) (p : List (List Value)) (n : Int), [(1, (sv f)), (5, (sv q)), (12, (sv O)), (13, (Vi (p0.length : Int))), (14, (Vi n))] = c ∧ K = a ∧ (.row (sv q) 5 1 p.flatten) :: G = b ∧ lp2 (vl p1 p0) ag o n = some e ∧ RowR Ty.u8 a p o) BIG ?_ ?_
  ·have ap : RowR Ty.u8 K [] [] := RowR.nil
   exact Shift.nilRow 5 1<|Sd<|⟨_, by exact R5, fB, ([] : ad1), ([] : List (List Value)), 0, rfl, rfl, rfl, H, ap⟩
  rintro ag _ _ _ - ⟨q, o, p, n, rfl, rfl, rfl, H, U⟩
  obtain ⟨bd, bb, rfl, aA, H⟩ := jL H
  unfold vl at H
  refine fc<|fa<|Ec Z<|fb<|fc<|?_
  refine fm rfl ?_ ?_
  ·intro i
   obtain ⟨i, H⟩ := It i H
   refine ft<|fc<|fA<|fc<|fa<|?_
   obtain ⟨al, ac, H⟩ := bnd H
   obtain ⟨_, rfl, ax⟩ := Slr.at I ac
   refine Eq Z (Qi (T := Ty.i64) I ac Z)<|El (Vi al) Z (Rdc.k ax rfl)<|Ea Z<|fb<|fa<|Em Z<|Em Z<|?_
   obtain ⟨a0, aL, H⟩ := bnd H
   refine ff rfl (Ek Tryz.call88 Z (CG o q p al 10 a0 aL _ _ U hT) ?_)
   rintro _ _ _ - ⟨bi, bg, rfl, rfl, rfl, aG⟩
   have V : RowR Ty.u8 K [[(.int .u8 32)]] [32] := RowR.cons rfl (RowR.nil)
   refine ff rfl (gk (T := Ty.u8) (rows := [[(.int .u8 32)]]) (l := [32]) rfl rfl rfl V rfl rfl rfl rfl rfl rfl rfl rfl (fun bj => ?_))
   obtain ⟨a1, aM, H⟩ := bnd H
   refine ff rfl (gZ (T := Ty.u8) (bytes := 1) rfl rfl rfl Mb1 aG (SrcT.row Mb0 V rfl) aM rfl rfl rfl rfl rfl rfl rfl rfl (fun aW aR aq => ⟨_, (.there .here), ?_⟩))
   refine Ow.shift (Re0 (Sd ?_))
   exact Ea Z<|fb<|fa<|Er (wI (n + 1)) Z<|Em Z<|fb<|Sd<|⟨_, by exact R5, _, Nat.lt_succ_self _, aW, a1, aR, (wI (n + 1)), rfl, rfl, rfl, (aA ▸ H), aq⟩
  ·intro i
   obtain ⟨i, H⟩ := If i H
   exact f9<|Sd<|⟨_, by exact R2, q, o, p, rfl, rfl, H, U⟩
 rintro _ a5 _ P ⟨B, s, x, rfl, rfl, H, ao⟩
 unfold qR at H
 refine fz (fun c a b => ∃ (N : SV) (L : ad1) (M : List (List Value)), [(5, (sv N))] = c ∧ (.row (sv N) 5 1 M.flatten) :: G = b ∧ vh L = some e ∧ RowR Ty.u8 a M L) ?_ ?_
 ·refine fc<|fa<|Em Z<|?_
  have Y := aC.mono P
  refine Eq Z (gg (T := fF) Y rfl rfl)<|Em Z<|fb<|fA<|?_
  refine f7 (fun ah c a b => ∃ (C : SV) (t : ad1) (y : List (List Value)) (d : Int), [(5, (sv C)), (24, (sv f)), (25, (Vi (p1.length : Int))), (26, (Vi d))] = c ∧ (.row (sv C) 5 1 y.flatten) :: G = b ∧ lp2 (vk p1) ah t d = some e ∧ RowR Ty.u8 a y t) BIG ?_ ?_
  ·exact Sd ⟨_, by exact R4, B, s, x, 0, rfl, rfl, H, ao⟩
  rintro ah _ F _ Q ⟨C, t, y, d, rfl, rfl, H, W⟩
  obtain ⟨be, ae, rfl, aB, H⟩ := jL H
  unfold vk at H
  refine fc<|fa<|Ec Z<|fb<|fc<|?_
  refine fm rfl ?_ ?_
  ·intro j
   obtain ⟨j, H⟩ := It j H
   refine ft ?_
   refine fz (fun c a b => ∃ (D : SV) (u : ad1) (z : List (List Value)), [(5, (sv D)), (24, (sv f)), (25, (Vi (p1.length : Int))), (26, (Vi d))] = c ∧ (.row (sv D) 5 1 z.flatten) :: G = b ∧ vi p1 d ae u = some e ∧ RowR Ty.u8 a z u) ?_ ?_
   ·refine fA<|fc<|fa<|?_
    obtain ⟨g, ad, H⟩ := bnd H
    have aa := Y.mono Q
    obtain ⟨bf, aD, ay⟩ := Slr.at aa ad
    obtain ⟨E, rfl, J⟩ := aD
    refine Eq Z (Qi (T := fF) aa ad Z)<|EL 3 (fy g E) Z (Rdc.k ay rfl)<|?_
    refine ff rfl (fC (cs := (fy (fJ.mk 0 [] false) fB)) rfl rfl rfl rfl (fun a6 => ?_))
    refine ff rfl (Sa (fy g E) Z .here Z ?_)
    refine fb<|fc<|?_
    obtain ⟨a2, aN, H⟩ := bnd H
    obtain ⟨am, aO, H⟩ := bnd H
    refine fq _ rfl (Ic Mb0 In0)<|Jm 0 Z<|JF 3 2 Z<|Jl 4 (.bool g.closed) Z (Rb0 Z)<|?_
    refine Ao 1 Z ?_
    have X : RowR Ty.u8 F [[(.int .u8 47)]] [47] := RowR.cons rfl (RowR.nil)
    refine gk (T := Ty.u8) (rows := [[(.int .u8 47)]]) (l := [47]) rfl rfl rfl X rfl rfl rfl rfl rfl rfl rfl rfl (fun bk => ⟨(Ic Mb1 In0), ?_⟩)
    refine Ao 2 Z ?_
    refine gZ (T := Ty.u8) (bytes := 1) rfl rfl rfl Mb2 W (SrcT.row Mb0 X rfl) aN rfl rfl rfl rfl rfl rfl rfl rfl (fun aX aS av => ⟨_, (.there (.there .here)), ⟨(Ic Mb1 In0), ?_⟩⟩)
    refine Aw.shift (Re0 (Sd ⟨(Ic Mb0 In0), ?_⟩))
    refine Ao 5 Z ?_
    refine OpW.shift (Pu1 (Sd ?_))
    refine Ek Tryz.call89 Z (CH a2 aX aS g.closed am aO _ _ av) ?_
    rintro _ _ _ - ⟨aY, aT, rfl, rfl, rfl, aH⟩
    refine ⟨(Ic Mb1 In0), ?_⟩
    refine Ja 6 Z<|Ad<|fc<|fa<|EF 1 Z<|El (sv E) Z (Rb1 Z)<|Eq Z (gg (T := Ty.u64) J rfl rfl)<|Em Z<|fb<|fA<|?_
    refine f7 (fun af c a b => ∃ (A : SV) (r : ad1) (w : List (List Value)) (m : Int), [(5, (sv A)), (24, (sv f)), (25, (Vi (p1.length : Int))), (26, (Vi d)), (37, (sv E)), (38, (Vi (g.buffer.length : Int))), (39, (Vi m))] = c ∧ F = a ∧ (.row (sv A) 5 1 w.flatten) :: G = b ∧ lp2 (vj p1 d g ae) af r m = some e ∧ RowR Ty.u8 a w r) BIG ?_ ?_
    ·exact Re1<|Sd<|⟨_, by exact R7, aY, am, aT, 0, rfl, rfl, rfl, H, aH⟩
    rintro af _ _ _ - ⟨A, r, w, m, rfl, rfl, rfl, H, R⟩
    obtain ⟨bc, ba, rfl, az, H⟩ := jL H
    unfold vj at H
    refine fc<|fa<|Ec Z<|fb<|fc<|?_
    refine fm rfl ?_ ?_
    ·intro h
     obtain ⟨h, H⟩ := It h H
     refine ft<|fc<|fA<|fc<|fa<|?_
     obtain ⟨ai, ab, H⟩ := bnd H
     obtain ⟨_, rfl, aw⟩ := Slr.at J ab
     refine Eq Z (Qi (T := Ty.u64) J ab Z)<|El (.int .u64 ai) Z (Rdc.k aw rfl)<|Ea Z<|fb<|fa<|Em Z<|?_
     have S : RowR Ty.u8 F [[(.int .u8 32)]] [32] := RowR.cons rfl (RowR.nil)
     refine ff rfl (gk (T := Ty.u8) (rows := [[(.int .u8 32)]]) (l := [32]) rfl rfl rfl S rfl rfl rfl rfl rfl rfl rfl rfl (fun bh => ?_))
     obtain ⟨aZ, aI, H⟩ := bnd H
     refine ff rfl (gZ (T := Ty.u8) (bytes := 1) rfl rfl rfl Mb1 R (SrcT.row Mb0 S rfl) aI rfl rfl rfl rfl rfl rfl rfl rfl (fun aU aP an => ⟨_, (.there .here), ?_⟩))
     refine Ow.shift (Re0 (Sd ?_))
     refine Em Z ?_
     obtain ⟨aj, aJ, H⟩ := bnd H
     have aE := (hT.mono P).mono Q
     refine ff rfl (Ek Tryz.call90 Z (CJ aZ aU aP ai 10 aj aJ _ _ an aE) ?_)
     rintro _ _ _ - ⟨aV, aQ, rfl, rfl, rfl, aF⟩
     exact Ea Z<|fb<|fa<|Er (wI (m + 1)) Z<|Em Z<|fb<|Sd<|⟨_, by exact R7, _, Nat.lt_succ_self _, aV, aj, aQ, (wI (m + 1)), rfl, rfl, rfl, (az ▸ H), aF⟩
    ·intro h
     obtain ⟨h, H⟩ := If h H
     exact f9<|Sd<|⟨_, by exact R4, A, r, w, rfl, rfl, H, R⟩
   rintro _ a3 _ a8 ⟨D, u, z, rfl, rfl, H, au⟩
   unfold vi at H
   exact fa<|Er (wI (d + 1)) Z<|Em Z<|fb<|Sd<|⟨_, by exact R4, _, Nat.lt_succ_self _, D, u, z, (wI (d + 1)), rfl, rfl, (aB ▸ H), au⟩
  ·intro j
   obtain ⟨j, H⟩ := If j H
   exact f9<|Sd<|⟨_, by exact R1, C, t, y, rfl, rfl, H, W⟩
 rintro _ a4 _ a9 ⟨N, L, M, rfl, rfl, H, ar⟩
 unfold vh at H
 refine fc<|fa<|Em Z<|?_
 obtain ⟨ak, aK, H⟩ := bnd H
 refine Eq Z (B5 Mb0 ar aK rfl rfl rfl rfl)<|Ea Z<|fb<|fx<|?_
 obtain a7 := gn H
 subst e
 refine ⟨(.inl rfl), [(.string ak)], ⟨(.string ak), _, rfl, rfl, rfl⟩, ?_⟩
 exact Re0<|Sd<|⟨rfl, rfl⟩
theorem Ag (r : Nat) (B : af9) (j : SV) (f : Bool) (z : ad2) (h : Nat) (s : Array MapEntry) (y : Nat) (A : ad8) (i : SV) (w : List (List Value)) (p1 : ad1) (M : SV) (p2 : Int) (p3 : Int) (g : fw) (q : Bool) (H : uA B f z A p1 p2 p3 = some (g, q)) (K : Kp) (G : List Ent) (t : Slr (Ty.sl fY) K (sv j) B) (ak : MapR Ty.bool Value.string K s z) (al : RowR fP K w A) (u : Slr Ty.i64 K (sv M) p1) :
  Fc Tryz.prog 59 #[(Vp r), (sv M), (Vi p2), (Vi p3)] K ((.blk r 84 [(sv j), (.bool f), .nilFunc, (.map (some h)), (sv i)]) :: (.obj h (.map s y)) :: (.row (sv i) 67 6 w.flatten) :: G) (fun v l x => ∃ (N : SV) (O : SV), v = (.tuple #[(.agg (fl g N O).toArray), (.bool q)]) ∧ K = l ∧ (.blk r 84 [(sv j), (.bool f), .nilFunc, (.map (some h)), (sv i)]) :: (.obj h (.map s y)) :: (.row (sv i) 67 6 w.flatten) :: G = x ∧ Slr fW l (sv N) g.op.cases ∧ Slr Ty.i64 l (sv O) g.op.draws) := by
 refine fN Tryz.func59 rfl Tryz.ntmps59 Tryz.results59 rfl ?_
 unfold uA at H
 refine fc<|fa<|?_
 refine ff rfl (fC (cs := (fl (fw.mk (Op.mk 0 0 0 0 0 [] []) (Result.mk 0 0 0 false 0) 0 0) fB fB)) rfl rfl rfl rfl (fun C => ?_))
 refine Ea Z<|fb<|fc<|fc<|?_
 obtain ⟨ai, J, H⟩ := bnd H
 obtain ⟨aq, L, H⟩ := bnd H
 refine fq _ rfl (Ic Mb0 (Ic Mb1 (Ic Mb2 (Ic Mb3 In0))))<|Jm 0 Z<|Jm 1 Z<|?_
 obtain ⟨_, rfl, S⟩ := Slr.at u J
 refine Jq 2 Z (Qi (T := Ty.i64) u J Z)<|Jl 3 (Vi ai) Z (Rdc.k S rfl)<|Jm 4 Z<|Jq 5 Z (fD rfl)<|JF 6 0 Z<|Jl 7 (sv j) Z (Rb1 Z)<|Jm 8 Z<|?_
 obtain ⟨am, Y, U⟩ := Slr.at t L
 obtain ⟨af, rfl, ac⟩ := Y
 refine Jq 9 Z (Qi (T := (Ty.sl fY)) t L Z)<|Jl 10 (sv af) Z (Rdc.k U rfl)<|Jq 11 Z (gg (T := fY) ac rfl rfl)<|Jc 12 Z<|Ad<|?_
 refine fm rfl ?_ ?_
 ·intro m
  obtain ⟨m, H⟩ := It m H
  refine fc<|fa<|Eq Z (fH (cs := (fl (fw.mk (Op.mk 0 0 0 0 0 [] []) (Result.mk 0 0 0 false 0) 0 0) fB fB)) rfl rfl rfl rfl rfl rfl)<|?_
  refine ff rfl (Sa (fl (fw.mk (Op.mk 0 0 0 0 0 [] []) (Result.mk 0 0 0 false 0) 0 0) fB fB) Z .here Z ?_)
  refine Ea Z<|fb<|fx<|?_
  obtain ⟨Q, R⟩ := hY H
  subst g q
  refine ⟨(.inl rfl), [(.agg (fl (fw.mk (Op.mk 0 0 0 0 0 [] []) (Result.mk 0 0 0 false 0) 0 0) fB fB).toArray), (.bool false)], ⟨(.agg (fl (fw.mk (Op.mk 0 0 0 0 0 [] []) (Result.mk 0 0 0 false 0) 0 0) fB fB).toArray), _, rfl, ⟨_, 14, (fl (fw.mk (Op.mk 0 0 0 0 0 [] []) (Result.mk 0 0 0 false 0) 0 0) fB fB), rfl, rfl, rfl, rfl, ⟨rfl, Rb0 Z⟩, rfl⟩, ⟨(.bool false), _, rfl, rfl, rfl⟩⟩, ?_⟩
  exact Pu3<|Pu3<|Pu3<|Re3<|Sd<|⟨fB, fB, rfl, rfl, rfl, (Slr.nil fW _), (Slr.nil Ty.i64 _)⟩
 ·intro m
  obtain ⟨m, H⟩ := If m H
  refine ft<|fc<|?_
  obtain ⟨ap, E, H⟩ := bnd H
  obtain ⟨ah, F, H⟩ := bnd H
  obtain ⟨a, I, H⟩ := bnd H
  refine fq _ rfl (Ic Mb0 (Ic Mb1 (Ic Mb2 (Ic Mb3 In0))))<|Jm 0 Z<|Jq 1 Z (fD rfl)<|JF 2 0 Z<|Jl 3 (sv j) Z (Rb1 Z)<|Jm 4 Z<|?_
  obtain ⟨an, aa, V⟩ := Slr.at t E
  obtain ⟨ag, rfl, D⟩ := aa
  refine Jq 5 Z (Qi (T := (Ty.sl fY)) t E Z)<|Jl 6 (sv ag) Z (Rdc.k V rfl)<|Jm 7 Z<|Jm 8 Z<|?_
  obtain ⟨_, rfl, W⟩ := Slr.at u F
  refine Jq 9 Z (Qi (T := Ty.i64) u F Z)<|Jl 10 (Vi ah) Z (Rdc.k W rfl)<|?_
  obtain ⟨ao, ab, X⟩ := Slr.at D I
  obtain ⟨b, c, rfl, ad, ae⟩ := ab
  refine Jq 11 Z (Qi (T := fY) D I Z)<|JL 12 14 (fl a b c) Z (Rdc.k X rfl)<|?_
  refine Ao 13 Z ?_
  refine fC (cs := (fl (fw.mk (Op.mk 0 0 0 0 0 [] []) (Result.mk 0 0 0 false 0) 0 0) fB fB)) rfl rfl rfl rfl (fun aj => ⟨(Ic Mb1 (Ic Mb2 (Ic Mb3 (Ic Mb4 In0)))), ?_⟩)
  refine Ao 14 Z ?_
  refine Sa (fl a b c) Z .here Z ⟨(Ic Mb1 (Ic Mb2 (Ic Mb3 (Ic Mb4 In0)))), ?_⟩
  refine Ad ?_
  refine fz (fun P l x => ∃ (p : Bool), [(8, (Vp C)), (9, (.bool p))] = P ∧ K = l ∧ (.blk r 84 [(sv j), (.bool f), .nilFunc, (.map (some h)), (sv i)]) :: (.blk C 120 (fl a b c)) :: (.obj h (.map s y)) :: (.row (sv i) 67 6 w.flatten) :: G = x ∧ sy B f A a z p = some (g, q)) ?_ ?_
  ·rcases gR (dcd (a.called < p3)) with o | o <;> revert o
   ·intro e
    obtain ⟨e, H⟩ := It e H
    rcases gR f with o | o <;> revert o
    ·intro n
     have H := ift n H
     refine fq _ rfl (Ic Mb0 (Ic Mb2 (Ic Mb3 (Ic Mb4 In0))))<|JL 0 14 (fl a b c) Z (Rb0 Z)<|JF 1 12 Z<|Jl 2 (Vi a.called) Z (Rb0 Z)<|Jm 3 Z<|Jc 4 Z<|Jm 5 Z<|Aw.known (d := 43) rfl (hZ e)<|Bm 6 Z<|Bq 7 Z (fD rfl)<|BF 8 1 Z<|Bl 9 (.bool f) Z (Rb1 Z)<|Bm 10 Z<|Aw.known (d := 48) rfl (n)<|Jz 11 Z<|Jz 12 Z<|Jz 13 Z<|Bt 14 Z<|Jt 15 Z<|?_
     refine Ao 16 Z ?_
     refine Sa (fl a b c) Z (.there .here) Z ⟨(Ic Mb0 (Ic Mb2 (Ic Mb3 (Ic Mb4 In0)))), ?_⟩
     exact Ja 17 Z<|Ad<|Pu4<|Pu4<|Pu3<|Pu4<|Re4<|Sd<|⟨_, by exact R2, true, rfl, rfl, rfl, H⟩
    ·intro n
     have H := fX (btf n) H
     refine fq _ rfl (Ic Mb0 (Ic Mb2 (Ic Mb3 (Ic Mb4 In0))))<|JL 0 14 (fl a b c) Z (Rb0 Z)<|JF 1 12 Z<|Jl 2 (Vi a.called) Z (Rb0 Z)<|Jm 3 Z<|Jc 4 Z<|Jm 5 Z<|Aw.known (d := 43) rfl (hZ e)<|Bm 6 Z<|Bq 7 Z (fD rfl)<|BF 8 1 Z<|Bl 9 (.bool f) Z (Rb1 Z)<|Bm 10 Z<|Aw.known (d := 48) rfl (n)<|BF 11 13 Z<|Bl 12 (Vi a.coming) Z (Rb0 Z)<|Bc 13 Z<|Bf 14 Z<|Jt 15 Z<|?_
     refine Ao 16 Z ?_
     refine Sa (fl a b c) Z (.there .here) Z ⟨(Ic Mb0 (Ic Mb2 (Ic Mb3 (Ic Mb4 In0)))), ?_⟩
     exact Ja 17 Z<|Ad<|Pu4<|Pu4<|Pu3<|Pu4<|Re4<|Sd<|⟨_, by exact R2, (dcd (a.coming ≥ 0)), rfl, rfl, rfl, H⟩
   ·intro e
    obtain ⟨e, H⟩ := If e H
    refine fq _ rfl (Ic Mb0 (Ic Mb2 (Ic Mb3 (Ic Mb4 In0))))<|JL 0 14 (fl a b c) Z (Rb0 Z)<|JF 1 12 Z<|Jl 2 (Vi a.called) Z (Rb0 Z)<|Jm 3 Z<|Jc 4 Z<|Jm 5 Z<|Aw.known (d := 43) rfl (iq e)<|Jz 6 Z<|Jz 7 Z<|Jz 8 Z<|Jz 9 Z<|Jz 10 Z<|gX 11 rfl (by kernel_rfl) (by kernel_rfl) (by kernel_rfl) rfl rfl rfl rfl rfl<|gX 12 rfl (by kernel_rfl) (by kernel_rfl) (by kernel_rfl) rfl rfl rfl rfl rfl<|gX 13 rfl (by kernel_rfl) (by kernel_rfl) (by kernel_rfl) rfl rfl rfl rfl rfl<|Jz 14 Z<|Jf 15 Z<|?_
    refine Ao 16 Z ?_
    refine Sa (fl a b c) Z (.there .here) Z ⟨(Ic Mb0 (Ic Mb2 (Ic Mb3 (Ic Mb4 In0)))), ?_⟩
    exact Ja 17 Z<|Ad<|Pu4<|Pu4<|Pu3<|Pu4<|Re4<|Sd<|⟨_, by exact R2, false, rfl, rfl, rfl, H⟩
  rintro _ _ _ - ⟨p, rfl, rfl, rfl, H⟩
  unfold sy at H
  refine fx ?_
  obtain ⟨Q, R⟩ := hY H
  subst g q
  refine ⟨(.inl rfl), [(.agg (fl a b c).toArray), (.bool p)], ⟨(.agg (fl a b c).toArray), _, rfl, ⟨_, 14, (fl a b c), rfl, rfl, rfl, rfl, ⟨rfl, Rb1 Z⟩, rfl⟩, ⟨(.bool p), _, rfl, rfl, rfl⟩⟩, ?_⟩
  exact Pu3<|Pu3<|Pu2<|Re3<|Sd<|⟨b, c, rfl, rfl, rfl, ad, ae⟩
end Go.Hx
namespace Go.Hx
open Go Go.Proofs
set_option maxRecDepth 10000
set_option maxHeartbeats 1000000
theorem xh (p0 : Op) (f : SV) (g : SV) (d : Case) (e : Bool) (H : sA p0 = some (d, e)) (K : Kp) (G : List Ent) (u : Slr fW K (sv f) p0.cases) (w : Slr Ty.i64 K (sv g) p0.draws) :
  Fc Tryz.prog 117 #[(.agg (fh p0 f g).toArray)] K (G) (fun v i h => v = (.tuple #[(.agg (fk d).toArray), (.bool e)]) ∧ K = i ∧ G = h) := by
 refine fN Tryz.func117 rfl Tryz.ntmps117 Tryz.results117 rfl ?_
 unfold sA at H
 refine fc<|fa<|?_
 refine ff rfl (fR (cs := (fh p0 f g)) rfl rfl rfl (fun p => ?_))
 refine ff rfl (fC (cs := (fk (Case.mk false 0 0))) rfl rfl rfl rfl (fun q => ?_))
 refine Ea Z<|fb<|fc<|fc<|fa<|EF 0 Z<|El (Vi p0.kind) Z (Rb1 Z)<|fb<|fA<|?_
 refine fz (fun r i h => ∃ (o : Bool) (k : Int) (l : Int) (a : Int) (m : Int) (b : Int) (i32 : Int) (n : Int), [(1, (Vp p)), (2, (Vp q)), (6, (.bool o))] = r ∧ K = i ∧ (.blk q 108 (fk (Case.mk false k l))) :: (.blk p 51 (fh (Op.mk a m b i32 n p0.cases p0.draws) f g)) :: G = h ∧ qT p0 o k l a m b i32 n = some (d, e)) ?_ ?_
 ·refine fc<|fa<|Ec Z<|Ea Z<|fb<|?_
  refine fm rfl ?_ ?_
  ·intro c
   obtain ⟨c, H⟩ := It c H
   exact ft<|Pu1<|Pu1<|Sd<|⟨_, by exact R3, (dcd (p0.kind = 1)), 0, 0, p0.kind, p0.mode, p0.channel, p0.value, p0.deadline, rfl, rfl, rfl, H⟩
  ·intro c
   obtain ⟨c, H⟩ := If c H
   exact fa<|Ec Z<|Ea Z<|fb<|Pu1<|Pu1<|Sd<|⟨_, by exact R3, (dcd (p0.kind = 2)), 0, 0, p0.kind, p0.mode, p0.channel, p0.value, p0.deadline, rfl, rfl, rfl, H⟩
 rintro _ _ _ - ⟨o, k, l, a, m, b, i32, n, rfl, rfl, rfl, H⟩
 unfold qT at H
 refine fm rfl ?_ ?_
 ·intro j
  have H := ift j H
  refine fc<|fa<|EF 0 Z<|El (Vi a) Z (Rb1 Z)<|Ec Z<|EF 2 Z<|El (Vi b) Z (Rb1 Z)<|EF 3 Z<|El (.int .u64 i32) Z (Rb1 Z)<|Eq Z (fH (cs := (fk (Case.mk (dcd (a = 1)) b i32))) rfl rfl rfl rfl rfl rfl)<|?_
  refine ff rfl (Sa (fk (Case.mk (dcd (a = 1)) b i32)) Z .here Z ?_)
  refine Ea Z<|fb<|fx<|?_
  obtain ⟨s, t⟩ := hY H
  subst d e
  refine ⟨(.inl rfl), [(.agg (fk (Case.mk (dcd (a = 1)) b i32)).toArray), (.bool true)], ⟨(.agg (fk (Case.mk (dcd (a = 1)) b i32)).toArray), _, rfl, ⟨_, 3, (fk (Case.mk (dcd (a = 1)) b i32)), rfl, rfl, rfl, rfl, ⟨rfl, Rb0 Z⟩, rfl⟩, ⟨(.bool true), _, rfl, rfl, rfl⟩⟩, ?_⟩
  exact Re0<|Re0<|Sd<|⟨rfl, rfl, rfl⟩
 ·intro j
  have H := fX (btf j) H
  refine ft<|fc<|fa<|Eq Z (fH (cs := (fk (Case.mk false 0 0))) rfl rfl rfl rfl rfl rfl)<|?_
  refine ff rfl (Sa (fk (Case.mk false 0 0)) Z .here Z ?_)
  refine Ea Z<|fb<|fx<|?_
  obtain ⟨s, t⟩ := hY H
  subst d e
  refine ⟨(.inl rfl), [(.agg (fk (Case.mk false 0 0)).toArray), (.bool false)], ⟨(.agg (fk (Case.mk false 0 0)).toArray), _, rfl, ⟨_, 3, (fk (Case.mk false 0 0)), rfl, rfl, rfl, rfl, ⟨rfl, Rb0 Z⟩, rfl⟩, ⟨(.bool false), _, rfl, rfl, rfl⟩⟩, ?_⟩
  exact Re0<|Re0<|Sd<|⟨rfl, rfl, rfl⟩
end Go.Hx
namespace Go.Hx
open Go Go.Proofs
set_option maxRecDepth 10000
set_option maxHeartbeats 1000000
theorem xi (p0 : Op) (a : SV) (d : SV) (p1 : Int) (e : Case) (f : Bool) (H : sB p0 p1 = some (e, f)) (K : Kp) (G : List Ent) (i : Slr fW K (sv a) p0.cases) (E : Slr Ty.i64 K (sv d) p0.draws) :
  Fc Tryz.prog 91 #[(.agg (fh p0 a d).toArray), (Vi p1)] K (G) (fun v l j => v = (.tuple #[(.agg (fk e).toArray), (.bool f)]) ∧ K = l ∧ G = j) := by
 refine fN Tryz.func91 rfl Tryz.ntmps91 Tryz.results91 rfl ?_
 unfold sB at H
 refine fc<|fa<|?_
 refine ff rfl (fR (cs := (fh p0 a d)) rfl rfl rfl (fun b25 => ?_))
 refine ff rfl (fC (cs := (fk (Case.mk false 0 0))) rfl rfl rfl rfl (fun y => ?_))
 refine Ea Z<|fb<|fc<|fc<|fa<|EL 7 (fh p0 a d) Z (Rb1 Z)<|?_
 obtain ⟨c, I, F, H⟩ := ir H
 refine ff rfl (Ek Tryz.call117 Z (xh p0 a d c I F _ _ i E) ?_)
 rintro _ _ _ - ⟨rfl, rfl, rfl⟩
 refine Em Z<|Ex Z<|Ex Z<|?_
 refine ff rfl (fC (cs := (fk (Case.mk false 0 0))) rfl rfl rfl rfl (fun J => ?_))
 refine ff rfl (Sa (fk c) Z .here Z ?_)
 refine Ea Z<|fb<|fc<|fa<|Em Z<|fb<|?_
 refine fm rfl ?_ ?_
 ·intro m
  have H := ift m H
  refine fc<|fa<|EL 3 (fk c) Z (Rb0 Z)<|Em Z<|Ec Z<|?_
  refine ff rfl (Sa (fk c) Z (.there .here) Z ?_)
  refine Ea Z<|fb<|fx<|?_
  obtain ⟨z, A⟩ := hY H
  subst e f
  refine ⟨(.inl rfl), [(.agg (fk c).toArray), (.bool (dcd (p1 = (-1))))], ⟨(.agg (fk c).toArray), _, rfl, ⟨_, 3, (fk c), rfl, rfl, rfl, rfl, ⟨rfl, Rb1 Z⟩, rfl⟩, ⟨(.bool (dcd (p1 = (-1)))), _, rfl, rfl, rfl⟩⟩, ?_⟩
  exact Re0<|Re0<|Re0<|Sd<|⟨rfl, rfl, rfl⟩
 ·intro m
  have H := fX (btf m) H
  refine ft<|fc<|?_
  refine fz (fun C l j => ∃ (o : Int) (x : Bool) (p : Int) (q : Int) (r : Int) (s : Int) (t : Int) (u : Int) (w : Int), [(1, (Vi o)), (2, (Vp b25)), (4, (Vp y)), (30, (.bool x))] = C ∧ K = l ∧ (.blk y 108 (fk (Case.mk false p q))) :: (.blk b25 51 (fh (Op.mk r s t u w p0.cases p0.draws) a d)) :: G = j ∧ uB p0 o x p q r s t u w = some (e, f)) ?_ ?_
  ·refine fa<|EF 0 Z<|El (Vi p0.kind) Z (Rb2 Z)<|Ec Z<|Em Z<|?_
   refine Ee Z ?_ ?_
   ·intro b
    have b := lG (ix (b))
    have H := fX b H
    exact Ez Z<|Ez Z<|Et Z<|Em Z<|Ez Z<|Ez Z<|Ez Z<|Ez Z<|Ez Z<|Et Z<|fb<|Pu2<|Pu2<|Re2<|Sd<|⟨_, by exact R4, p1, true, 0, 0, p0.kind, p0.mode, p0.channel, p0.value, p0.deadline, rfl, rfl, rfl, H⟩
   ·intro b
    have b := lH (iw (b))
    have H := ift b H
    refine Vm Z<|Vc Z<|Ef Z<|Em Z<|?_
    refine Ee Z ?_ ?_
    ·intro g
     obtain ⟨g, H⟩ := It g H
     exact Ez Z<|Ez Z<|Ez Z<|Ez Z<|Ez Z<|Et Z<|fb<|Pu2<|Pu2<|Re2<|Sd<|⟨_, by exact R4, p1, true, 0, 0, p0.kind, p0.mode, p0.channel, p0.value, p0.deadline, rfl, rfl, rfl, H⟩
    ·intro g
     obtain ⟨g, H⟩ := If g H
     exact Vm Z<|VF 5 Z<|Vl (sv a) Z (Rb2 Z)<|Vq Z (gg (T := fW) i rfl rfl)<|Vc Z<|Ef Z<|fb<|Pu2<|Pu2<|Re2<|Sd<|⟨_, by exact R4, p1, (dcd (p1 ≥ (p0.cases.length : Int))), 0, 0, p0.kind, p0.mode, p0.channel, p0.value, p0.deadline, rfl, rfl, rfl, H⟩
  rintro _ _ _ - ⟨o, x, p, q, r, s, t, u, w, rfl, rfl, rfl, H⟩
  unfold uB at H
  refine fm rfl ?_ ?_
  ·intro n
   have H := ift n H
   refine fc<|fa<|Eq Z (fH (cs := (fk (Case.mk false 0 0))) rfl rfl rfl rfl rfl rfl)<|?_
   refine ff rfl (Sa (fk (Case.mk false 0 0)) Z .here Z ?_)
   refine Ea Z<|fb<|fx<|?_
   obtain ⟨z, A⟩ := hY H
   subst e f
   refine ⟨(.inl rfl), [(.agg (fk (Case.mk false 0 0)).toArray), (.bool false)], ⟨(.agg (fk (Case.mk false 0 0)).toArray), _, rfl, ⟨_, 3, (fk (Case.mk false 0 0)), rfl, rfl, rfl, rfl, ⟨rfl, Rb0 Z⟩, rfl⟩, ⟨(.bool false), _, rfl, rfl, rfl⟩⟩, ?_⟩
   exact Re0<|Re0<|Sd<|⟨rfl, rfl, rfl⟩
  ·intro n
   have H := fX (btf n) H
   refine ft<|fc<|fa<|EF 5 Z<|El (sv a) Z (Rb1 Z)<|Em Z<|?_
   obtain ⟨h, B, H⟩ := bnd H
   obtain ⟨_, rfl, D⟩ := Slr.at i B
   refine Eq Z (Qi (T := fW) i B Z)<|EL 3 (fk h) Z (Rdc.k D rfl)<|?_
   refine ff rfl (Sa (fk h) Z .here Z ?_)
   refine Ea Z<|fb<|fx<|?_
   obtain ⟨z, A⟩ := hY H
   subst e f
   refine ⟨(.inl rfl), [(.agg (fk h).toArray), (.bool true)], ⟨(.agg (fk h).toArray), _, rfl, ⟨_, 3, (fk h), rfl, rfl, rfl, rfl, ⟨rfl, Rb0 Z⟩, rfl⟩, ⟨(.bool true), _, rfl, rfl, rfl⟩⟩, ?_⟩
   exact Re0<|Re0<|Sd<|⟨rfl, rfl, rfl⟩
theorem nw (p0 : ad0) (n : SV) (p1 : Int) (b : fJ) (e : Bool) (H : m6 p0 p1 = some (b, e)) (K : Kp) (G : List Ent) (i : Slr fF K (sv n) p0) :
  Fc Tryz.prog 92 #[(sv n), (Vi p1)] K (G) (fun v f g => ∃ (q : SV), v = (.tuple #[(.agg (fy b q).toArray), (.bool e)]) ∧ K = f ∧ G = g ∧ Slr Ty.u64 f (sv q) b.buffer) := by
 refine fN Tryz.func92 rfl Tryz.ntmps92 Tryz.results92 rfl ?_
 unfold m6 at H
 refine fc<|fa<|?_
 refine ff rfl (fC (cs := (fy (fJ.mk 0 [] false) fB)) rfl rfl rfl rfl (fun o => ?_))
 refine Ea Z<|fb<|fc<|?_
 refine fz (fun r f g => ∃ (j : Int) (m : Bool) (l : Int), [(0, (sv n)), (1, (Vi j)), (4, (Vp o)), (13, (.bool m))] = r ∧ K = f ∧ (.blk o 104 (fy (fJ.mk l [] false) fB)) :: G = g ∧ qU p0 j m l = some (b, e)) ?_ ?_
 ·refine fa<|Em Z<|Ec Z<|Em Z<|?_
  refine Ee Z ?_ ?_
  ·intro c
   obtain ⟨c, H⟩ := It c H
   exact Ez Z<|Ez Z<|Ez Z<|Ez Z<|Et Z<|fb<|Sd<|⟨_, by exact R4, p1, true, 0, rfl, rfl, rfl, H⟩
  ·intro c
   obtain ⟨c, H⟩ := If c H
   exact Vm Z<|Vm Z<|Vq Z (gg (T := fF) i rfl rfl)<|Vc Z<|Ef Z<|fb<|Sd<|⟨_, by exact R4, p1, (dcd (p1 ≥ (p0.length : Int))), 0, rfl, rfl, rfl, H⟩
 rintro _ _ _ - ⟨j, m, l, rfl, rfl, rfl, H⟩
 unfold qU at H
 refine fm rfl ?_ ?_
 ·intro h
  have H := ift h H
  refine fc<|fa<|Eq Z (fH (cs := (fy (fJ.mk 0 [] false) fB)) rfl rfl rfl rfl rfl rfl)<|?_
  refine ff rfl (Sa (fy (fJ.mk 0 [] false) fB) Z .here Z ?_)
  refine Ea Z<|fb<|fx<|?_
  obtain ⟨s, t⟩ := hY H
  subst b e
  refine ⟨(.inl rfl), [(.agg (fy (fJ.mk 0 [] false) fB).toArray), (.bool false)], ⟨(.agg (fy (fJ.mk 0 [] false) fB).toArray), _, rfl, ⟨_, 3, (fy (fJ.mk 0 [] false) fB), rfl, rfl, rfl, rfl, ⟨rfl, Rb0 Z⟩, rfl⟩, ⟨(.bool false), _, rfl, rfl, rfl⟩⟩, ?_⟩
  exact Re0<|Sd<|⟨fB, rfl, rfl, rfl, (Slr.nil Ty.u64 _)⟩
 ·intro h
  have H := fX (btf h) H
  refine ft<|fc<|fa<|Em Z<|Em Z<|?_
  obtain ⟨d, p, H⟩ := bnd H
  obtain ⟨r28, w, u⟩ := Slr.at i p
  obtain ⟨a, rfl, x⟩ := w
  refine Eq Z (Qi (T := fF) i p Z)<|EL 3 (fy d a) Z (Rdc.k u rfl)<|?_
  refine ff rfl (Sa (fy d a) Z .here Z ?_)
  refine Ea Z<|fb<|fx<|?_
  obtain ⟨s, t⟩ := hY H
  subst b e
  refine ⟨(.inl rfl), [(.agg (fy d a).toArray), (.bool true)], ⟨(.agg (fy d a).toArray), _, rfl, ⟨_, 3, (fy d a), rfl, rfl, rfl, rfl, ⟨rfl, Rb0 Z⟩, rfl⟩, ⟨(.bool true), _, rfl, rfl, rfl⟩⟩, ?_⟩
  exact Re0<|Sd<|⟨a, rfl, rfl, rfl, x⟩
theorem Dn (p0 : fJ) (b : SV) (c : Bool) (H : vm p0 = some c) (K : Kp) (G : List Ent) (g : Slr Ty.u64 K (sv b) p0.buffer) :
  Fc Tryz.prog 93 #[(.agg (fy p0 b).toArray)] K (G) (fun v e d => v = (.bool c) ∧ K = e ∧ G = d) := by
 refine fN Tryz.func93 rfl Tryz.ntmps93 Tryz.results93 rfl ?_
 unfold vm at H
 refine fc<|fa<|?_
 refine ff rfl (fR (cs := (fy p0 b)) rfl rfl rfl (fun b3 => ?_))
 refine Ea Z<|fb<|fc<|fa<|EF 2 Z<|El (.bool p0.closed) Z (Rb0 Z)<|Eq Z (gi rfl)<|Em Z<|?_
 refine Ee Z ?_ ?_
 ·intro a
  have a := ix a
  have H := fX (btf a) H
  refine VF 1 Z<|Vl (sv b) Z (Rb0 Z)<|Vq Z (gg (T := Ty.u64) g rfl rfl)<|VF 0 Z<|Vl (Vi p0.capacity) Z (Rb0 Z)<|Vc Z<|Et Z<|Ea Z<|fb<|fx<|?_
  obtain f := gn H
  subst c
  refine ⟨(.inl rfl), [(.bool (dcd ((p0.buffer.length : Int) < p0.capacity)))], ⟨(.bool (dcd ((p0.buffer.length : Int) < p0.capacity))), _, rfl, rfl, rfl⟩, ?_⟩
  exact Re0<|Sd<|⟨rfl, rfl, rfl⟩
 ·intro a
  have a := iw a
  have H := ift a H
  refine Ez Z<|Ez Z<|Ez Z<|Ez Z<|Ez Z<|Ez Z<|Ef Z<|Ea Z<|fb<|fx<|?_
  obtain f := gn H
  subst c
  refine ⟨(.inl rfl), [(.bool false)], ⟨(.bool false), _, rfl, rfl, rfl⟩, ?_⟩
  exact Re0<|Sd<|⟨rfl, rfl, rfl⟩
end Go.Hx
namespace Go.Hx
open Go Go.Proofs
set_option maxRecDepth 10000
set_option maxHeartbeats 1000000
theorem tm (p0 : ad1) (g : SV) (a : ad1) (H : qV p0 = some a) (K : Kp) (G : List Ent) (e : Slr Ty.u64 K (sv g) p0) :
  Fc Tryz.prog 94 #[(sv g)] K (G) (fun v c i => ∃ (h : SV) (f : List (List Value)), v = (sv h) ∧ K = c ∧ (.row (sv h) 36 1 f.flatten) :: G = i ∧ RowR Ty.u64 c f a) := by
 refine fN Tryz.func94 rfl Tryz.ntmps94 Tryz.results94 rfl ?_
 unfold qV at H
 refine fc<|fa<|Ea Z<|fb<|fc<|fc<|fa<|Em Z<|Eq Z (pi rfl rfl rfl)<|fb<|?_
 refine fm rfl ?_ ?_
 ·intro d
  have n := Slr.nil_of e d
  have H : some [] = some a := by rw [n] at H; simpa [app] using H
  refine fc<|fa<|Ea Z<|fb<|fx<|?_
  obtain j := gn H
  subst a
  refine ⟨(.inl rfl), [(sv fB)], ⟨(sv fB), _, rfl, rfl, rfl⟩, ?_⟩
  have k : RowR Ty.u64 K [] [] := RowR.nil
  exact Shift.nilRow 36 1<|Sd<|⟨fB, ([] : List (List Value)), rfl, rfl, rfl, k⟩
 ·intro d
  refine ft<|fc<|fa<|?_
  have l : RowR Ty.u64 K [] [] := RowR.nil
  refine ff rfl (zp (T := Ty.u64) rfl rfl rfl rfl rfl (fun q => ?_))
  refine Em Z ?_
  obtain ⟨r, o, H⟩ := bnd H
  refine ff rfl (gZ (T := Ty.u64) (bytes := 8) rfl rfl rfl Mb0 l (SrcT.sl e) o rfl rfl rfl rfl rfl rfl rfl rfl (fun b p m => ⟨_, .here, ?_⟩))
  refine Ea Z<|fb<|fx<|?_
  obtain j := gn H
  subst a
  refine ⟨(.inl rfl), [(sv b)], ⟨(sv b), _, rfl, rfl, rfl⟩, ?_⟩
  exact Sd ⟨b, p, rfl, rfl, rfl, m⟩
theorem CM (p0 : ad0) (g : SV) (a : ad0) (H : qW p0 = some a) (K : Kp) (G : List Ent) (e : Slr fF K (sv g) p0) :
  Fc Tryz.prog 118 #[(sv g)] K (G) (fun v c i => ∃ (h : SV) (f : List (List Value)), v = (sv h) ∧ K = c ∧ (.row (sv h) 104 3 f.flatten) :: G = i ∧ RowR fF c f a) := by
 refine fN Tryz.func118 rfl Tryz.ntmps118 Tryz.results118 rfl ?_
 unfold qW at H
 refine fc<|fa<|Ea Z<|fb<|fc<|fc<|fa<|Em Z<|Eq Z (pi rfl rfl rfl)<|fb<|?_
 refine fm rfl ?_ ?_
 ·intro d
  have n := Slr.nil_of e d
  have H : some [] = some a := by rw [n] at H; simpa [app] using H
  refine fc<|fa<|Ea Z<|fb<|fx<|?_
  obtain j := gn H
  subst a
  refine ⟨(.inl rfl), [(sv fB)], ⟨(sv fB), _, rfl, rfl, rfl⟩, ?_⟩
  have k : RowR fF K [] [] := RowR.nil
  exact Shift.nilRow 104 3<|Sd<|⟨fB, ([] : List (List Value)), rfl, rfl, rfl, k⟩
 ·intro d
  refine ft<|fc<|fa<|?_
  have l : RowR fF K [] [] := RowR.nil
  refine ff rfl (zp (T := fF) rfl rfl rfl rfl rfl (fun q => ?_))
  refine Em Z ?_
  obtain ⟨r, o, H⟩ := bnd H
  refine ff rfl (gZ (T := fF) (bytes := 40) rfl rfl rfl Mb0 l (SrcT.sl e) o rfl rfl rfl rfl rfl rfl rfl rfl (fun b p m => ⟨_, .here, ?_⟩))
  refine Ea Z<|fb<|fx<|?_
  obtain j := gn H
  subst a
  refine ⟨(.inl rfl), [(sv b)], ⟨(sv b), _, rfl, rfl, rfl⟩, ?_⟩
  exact Sd ⟨b, p, rfl, rfl, rfl, m⟩
end Go.Hx
namespace Go.Hx
open Go Go.Proofs
set_option maxRecDepth 10000
set_option maxHeartbeats 1000000
theorem xb (p0 : ad0) (e : SV) (p1 : Int) (p2 : fJ) (a : SV) (f : ad0) (H : mz p0 p1 p2 = some f) (K : Kp) (G : List Ent) (m : Slr fF K (sv e) p0) (n : Slr Ty.u64 K (sv a) p2.buffer) :
  Fc Tryz.prog 95 #[(sv e), (Vi p1), (.agg (fy p2 a).toArray)] K (G) (fun v g k => ∃ (j : SV) (i : List (List Value)), v = (sv j) ∧ K = g ∧ (.row (sv j) 104 3 i.flatten) :: G = k ∧ RowR fF g i f) := by
 refine fN Tryz.func95 rfl Tryz.ntmps95 Tryz.results95 rfl ?_
 unfold mz at H
 refine fc<|fa<|?_
 refine ff rfl (fR (cs := (fy p2 a)) rfl rfl rfl (fun r => ?_))
 refine Ea Z<|fb<|fc<|fa<|Em Z<|?_
 obtain ⟨x17, p, H⟩ := bnd H
 refine ff rfl (Ek Tryz.call118 Z (CM p0 e x17 p _ _ m) ?_)
 rintro _ _ _ - ⟨d, q, rfl, rfl, rfl, b⟩
 refine Ea Z<|fb<|fc<|fa<|Em Z<|Em Z<|EL 3 (fy p2 a) Z (Rb1 Z)<|?_
 obtain ⟨y, h, H⟩ := bnd H
 obtain ⟨w, c, o⟩ := RowR.at b h
 obtain ⟨x, rfl, u⟩ := o
 refine Eq Z (gz (T := fF) Mb0 b c (fL h).1 rfl rfl rfl rfl rfl) ?_
 refine ff rfl (gP (T := fF) (vs := (fy p2 a)) (r' := (fy p2 a)) (l' := (f8 x17 p1 p2)) rfl rfl rfl rfl rfl .here b c rfl rfl rfl (RowR.set p1 b ⟨a, rfl, n⟩) (fun l => ?_))
 have t := iO c (v := (fy p2 a))
 refine fb<|fc<|fa<|Em Z<|Ea Z<|fb<|fx<|?_
 obtain s := gn H
 subst f
 refine ⟨(.inl rfl), [(sv d)], ⟨(sv d), _, rfl, rfl, rfl⟩, ?_⟩
 exact Re1<|Sd<|⟨d, (q.set p1.toNat (fy p2 a)), rfl, rfl, rfl, l⟩
theorem x4 (p0 : Op) (a : SV) (b : SV) (c : af4) (H : nY p0 = some c) (K : Kp) (G : List Ent) (g : Slr fW K (sv a) p0.cases) (m : Slr Ty.i64 K (sv b) p0.draws) :
  Fc Tryz.prog 97 #[(.agg (fh p0 a b).toArray)] K (G) (fun v j i => ∃ (h : SV), v = (sv h) ∧ G = i ∧ Slr fW j (sv h) c) := by
 refine fN Tryz.func97 rfl Tryz.ntmps97 Tryz.results97 rfl ?_
 unfold nY at H
 refine fc<|fa<|?_
 refine ff rfl (fR (cs := (fh p0 a b)) rfl rfl rfl (fun r => ?_))
 refine Ea Z<|fb<|fc<|fc<|fa<|EL 7 (fh p0 a b) Z (Rb0 Z)<|?_
 obtain ⟨x17, x18, o, H⟩ := ir H
 refine ff rfl (Ek Tryz.call117 Z (xh p0 a b x17 x18 o _ _ g m) ?_)
 rintro _ _ _ - ⟨rfl, rfl, rfl⟩
 refine Em Z<|Ex Z<|Ex Z<|?_
 refine ff rfl (fC (cs := (fk (Case.mk false 0 0))) rfl rfl rfl rfl (fun q => ?_))
 refine ff rfl (Sa (fk x17) Z .here Z ?_)
 refine Ea Z<|fb<|fc<|fa<|Em Z<|fb<|?_
 refine fm rfl ?_ ?_
 ·intro d
  have H := ift d H
  refine fc<|fa<|EL 3 (fk x17) Z (Rb0 Z)<|?_
  have f : RowR fW K [(fk x17)] [x17] := RowR.cons rfl (RowR.nil)
  refine ff rfl (gk (T := fW) (rows := [(fk x17)]) (l := [x17]) rfl rfl rfl f rfl rfl rfl rfl rfl rfl rfl rfl (fun e => ?_))
  refine Ea Z<|fb<|fx<|?_
  obtain k := gn H
  subst c
  refine ⟨(.inl rfl), [(sv e)], ⟨(sv e), _, rfl, rfl, rfl⟩, ?_⟩
  refine Shift.settle (T := fW) .here f rfl ?_
  intro p s n
  exact Re0<|Re0<|Re0<|Sd<|⟨e, rfl, rfl, n⟩
 ·intro d
  have H := fX (btf d) H
  refine ft<|fc<|fa<|EF 5 Z<|El (sv a) Z (Rb1 Z)<|Ea Z<|fb<|fx<|?_
  obtain k := gn H
  subst c
  refine ⟨(.inl rfl), [(sv a)], ⟨(sv a), _, rfl, rfl, rfl⟩, ?_⟩
  exact Re0<|Re0<|Sd<|⟨a, rfl, rfl, g⟩
theorem CN (p0 : ad0) (i : SV) (p1 : Case) (c : Bool) (H : qX p0 p1 = some c) (K : Kp) (G : List Ent) (m : Slr fF K (sv i) p0) :
  Fc Tryz.prog 99 #[(sv i), (.agg (fk p1).toArray)] K (G) (fun v l k => v = (.bool c) ∧ K = l ∧ G = k) := by
 refine fN Tryz.func99 rfl Tryz.ntmps99 Tryz.results99 rfl ?_
 unfold qX at H
 refine fc<|fa<|?_
 refine ff rfl (fR (cs := (fk p1)) rfl rfl rfl (fun o => ?_))
 refine Ea Z<|fb<|fc<|fa<|Em Z<|EF 1 Z<|El (Vi p1.channel) Z (Rb0 Z)<|?_
 obtain ⟨a, x14, n, H⟩ := ir H
 refine ff rfl (Ek Tryz.call92 Z (nw p0 i p1.channel a x14 n _ _ m) ?_)
 rintro _ _ _ - ⟨h, rfl, rfl, rfl, j⟩
 refine Em Z<|Ex Z<|Ex Z<|?_
 refine ff rfl (fC (cs := (fy (fJ.mk 0 [] false) fB)) rfl rfl rfl rfl (fun p => ?_))
 refine ff rfl (Sa (fy a h) Z .here Z ?_)
 refine Ea Z<|fb<|fc<|fA<|fc<|fa<|Em Z<|Eq Z (gi rfl)<|Ea Z<|fb<|?_
 refine fm rfl ?_ ?_
 ·intro b
  have b := ix b
  have H := fX (btf b) H
  refine fc<|fa<|Ea Z<|fb<|fx<|?_
  obtain d := gn H
  subst c
  refine ⟨(.inl rfl), [(.bool false)], ⟨(.bool false), _, rfl, rfl, rfl⟩, ?_⟩
  exact Re0<|Re0<|Sd<|⟨rfl, rfl, rfl⟩
 ·intro b
  have b := iw b
  have H := ift b H
  refine fc<|fa<|EF 0 Z<|El (.bool p1.send) Z (Rb1 Z)<|Ea Z<|fb<|?_
  refine fm rfl ?_ ?_
  ·intro e
   have H := ift e H
   refine fc<|fa<|EF 2 Z<|El (.bool a.closed) Z (Rb0 Z)<|Em Z<|?_
   refine Ee Z ?_ ?_
   ·intro f
    have H := ift f H
    refine Ez Z<|Ez Z<|Ez Z<|Ez Z<|Ez Z<|Ez Z<|Et Z<|Ea Z<|fb<|fx<|?_
    obtain d := gn H
    subst c
    refine ⟨(.inl rfl), [(.bool true)], ⟨(.bool true), _, rfl, rfl, rfl⟩, ?_⟩
    exact Re0<|Re0<|Sd<|⟨rfl, rfl, rfl⟩
   ·intro f
    have H := fX (btf f) H
    refine VF 1 Z<|Vl (sv h) Z (Rb0 Z)<|Vq Z (gg (T := Ty.u64) j rfl rfl)<|VF 0 Z<|Vl (Vi a.capacity) Z (Rb0 Z)<|Vc Z<|Ef Z<|Ea Z<|fb<|fx<|?_
    obtain d := gn H
    subst c
    refine ⟨(.inl rfl), [(.bool (dcd ((a.buffer.length : Int) < a.capacity)))], ⟨(.bool (dcd ((a.buffer.length : Int) < a.capacity))), _, rfl, rfl, rfl⟩, ?_⟩
    exact Re0<|Re0<|Sd<|⟨rfl, rfl, rfl⟩
  ·intro e
   have H := fX (btf e) H
   refine ft<|fc<|fa<|EF 2 Z<|El (.bool a.closed) Z (Rb0 Z)<|Em Z<|?_
   refine Ee Z ?_ ?_
   ·intro g
    have H := ift g H
    refine Ez Z<|Ez Z<|Ez Z<|Ez Z<|Et Z<|Ea Z<|fb<|fx<|?_
    obtain d := gn H
    subst c
    refine ⟨(.inl rfl), [(.bool true)], ⟨(.bool true), _, rfl, rfl, rfl⟩, ?_⟩
    exact Re0<|Re0<|Sd<|⟨rfl, rfl, rfl⟩
   ·intro g
    have H := fX (btf g) H
    refine VF 1 Z<|Vl (sv h) Z (Rb0 Z)<|Vq Z (gg (T := Ty.u64) j rfl rfl)<|Vc Z<|Ef Z<|Ea Z<|fb<|fx<|?_
    obtain d := gn H
    subst c
    refine ⟨(.inl rfl), [(.bool (dcd ((a.buffer.length : Int) > 0)))], ⟨(.bool (dcd ((a.buffer.length : Int) > 0))), _, rfl, rfl, rfl⟩, ?_⟩
    exact Re0<|Re0<|Sd<|⟨rfl, rfl, rfl⟩
theorem Do (p0 : Case) (b : Nat) (p1 : ad0) (a : SV) (d : Bool) (H : vn p0 p1 = some d) (K : Kp) (G : List Ent) (g : Slr fF K (sv a) p1) :
  Fc Tryz.prog 98 #[(.agg (fk p0).toArray), (Vp b)] K ((.blk b 57 [(sv a)]) :: G) (fun v f e => v = (.bool d) ∧ K = f ∧ (.blk b 57 [(sv a)]) :: G = e) := by
 refine fN Tryz.func98 rfl Tryz.ntmps98 Tryz.results98 rfl ?_
 unfold vn at H
 refine fc<|fa<|?_
 refine ff rfl (fR (cs := (fk p0)) rfl rfl rfl (fun b4 => ?_))
 refine Ea Z<|fb<|fc<|fa<|El (sv a) Z (Rb1 Z)<|EL 3 (fk p0) Z (Rb0 Z)<|?_
 obtain ⟨c, h, H⟩ := bnd H
 refine ff rfl (Ek Tryz.call99 Z (CN p1 a p0 c h _ _ g) ?_)
 rintro _ _ _ - ⟨rfl, rfl, rfl⟩
 refine Ea Z<|fb<|fx<|?_
 obtain i := gn H
 subst d
 refine ⟨(.inl rfl), [(.bool c)], ⟨(.bool c), _, rfl, rfl, rfl⟩, ?_⟩
 exact Pu1<|Re1<|Sd<|⟨rfl, rfl, rfl⟩
end Go.Hx
namespace Go.Hx
open Go Go.Proofs
set_option maxRecDepth 10000
set_option maxHeartbeats 1000000
theorem CO (p0 : af4) (m : SV) (a : Nat) (f : ad0) (c : SV) (d : Int) (H : qY p0 f = some d) (K : Kp) (G : List Ent) (l : Slr fW K (sv m) p0) (q : Slr fF K (sv c) f) :
  Fc Tryz.prog 119 #[(sv m), (.func (.func 98) #[] #[(Vp a)])] K ((.blk a 57 [(sv c)]) :: G) (fun v h e => v = (Vi d) ∧ (.blk a 57 [(sv c)]) :: G = e) := by
 refine fN Tryz.func119 rfl Tryz.ntmps119 Tryz.results119 rfl ?_
 unfold qY at H
 refine fc<|fa<|Ea Z<|fb<|?_
 refine fz (fun i h e => [] = i ∧ (.blk a 57 [(sv c)]) :: G = e ∧ vo f = some d) ?_ ?_
 ·refine fc<|fa<|Em Z<|Eq Z (gg (T := fW) l rfl rfl)<|Em Z<|fb<|fA<|?_
  refine f7 (fun n87 i h e => ∃ (b : Int), [(0, (sv m)), (1, (.func (.func 98) #[] #[(Vp a)])), (7, (Vi (p0.length : Int))), (8, (Vi b))] = i ∧ K = h ∧ (.blk a 57 [(sv c)]) :: G = e ∧ lp1 (vp p0 f) n87 b = some d) BIG ?_ ?_
  ·exact Sd ⟨_, by exact R4, 0, rfl, rfl, rfl, H⟩
  rintro n87 _ _ _ - ⟨b, rfl, rfl, rfl, H⟩
  obtain ⟨z, y, rfl, s, H⟩ := lx H
  unfold vp at H
  refine fc<|fa<|Ec Z<|fb<|fc<|?_
  refine fm rfl ?_ ?_
  ·intro g
   obtain ⟨g, H⟩ := It g H
   refine ft<|fc<|fA<|fc<|fa<|Em Z<|Ea Z<|fb<|fc<|fa<|Em Z<|Em Z<|Em Z<|?_
   obtain ⟨o, n, H⟩ := bnd H
   obtain ⟨_, rfl, r⟩ := Slr.at l n
   refine Eq Z (Qi (T := fW) l n Z)<|EL 3 (fk o) Z (Rdc.k r rfl)<|?_
   obtain ⟨u, t, H⟩ := bnd H
   refine ff rfl (Ek Tryz.call98 Z (Do o a f c u t _ _ q) ?_)
   rintro _ _ _ - ⟨rfl, rfl, rfl⟩
   refine fb ?_
   refine fm rfl ?_ ?_
   ·intro j
    have H := ift j H
    refine fc<|fa<|Em Z<|Ea Z<|fb<|fx<|?_
    obtain p := gn H
    subst d
    refine ⟨(.inl rfl), [(Vi b)], ⟨(Vi b), _, rfl, rfl, rfl⟩, ?_⟩
    exact Sd ⟨rfl, rfl⟩
   ·intro j
    have H := fX (btf j) H
    exact ft<|fa<|Er (wI (b + 1)) Z<|Em Z<|fb<|Sd<|⟨_, by exact R4, _, Nat.lt_succ_self _, (wI (b + 1)), rfl, rfl, rfl, (s ▸ H)⟩
  ·intro g
   obtain ⟨g, H⟩ := If g H
   exact f9<|Sd<|⟨[], trivial, rfl, rfl, H⟩
 rintro _ w _ x ⟨rfl, rfl, H⟩
 unfold vo at H
 refine fc<|fa<|Ea Z<|fb<|fx<|?_
 obtain p := gn H
 subst d
 refine ⟨(.inl rfl), [(Vi (-1))], ⟨(Vi (-1)), _, rfl, rfl, rfl⟩, ?_⟩
 exact Sd ⟨rfl, rfl⟩
theorem Cj (p0 : af4) (d : SV) (a : Nat) (c : ad0) (b : SV) (f : Bool) (H : nZ p0 c = some f) (K : Kp) (G : List Ent) (i : Slr fW K (sv d) p0) (h : Slr fF K (sv b) c) :
  Fc Tryz.prog 96 #[(sv d), (.func (.func 98) #[] #[(Vp a)])] K ((.blk a 57 [(sv b)]) :: G) (fun v k g => v = (.bool f) ∧ (.blk a 57 [(sv b)]) :: G = g) := by
 refine fN Tryz.func96 rfl Tryz.ntmps96 Tryz.results96 rfl ?_
 unfold nZ at H
 refine fc<|fa<|Ea Z<|fb<|fc<|fa<|Em Z<|Em Z<|?_
 obtain ⟨e, j, H⟩ := bnd H
 refine ff rfl (Ek Tryz.call119 Z (CO p0 d a c b e j _ _ i h) ?_)
 rintro _ l _ n ⟨rfl, rfl⟩
 refine Ec Z<|Ea Z<|fb<|fx<|?_
 obtain m := gn H
 subst f
 refine ⟨(.inl rfl), [(.bool (dcd (e ≥ 0)))], ⟨(.bool (dcd (e ≥ 0))), _, rfl, rfl, rfl⟩, ?_⟩
 exact Sd ⟨rfl, rfl⟩
theorem Dp (p0 : ad1) (g : SV) (a : ad1) (H : vt p0 = some a) (K : Kp) (G : List Ent) (e : Slr Ty.i64 K (sv g) p0) :
  Fc Tryz.prog 100 #[(sv g)] K (G) (fun v c i => ∃ (h : SV) (f : List (List Value)), v = (sv h) ∧ K = c ∧ (.row (sv h) 3 1 f.flatten) :: G = i ∧ RowR Ty.i64 c f a) := by
 refine fN Tryz.func100 rfl Tryz.ntmps100 Tryz.results100 rfl ?_
 unfold vt at H
 refine fc<|fa<|Ea Z<|fb<|fc<|fc<|fa<|Em Z<|Eq Z (pi rfl rfl rfl)<|fb<|?_
 refine fm rfl ?_ ?_
 ·intro d
  have n := Slr.nil_of e d
  have H : some [] = some a := by rw [n] at H; simpa [app] using H
  refine fc<|fa<|Ea Z<|fb<|fx<|?_
  obtain j := gn H
  subst a
  refine ⟨(.inl rfl), [(sv fB)], ⟨(sv fB), _, rfl, rfl, rfl⟩, ?_⟩
  have k : RowR Ty.i64 K [] [] := RowR.nil
  exact Shift.nilRow 3 1<|Sd<|⟨fB, ([] : List (List Value)), rfl, rfl, rfl, k⟩
 ·intro d
  refine ft<|fc<|fa<|?_
  have l : RowR Ty.i64 K [] [] := RowR.nil
  refine ff rfl (zp (T := Ty.i64) rfl rfl rfl rfl rfl (fun q => ?_))
  refine Em Z ?_
  obtain ⟨r, o, H⟩ := bnd H
  refine ff rfl (gZ (T := Ty.i64) (bytes := 8) rfl rfl rfl Mb0 l (SrcT.sl e) o rfl rfl rfl rfl rfl rfl rfl rfl (fun b p m => ⟨_, .here, ?_⟩))
  refine Ea Z<|fb<|fx<|?_
  obtain j := gn H
  subst a
  refine ⟨(.inl rfl), [(sv b)], ⟨(sv b), _, rfl, rfl, rfl⟩, ?_⟩
  exact Sd ⟨b, p, rfl, rfl, rfl, m⟩
end Go.Hx
namespace Go.Hx
open Go Go.Proofs
set_option maxRecDepth 10000
set_option maxHeartbeats 1000000
theorem x5 (p0 : ad0) (b : SV) (p1 : Op) (A : SV) (B : SV) (p2 : Result) (g : ad0) (h : Bool) (H : oa p0 p1 p2 = some (g, h)) (K : Kp) (G : List Ent) (s : Slr fF K (sv b) p0) (a7 : Slr fW K (sv A) p1.cases) (a8 : Slr Ty.i64 K (sv B) p1.draws) :
  Fc Tryz.prog 61 #[(sv b), (.agg (fh p1 A B).toArray), (.agg (fe p2).toArray)] K (G) (fun v i f => ∃ (bc : SV), v = (.tuple #[(sv bc), (.bool h)]) ∧ G = f ∧ Slr fF i (sv bc) g) := by
 refine fN Tryz.func61 rfl Tryz.ntmps61 Tryz.results61 rfl ?_
 unfold oa at H
 refine fc<|fa<|?_
 refine ff rfl (fR (cs := [(sv b)]) rfl rfl rfl (fun j => ?_))
 refine ff rfl (fR (cs := (fh p1 A B)) rfl rfl rfl (fun a2 => ?_))
 refine ff rfl (fR (cs := (fe p2)) rfl rfl rfl (fun a3 => ?_))
 refine Ea Z<|Ea Z<|fb<|fc<|fa<|EL 7 (fh p1 A B) Z (Rb1 Z)<|EF 1 Z<|El (Vi p2.case_) Z (Rb0 Z)<|?_
 obtain ⟨aq, ar, bH, H⟩ := ir H
 refine ff rfl (Ek Tryz.call91 Z (xi p1 A B p2.case_ aq ar bH _ _ a7 a8) ?_)
 rintro _ _ _ - ⟨rfl, rfl, rfl⟩
 refine Em Z<|Ex Z<|Ex Z<|?_
 refine ff rfl (fC (cs := (fk (Case.mk false 0 0))) rfl rfl rfl rfl (fun t => ?_))
 refine ff rfl (Sa (fk aq) Z .here Z ?_)
 refine Ea Z<|fb<|?_
 refine fz (fun m i f => ∃ (o : Bool) (n : Int) (c : Int), [(3, (Vp j)), (4, (Vp a2)), (5, (Vp a3)), (8, (Vp t)), (9, (.bool ar))] = m ∧ K = i ∧ (.blk t 108 (fk (Case.mk o n c))) :: (.blk a3 38 (fe p2)) :: (.blk a2 51 (fh p1 A B)) :: (.blk j 57 [(sv b)]) :: G = f ∧ q7 ar p2 p1 p0 o n c = some (g, h)) ?_ ?_
 ·refine fc<|fa<|EF 0 Z<|El (Vi p1.kind) Z (Rb2 Z)<|Ec Z<|fb<|?_
  refine fm rfl ?_ ?_
  ·intro N
   obtain ⟨N, H⟩ := It N H
   refine fa<|EF 2 Z<|El (Vi p1.channel) Z (Rb2 Z)<|Eq Z (fH (cs := (fk (Case.mk false p1.channel 0))) rfl rfl rfl rfl rfl rfl)<|?_
   refine ff rfl (Sa (fk (Case.mk false p1.channel 0)) Z .here Z ?_)
   exact fb<|Pu3<|Pu3<|Pu3<|Pu3<|Sd<|⟨_, by exact R5, false, p1.channel, 0, rfl, rfl, rfl, H⟩
  ·intro N
   obtain ⟨N, H⟩ := If N H
   exact ft<|Pu3<|Pu3<|Pu3<|Pu3<|Sd<|⟨_, by exact R5, aq.send, aq.channel, aq.value, rfl, rfl, rfl, H⟩
 rintro _ _ _ - ⟨o, n, c, rfl, rfl, rfl, H⟩
 unfold q7 at H
 refine fc<|fa<|El (sv b) Z (Rb3 Z)<|EF 1 Z<|El (Vi n) Z (Rb0 Z)<|?_
 obtain ⟨a, bd, bI, H⟩ := ir H
 refine ff rfl (Ek Tryz.call92 Z (nw p0 b n a bd bI _ _ s) ?_)
 rintro _ _ _ - ⟨e, rfl, rfl, rfl, p⟩
 refine Em Z<|Ex Z<|Ex Z<|?_
 refine ff rfl (fC (cs := (fy (fJ.mk 0 [] false) fB)) rfl rfl rfl rfl (fun u => ?_))
 refine ff rfl (Sa (fy a e) Z .here Z ?_)
 refine Ea Z<|fb<|?_
 refine fz (fun m i f => [] = m ∧ G = f ∧ iU = some (g, h)) ?_ ?_
 ·refine fc<|fa<|EL 5 (fe p2) Z (Rb2 Z)<|fb<|fA<|fc<|fa<|EF 1 Z<|El (Vi p2.case_) Z (Rb2 Z)<|Eq Z (fH (cs := (fe (Result.mk 1 p2.case_ 0 false 0))) rfl rfl rfl rfl rfl rfl)<|Eq Z (jy rfl rfl (fun w => Result.eqrun p2 (Result.mk 1 p2.case_ 0 false 0) w) (by kernel_rfl))<|Ea Z<|fb<|?_
  refine fm rfl ?_ ?_
  ·intro O
   obtain ⟨O, H⟩ := It O H
   refine fz (fun m i f => ∃ (aN : Bool), [(3, (Vp j)), (8, (Vp t)), (10, (Vp u)), (51, (.bool aN))] = m ∧ K = i ∧ (.blk u 104 (fy a e)) :: (.blk t 108 (fk (Case.mk o n c))) :: (.blk j 57 [(sv b)]) :: G = f ∧ m7 a o n c p0 aN = some (g, h)) ?_ ?_
   ·refine fa<|Em Z<|Em Z<|?_
    refine Ee Z ?_ ?_
    ·intro au
     have H := ift au H
     refine VF 0 Z<|Vl (.bool o) Z (Rb1 Z)<|Et Z<|Em Z<|?_
     refine Ee Z ?_ ?_
     ·intro av
      have H := ift av H
      refine Vm Z<|Et Z<|Em Z<|?_
      refine Ee Z ?_ ?_
      ·intro aw
       have H := ift aw H
       refine VL 3 (fy a e) Z (Rb0 Z) ?_
       obtain ⟨be, bJ, H⟩ := bnd H
       refine ib rfl rfl rfl rfl (Ek Tryz.call93 Z (Dn a e be bJ _ _ p) ?_)
       rintro _ _ _ - ⟨rfl, rfl, rfl⟩
       exact Et Z<|fb<|Pu4<|Pu2<|Pu2<|Re3<|Re3<|Sd<|⟨_, by exact R4, be, rfl, rfl, rfl, H⟩
      ·intro aw
       have H := fX (btf aw) H
       exact Ez Z<|Ez Z<|Ef Z<|fb<|Pu4<|Pu2<|Pu2<|Re3<|Re3<|Sd<|⟨_, by exact R4, false, rfl, rfl, rfl, H⟩
     ·intro av
      have H := fX (btf av) H
      exact Ez Z<|Ef Z<|Em Z<|Ez Z<|Ez Z<|Ef Z<|fb<|Pu4<|Pu2<|Pu2<|Re3<|Re3<|Sd<|⟨_, by exact R4, false, rfl, rfl, rfl, H⟩
    ·intro au
     have H := fX (btf au) H
     exact Ez Z<|Ez Z<|Ef Z<|Em Z<|Ez Z<|Ef Z<|Em Z<|Ez Z<|Ez Z<|Ef Z<|fb<|Pu4<|Pu2<|Pu2<|Re3<|Re3<|Sd<|⟨_, by exact R4, false, rfl, rfl, rfl, H⟩
   rintro _ _ _ - ⟨aN, rfl, rfl, rfl, H⟩
   unfold m7 at H
   refine fm rfl ?_ ?_
   ·intro ax
    have H := ift ax H
    refine fz (fun m i f => ∃ (ap : SV) (J : ad1) (aM : List (List Value)), [(3, (Vp j)), (8, (Vp t)), (10, (Vp u))] = m ∧ K = i ∧ (.blk u 104 (fy (fJ.mk a.capacity J a.closed) ap)) :: (.blk t 108 (fk (Case.mk o n c))) :: (.blk j 57 [(sv b)]) :: (.row (sv ap) 36 1 aM.flatten) :: G = f ∧ vq a o n c p0 J = some (g, h) ∧ RowR Ty.u64 i aM J) ?_ ?_
    ·obtain ⟨a0, aK, H⟩ := bnd H
     obtain ⟨L, aL, H⟩ := bnd H
     refine fq _ rfl (Ic Mb1 (Ic Mb2 In0))<|JF 0 1 Z<|JF 3 2 Z<|Jl 4 (.int .u64 c) Z (Rb0 Z)<|?_
     refine gY 1 5 (by kernel_rfl) ?_ ?_
     ·refine id (Jyq Z (gv (v := (sv e)) rfl rfl rfl (Rb0 Z)) ⟨(Ic Mb1 (Ic Mb2 In0)), ?_⟩)
      refine gY 2 5 (by kernel_rfl) ?_ ?_
      ·refine id (Jy Z ?_)
       refine Ek Tryz.call94 Z (tm a.buffer e a0 aK _ _ p) ?_
       rintro _ _ _ - ⟨ci, cc, rfl, rfl, rfl, bq⟩
       refine ⟨(Ic Mb2 (Ic Mb3 In0)), ?_⟩
       refine Ao 5 Z ?_
       have a4 : RowR Ty.u64 K [[(.int .u64 c)]] [c] := RowR.cons rfl (RowR.nil)
       refine gk (T := Ty.u64) (rows := [[(.int .u64 c)]]) (l := [c]) rfl rfl rfl a4 rfl rfl rfl rfl rfl rfl rfl rfl (fun cj => ⟨(Ic Mb3 (Ic Mb4 In0)), ?_⟩)
       refine Ao 6 Z ?_
       refine gZ (T := Ty.u64) (bytes := 8) rfl rfl rfl Mb1 bq (SrcT.row Mb0 a4 rfl) aL rfl rfl rfl rfl rfl rfl rfl rfl (fun aU bQ bm => ⟨_, (.there .here), ⟨(Ic Mb3 (Ic Mb4 In0)), ?_⟩⟩)
       refine Aw.shift (Re0 (Sd ⟨(Ic Mb2 (Ic Mb3 In0)), ?_⟩))
       refine JF 7 1 Z ?_
       refine Ao 8 Z ?_
       refine So [(sv aU)] (fy (fJ.mk a.capacity L a.closed) aU) Z (.there .here) Z ⟨(Ic Mb2 (Ic Mb3 In0)), ?_⟩
       exact Ad<|Pu3<|Pu3<|Pu3<|Sd<|⟨_, by exact R3, aU, L, bQ, rfl, rfl, rfl, H, bm⟩
      ·refine id (Jy Z ?_)
       have a5 : RowR Ty.u64 K [[(.int .u64 c)]] [c] := RowR.cons rfl (RowR.nil)
       refine gk (T := Ty.u64) (rows := [[(.int .u64 c)]]) (l := [c]) rfl rfl rfl a5 rfl rfl rfl rfl rfl rfl rfl rfl (fun ck => ⟨(Ic Mb2 (Ic Mb3 In0)), ?_⟩)
       refine Ao 2 Z ?_
       refine Ek Tryz.call94 Z (tm a.buffer e a0 aK _ _ p) ?_
       rintro _ _ _ - ⟨cl, cd, rfl, rfl, rfl, br⟩
       refine ⟨(Ic Mb3 (Ic Mb4 In0)), ?_⟩
       refine Ao 6 Z ?_
       refine gZ (T := Ty.u64) (bytes := 8) rfl rfl rfl Mb0 br (SrcT.row Mb1 a5 rfl) aL rfl rfl rfl rfl rfl rfl rfl rfl (fun aV bR bn => ⟨_, .here, ⟨(Ic Mb3 (Ic Mb4 In0)), ?_⟩⟩)
       refine Aw.shift (Re1 (Sd ⟨(Ic Mb2 (Ic Mb3 In0)), ?_⟩))
       refine JF 7 1 Z ?_
       refine Ao 8 Z ?_
       refine So [(sv aV)] (fy (fJ.mk a.capacity L a.closed) aV) Z (.there .here) Z ⟨(Ic Mb2 (Ic Mb3 In0)), ?_⟩
       exact Ad<|Pu3<|Pu3<|Pu3<|Sd<|⟨_, by exact R3, aV, L, bR, rfl, rfl, rfl, H, bn⟩
     ·refine id (Jy Z ?_)
      have a6 : RowR Ty.u64 K [[(.int .u64 c)]] [c] := RowR.cons rfl (RowR.nil)
      refine gk (T := Ty.u64) (rows := [[(.int .u64 c)]]) (l := [c]) rfl rfl rfl a6 rfl rfl rfl rfl rfl rfl rfl rfl (fun cm => ⟨(Ic Mb2 (Ic Mb3 In0)), ?_⟩)
      refine gB 1 (by kernel_rfl) (Jyq Z (gv (v := (sv e)) rfl rfl rfl (Rb1 Z)) ⟨(Ic Mb2 (Ic Mb3 In0)), ?_⟩)
      refine Ao 2 Z ?_
      refine Ek Tryz.call94 Z (tm a.buffer e a0 aK _ _ p) ?_
      rintro _ _ _ - ⟨cn, ce, rfl, rfl, rfl, bs⟩
      refine ⟨(Ic Mb3 (Ic Mb4 In0)), ?_⟩
      refine Ao 6 Z ?_
      refine gZ (T := Ty.u64) (bytes := 8) rfl rfl rfl Mb0 bs (SrcT.row Mb1 a6 rfl) aL rfl rfl rfl rfl rfl rfl rfl rfl (fun aW bS bo => ⟨_, .here, ⟨(Ic Mb3 (Ic Mb4 In0)), ?_⟩⟩)
      refine Aw.shift (Re1 (Sd ⟨(Ic Mb2 (Ic Mb3 In0)), ?_⟩))
      refine JF 7 1 Z ?_
      refine Ao 8 Z ?_
      refine So [(sv aW)] (fy (fJ.mk a.capacity L a.closed) aW) Z (.there .here) Z ⟨(Ic Mb2 (Ic Mb3 In0)), ?_⟩
      exact Ad<|Pu3<|Pu3<|Pu3<|Sd<|⟨_, by exact R3, aW, L, bS, rfl, rfl, rfl, H, bo⟩
    rintro _ _ _ - ⟨ap, J, aM, rfl, rfl, rfl, H, bl⟩
    unfold vq at H
    refine fc<|fa<|El (sv b) Z (Rb2 Z)<|EF 1 Z<|El (Vi n) Z (Rb1 Z)<|EL 3 (fy (fJ.mk a.capacity J a.closed) ap) Z (Rb0 Z)<|?_
    refine Ow.shift (Shift.settle (T := Ty.u64) (.there (.there (.there .here))) bl rfl (fun bY bi bt => Sd ?_))
    obtain ⟨bU, bK, H⟩ := bnd H
    have bu := s.mono bi
    refine ff rfl (Ek Tryz.call95 Z (xb p0 b n (fJ.mk a.capacity J a.closed) ap bU bK _ _ bu bt) ?_)
    rintro _ _ _ - ⟨aX, cf, rfl, rfl, rfl, bv⟩
    refine Ea Z<|Ea Z<|fb<|fx<|?_
    obtain ⟨x, y⟩ := hY H
    subst g h
    refine ⟨(.inl rfl), [(sv aX), (.bool true)], ⟨(sv aX), _, rfl, rfl, ⟨(.bool true), _, rfl, rfl, rfl⟩⟩, ?_⟩
    refine Shift.settle (T := fF) .here bv rfl ?_
    intro bZ b7 bw
    exact Re0<|Re0<|Re0<|Re0<|Re0<|Sd<|⟨aX, rfl, rfl, bw⟩
   ·intro ax
    have H := fX (btf ax) H
    exact ft<|Re0<|Re0<|Re0<|Sd<|⟨[], trivial, rfl, rfl, H⟩
  ·intro O
   obtain ⟨O, H⟩ := If O H
   refine fc<|fa<|EF 1 Z<|El (Vi p2.case_) Z (Rb2 Z)<|EF 2 Z<|El (.int .u64 p2.value) Z (Rb2 Z)<|Eq Z (fH (cs := (fe (Result.mk 2 p2.case_ p2.value true 0))) rfl rfl rfl rfl rfl rfl)<|Eq Z (jy rfl rfl (fun w => Result.eqrun p2 (Result.mk 2 p2.case_ p2.value true 0) w) (by kernel_rfl))<|Ea Z<|fb<|?_
   refine fm rfl ?_ ?_
   ·intro P
    obtain ⟨P, H⟩ := It P H
    refine fz (fun m i f => ∃ (aO : Bool), [(3, (Vp j)), (8, (Vp t)), (10, (Vp u)), (95, (.bool aO))] = m ∧ K = i ∧ (.blk u 104 (fy a e)) :: (.blk t 108 (fk (Case.mk o n c))) :: (.blk j 57 [(sv b)]) :: G = f ∧ qg a o n c p0 aO = some (g, h)) ?_ ?_
    ·rcases gR ar with r | r <;> revert r
     ·intro z
      have H := ift z H
      rcases gR (!(o)) with r | r <;> revert r
      ·intro q
       have q := ix q
       have H := fX (btf q) H
       rcases gR bd with r | r <;> revert r
       ·intro I
        have H := ift I H
        rcases gR (dcd ((a.buffer.length : Int) > 0)) with r | r <;> revert r
        ·intro C
         obtain ⟨C, H⟩ := It C H
         obtain ⟨bf, a9, H⟩ := bnd H
         refine fq _ rfl (Ic Mb0 (Ic Mb1 (Ic Mb2 (Ic Mb3 (Ic Mb4 In0)))))<|Jm 0 Z<|Jm 1 Z<|Aw.known (d := 73) rfl (z)<|BF 2 0 Z<|Bl 3 (.bool o) Z (Rb1 Z)<|Bq 4 Z (gi rfl)<|Jt 5 Z<|Jm 6 Z<|Aw.known (d := 78) rfl (lK (q))<|Bm 7 Z<|Jt 8 Z<|Jm 9 Z<|Aw.known (d := 81) rfl (I)<|BF 10 1 Z<|Bl 11 (sv e) Z (Rb0 Z)<|Bq 12 Z (gg (T := Ty.u64) p rfl rfl)<|Bc 13 Z<|Jt 14 Z<|Jm 15 Z<|Aw.known (d := 87) rfl (hZ C)<|BF 16 1 Z<|?_
         refine Bl 17 (sv e) Z (Rb0 Z) ?_
         obtain ⟨_, rfl, bp⟩ := Slr.at p a9
         exact Bq 18 Z (Qi (T := Ty.u64) p a9 Z)<|Bl 19 (.int .u64 bf) Z (Rdc.k bp rfl)<|BF 20 2 Z<|Bl 21 (.int .u64 p2.value) Z (Rb2 Z)<|Bc 22 Z<|Jt 23 Z<|Ad<|Pu4<|Pu2<|Pu2<|Re3<|Re3<|Sd<|⟨_, by exact R4, (dcd (bf = p2.value)), rfl, rfl, rfl, H⟩
        ·intro C
         obtain ⟨C, H⟩ := If C H
         refine fq _ rfl (Ic Mb0 (Ic Mb1 (Ic Mb2 (Ic Mb3 (Ic Mb4 In0)))))<|Jm 0 Z<|Jm 1 Z<|Aw.known (d := 73) rfl (z)<|BF 2 0 Z<|Bl 3 (.bool o) Z (Rb1 Z)<|Bq 4 Z (gi rfl)<|Jt 5 Z<|Jm 6 Z<|Aw.known (d := 78) rfl (lK (q))<|Bm 7 Z<|Jt 8 Z<|Jm 9 Z<|Aw.known (d := 81) rfl (I)<|BF 10 1 Z<|Bl 11 (sv e) Z (Rb0 Z)<|Bq 12 Z (gg (T := Ty.u64) p rfl rfl)<|Bc 13 Z<|Jt 14 Z<|Jm 15 Z<|Aw.known (d := 87) rfl (iq C)<|Jz 16 Z<|?_
         exact Jz 17 Z<|Jz 18 Z<|Jz 19 Z<|Jz 20 Z<|Jz 21 Z<|Jz 22 Z<|Jf 23 Z<|Ad<|Pu4<|Pu2<|Pu2<|Re3<|Re3<|Sd<|⟨_, by exact R4, false, rfl, rfl, rfl, H⟩
       ·intro I
        have H := fX (btf I) H
        refine fq _ rfl (Ic Mb0 (Ic Mb1 (Ic Mb2 (Ic Mb3 (Ic Mb4 In0)))))<|Jm 0 Z<|Jm 1 Z<|Aw.known (d := 73) rfl (z)<|BF 2 0 Z<|Bl 3 (.bool o) Z (Rb1 Z)<|Bq 4 Z (gi rfl)<|Jt 5 Z<|Jm 6 Z<|Aw.known (d := 78) rfl (lK (q))<|Bm 7 Z<|Jt 8 Z<|Jm 9 Z<|Aw.known (d := 81) rfl (I)<|Jz 10 Z<|Jz 11 Z<|Jz 12 Z<|Jz 13 Z<|Jf 14 Z<|Jm 15 Z<|Jz 16 Z<|Jz 17 Z<|?_
        exact Jz 18 Z<|Jz 19 Z<|Jz 20 Z<|Jz 21 Z<|Jz 22 Z<|Jf 23 Z<|Ad<|Pu4<|Pu2<|Pu2<|Re3<|Re3<|Sd<|⟨_, by exact R4, false, rfl, rfl, rfl, H⟩
      ·intro q
       have q := iw q
       have H := ift q H
       refine fq _ rfl (Ic Mb0 (Ic Mb1 (Ic Mb2 (Ic Mb3 (Ic Mb4 In0)))))<|Jm 0 Z<|Jm 1 Z<|Aw.known (d := 73) rfl (z)<|BF 2 0 Z<|Bl 3 (.bool o) Z (Rb1 Z)<|Bq 4 Z (gi rfl)<|Jt 5 Z<|Jm 6 Z<|Aw.known (d := 78) rfl (lJ (q))<|Jz 7 Z<|Jf 8 Z<|Jm 9 Z<|Jz 10 Z<|Jz 11 Z<|Jz 12 Z<|Jz 13 Z<|Jf 14 Z<|Jm 15 Z<|Jz 16 Z<|Jz 17 Z<|Jz 18 Z<|?_
       exact Jz 19 Z<|Jz 20 Z<|Jz 21 Z<|Jz 22 Z<|Jf 23 Z<|Ad<|Pu4<|Pu2<|Pu2<|Re3<|Re3<|Sd<|⟨_, by exact R4, false, rfl, rfl, rfl, H⟩
     ·intro z
      have H := fX (btf z) H
      refine fq _ rfl (Ic Mb0 (Ic Mb1 (Ic Mb2 (Ic Mb3 (Ic Mb4 In0)))))<|Jm 0 Z<|Jm 1 Z<|Aw.known (d := 73) rfl (z)<|Jz 2 Z<|Jz 3 Z<|Jz 4 Z<|Jf 5 Z<|Jm 6 Z<|Jz 7 Z<|Jf 8 Z<|Jm 9 Z<|Jz 10 Z<|Jz 11 Z<|Jz 12 Z<|Jz 13 Z<|Jf 14 Z<|Jm 15 Z<|Jz 16 Z<|Jz 17 Z<|Jz 18 Z<|Jz 19 Z<|?_
      exact Jz 20 Z<|Jz 21 Z<|Jz 22 Z<|Jf 23 Z<|Ad<|Pu4<|Pu2<|Pu2<|Re3<|Re3<|Sd<|⟨_, by exact R4, false, rfl, rfl, rfl, H⟩
    rintro _ _ _ - ⟨aO, rfl, rfl, rfl, H⟩
    unfold qg at H
    refine fm rfl ?_ ?_
    ·intro ay
     have H := ift ay H
     refine fc<|fa<|EF 1 Z<|El (sv e) Z (Rb0 Z)<|?_
     obtain ⟨a1, ba, H⟩ := bnd H
     have bx := Slr.cutL p ba
     refine Eq Z (lP (T := Ty.u64) p ba rfl rfl rfl rfl rfl)<|EF 1 Z<|?_
     refine ff rfl (So [(sv (jz e 1 ((1 : Int).toNat) a.buffer.length))] (fy (fJ.mk a.capacity a1 a.closed) (jz e 1 ((1 : Int).toNat) a.buffer.length)) Z .here Z ?_)
     refine fb<|fc<|fa<|El (sv b) Z (Rb2 Z)<|EF 1 Z<|El (Vi n) Z (Rb1 Z)<|EL 3 (fy (fJ.mk a.capacity a1 a.closed) (jz e 1 ((1 : Int).toNat) a.buffer.length)) Z (Rb0 Z)<|?_
     obtain ⟨bV, bL, H⟩ := bnd H
     refine ff rfl (Ek Tryz.call95 Z (xb p0 b n (fJ.mk a.capacity a1 a.closed) (jz e 1 ((1 : Int).toNat) a.buffer.length) bV bL _ _ s bx) ?_)
     rintro _ _ _ - ⟨aY, cg, rfl, rfl, rfl, bz⟩
     refine Ea Z<|Ea Z<|fb<|fx<|?_
     obtain ⟨x, y⟩ := hY H
     subst g h
     refine ⟨(.inl rfl), [(sv aY), (.bool true)], ⟨(sv aY), _, rfl, rfl, ⟨(.bool true), _, rfl, rfl, rfl⟩⟩, ?_⟩
     refine Shift.settle (T := fF) .here bz rfl ?_
     intro b0 b8 bA
     exact Re0<|Re0<|Re0<|Re0<|Sd<|⟨aY, rfl, rfl, bA⟩
    ·intro ay
     have H := fX (btf ay) H
     exact ft<|Re0<|Re0<|Re0<|Sd<|⟨[], trivial, rfl, rfl, H⟩
   ·intro P
    obtain ⟨P, H⟩ := If P H
    refine fc<|fa<|EF 1 Z<|El (Vi p2.case_) Z (Rb2 Z)<|Eq Z (fH (cs := (fe (Result.mk 2 p2.case_ 0 false 0))) rfl rfl rfl rfl rfl rfl)<|Eq Z (jy rfl rfl (fun w => Result.eqrun p2 (Result.mk 2 p2.case_ 0 false 0) w) (by kernel_rfl))<|Ea Z<|fb<|?_
    refine fm rfl ?_ ?_
    ·intro Q
     obtain ⟨Q, H⟩ := It Q H
     refine fz (fun m i f => ∃ (aP : Bool), [(3, (Vp j)), (128, (.bool aP))] = m ∧ K = i ∧ (.blk j 57 [(sv b)]) :: G = f ∧ lM p0 aP = some (g, h)) ?_ ?_
     ·refine fa<|Em Z<|Em Z<|?_
      refine Ee Z ?_ ?_
      ·intro az
       have H := ift az H
       refine VF 0 Z<|Vl (.bool o) Z (Rb1 Z)<|Vq Z (gi rfl)<|Et Z<|Em Z<|?_
       refine Ee Z ?_ ?_
       ·intro D
        have D := ix D
        have H := fX (btf D) H
        refine Vm Z<|Et Z<|Em Z<|?_
        refine Ee Z ?_ ?_
        ·intro aA
         have H := ift aA H
         refine VF 1 Z<|Vl (sv e) Z (Rb0 Z)<|Vq Z (gg (T := Ty.u64) p rfl rfl)<|Vc Z<|Et Z<|Em Z<|?_
         refine Ee Z ?_ ?_
         ·intro R
          obtain ⟨R, H⟩ := It R H
          exact VF 2 Z<|Vl (.bool a.closed) Z (Rb0 Z)<|Et Z<|fb<|Pu4<|Re1<|Re1<|Re1<|Re1<|Sd<|⟨_, by exact R2, a.closed, rfl, rfl, rfl, H⟩
         ·intro R
          obtain ⟨R, H⟩ := If R H
          exact Ez Z<|Ez Z<|Ef Z<|fb<|Pu4<|Re1<|Re1<|Re1<|Re1<|Sd<|⟨_, by exact R2, false, rfl, rfl, rfl, H⟩
        ·intro aA
         have H := fX (btf aA) H
         exact Ez Z<|Ez Z<|Ez Z<|Ez Z<|Ef Z<|Em Z<|Ez Z<|Ez Z<|Ef Z<|fb<|Pu4<|Re1<|Re1<|Re1<|Re1<|Sd<|⟨_, by exact R2, false, rfl, rfl, rfl, H⟩
       ·intro D
        have D := iw D
        have H := ift D H
        exact Ez Z<|Ef Z<|Em Z<|Ez Z<|Ez Z<|Ez Z<|Ez Z<|Ef Z<|Em Z<|Ez Z<|Ez Z<|Ef Z<|fb<|Pu4<|Re1<|Re1<|Re1<|Re1<|Sd<|⟨_, by exact R2, false, rfl, rfl, rfl, H⟩
      ·intro az
       have H := fX (btf az) H
       refine Ez Z<|Ez Z<|Ez Z<|Ef Z<|Em Z<|Ez Z<|Ef Z<|Em Z<|Ez Z<|Ez Z<|Ez Z<|Ez Z<|Ef Z<|Em Z<|Ez Z<|Ez Z<|Ef Z<|fb<|Pu4<|Re1<|Re1<|Re1<|?_
       exact Re1<|Sd<|⟨_, by exact R2, false, rfl, rfl, rfl, H⟩
     rintro _ _ _ - ⟨aP, rfl, rfl, rfl, H⟩
     unfold lM at H
     refine fm rfl ?_ ?_
     ·intro aB
      have H := ift aB H
      refine fc<|fa<|El (sv b) Z (Rb0 Z)<|Ea Z<|Ea Z<|fb<|fx<|?_
      obtain ⟨x, y⟩ := hY H
      subst g h
      refine ⟨(.inl rfl), [(sv b), (.bool true)], ⟨(sv b), _, rfl, rfl, ⟨(.bool true), _, rfl, rfl, rfl⟩⟩, ?_⟩
      exact Re0<|Sd<|⟨b, rfl, rfl, s⟩
     ·intro aB
      have H := fX (btf aB) H
      exact ft<|Re0<|Sd<|⟨[], trivial, rfl, rfl, H⟩
    ·intro Q
     obtain ⟨Q, H⟩ := If Q H
     refine fc<|fa<|EF 1 Z<|El (Vi p2.case_) Z (Rb2 Z)<|Eq Z (fH (cs := (fe (Result.mk 5 p2.case_ 0 false 0))) rfl rfl rfl rfl rfl rfl)<|Eq Z (jy rfl rfl (fun w => Result.eqrun p2 (Result.mk 5 p2.case_ 0 false 0) w) (by kernel_rfl))<|Ea Z<|fb<|?_
     refine fm rfl ?_ ?_
     ·intro S
      obtain ⟨S, H⟩ := It S H
      refine fz (fun m i f => ∃ (aQ : Bool), [(3, (Vp j)), (164, (.bool aQ))] = m ∧ K = i ∧ (.blk j 57 [(sv b)]) :: G = f ∧ kA p0 aQ = some (g, h)) ?_ ?_
      ·refine fa<|Em Z<|Em Z<|?_
       refine Ee Z ?_ ?_
       ·intro aC
        have H := ift aC H
        refine VF 0 Z<|Vl (.bool o) Z (Rb1 Z)<|Et Z<|Em Z<|?_
        refine Ee Z ?_ ?_
        ·intro aD
         have H := ift aD H
         refine Vm Z<|Et Z<|Em Z<|?_
         refine Ee Z ?_ ?_
         ·intro U
          have H := ift U H
          refine VF 2 Z<|Vl (.bool a.closed) Z (Rb0 Z)<|Et Z<|Em Z<|?_
          refine Ee Z ?_ ?_
          ·intro aE
           have H := ift aE H
           refine Ez Z<|Ez Z<|Ez Z<|Ez Z<|f0 rfl rfl rfl rfl rfl<|f0 rfl rfl rfl rfl rfl<|f0 rfl rfl rfl rfl rfl<|Ez Z<|Ez Z<|f0 rfl rfl rfl rfl rfl<|f0 rfl rfl rfl rfl rfl<|f0 rfl rfl rfl rfl rfl<|f0 rfl rfl rfl rfl rfl<|f0 rfl rfl rfl rfl rfl<|f0 rfl rfl rfl rfl rfl<|Ez Z<|Et Z<|fb<|Pu4<|Re1<|Re1<|Re1<|?_
           exact Re1<|Sd<|⟨_, by exact R2, true, rfl, rfl, rfl, H⟩
          ·intro aE
           have H := fX (btf aE) H
           refine VF 0 Z<|Vl (Vi p1.kind) Z (Rb3 Z)<|Vc Z<|Vm Z<|?_
           refine Ee Z ?_ ?_
           ·intro V
            obtain ⟨V, H⟩ := It V H
            refine VF 1 Z<|Vl (Vi p2.case_) Z (Rb2 Z)<|Vc Z<|Vt Z<|Vm Z<|?_
            refine Ee Z ?_ ?_
            ·intro W
             obtain ⟨W, H⟩ := It W H
             exact Vm Z<|Vq Z (gi rfl)<|Vm Z<|Ow.known (d := 159) rfl (lJ (U))<|VF 2 Z<|Vl (.bool a.closed) Z (Rb0 Z)<|Vf Z<|Vt Z<|Ef Z<|fb<|Pu4<|Re1<|Re1<|Re1<|Re1<|Sd<|⟨_, by exact R2, a.closed, rfl, rfl, rfl, H⟩
            ·intro W
             obtain ⟨W, H⟩ := If W H
             exact Ez Z<|Ez Z<|Ez Z<|f0 rfl rfl rfl rfl rfl<|f0 rfl rfl rfl rfl rfl<|Ez Z<|Vf Z<|Ef Z<|fb<|Pu4<|Re1<|Re1<|Re1<|Re1<|Sd<|⟨_, by exact R2, false, rfl, rfl, rfl, H⟩
           ·intro V
            obtain ⟨V, H⟩ := If V H
            exact Ez Z<|Ez Z<|Ez Z<|Vf Z<|Vm Z<|Ez Z<|Ez Z<|Ez Z<|f0 rfl rfl rfl rfl rfl<|f0 rfl rfl rfl rfl rfl<|Ez Z<|Vf Z<|Ef Z<|fb<|Pu4<|Re1<|Re1<|Re1<|Re1<|Sd<|⟨_, by exact R2, false, rfl, rfl, rfl, H⟩
         ·intro U
          have H := fX (btf U) H
          refine Ez Z<|Ez Z<|Ef Z<|Em Z<|VF 0 Z<|Vl (Vi p1.kind) Z (Rb3 Z)<|Vc Z<|Vm Z<|?_
          refine Ee Z ?_ ?_
          ·intro X
           obtain ⟨X, H⟩ := It X H
           refine VF 1 Z<|Vl (Vi p2.case_) Z (Rb2 Z)<|Vc Z<|Vt Z<|Vm Z<|?_
           refine Ee Z ?_ ?_
           ·intro Y
            obtain ⟨Y, H⟩ := It Y H
            exact Vm Z<|Vq Z (gi rfl)<|Vm Z<|Ow.known (d := 159) rfl (lK (U))<|Ez Z<|Ez Z<|Vt Z<|Vt Z<|Ef Z<|fb<|Pu4<|Re1<|Re1<|Re1<|Re1<|Sd<|⟨_, by exact R2, true, rfl, rfl, rfl, H⟩
           ·intro Y
            obtain ⟨Y, H⟩ := If Y H
            exact Ez Z<|Ez Z<|Ez Z<|f0 rfl rfl rfl rfl rfl<|f0 rfl rfl rfl rfl rfl<|Ez Z<|Vf Z<|Ef Z<|fb<|Pu4<|Re1<|Re1<|Re1<|Re1<|Sd<|⟨_, by exact R2, false, rfl, rfl, rfl, H⟩
          ·intro X
           obtain ⟨X, H⟩ := If X H
           exact Ez Z<|Ez Z<|Ez Z<|Vf Z<|Vm Z<|Ez Z<|Ez Z<|Ez Z<|f0 rfl rfl rfl rfl rfl<|f0 rfl rfl rfl rfl rfl<|Ez Z<|Vf Z<|Ef Z<|fb<|Pu4<|Re1<|Re1<|Re1<|Re1<|Sd<|⟨_, by exact R2, false, rfl, rfl, rfl, H⟩
        ·intro aD
         have H := fX (btf aD) H
         refine Ez Z<|Ef Z<|Em Z<|Ez Z<|Ez Z<|Ef Z<|Em Z<|VF 0 Z<|Vl (Vi p1.kind) Z (Rb3 Z)<|Vc Z<|Vm Z<|?_
         refine Ee Z ?_ ?_
         ·intro aa
          obtain ⟨aa, H⟩ := It aa H
          refine VF 1 Z<|Vl (Vi p2.case_) Z (Rb2 Z)<|Vc Z<|Vt Z<|Vm Z<|?_
          refine Ee Z ?_ ?_
          ·intro ab
           obtain ⟨ab, H⟩ := It ab H
           refine Vm Z<|Vq Z (gi rfl)<|Vm Z<|?_
           refine Ee Z ?_ ?_
           ·intro E
            have E := ix E
            have H := fX (btf E) H
            exact Ez Z<|Ez Z<|Vt Z<|Vt Z<|Ef Z<|fb<|Pu4<|Re1<|Re1<|Re1<|Re1<|Sd<|⟨_, by exact R2, true, rfl, rfl, rfl, H⟩
           ·intro E
            have E := iw E
            have H := ift E H
            exact VF 2 Z<|Vl (.bool a.closed) Z (Rb0 Z)<|Vf Z<|Vt Z<|Ef Z<|fb<|Pu4<|Re1<|Re1<|Re1<|Re1<|Sd<|⟨_, by exact R2, a.closed, rfl, rfl, rfl, H⟩
          ·intro ab
           obtain ⟨ab, H⟩ := If ab H
           exact Ez Z<|Ez Z<|Ez Z<|f0 rfl rfl rfl rfl rfl<|f0 rfl rfl rfl rfl rfl<|Ez Z<|Vf Z<|Ef Z<|fb<|Pu4<|Re1<|Re1<|Re1<|Re1<|Sd<|⟨_, by exact R2, false, rfl, rfl, rfl, H⟩
         ·intro aa
          obtain ⟨aa, H⟩ := If aa H
          exact Ez Z<|Ez Z<|Ez Z<|Vf Z<|Vm Z<|Ez Z<|Ez Z<|Ez Z<|f0 rfl rfl rfl rfl rfl<|f0 rfl rfl rfl rfl rfl<|Ez Z<|Vf Z<|Ef Z<|fb<|Pu4<|Re1<|Re1<|Re1<|Re1<|Sd<|⟨_, by exact R2, false, rfl, rfl, rfl, H⟩
       ·intro aC
        have H := fX (btf aC) H
        refine Ez Z<|Ez Z<|Ef Z<|Em Z<|Ez Z<|Ef Z<|Em Z<|Ez Z<|Ez Z<|Ef Z<|Em Z<|VF 0 Z<|Vl (Vi p1.kind) Z (Rb3 Z)<|Vc Z<|Vm Z<|?_
        refine Ee Z ?_ ?_
        ·intro ac
         obtain ⟨ac, H⟩ := It ac H
         refine VF 1 Z<|Vl (Vi p2.case_) Z (Rb2 Z)<|Vc Z<|Vt Z<|Vm Z<|?_
         refine Ee Z ?_ ?_
         ·intro ad
          obtain ⟨ad, H⟩ := It ad H
          refine Vm Z<|Vq Z (gi rfl)<|Vm Z<|?_
          refine Ee Z ?_ ?_
          ·intro F
           have F := ix F
           have H := fX (btf F) H
           exact Ez Z<|Ez Z<|Vt Z<|Vt Z<|Ef Z<|fb<|Pu4<|Re1<|Re1<|Re1<|Re1<|Sd<|⟨_, by exact R2, true, rfl, rfl, rfl, H⟩
          ·intro F
           have F := iw F
           have H := ift F H
           exact VF 2 Z<|Vl (.bool a.closed) Z (Rb0 Z)<|Vf Z<|Vt Z<|Ef Z<|fb<|Pu4<|Re1<|Re1<|Re1<|Re1<|Sd<|⟨_, by exact R2, a.closed, rfl, rfl, rfl, H⟩
         ·intro ad
          obtain ⟨ad, H⟩ := If ad H
          exact Ez Z<|Ez Z<|Ez Z<|f0 rfl rfl rfl rfl rfl<|f0 rfl rfl rfl rfl rfl<|Ez Z<|Vf Z<|Ef Z<|fb<|Pu4<|Re1<|Re1<|Re1<|Re1<|Sd<|⟨_, by exact R2, false, rfl, rfl, rfl, H⟩
        ·intro ac
         obtain ⟨ac, H⟩ := If ac H
         exact Ez Z<|Ez Z<|Ez Z<|Vf Z<|Vm Z<|Ez Z<|Ez Z<|Ez Z<|f0 rfl rfl rfl rfl rfl<|f0 rfl rfl rfl rfl rfl<|Ez Z<|Vf Z<|Ef Z<|fb<|Pu4<|Re1<|Re1<|Re1<|Re1<|Sd<|⟨_, by exact R2, false, rfl, rfl, rfl, H⟩
      rintro _ _ _ - ⟨aQ, rfl, rfl, rfl, H⟩
      unfold kA at H
      refine fm rfl ?_ ?_
      ·intro aF
       have H := ift aF H
       refine fc<|fa<|El (sv b) Z (Rb0 Z)<|Ea Z<|Ea Z<|fb<|fx<|?_
       obtain ⟨x, y⟩ := hY H
       subst g h
       refine ⟨(.inl rfl), [(sv b), (.bool true)], ⟨(sv b), _, rfl, rfl, ⟨(.bool true), _, rfl, rfl, rfl⟩⟩, ?_⟩
       exact Re0<|Sd<|⟨b, rfl, rfl, s⟩
      ·intro aF
       have H := fX (btf aF) H
       exact ft<|Re0<|Sd<|⟨[], trivial, rfl, rfl, H⟩
     ·intro S
      obtain ⟨S, H⟩ := If S H
      refine fc<|fa<|Eq Z (fH (cs := (fe (Result.mk 6 (-1) 0 false 0))) rfl rfl rfl rfl rfl rfl)<|Eq Z (jy rfl rfl (fun w => Result.eqrun p2 (Result.mk 6 (-1) 0 false 0) w) (by kernel_rfl))<|Ea Z<|fb<|?_
      refine fm rfl ?_ ?_
      ·intro ae
       obtain ⟨ae, H⟩ := It ae H
       refine fz (fun m i f => ∃ (aR : Bool), [(3, (Vp j)), (8, (Vp t)), (10, (Vp u)), (179, (.bool aR))] = m ∧ K = i ∧ (.blk u 104 (fy a e)) :: (.blk t 108 (fk (Case.mk o n c))) :: (.blk j 57 [(sv b)]) :: G = f ∧ pA a o n c p0 aR = some (g, h)) ?_ ?_
       ·refine fa<|EF 0 Z<|El (Vi p1.kind) Z (Rb3 Z)<|Ec Z<|Em Z<|?_
        refine Ee Z ?_ ?_
        ·intro af
         obtain ⟨af, H⟩ := It af H
         refine Vm Z<|Et Z<|Em Z<|?_
         refine Ee Z ?_ ?_
         ·intro aG
          have H := ift aG H
          exact VF 2 Z<|Vl (.bool a.closed) Z (Rb0 Z)<|Vq Z (gi rfl)<|Et Z<|fb<|Pu4<|Pu2<|Pu2<|Re3<|Re3<|Sd<|⟨_, by exact R4, (!(a.closed)), rfl, rfl, rfl, H⟩
         ·intro aG
          have H := fX (btf aG) H
          exact Ez Z<|Ez Z<|Ez Z<|Ef Z<|fb<|Pu4<|Pu2<|Pu2<|Re3<|Re3<|Sd<|⟨_, by exact R4, false, rfl, rfl, rfl, H⟩
        ·intro af
         obtain ⟨af, H⟩ := If af H
         exact Ez Z<|Ef Z<|Em Z<|Ez Z<|Ez Z<|Ez Z<|Ef Z<|fb<|Pu4<|Pu2<|Pu2<|Re3<|Re3<|Sd<|⟨_, by exact R4, false, rfl, rfl, rfl, H⟩
       rintro _ _ _ - ⟨aR, rfl, rfl, rfl, H⟩
       unfold pA at H
       refine fm rfl ?_ ?_
       ·intro aH
        have H := ift aH H
        refine fc<|fa<|EF 2 Z<|?_
        refine ff rfl (So [(.bool true)] (fy (fJ.mk a.capacity a.buffer true) e) Z .here Z ?_)
        refine fb<|fc<|fa<|El (sv b) Z (Rb2 Z)<|EF 1 Z<|El (Vi n) Z (Rb1 Z)<|EL 3 (fy (fJ.mk a.capacity a.buffer true) e) Z (Rb0 Z)<|?_
        obtain ⟨bW, bM, H⟩ := bnd H
        refine ff rfl (Ek Tryz.call95 Z (xb p0 b n (fJ.mk a.capacity a.buffer true) e bW bM _ _ s p) ?_)
        rintro _ _ _ - ⟨aZ, ch, rfl, rfl, rfl, bB⟩
        refine Ea Z<|Ea Z<|fb<|fx<|?_
        obtain ⟨x, y⟩ := hY H
        subst g h
        refine ⟨(.inl rfl), [(sv aZ), (.bool true)], ⟨(sv aZ), _, rfl, rfl, ⟨(.bool true), _, rfl, rfl, rfl⟩⟩, ?_⟩
        refine Shift.settle (T := fF) .here bB rfl ?_
        intro b1 b9 bC
        exact Re0<|Re0<|Re0<|Re0<|Sd<|⟨aZ, rfl, rfl, bC⟩
       ·intro aH
        have H := fX (btf aH) H
        exact ft<|Re0<|Re0<|Re0<|Sd<|⟨[], trivial, rfl, rfl, H⟩
      ·intro ae
       obtain ⟨ae, H⟩ := If ae H
       refine fc<|fa<|Eq Z (fH (cs := (fe (Result.mk 3 (-1) 0 false 0))) rfl rfl rfl rfl rfl rfl)<|Eq Z (jy rfl rfl (fun w => Result.eqrun p2 (Result.mk 3 (-1) 0 false 0) w) (by kernel_rfl))<|Ea Z<|fb<|?_
       refine fm rfl ?_ ?_
       ·intro ag
        obtain ⟨ag, H⟩ := It ag H
        refine fz (fun m i f => ∃ (aS : Bool), [(3, (Vp j)), (198, (.bool aS))] = m ∧ (.blk j 57 [(sv b)]) :: G = f ∧ qZ p0 aS = some (g, h)) ?_ ?_
        ·refine fa<|EF 1 Z<|El (Vi p1.mode) Z (Rb3 Z)<|Ec Z<|Em Z<|?_
         refine Ee Z ?_ ?_
         ·intro ah
          obtain ⟨ah, H⟩ := It ah H
          refine VL 7 (fh p1 A B) Z (Rb3 Z) ?_
          obtain ⟨bg, bN, H⟩ := bnd H
          refine ib rfl rfl rfl rfl (Ek Tryz.call97 Z (x4 p1 A B bg bN _ _ a7 a8) ?_)
          rintro _ b2 _ bj ⟨bT, rfl, rfl, bD⟩
          refine Vq Z (pW rfl rfl) ?_
          obtain ⟨bh, bO, H⟩ := bnd H
          refine Ow.shift (Pu4 (Sd ?_))
          have bE := s.mono bj
          refine ib rfl rfl rfl rfl (Ek Tryz.call96 Z (Cj bg bT j p0 b bh bO _ _ bD bE) ?_)
          rintro _ b3 _ ca ⟨rfl, rfl⟩
          exact Vq Z (gi rfl)<|Et Z<|fb<|Re1<|Re1<|Re1<|Re1<|Sd<|⟨_, by exact R2, (!(bh)), rfl, rfl, H⟩
         ·intro ah
          obtain ⟨ah, H⟩ := If ah H
          exact Ez Z<|Ez Z<|Ez Z<|Ez Z<|Ez Z<|Ef Z<|fb<|Pu4<|Re1<|Re1<|Re1<|Re1<|Sd<|⟨_, by exact R2, false, rfl, rfl, H⟩
        rintro _ b4 _ bk ⟨aS, rfl, rfl, H⟩
        unfold qZ at H
        refine fm rfl ?_ ?_
        ·intro aI
         have H := ift aI H
         refine fc<|fa<|El (sv b) Z (Rb0 Z)<|Ea Z<|Ea Z<|fb<|fx<|?_
         obtain ⟨x, y⟩ := hY H
         subst g h
         refine ⟨(.inl rfl), [(sv b), (.bool true)], ⟨(sv b), _, rfl, rfl, ⟨(.bool true), _, rfl, rfl, rfl⟩⟩, ?_⟩
         refine Re0 ?_
         have bF := s.mono bk
         exact Sd ⟨b, rfl, rfl, bF⟩
        ·intro aI
         have H := fX (btf aI) H
         exact ft<|Re0<|Sd<|⟨[], trivial, rfl, rfl, H⟩
       ·intro ag
        obtain ⟨ag, H⟩ := If ag H
        refine fc<|fa<|Eq Z (fH (cs := (fe (Result.mk 4 (-1) 0 false 0))) rfl rfl rfl rfl rfl rfl)<|Eq Z (jy rfl rfl (fun w => Result.eqrun p2 (Result.mk 4 (-1) 0 false 0) w) (by kernel_rfl))<|Ea Z<|fb<|?_
        refine fm rfl ?_ ?_
        ·intro ai
         obtain ⟨ai, H⟩ := It ai H
         refine fc<|fa<|EF 1 Z<|El (Vi p1.mode) Z (Rb3 Z)<|Ec Z<|fb<|?_
         refine fm rfl ?_ ?_
         ·intro aj
          obtain ⟨aj, H⟩ := It aj H
          refine fc<|fa<|El (sv b) Z (Rb4 Z)<|Ea Z<|Ea Z<|fb<|fx<|?_
          obtain ⟨x, y⟩ := hY H
          subst g h
          refine ⟨(.inl rfl), [(sv b), (.bool true)], ⟨(sv b), _, rfl, rfl, ⟨(.bool true), _, rfl, rfl, rfl⟩⟩, ?_⟩
          exact Re0<|Re0<|Re0<|Re0<|Re0<|Sd<|⟨b, rfl, rfl, s⟩
         ·intro aj
          obtain ⟨aj, H⟩ := If aj H
          exact ft<|Re0<|Re0<|Re0<|Re0<|Re0<|Sd<|⟨[], trivial, rfl, rfl, H⟩
        ·intro ai
         obtain ⟨ai, H⟩ := If ai H
         refine fc<|fa<|EF 4 Z<|El (Vi p2.number) Z (Rb2 Z)<|Eq Z (fH (cs := (fe (Result.mk 7 (-1) 0 false p2.number))) rfl rfl rfl rfl rfl rfl)<|Eq Z (jy rfl rfl (fun w => Result.eqrun p2 (Result.mk 7 (-1) 0 false p2.number) w) (by kernel_rfl))<|Ea Z<|fb<|?_
         refine fm rfl ?_ ?_
         ·intro ak
          obtain ⟨ak, H⟩ := It ak H
          refine fc<|fa<|El (sv b) Z (Rb4 Z)<|EF 2 Z<|El (Vi p1.channel) Z (Rb3 Z)<|?_
          obtain ⟨M, bX, bP, H⟩ := ir H
          refine ff rfl (Ek Tryz.call92 Z (nw p0 b p1.channel M bX bP _ _ s) ?_)
          rintro _ _ _ - ⟨bb, rfl, rfl, rfl, bG⟩
          refine Em Z<|Ex Z<|Ex Z<|?_
          refine ff rfl (fC (cs := (fy (fJ.mk 0 [] false) fB)) rfl rfl rfl rfl (fun b6 => ?_))
          refine ff rfl (Sa (fy M bb) Z .here Z ?_)
          refine Ea Z<|fb<|?_
          refine fz (fun m i f => ∃ (aT : Bool), [(3, (Vp j)), (241, (.bool aT))] = m ∧ K = i ∧ (.blk j 57 [(sv b)]) :: G = f ∧ lN p0 aT = some (g, h)) ?_ ?_
          ·refine fa<|EF 0 Z<|El (Vi p1.kind) Z (Rb4 Z)<|Ec Z<|Em Z<|?_
           refine Ee Z ?_ ?_
           ·intro al
            obtain ⟨al, H⟩ := It al H
            refine VF 4 Z<|Vl (Vi p2.number) Z (Rb3 Z)<|VF 1 Z<|Vl (sv bb) Z (Rb0 Z)<|Vq Z (gg (T := Ty.u64) bG rfl rfl)<|Vc Z<|Et Z<|Em Z<|?_
            refine Ee Z ?_ ?_
            ·intro am
             obtain ⟨am, H⟩ := It am H
             exact Ez Z<|Ez Z<|Ez Z<|Ez Z<|f0 rfl rfl rfl rfl rfl<|f0 rfl rfl rfl rfl rfl<|f0 rfl rfl rfl rfl rfl<|f0 rfl rfl rfl rfl rfl<|f0 rfl rfl rfl rfl rfl<|Ez Z<|Et Z<|fb<|Pu5<|Re1<|Re1<|Re1<|Re1<|Re1<|Sd<|⟨_, by exact R2, true, rfl, rfl, rfl, H⟩
            ·intro am
             obtain ⟨am, H⟩ := If am H
             refine VF 0 Z<|Vl (Vi p1.kind) Z (Rb4 Z)<|Vc Z<|Vm Z<|?_
             refine Ee Z ?_ ?_
             ·intro an
              obtain ⟨an, H⟩ := It an H
              exact VF 4 Z<|Vl (Vi p2.number) Z (Rb3 Z)<|VF 0 Z<|Vl (Vi M.capacity) Z (Rb0 Z)<|Vc Z<|Vt Z<|Ef Z<|fb<|Pu5<|Re1<|Re1<|Re1<|Re1<|Re1<|Sd<|⟨_, by exact R2, (dcd (p2.number = M.capacity)), rfl, rfl, rfl, H⟩
             ·intro an
              obtain ⟨an, H⟩ := If an H
              exact Ez Z<|Ez Z<|Ez Z<|Ez Z<|Ez Z<|Vf Z<|Ef Z<|fb<|Pu5<|Re1<|Re1<|Re1<|Re1<|Re1<|Sd<|⟨_, by exact R2, false, rfl, rfl, rfl, H⟩
           ·intro al
            obtain ⟨al, H⟩ := If al H
            refine Ez Z<|Ez Z<|Ez Z<|Ez Z<|Ez Z<|Ez Z<|Ef Z<|Em Z<|VF 0 Z<|Vl (Vi p1.kind) Z (Rb4 Z)<|Vc Z<|Vm Z<|?_
            refine Ee Z ?_ ?_
            ·intro ao
             obtain ⟨ao, H⟩ := It ao H
             exact VF 4 Z<|Vl (Vi p2.number) Z (Rb3 Z)<|VF 0 Z<|Vl (Vi M.capacity) Z (Rb0 Z)<|Vc Z<|Vt Z<|Ef Z<|fb<|Pu5<|Re1<|Re1<|Re1<|Re1<|Re1<|Sd<|⟨_, by exact R2, (dcd (p2.number = M.capacity)), rfl, rfl, rfl, H⟩
            ·intro ao
             obtain ⟨ao, H⟩ := If ao H
             exact Ez Z<|Ez Z<|Ez Z<|Ez Z<|Ez Z<|Vf Z<|Ef Z<|fb<|Pu5<|Re1<|Re1<|Re1<|Re1<|Re1<|Sd<|⟨_, by exact R2, false, rfl, rfl, rfl, H⟩
          rintro _ _ _ - ⟨aT, rfl, rfl, rfl, H⟩
          unfold lN at H
          refine fm rfl ?_ ?_
          ·intro aJ
           have H := ift aJ H
           refine fc<|fa<|El (sv b) Z (Rb0 Z)<|Ea Z<|Ea Z<|fb<|fx<|?_
           obtain ⟨x, y⟩ := hY H
           subst g h
           refine ⟨(.inl rfl), [(sv b), (.bool true)], ⟨(sv b), _, rfl, rfl, ⟨(.bool true), _, rfl, rfl, rfl⟩⟩, ?_⟩
           exact Re0<|Sd<|⟨b, rfl, rfl, s⟩
          ·intro aJ
           have H := fX (btf aJ) H
           exact ft<|Re0<|Sd<|⟨[], trivial, rfl, rfl, H⟩
         ·intro ak
          obtain ⟨ak, H⟩ := If ak H
          exact ft<|Re0<|Re0<|Re0<|Re0<|Re0<|Sd<|⟨[], trivial, rfl, rfl, H⟩
 rintro _ b5 _ cb ⟨rfl, rfl, H⟩
 unfold iU at H
 refine fc<|fa<|Ea Z<|Ea Z<|fb<|fx<|?_
 obtain ⟨x, y⟩ := hY H
 subst g h
 refine ⟨(.inl rfl), [(sv fB), (.bool false)], ⟨(sv fB), _, rfl, rfl, ⟨(.bool false), _, rfl, rfl, rfl⟩⟩, ?_⟩
 exact Sd ⟨fB, rfl, rfl, (Slr.nil fF _)⟩
end Go.Hx
namespace Go.Hx
open Go Go.Proofs
set_option maxRecDepth 10000
set_option maxHeartbeats 1000000
theorem mi (p0 : Result) (f : Nat) (p1 : ad0) (a : SV) (g : Nat) (p2 : Op) (b : SV) (c : SV) (h : Nat) (p3 : ad6) (d : SV) (e : ad6) (H : mA p0 p1 p2 p3 = some e) (K : Kp) (G : List Ent) (u : Slr fF K (sv a) p1) (w : Slr fW K (sv b) p2.cases) (x : Slr Ty.i64 K (sv c) p2.draws) (n : Slr fO K (sv d) p3) :
  Fc Tryz.prog 105 #[(.agg (fe p0).toArray), (Vp f), (Vp g), (Vp h)] K ((.blk f 57 [(sv a)]) :: (.blk g 51 (fh p2 b c)) :: (.blk h 62 [(sv d)]) :: (.tok 38 5 [(sv d)]) :: G) (fun v r p => ∃ (j : SV), v = (.tuple #[]) ∧ (.blk f 57 [(sv a)]) :: (.blk g 51 (fh p2 b c)) :: (.blk h 62 [(sv j)]) :: (.tok 38 5 [(sv j)]) :: G = p ∧ Slr fO r (sv j) e) := by
 refine fN Tryz.func105 rfl Tryz.ntmps105 Tryz.results105 rfl ?_
 unfold mA at H
 refine fc<|fa<|?_
 refine ff rfl (fR (cs := (fe p0)) rfl rfl rfl (fun I => ?_))
 refine fb<|fc<|fa<|El (sv a) Z (Rb1 Z)<|EL 7 (fh p2 b c) Z (Rb2 Z)<|EL 5 (fe p0) Z (Rb0 Z)<|?_
 obtain ⟨D, E, B, H⟩ := ir H
 refine ff rfl (Ek Tryz.call61 Z (x5 p1 a p2 b c p0 D E B _ _ u w x) ?_)
 rintro _ s _ k ⟨M, rfl, rfl, L⟩
 refine Em Z<|Ex Z<|Ex Z<|Ea Z<|Ea Z<|fb<|fc<|fa<|Em Z<|fb<|?_
 refine fm rfl ?_ ?_
 ·intro i
  have H := ift i H
  refine fa<|El (sv d) Z (Rb3 Z)<|EL 5 (fe p0) Z (Rb0 Z)<|?_
  have m : RowR fO s [(fe p0)] [p0] := RowR.cons rfl (RowR.nil)
  refine ff rfl (gk (T := fO) (rows := [(fe p0)]) (l := [p0]) rfl rfl rfl m rfl rfl rfl rfl rfl rfl rfl rfl (fun N => ?_))
  obtain ⟨O, C, H⟩ := bnd H
  have z := n.mono k
  refine ff rfl (ga (T := fO) (bytes := 40) (q := 0) rfl rfl rfl z Mb5 rfl (SrcT.row Mb0 m rfl) C rfl rfl rfl rfl rfl rfl rfl rfl (fun o F J y => ⟨_, (.there (.there (.there (.there (.there .here))))), ?_⟩))
  refine Ow.shift (Re0 (Sd ?_))
  refine ff rfl (Sa [(sv o)] Z (.there (.there (.there .here))) Z ?_)
  refine fb ?_
  obtain t := gn H
  subst e
  refine ⟨(by first|exact .inl rfl|exact .inr rfl), [], rfl, ?_⟩
  exact Pu4<|Pu4<|Pu4<|Pu4<|Re4<|Sd<|⟨o, rfl, rfl, y⟩
 ·intro i
  have H := fX (btf i) H
  refine ft ?_
  obtain t := gn H
  subst e
  refine ⟨(by first|exact .inl rfl|exact .inr rfl), [], rfl, ?_⟩
  refine Pu4<|Pu4<|Pu4<|Pu4<|Re4<|?_
  have A := n.mono k
  exact Sd ⟨d, rfl, rfl, A⟩
theorem CP (p0 : ad0) (d : SV) (p1 : Op) (e : SV) (f : SV) (n : ad6) (H : ra p0 p1 = some n) (K : Kp) (G : List Ent) (L : Slr fF K (sv d) p0) (A : Slr fW K (sv e) p1.cases) (B : Slr Ty.i64 K (sv f) p1.draws) :
  Fc Tryz.prog 67 #[(sv d), (.agg (fh p1 e f).toArray)] K (G) (fun v j i => ∃ (U : SV), v = (sv U) ∧ (.tok 38 5 [(sv U)]) :: G = i ∧ Slr fO j (sv U) n) := by
 refine fN Tryz.func67 rfl Tryz.ntmps67 Tryz.results67 rfl ?_
 unfold ra at H
 refine fc<|fa<|?_
 refine ff rfl (fR (cs := [(sv d)]) rfl rfl rfl (fun b => ?_))
 refine ff rfl (fR (cs := (fh p1 e f)) rfl rfl rfl (fun c => ?_))
 refine Ea Z<|fb<|fc<|fa<|?_
 refine ff rfl (fC (cs := [(sv fB)]) rfl rfl rfl rfl (fun a => ?_))
 refine fb<|fc<|fa<|Eq Z (pW rfl rfl)<|Ea Z<|fb<|fc<|fc<|fa<|EF 0 Z<|El (Vi p1.kind) Z (Rb1 Z)<|Ec Z<|fb<|?_
 refine fm rfl ?_ ?_
 ·intro u
  obtain ⟨u, H⟩ := It u H
  refine fc<|fa<|Em Z<|Eq Z (fH (cs := (fe (Result.mk 6 (-1) 0 false 0))) rfl rfl rfl rfl rfl rfl)<|?_
  obtain ⟨am, aN, H⟩ := bnd H
  refine Ow.shift (Shift.nilTok1 38 5 (Sd ?_))
  refine Ow.shift (Pu1 (Sd ?_))
  refine Ow.shift (Pu2 (Sd ?_))
  refine Ow.shift (Pu3 (Sd ?_))
  refine ff rfl (Ek Tryz.call105 Z (mi (Result.mk 6 (-1) 0 false 0) b p0 d c p1 e f a ([] : ad6) fB am aN _ _ L A B (Slr.nil fO _)) ?_)
  rintro _ a1 _ E ⟨aV, rfl, rfl, ay⟩
  refine fb<|fc<|fa<|Em Z<|Eq Z (fH (cs := (fe (Result.mk 5 (-1) 0 false 0))) rfl rfl rfl rfl rfl rfl)<|?_
  obtain ⟨aZ, aO, H⟩ := bnd H
  refine Ow.shift (Pu3 (Sd ?_))
  refine Ow.shift (Pu3 (Sd ?_))
  refine Ow.shift (Pu3 (Sd ?_))
  refine Ow.shift (Pu3 (Sd ?_))
  have az := L.mono E
  have aA := A.mono E
  have aB := B.mono E
  refine ff rfl (Ek Tryz.call105 Z (mi (Result.mk 5 (-1) 0 false 0) b p0 d c p1 e f a am aV aZ aO _ _ az aA aB ay) ?_)
  rintro _ a2 _ bb ⟨D, rfl, rfl, aC⟩
  refine fb<|fc<|fa<|El (sv D) Z (Rb2 Z)<|Ea Z<|fb<|fx<|?_
  obtain au := gn H
  subst n
  refine ⟨(.inl rfl), [(sv D)], ⟨(sv D), _, rfl, rfl, rfl⟩, ?_⟩
  exact Pu3<|Re1<|Re1<|Re1<|Sd<|⟨D, rfl, rfl, aC⟩
 ·intro u
  obtain ⟨u, H⟩ := If u H
  refine ft ?_
  refine fz (fun o j i => ∃ (l : SV) (Q : ad6), [(5, (Vp a))] = o ∧ (.blk a 62 [(sv l)]) :: (.tok 38 5 [(sv l)]) :: G = i ∧ vr Q = some n ∧ Slr fO j (sv l) Q) ?_ ?_
  ·refine fc<|fa<|EL 7 (fh p1 e f) Z (Rb1 Z)<|?_
   obtain ⟨q, aP, H⟩ := bnd H
   refine ff rfl (Ek Tryz.call97 Z (x4 p1 e f q aP _ _ A B) ?_)
   rintro _ a3 _ F ⟨R, rfl, rfl, Y⟩
   refine Eq Z (gg (T := fW) Y rfl rfl)<|Em Z<|fb<|fA<|?_
   refine f7 (fun ak o j i => ∃ (h : Int) (m : SV) (s : ad6), [(2, (Vp b)), (3, (Vp c)), (5, (Vp a)), (6, (.func (.func 105) #[] #[(Vp b), (Vp c), (Vp a)])), (23, (sv R)), (24, (Vi (q.length : Int))), (25, (Vi h))] = o ∧ (.blk a 62 [(sv m)]) :: (.blk c 51 (fh p1 e f)) :: (.blk b 57 [(sv d)]) :: (.tok 38 5 [(sv m)]) :: G = i ∧ lp2 (q9 q p1 p0) ak h s = some n ∧ Slr fO j (sv m) s) BIG ?_ ?_
   ·exact Shift.nilTok1 38 5<|Pu3<|Pu3<|Pu3<|Sd<|⟨_, by exact R7, 0, fB, ([] : ad6), rfl, rfl, H, (Slr.nil fO _)⟩
   rintro ak _ ar _ z ⟨h, m, s, rfl, rfl, H, aa⟩
   obtain ⟨bf, aj, rfl, ax, H⟩ := jL H
   unfold q9 at H
   refine fc<|fa<|Ec Z<|fb<|fc<|?_
   refine fm rfl ?_ ?_
   ·intro w
    obtain ⟨w, H⟩ := It w H
    refine ft<|fc<|fA<|fc<|fa<|Em Z<|?_
    obtain ⟨t, ah, H⟩ := bnd H
    have ab := Y.mono z
    obtain ⟨_, rfl, av⟩ := Slr.at ab ah
    refine Eq Z (Qi (T := fW) ab ah Z)<|EL 3 (fk t) Z (Rdc.k av rfl)<|?_
    refine ff rfl (fC (cs := (fk (Case.mk false 0 0))) rfl rfl rfl rfl (fun X => ?_))
    refine Ea Z ?_
    refine ff rfl (Sa (fk t) Z .here Z ?_)
    refine fb ?_
    refine fz (fun o j i => ∃ (g : Int), [(2, (Vp b)), (3, (Vp c)), (5, (Vp a)), (6, (.func (.func 105) #[] #[(Vp b), (Vp c), (Vp a)])), (7, (Vi g)), (8, (Vp X)), (23, (sv R)), (24, (Vi (q.length : Int))), (25, (Vi h))] = o ∧ ar = j ∧ (.blk X 108 (fk t)) :: (.blk a 62 [(sv m)]) :: (.blk c 51 (fh p1 e f)) :: (.blk b 57 [(sv d)]) :: (.tok 38 5 [(sv m)]) :: G = i ∧ ob q h t s p1 p0 aj g = some n) ?_ ?_
    ·refine fc<|fa<|EF 0 Z<|El (Vi p1.kind) Z (Rb2 Z)<|Ec Z<|fb<|?_
     refine fm rfl ?_ ?_
     ·intro p
      have p := lG (ix (p))
      have H := fX p H
      exact fa<|Ea Z<|fb<|Pu4<|Pu4<|Pu4<|Pu4<|Pu4<|Sd<|⟨_, by exact R9, (-1), rfl, rfl, rfl, H⟩
     ·intro p
      have p := lH (iw (p))
      have H := ift p H
      exact ft<|Pu4<|Pu4<|Pu4<|Pu4<|Pu4<|Sd<|⟨_, by exact R9, h, rfl, rfl, rfl, H⟩
    rintro _ _ _ - ⟨g, rfl, rfl, rfl, H⟩
    unfold ob at H
    refine fc<|fa<|Em Z<|Em Z<|Eq Z (fH (cs := (fe (Result.mk 5 g 0 false 0))) rfl rfl rfl rfl rfl rfl)<|?_
    obtain ⟨an, aQ, H⟩ := bnd H
    refine Ow.shift (Pu4 (Sd ?_))
    refine Ow.shift (Pu2 (Sd ?_))
    refine Ow.shift (Pu3 (Sd ?_))
    refine Ow.shift (Pu4 (Sd ?_))
    have ac := (L.mono F).mono z
    have ad := (A.mono F).mono z
    have ae := (B.mono F).mono z
    refine ff rfl (Ek Tryz.call105 Z (mi (Result.mk 5 g 0 false 0) b p0 d c p1 e f a s m an aQ _ _ ac ad ae aa) ?_)
    rintro _ a4 _ I ⟨aW, rfl, rfl, aE⟩
    refine fb<|fc<|fa<|Em Z<|Em Z<|Eq Z (fH (cs := (fe (Result.mk 1 g 0 false 0))) rfl rfl rfl rfl rfl rfl)<|?_
    obtain ⟨V, aR, H⟩ := bnd H
    refine Ow.shift (Pu3 (Sd ?_))
    refine Ow.shift (Pu3 (Sd ?_))
    refine Ow.shift (Pu3 (Sd ?_))
    refine Ow.shift (Pu3 (Sd ?_))
    have M := ac.mono I
    have N := ad.mono I
    have O := ae.mono I
    refine ff rfl (Ek Tryz.call105 Z (mi (Result.mk 1 g 0 false 0) b p0 d c p1 e f a an aW V aR _ _ M N O aE) ?_)
    rintro _ a5 _ r ⟨al, rfl, rfl, af⟩
    refine fb ?_
    refine fz (fun o j i => ∃ (y : SV) (C : ad6), [(2, (Vp b)), (3, (Vp c)), (5, (Vp a)), (6, (.func (.func 105) #[] #[(Vp b), (Vp c), (Vp a)])), (7, (Vi g)), (23, (sv R)), (24, (Vi (q.length : Int))), (25, (Vi h))] = o ∧ (.blk a 62 [(sv y)]) :: (.blk c 51 (fh p1 e f)) :: (.blk b 57 [(sv d)]) :: (.tok 38 5 [(sv y)]) :: G = i ∧ q8 g q h p1 p0 aj C = some n ∧ Slr fO j (sv y) C) ?_ ?_
    ·refine fc<|fa<|El (sv d) Z (Rb0 Z)<|EF 1 Z<|El (Vi t.channel) Z (Rb4 Z)<|?_
     obtain ⟨ao, a0, aS, H⟩ := ir H
     have ag := M.mono r
     refine ff rfl (Ek Tryz.call92 Z (nw p0 d t.channel ao a0 aS _ _ ag) ?_)
     rintro _ _ _ - ⟨S, rfl, rfl, rfl, P⟩
     refine Em Z<|Ex Z<|Ex Z<|?_
     refine ff rfl (fC (cs := (fy (fJ.mk 0 [] false) fB)) rfl rfl rfl rfl (fun ba => ?_))
     refine ff rfl (Sa (fy ao S) Z .here Z ?_)
     refine Ea Z<|fb<|fc<|fa<|EF 1 Z<|El (sv S) Z (Rb0 Z)<|Eq Z (gg (T := Ty.u64) P rfl rfl)<|Ec Z<|fb<|?_
     refine fm rfl ?_ ?_
     ·intro x
      obtain ⟨x, H⟩ := It x H
      refine fa<|Em Z<|Em Z<|EF 1 Z<|El (sv S) Z (Rb0 Z)<|?_
      obtain ⟨W, ai, H⟩ := bnd H
      obtain ⟨_, rfl, aw⟩ := Slr.at P ai
      refine Eq Z (Qi (T := Ty.u64) P ai Z)<|El (.int .u64 W) Z (Rdc.k aw rfl)<|Eq Z (fH (cs := (fe (Result.mk 2 g W true 0))) rfl rfl rfl rfl rfl rfl)<|?_
      obtain ⟨ap, aT, H⟩ := bnd H
      refine Ow.shift (Pu4 (Sd ?_))
      refine Ow.shift (Pu4 (Sd ?_))
      refine Ow.shift (Pu4 (Sd ?_))
      refine Ow.shift (Pu4 (Sd ?_))
      have aG := N.mono r
      have aH := O.mono r
      refine ff rfl (Ek Tryz.call105 Z (mi (Result.mk 2 g W true 0) b p0 d c p1 e f a V al ap aT _ _ ag aG aH af) ?_)
      rintro _ a6 _ bc ⟨aX, rfl, rfl, aI⟩
      exact fb<|Pu3<|Pu1<|Pu2<|Pu3<|Re4<|Re4<|Sd<|⟨_, by exact R8, aX, ap, rfl, rfl, H, aI⟩
     ·intro x
      obtain ⟨x, H⟩ := If x H
      exact ft<|Pu4<|Pu2<|Pu3<|Pu4<|Re4<|Re4<|Sd<|⟨_, by exact R8, al, V, rfl, rfl, H, af⟩
    rintro _ a7 _ J ⟨y, C, rfl, rfl, H, aF⟩
    unfold q8 at H
    refine fa<|Em Z<|Em Z<|Eq Z (fH (cs := (fe (Result.mk 2 g 0 false 0))) rfl rfl rfl rfl rfl rfl)<|?_
    obtain ⟨aq, aU, H⟩ := bnd H
    refine Ow.shift (Pu3 (Sd ?_))
    refine Ow.shift (Pu1 (Sd ?_))
    refine Ow.shift (Pu2 (Sd ?_))
    refine Ow.shift (Pu3 (Sd ?_))
    have aJ := (M.mono r).mono J
    have aK := (N.mono r).mono J
    have aL := (O.mono r).mono J
    refine ff rfl (Ek Tryz.call105 Z (mi (Result.mk 2 g 0 false 0) b p0 d c p1 e f a C y aq aU _ _ aJ aK aL aF) ?_)
    rintro _ a8 _ bd ⟨aY, rfl, rfl, aM⟩
    exact fb<|fa<|Er (wI (h + 1)) Z<|Em Z<|fb<|Pu3<|Pu1<|Pu2<|Pu3<|Sd<|⟨_, by exact R7, _, Nat.lt_succ_self _, (wI (h + 1)), aY, aq, rfl, rfl, (ax ▸ H), aM⟩
   ·intro w
    obtain ⟨w, H⟩ := If w H
    exact f9<|Pu3<|Pu1<|Re2<|Re2<|Sd<|⟨_, by exact R1, m, s, rfl, rfl, H, aa⟩
  rintro _ a9 _ be ⟨l, Q, rfl, rfl, H, aD⟩
  unfold vr at H
  refine fc<|fa<|El (sv l) Z (Rb0 Z)<|Ea Z<|fb<|fx<|?_
  obtain au := gn H
  subst n
  refine ⟨(.inl rfl), [(sv l)], ⟨(sv l), _, rfl, rfl, rfl⟩, ?_⟩
  exact Pu1<|Re1<|Sd<|⟨l, rfl, rfl, aD⟩
theorem x8 (p0 : ad0) (u : SV) (p1 : Op) (h : SV) (i : SV) (p2 : Result) (p3 : Op) (j : SV) (k : SV) (p4 : Result) (n : Bool) (H : oe p0 p1 p2 p3 p4 = some n) (K : Kp) (G : List Ent) (y : Slr fF K (sv u) p0) (z : Slr fW K (sv h) p1.cases) (A : Slr Ty.i64 K (sv i) p1.draws) (B : Slr fW K (sv j) p3.cases) (C : Slr Ty.i64 K (sv k) p3.draws) :
  Fc Tryz.prog 120 #[(sv u), (.agg (fh p1 h i).toArray), (.agg (fe p2).toArray), (.agg (fh p3 j k).toArray), (.agg (fe p4).toArray)] K (G) (fun v p o => v = (.bool n) ∧ K = p ∧ G = o) := by
 refine fN Tryz.func120 rfl Tryz.ntmps120 Tryz.results120 rfl ?_
 unfold oe at H
 refine fc<|fa<|?_
 refine ff rfl (fR (cs := (fh p1 h i)) rfl rfl rfl (fun N => ?_))
 refine ff rfl (fR (cs := (fe p2)) rfl rfl rfl (fun O => ?_))
 refine ff rfl (fR (cs := (fh p3 j k)) rfl rfl rfl (fun P => ?_))
 refine ff rfl (fR (cs := (fe p4)) rfl rfl rfl (fun Q => ?_))
 refine Ea Z<|fb<|fc<|fa<|EL 7 (fh p1 h i) Z (Rb3 Z)<|EF 1 Z<|El (Vi p2.case_) Z (Rb2 Z)<|?_
 obtain ⟨a, J, D, H⟩ := ir H
 refine ff rfl (Ek Tryz.call91 Z (xi p1 h i p2.case_ a J D _ _ z A) ?_)
 rintro _ _ _ - ⟨rfl, rfl, rfl⟩
 refine Em Z<|Ex Z<|Ex Z<|?_
 refine ff rfl (fC (cs := (fk (Case.mk false 0 0))) rfl rfl rfl rfl (fun R => ?_))
 refine ff rfl (Sa (fk a) Z .here Z ?_)
 refine Ea Z<|fb<|fc<|fa<|EL 7 (fh p3 j k) Z (Rb2 Z)<|EF 1 Z<|El (Vi p4.case_) Z (Rb1 Z)<|?_
 obtain ⟨l, L, E, H⟩ := ir H
 refine ff rfl (Ek Tryz.call91 Z (xi p3 j k p4.case_ l L E _ _ B C) ?_)
 rintro _ _ _ - ⟨rfl, rfl, rfl⟩
 refine Em Z<|Ex Z<|Ex Z<|?_
 refine ff rfl (fC (cs := (fk (Case.mk false 0 0))) rfl rfl rfl rfl (fun S => ?_))
 refine ff rfl (Sa (fk l) Z .here Z ?_)
 refine Ea Z<|fb<|fc<|fa<|Em Z<|EF 1 Z<|El (Vi a.channel) Z (Rb1 Z)<|?_
 obtain ⟨m, M, F, H⟩ := ir H
 refine ff rfl (Ek Tryz.call92 Z (nw p0 u a.channel m M F _ _ y) ?_)
 rintro _ _ _ - ⟨I, rfl, rfl, rfl, V⟩
 refine Em Z<|Ex Z<|Ex Z<|?_
 refine ff rfl (fC (cs := (fy (fJ.mk 0 [] false) fB)) rfl rfl rfl rfl (fun T => ?_))
 refine ff rfl (Sa (fy m I) Z .here Z ?_)
 refine Ea Z<|fb<|?_
 refine fz (fun x p o => ∃ (g : Bool), [(10, (.bool g))] = x ∧ K = p ∧ G = o ∧ pg g = some n) ?_ ?_
 ·refine fa<|Em Z<|Em Z<|?_
  refine Ee Z ?_ ?_
  ·intro q
   have H := ift q H
   refine Vm Z<|Et Z<|Em Z<|?_
   refine Ee Z ?_ ?_
   ·intro r
    have H := ift r H
    refine VF 0 Z<|Vl (.bool a.send) Z (Rb2 Z)<|Et Z<|Em Z<|?_
    refine Ee Z ?_ ?_
    ·intro s
     have H := ift s H
     refine VF 0 Z<|Vl (.bool l.send) Z (Rb1 Z)<|Vq Z (gi rfl)<|Et Z<|Em Z<|?_
     refine Ee Z ?_ ?_
     ·intro b
      have b := ix b
      have H := fX (btf b) H
      refine VF 1 Z<|Vl (Vi a.channel) Z (Rb2 Z)<|VF 1 Z<|Vl (Vi l.channel) Z (Rb1 Z)<|Vc Z<|Et Z<|Em Z<|?_
      refine Ee Z ?_ ?_
      ·intro d
       obtain ⟨d, H⟩ := It d H
       refine Vm Z<|Et Z<|Em Z<|?_
       refine Ee Z ?_ ?_
       ·intro t
        have H := ift t H
        refine VF 2 Z<|Vl (.bool m.closed) Z (Rb0 Z)<|Vq Z (gi rfl)<|Et Z<|Em Z<|?_
        refine Ee Z ?_ ?_
        ·intro c
         have c := ix c
         have H := fX (btf c) H
         refine VF 0 Z<|Vl (Vi m.capacity) Z (Rb0 Z)<|Vc Z<|Et Z<|Em Z<|?_
         refine Ee Z ?_ ?_
         ·intro e
          obtain ⟨e, H⟩ := It e H
          refine VL 5 (fe p2) Z (Rb5 Z)<|VF 1 Z<|Vl (Vi p2.case_) Z (Rb5 Z)<|Vq Z (fH (cs := (fe (Result.mk 1 p2.case_ 0 false 0))) rfl rfl rfl rfl rfl rfl)<|Vq Z (jy rfl rfl (fun w => Result.eqrun p2 (Result.mk 1 p2.case_ 0 false 0) w) (by kernel_rfl))<|Et Z<|Em Z<|?_
          refine Ee Z ?_ ?_
          ·intro f
           obtain ⟨f, H⟩ := It f H
           exact VL 5 (fe p4) Z (Rb3 Z)<|VF 1 Z<|Vl (Vi p4.case_) Z (Rb3 Z)<|VF 2 Z<|Vl (.int .u64 a.value) Z (Rb2 Z)<|Vq Z (fH (cs := (fe (Result.mk 2 p4.case_ a.value true 0))) rfl rfl rfl rfl rfl rfl)<|Vq Z (jy rfl rfl (fun w => Result.eqrun p4 (Result.mk 2 p4.case_ a.value true 0) w) (by kernel_rfl))<|Et Z<|Ea Z<|fb<|Re0<|Re0<|Re0<|Re0<|Re0<|Re0<|Re0<|Sd<|⟨_, by exact R1, (dcd (p4 = (Result.mk 2 p4.case_ a.value true 0))), rfl, rfl, rfl, H⟩
          ·intro f
           obtain ⟨f, H⟩ := If f H
           exact Ez Z<|Ez Z<|Ez Z<|Ez Z<|Ez Z<|Ez Z<|Ez Z<|Ef Z<|Ea Z<|fb<|Re0<|Re0<|Re0<|Re0<|Re0<|Re0<|Re0<|Sd<|⟨_, by exact R1, false, rfl, rfl, rfl, H⟩
         ·intro e
          obtain ⟨e, H⟩ := If e H
          refine Ez Z<|Ez Z<|Ez Z<|Ez Z<|Ez Z<|Ef Z<|Em Z<|Ez Z<|Ez Z<|Ez Z<|Ez Z<|Ez Z<|Ez Z<|Ez Z<|Ef Z<|Ea Z<|fb<|Re0<|Re0<|Re0<|Re0<|Re0<|?_
          exact Re0<|Re0<|Sd<|⟨_, by exact R1, false, rfl, rfl, rfl, H⟩
        ·intro c
         have c := iw c
         have H := ift c H
         refine Ez Z<|Ez Z<|Ez Z<|Ef Z<|Em Z<|Ez Z<|Ez Z<|Ez Z<|Ez Z<|Ez Z<|Ef Z<|Em Z<|Ez Z<|Ez Z<|Ez Z<|Ez Z<|Ez Z<|Ez Z<|Ez Z<|Ef Z<|Ea Z<|fb<|?_
         exact Re0<|Re0<|Re0<|Re0<|Re0<|Re0<|Re0<|Sd<|⟨_, by exact R1, false, rfl, rfl, rfl, H⟩
       ·intro t
        have H := fX (btf t) H
        refine Ez Z<|Ez Z<|Ez Z<|Ef Z<|Em Z<|Ez Z<|Ez Z<|Ez Z<|Ef Z<|Em Z<|Ez Z<|Ez Z<|Ez Z<|Ez Z<|Ez Z<|Ef Z<|Em Z<|Ez Z<|Ez Z<|Ez Z<|Ez Z<|Ez Z<|?_
        exact Ez Z<|Ez Z<|Ef Z<|Ea Z<|fb<|Re0<|Re0<|Re0<|Re0<|Re0<|Re0<|Re0<|Sd<|⟨_, by exact R1, false, rfl, rfl, rfl, H⟩
      ·intro d
       obtain ⟨d, H⟩ := If d H
       refine Ez Z<|Ef Z<|Em Z<|Ez Z<|Ez Z<|Ez Z<|Ef Z<|Em Z<|Ez Z<|Ez Z<|Ez Z<|Ef Z<|Em Z<|Ez Z<|Ez Z<|Ez Z<|Ez Z<|Ez Z<|Ef Z<|Em Z<|Ez Z<|Ez Z<|?_
       exact Ez Z<|Ez Z<|Ez Z<|Ez Z<|Ez Z<|Ef Z<|Ea Z<|fb<|Re0<|Re0<|Re0<|Re0<|Re0<|Re0<|Re0<|Sd<|⟨_, by exact R1, false, rfl, rfl, rfl, H⟩
     ·intro b
      have b := iw b
      have H := ift b H
      refine Ez Z<|Ez Z<|Ez Z<|Ez Z<|Ez Z<|Ef Z<|Em Z<|Ez Z<|Ef Z<|Em Z<|Ez Z<|Ez Z<|Ez Z<|Ef Z<|Em Z<|Ez Z<|Ez Z<|Ez Z<|Ef Z<|Em Z<|Ez Z<|Ez Z<|?_
      exact Ez Z<|Ez Z<|Ez Z<|Ef Z<|Em Z<|Ez Z<|Ez Z<|Ez Z<|Ez Z<|Ez Z<|Ez Z<|Ez Z<|Ef Z<|Ea Z<|fb<|Re0<|Re0<|Re0<|Re0<|Re0<|Re0<|Re0<|Sd ⟨_, by exact R1, false, rfl, rfl, rfl, H⟩
    ·intro s
     have H := fX (btf s) H
     refine Ez Z<|Ez Z<|Ez Z<|Ef Z<|Em Z<|Ez Z<|Ez Z<|Ez Z<|Ez Z<|Ez Z<|Ef Z<|Em Z<|Ez Z<|Ef Z<|Em Z<|Ez Z<|Ez Z<|Ez Z<|Ef Z<|Em Z<|Ez Z<|Ez Z<|?_
     refine Ez Z<|Ef Z<|Em Z<|Ez Z<|Ez Z<|Ez Z<|Ez Z<|Ez Z<|Ef Z<|Em Z<|Ez Z<|Ez Z<|Ez Z<|Ez Z<|Ez Z<|Ez Z<|Ez Z<|Ef Z<|Ea Z<|fb<|Re0<|Re0<|?_
     exact Re0<|Re0<|Re0<|Re0<|Re0<|Sd<|⟨_, by exact R1, false, rfl, rfl, rfl, H⟩
   ·intro r
    have H := fX (btf r) H
    refine Ez Z<|Ez Z<|Ef Z<|Em Z<|Ez Z<|Ez Z<|Ez Z<|Ef Z<|Em Z<|Ez Z<|Ez Z<|Ez Z<|Ez Z<|Ez Z<|Ef Z<|Em Z<|Ez Z<|Ef Z<|Em Z<|Ez Z<|Ez Z<|Ez Z<|?_
    refine Ef Z<|Em Z<|Ez Z<|Ez Z<|Ez Z<|Ef Z<|Em Z<|Ez Z<|Ez Z<|Ez Z<|Ez Z<|Ez Z<|Ef Z<|Em Z<|Ez Z<|Ez Z<|Ez Z<|Ez Z<|Ez Z<|Ez Z<|Ez Z<|Ef Z<|?_
    exact Ea Z<|fb<|Re0<|Re0<|Re0<|Re0<|Re0<|Re0<|Re0<|Sd<|⟨_, by exact R1, false, rfl, rfl, rfl, H⟩
  ·intro q
   have H := fX (btf q) H
   refine Ez Z<|Ef Z<|Em Z<|Ez Z<|Ez Z<|Ef Z<|Em Z<|Ez Z<|Ez Z<|Ez Z<|Ef Z<|Em Z<|Ez Z<|Ez Z<|Ez Z<|Ez Z<|Ez Z<|Ef Z<|Em Z<|Ez Z<|Ef Z<|Em Z<|?_
   refine Ez Z<|Ez Z<|Ez Z<|Ef Z<|Em Z<|Ez Z<|Ez Z<|Ez Z<|Ef Z<|Em Z<|Ez Z<|Ez Z<|Ez Z<|Ez Z<|Ez Z<|Ef Z<|Em Z<|Ez Z<|Ez Z<|Ez Z<|Ez Z<|Ez Z<|?_
   exact Ez Z<|Ez Z<|Ef Z<|Ea Z<|fb<|Re0<|Re0<|Re0<|Re0<|Re0<|Re0<|Re0<|Sd<|⟨_, by exact R1, false, rfl, rfl, rfl, H⟩
 rintro _ _ _ - ⟨g, rfl, rfl, rfl, H⟩
 unfold pg at H
 refine fx ?_
 obtain U := gn H
 subst n
 refine ⟨(.inl rfl), [(.bool g)], ⟨(.bool g), _, rfl, rfl, rfl⟩, ?_⟩
 exact Sd ⟨rfl, rfl, rfl⟩
theorem CS (p0 : ad0) (e : SV) (p1 : Op) (a : SV) (b : SV) (p2 : Result) (p3 : Op) (c : SV) (d : SV) (p4 : Result) (f : Bool) (H : rf p0 p1 p2 p3 p4 = some f) (K : Kp) (G : List Ent) (i : Slr fF K (sv e) p0) (j : Slr fW K (sv a) p1.cases) (k : Slr Ty.i64 K (sv b) p1.draws) (l : Slr fW K (sv c) p3.cases) (m : Slr Ty.i64 K (sv d) p3.draws) :
  Fc Tryz.prog 103 #[(sv e), (.agg (fh p1 a b).toArray), (.agg (fe p2).toArray), (.agg (fh p3 c d).toArray), (.agg (fe p4).toArray)] K (G) (fun v o n => v = (.bool f) ∧ K = o ∧ G = n) := by
 refine fN Tryz.func103 rfl Tryz.ntmps103 Tryz.results103 rfl ?_
 unfold rf at H
 refine fc<|fa<|?_
 refine ff rfl (fR (cs := (fh p1 a b)) rfl rfl rfl (fun s => ?_))
 refine ff rfl (fR (cs := (fe p2)) rfl rfl rfl (fun t => ?_))
 refine ff rfl (fR (cs := (fh p3 c d)) rfl rfl rfl (fun u => ?_))
 refine ff rfl (fR (cs := (fe p4)) rfl rfl rfl (fun w => ?_))
 refine Ea Z<|fb<|fc<|fa<|Em Z<|EL 7 (fh p1 a b) Z (Rb3 Z)<|EL 5 (fe p2) Z (Rb2 Z)<|EL 7 (fh p3 c d) Z (Rb1 Z)<|EL 5 (fe p4) Z (Rb0 Z)<|?_
 obtain ⟨x19, q, H⟩ := bnd H
 refine ff rfl (Ek Tryz.call120 Z (x8 p0 e p1 a b p2 p3 c d p4 x19 q _ _ i j k l m) ?_)
 rintro _ _ _ - ⟨rfl, rfl, rfl⟩
 refine Em Z ?_
 refine Ee Z ?_ ?_
 ·intro g
  have H := ift g H
  refine Ez Z<|Ez Z<|Ez Z<|Ez Z<|Ez Z<|Ez Z<|Et Z<|Ea Z<|fb<|fx<|?_
  obtain p := gn H
  subst f
  refine ⟨(.inl rfl), [(.bool true)], ⟨(.bool true), _, rfl, rfl, rfl⟩, ?_⟩
  exact Re0<|Re0<|Re0<|Re0<|Sd<|⟨rfl, rfl, rfl⟩
 ·intro g
  have H := fX (btf g) H
  refine Vm Z<|VL 7 (fh p3 c d) Z (Rb1 Z)<|VL 5 (fe p4) Z (Rb0 Z)<|VL 7 (fh p1 a b) Z (Rb3 Z)<|VL 5 (fe p2) Z (Rb2 Z)<|?_
  obtain ⟨h, r, H⟩ := bnd H
  refine ib rfl rfl rfl rfl (Ek Tryz.call120 Z (x8 p0 e p3 c d p4 p1 a b p2 h r _ _ i l m j k) ?_)
  rintro _ _ _ - ⟨rfl, rfl, rfl⟩
  refine Ef Z<|Ea Z<|fb<|fx<|?_
  obtain p := gn H
  subst f
  refine ⟨(.inl rfl), [(.bool h)], ⟨(.bool h), _, rfl, rfl, rfl⟩, ?_⟩
  exact Re0<|Re0<|Re0<|Re0<|Sd<|⟨rfl, rfl, rfl⟩
end Go.Hx
namespace Go.Hx
open Go Go.Proofs
set_option maxRecDepth 10000
set_option maxHeartbeats 1000000
theorem CQ (p0 : fw) (b : SV) (c : SV) (p1 : ad0) (g : SV) (d : ad6) (H : rb p0 p1 = some d) (K : Kp) (G : List Ent) (n : Slr fW K (sv b) p0.op.cases) (o : Slr Ty.i64 K (sv c) p0.op.draws) (p : Slr fF K (sv g) p1) :
  Fc Tryz.prog 60 #[(.agg (fl p0 b c).toArray), (sv g)] K (G) (fun v k j => ∃ (h : SV), v = (sv h) ∧ (.tok 38 5 [(sv h)]) :: G = j ∧ Slr fO k (sv h) d) := by
 refine fN Tryz.func60 rfl Tryz.ntmps60 Tryz.results60 rfl ?_
 unfold rb at H
 refine fc<|fa<|?_
 refine ff rfl (fR (cs := (fl p0 b c)) rfl rfl rfl (fun x => ?_))
 refine Ea Z<|fb<|fc<|fc<|fa<|EF 13 Z<|El (Vi p0.coming) Z (Rb0 Z)<|Ec Z<|fb<|?_
 refine fm rfl ?_ ?_
 ·intro a
  obtain ⟨a, H⟩ := It a H
  refine fc<|fa<|EF 7 Z<|EL 5 (fe p0.result) Z (Rb0 Z)<|?_
  have i : RowR fO K [(fe p0.result)] [p0.result] := RowR.cons rfl (RowR.nil)
  refine ff rfl (gk (T := fO) (rows := [(fe p0.result)]) (l := [p0.result]) rfl rfl rfl i rfl rfl rfl rfl rfl rfl rfl rfl (fun e => ?_))
  refine Ea Z<|fb<|fx<|?_
  obtain m := gn H
  subst d
  refine ⟨(.inl rfl), [(sv e)], ⟨(sv e), _, rfl, rfl, rfl⟩, ?_⟩
  refine Shift.settle (T := fO) .here i rfl ?_
  intro u y q
  exact Re1<|Sd<|⟨e, rfl, rfl, q⟩
 ·intro a
  obtain ⟨a, H⟩ := If a H
  refine ft<|fc<|fa<|Em Z<|EF 0 Z<|EL 7 (fh p0.op b c) Z (Rb0 Z)<|?_
  obtain ⟨t, s, H⟩ := bnd H
  refine ff rfl (Ek Tryz.call67 Z (CP p1 g p0.op b c t s _ _ p n o) ?_)
  rintro _ w _ z ⟨f, rfl, rfl, r⟩
  refine Ea Z<|fb<|fx<|?_
  obtain m := gn H
  subst d
  refine ⟨(.inl rfl), [(sv f)], ⟨(sv f), _, rfl, rfl, rfl⟩, ?_⟩
  exact Re1<|Sd<|⟨f, rfl, rfl, r⟩
theorem x6 (p0 : Op) (e : SV) (m : SV) (f : ae9) (H : oc p0 = some f) (K : Kp) (G : List Ent) (r : Slr fW K (sv e) p0.cases) (I : Slr Ty.i64 K (sv m) p0.draws) :
  Fc Tryz.prog 101 #[(.agg (fh p0 e m).toArray)] K (G) (fun v h g => ∃ (u : SV), v = (sv u) ∧ (.tok 167 4 [(sv u)]) :: G = g ∧ Slr gA h (sv u) f) := by
 refine fN Tryz.func101 rfl Tryz.ntmps101 Tryz.results101 rfl ?_
 unfold oc at H
 refine fc<|fa<|?_
 refine ff rfl (fR (cs := (fh p0 e m)) rfl rfl rfl (fun X => ?_))
 refine Ea Z<|fb<|fc<|fc<|fa<|EL 7 (fh p0 e m) Z (Rb0 Z)<|?_
 obtain ⟨c, R, O, H⟩ := ir H
 refine ff rfl (Ek Tryz.call117 Z (xh p0 e m c R O _ _ r I) ?_)
 rintro _ _ _ - ⟨rfl, rfl, rfl⟩
 refine Em Z<|Ex Z<|Ex Z<|?_
 refine ff rfl (fC (cs := (fk (Case.mk false 0 0))) rfl rfl rfl rfl (fun Y => ?_))
 refine ff rfl (Sa (fk c) Z .here Z ?_)
 refine Ea Z<|fb<|fc<|fa<|Em Z<|fb<|?_
 refine fm rfl ?_ ?_
 ·intro p
  have H := ift p H
  refine fc<|fa<|EL 3 (fk c) Z (Rb0 Z)<|Eq Z (fH (cs := (fU (Linear_numbered.mk (-1) c))) rfl rfl rfl rfl rfl rfl)<|?_
  have x : RowR gA K [(fU (Linear_numbered.mk (-1) c))] [(Linear_numbered.mk (-1) c)] := RowR.cons rfl (RowR.nil)
  refine ff rfl (gk (T := gA) (rows := [(fU (Linear_numbered.mk (-1) c))]) (l := [(Linear_numbered.mk (-1) c)]) rfl rfl rfl x rfl rfl rfl rfl rfl rfl rfl rfl (fun t => ?_))
  refine Ea Z<|fb<|fx<|?_
  obtain C := gn H
  subst f
  refine ⟨(.inl rfl), [(sv t)], ⟨(sv t), _, rfl, rfl, rfl⟩, ?_⟩
  refine Shift.settle (T := gA) .here x rfl ?_
  intro V ac M
  exact Re1<|Re1<|Sd<|⟨t, rfl, rfl, M⟩
 ·intro p
  have H := fX (btf p) H
  refine ft<|fc<|fa<|Ea Z<|fb<|?_
  refine fz (fun o h g => ∃ (d : SV) (s : ae9), [(5, (sv d))] = o ∧ (.tok 167 4 [(sv d)]) :: G = g ∧ vu s = some f ∧ Slr gA h (sv d) s) ?_ ?_
  ·refine fc<|fa<|EF 5 Z<|El (sv e) Z (Rb1 Z)<|Eq Z (gg (T := fW) r rfl rfl)<|Em Z<|fb<|fA<|?_
   refine f7 (fun n167 o h g => ∃ (j : SV) (n : ae9) (a : Int), [(5, (sv j)), (18, (sv e)), (19, (Vi (p0.cases.length : Int))), (20, (Vi a))] = o ∧ (.tok 167 4 [(sv j)]) :: G = g ∧ lp2 (vv p0) n167 n a = some f ∧ Slr gA h (sv j) n) BIG ?_ ?_
   ·exact Shift.nilTok1 167 4<|Re1<|Re1<|Sd<|⟨_, by exact R4, fB, ([] : ae9), 0, rfl, rfl, H, (Slr.nil gA _)⟩
   rintro n167 _ B _ D ⟨j, n, a, rfl, rfl, H, y⟩
   obtain ⟨ae, ad, rfl, F, H⟩ := jL H
   unfold vv at H
   refine fc<|fa<|Ec Z<|fb<|fc<|?_
   refine fm rfl ?_ ?_
   ·intro i
    obtain ⟨i, H⟩ := It i H
    refine ft<|fc<|fA<|fc<|fa<|Em Z<|?_
    obtain ⟨b, A, H⟩ := bnd H
    have z := r.mono D
    obtain ⟨_, rfl, E⟩ := Slr.at z A
    refine Eq Z (Qi (T := fW) z A Z)<|EL 3 (fk b) Z (Rdc.k E rfl)<|?_
    refine ff rfl (fC (cs := (fk (Case.mk false 0 0))) rfl rfl rfl rfl (fun W => ?_))
    refine Ea Z ?_
    refine ff rfl (Sa (fk b) Z .here Z ?_)
    refine fb<|fa<|Em Z<|Em Z<|EL 3 (fk b) Z (Rb0 Z)<|Eq Z (fH (cs := (fU (Linear_numbered.mk a b))) rfl rfl rfl rfl rfl rfl)<|?_
    have w : RowR gA B [(fU (Linear_numbered.mk a b))] [(Linear_numbered.mk a b)] := RowR.cons rfl (RowR.nil)
    refine ff rfl (gk (T := gA) (rows := [(fU (Linear_numbered.mk a b))]) (l := [(Linear_numbered.mk a b)]) rfl rfl rfl w rfl rfl rfl rfl rfl rfl rfl rfl (fun af => ?_))
    obtain ⟨Q, N, H⟩ := bnd H
    refine ff rfl (ga (T := gA) (bytes := 32) (q := 0) rfl rfl rfl y Mb2 rfl (SrcT.row Mb0 w rfl) N rfl rfl rfl rfl rfl rfl rfl rfl (fun P S aa L => ⟨_, (.there (.there .here)), ?_⟩))
    refine Ow.shift (Re0 (Sd ?_))
    exact Ea Z<|fb<|fa<|Er (wI (a + 1)) Z<|Em Z<|fb<|Pu1<|Re1<|Sd<|⟨_, by exact R4, _, Nat.lt_succ_self _, P, Q, (wI (a + 1)), rfl, rfl, (F ▸ H), L⟩
   ·intro i
    obtain ⟨i, H⟩ := If i H
    exact f9<|Sd<|⟨_, by exact R1, j, n, rfl, rfl, H, y⟩
  rintro _ U _ ab ⟨d, s, rfl, rfl, H, J⟩
  unfold vu at H
  refine fc<|fa<|Em Z<|Ea Z<|fb<|fx<|?_
  obtain C := gn H
  subst f
  refine ⟨(.inl rfl), [(sv d)], ⟨(sv d), _, rfl, rfl, rfl⟩, ?_⟩
  exact Sd ⟨d, rfl, rfl, J⟩
theorem x7 (p0 : fw) (c : SV) (d : SV) (p1 : Result) (b : Bool) (H : od p0 p1 = some b) (K : Kp) (G : List Ent) (h : Slr fW K (sv c) p0.op.cases) (i : Slr Ty.i64 K (sv d) p0.op.draws) :
  Fc Tryz.prog 102 #[(.agg (fl p0 c d).toArray), (.agg (fe p1).toArray)] K (G) (fun v f e => v = (.bool b) ∧ K = f ∧ G = e) := by
 refine fN Tryz.func102 rfl Tryz.ntmps102 Tryz.results102 rfl ?_
 unfold od at H
 refine fc<|fa<|?_
 refine ff rfl (fR (cs := (fl p0 c d)) rfl rfl rfl (fun b4 => ?_))
 refine ff rfl (fR (cs := (fe p1)) rfl rfl rfl (fun b5 => ?_))
 refine Ea Z<|fb<|fc<|fa<|EF 13 Z<|El (Vi p0.coming) Z (Rb1 Z)<|Ec Z<|Em Z<|?_
 refine Ee Z ?_ ?_
 ·intro a
  obtain ⟨a, H⟩ := It a H
  refine Ez Z<|Ez Z<|Ez Z<|Ez Z<|Et Z<|Ea Z<|fb<|fx<|?_
  obtain g := gn H
  subst b
  refine ⟨(.inl rfl), [(.bool true)], ⟨(.bool true), _, rfl, rfl, rfl⟩, ?_⟩
  exact Re0<|Re0<|Sd<|⟨rfl, rfl, rfl⟩
 ·intro a
  obtain ⟨a, H⟩ := If a H
  refine VF 7 Z<|VL 5 (fe p0.result) Z (Rb1 Z)<|VL 5 (fe p1) Z (Rb0 Z)<|Vq Z (jy rfl rfl (fun w => Result.eqrun p0.result p1 w) (by kernel_rfl))<|Ef Z<|Ea Z<|fb<|fx<|?_
  obtain g := gn H
  subst b
  refine ⟨(.inl rfl), [(.bool (dcd (p0.result = p1)))], ⟨(.bool (dcd (p0.result = p1))), _, rfl, rfl, rfl⟩, ?_⟩
  exact Re0<|Re0<|Sd<|⟨rfl, rfl, rfl⟩
theorem CU (p0 : ad0) (y : SV) (p1 : fw) (f : SV) (g : SV) (p2 : fw) (h : SV) (i : SV) (u : ae8) (H : rh p0 p1 p2 = some u) (K : Kp) (G : List Ent) (aM : Slr fF K (sv y) p0) (ak : Slr fW K (sv f) p1.op.cases) (al : Slr Ty.i64 K (sv g) p1.op.draws) (aN : Slr fW K (sv h) p2.op.cases) (aO : Slr Ty.i64 K (sv i) p2.op.draws) :
  Fc Tryz.prog 63 #[(sv y), (.agg (fl p1 f g).toArray), (.agg (fl p2 h i).toArray)] K (G) (fun v d c => ∃ (ah : SV), v = (sv ah) ∧ (.tok 131 10 [(sv ah)]) :: G = c ∧ Slr gy d (sv ah) u) := by
 refine fN Tryz.func63 rfl Tryz.ntmps63 Tryz.results63 rfl ?_
 unfold rh at H
 refine fc<|fa<|?_
 refine ff rfl (fR (cs := (fl p1 f g)) rfl rfl rfl (fun n => ?_))
 refine ff rfl (fR (cs := (fl p2 h i)) rfl rfl rfl (fun o => ?_))
 refine Ea Z<|fb<|fc<|fa<|Ea Z<|fb<|?_
 refine fz (fun j d c => ∃ (B : SV) (ae : ae8), [(7, (sv B))] = j ∧ (.tok 131 10 [(sv B)]) :: G = c ∧ vw ae = some u ∧ Slr gy d (sv B) ae) ?_ ?_
 ·refine fc<|fa<|EF 0 Z<|EL 7 (fh p1.op f g) Z (Rb1 Z)<|?_
  obtain ⟨m, a0, H⟩ := bnd H
  refine ff rfl (Ek Tryz.call101 Z (x6 p1.op f g m a0 _ _ ak al) ?_)
  rintro _ bb _ O ⟨p, rfl, rfl, ay⟩
  refine Eq Z (gg (T := gA) ay rfl rfl)<|Em Z<|fb<|fA<|?_
  refine f7 (fun aB j d c => ∃ (I : SV) (P : ae8) (e : Int), [(0, (sv y)), (4, (Vp n)), (5, (Vp o)), (7, (sv I)), (16, (sv p)), (17, (Vi (m.length : Int))), (18, (Vi e))] = j ∧ (.blk o 120 (fl p2 h i)) :: (.blk n 120 (fl p1 f g)) :: (.tok 131 10 [(sv I)]) :: (.tok 167 4 [(sv p)]) :: G = c ∧ lp2 (vA p0 m p2 p1) aB P e = some u ∧ Slr gy d (sv I) P) BIG ?_ ?_
  ·exact Shift.nilTok1 131 10<|Pu1<|Pu1<|Pu3<|Pu3<|Sd<|⟨_, by exact R7, fB, ([] : ae8), 0, rfl, rfl, H, (Slr.nil gy _)⟩
  rintro aB _ a5 _ C ⟨I, P, e, rfl, rfl, H, am⟩
  obtain ⟨bh, F, rfl, aK, H⟩ := jL H
  unfold vA at H
  refine fc<|fa<|Ec Z<|fb<|fc<|?_
  refine fm rfl ?_ ?_
  ·intro M
   obtain ⟨M, H⟩ := It M H
   refine ft ?_
   refine fz (fun j d c => ∃ (Q : SV) (W : ae8), [(0, (sv y)), (4, (Vp n)), (5, (Vp o)), (7, (sv Q)), (16, (sv p)), (17, (Vi (m.length : Int))), (18, (Vi e))] = j ∧ (.blk o 120 (fl p2 h i)) :: (.blk n 120 (fl p1 f g)) :: (.tok 131 10 [(sv Q)]) :: (.tok 167 4 [(sv p)]) :: G = c ∧ vx p0 m e p2 p1 F W = some u ∧ Slr gy d (sv Q) W) ?_ ?_
   ·refine fA<|fc<|fa<|?_
    obtain ⟨a, az, H⟩ := bnd H
    have an := ay.mono C
    obtain ⟨_, rfl, aI⟩ := Slr.at an az
    refine Eq Z (Qi (T := gA) an az Z)<|EL 4 (fU a) Z (Rdc.k aI rfl)<|?_
    refine ff rfl (fC (cs := (fU (Linear_numbered.mk 0 (Case.mk false 0 0)))) rfl rfl rfl rfl (fun w => ?_))
    refine ff rfl (Sa (fU a) Z .here Z ?_)
    refine fb<|fc<|fa<|EF 0 Z<|EL 7 (fh p2.op h i) Z (Rb1 Z)<|?_
    obtain ⟨t, aV, H⟩ := bnd H
    have ao := (aN.mono O).mono C
    have ap := (aO.mono O).mono C
    refine ff rfl (Ek Tryz.call101 Z (x6 p2.op h i t aV _ _ ao ap) ?_)
    rintro _ a6 _ D ⟨x, rfl, rfl, aq⟩
    refine Eq Z (gg (T := gA) aq rfl rfl)<|Em Z<|fb<|fA<|?_
    refine f7 (fun aC j d c => ∃ (s : SV) (z : ae8) (r : Int), [(0, (sv y)), (4, (Vp n)), (5, (Vp o)), (7, (sv s)), (9, (Vp w)), (16, (sv p)), (17, (Vi (m.length : Int))), (18, (Vi e)), (24, (sv x)), (25, (Vi (t.length : Int))), (26, (Vi r))] = j ∧ (.blk w 167 (fU a)) :: (.blk o 120 (fl p2 h i)) :: (.blk n 120 (fl p1 f g)) :: (.tok 131 10 [(sv s)]) :: (.tok 167 4 [(sv x)]) :: (.tok 167 4 [(sv p)]) :: G = c ∧ lp2 (vz p0 m e t a p2 p1 F) aC z r = some u ∧ Slr gy d (sv s) z) BIG ?_ ?_
    ·refine Pu5<|Pu1<|Pu5<|Pu5<|Pu5<|Pu5<|?_
     have aQ := am.mono D
     exact Sd ⟨_, by exact R11, I, P, 0, rfl, rfl, H, aQ⟩
    rintro aC _ S _ E ⟨s, z, r, rfl, rfl, H, U⟩
    obtain ⟨bi, V, rfl, aL, H⟩ := jL H
    unfold vz at H
    refine fc<|fa<|Ec Z<|fb<|fc<|?_
    refine fm rfl ?_ ?_
    ·intro N
     obtain ⟨N, H⟩ := It N H
     refine ft ?_
     refine fz (fun j d c => ∃ (R : SV) (X : ae8), [(0, (sv y)), (4, (Vp n)), (5, (Vp o)), (7, (sv R)), (9, (Vp w)), (16, (sv p)), (17, (Vi (m.length : Int))), (18, (Vi e)), (24, (sv x)), (25, (Vi (t.length : Int))), (26, (Vi r))] = j ∧ (.blk w 167 (fU a)) :: (.blk o 120 (fl p2 h i)) :: (.blk n 120 (fl p1 f g)) :: (.tok 131 10 [(sv R)]) :: (.tok 167 4 [(sv x)]) :: (.tok 167 4 [(sv p)]) :: G = c ∧ pB p0 m e t r a p2 p1 F V X = some u ∧ Slr gy d (sv R) X) ?_ ?_
     ·refine fA<|fc<|fa<|?_
      obtain ⟨b, aA, H⟩ := bnd H
      have ar := aq.mono E
      obtain ⟨_, rfl, aJ⟩ := Slr.at ar aA
      refine Eq Z (Qi (T := gA) ar aA Z)<|EL 4 (fU b) Z (Rdc.k aJ rfl)<|?_
      refine ff rfl (fC (cs := (fU (Linear_numbered.mk 0 (Case.mk false 0 0)))) rfl rfl rfl rfl (fun ai => ?_))
      refine ff rfl (Sa (fU b) Z .here Z ?_)
      refine fb<|fc<|?_
      refine fz (fun j d c => ∃ (af : Bool), [(0, (sv y)), (4, (Vp n)), (5, (Vp o)), (7, (sv s)), (9, (Vp w)), (11, (Vp ai)), (16, (sv p)), (17, (Vi (m.length : Int))), (18, (Vi e)), (24, (sv x)), (25, (Vi (t.length : Int))), (26, (Vi r)), (47, (.bool af))] = j ∧ S = d ∧ (.blk ai 167 (fU b)) :: (.blk w 167 (fU a)) :: (.blk o 120 (fl p2 h i)) :: (.blk n 120 (fl p1 f g)) :: (.tok 131 10 [(sv s)]) :: (.tok 167 4 [(sv x)]) :: (.tok 167 4 [(sv p)]) :: G = c ∧ sD p0 z m e t r b a p2 p1 F V af = some u) ?_ ?_
      ·refine fa<|EF 1 Z<|EF 1 Z<|El (.bool a.case_.send) Z (Rb1 Z)<|Eq Z (gi rfl)<|Em Z<|?_
       refine Ee Z ?_ ?_
       ·intro A
        have A := ix A
        have H := fX (btf A) H
        exact Ez Z<|Ez Z<|Ez Z<|Et Z<|Em Z<|Ez Z<|Ez Z<|Ez Z<|Ez Z<|Ez Z<|Ez Z<|Ez Z<|Et Z<|fb<|Pu6<|Pu6<|Pu6<|Pu6<|Pu6<|Pu6<|Pu6<|Sd<|⟨_, by exact R13, true, rfl, rfl, rfl, H⟩
       ·intro A
        have A := iw A
        have H := ift A H
        refine VF 1 Z<|VF 1 Z<|Vl (.bool b.case_.send) Z (Rb0 Z)<|Ef Z<|Em Z<|?_
        refine Ee Z ?_ ?_
        ·intro Y
         have H := ift Y H
         exact Ez Z<|Ez Z<|Ez Z<|Ez Z<|Ez Z<|Ez Z<|Ez Z<|Et Z<|fb<|Pu6<|Pu6<|Pu6<|Pu6<|Pu6<|Pu6<|Pu6<|Sd<|⟨_, by exact R13, true, rfl, rfl, rfl, H⟩
        ·intro Y
         have H := fX (btf Y) H
         exact VF 1 Z<|VF 2 Z<|Vl (Vi a.case_.channel) Z (Rb1 Z)<|VF 1 Z<|VF 2 Z<|Vl (Vi b.case_.channel) Z (Rb0 Z)<|Vc Z<|Ef Z<|fb<|Pu6<|Pu6<|Pu6<|Pu6<|Pu6<|Pu6<|Pu6<|Sd<|⟨_, by exact R13, (!(dcd (a.case_.channel = b.case_.channel))), rfl, rfl, rfl, H⟩
      rintro _ _ _ - ⟨af, rfl, rfl, rfl, H⟩
      unfold sD at H
      refine fm rfl ?_ ?_
      ·intro aa
       have H := ift aa H
       exact f9<|Pu6<|Pu6<|Pu6<|Pu6<|Pu6<|Pu6<|Re6<|Sd<|⟨_, by exact R11, s, z, rfl, rfl, H, U⟩
      ·intro aa
       have H := fX (btf aa) H
       refine ft ?_
       refine fz (fun j d c => ∃ (J : Nat) (L : Nat), [(0, (sv y)), (4, (Vp n)), (5, (Vp o)), (7, (sv s)), (9, (Vp w)), (12, (Vp J)), (13, (Vp L)), (16, (sv p)), (17, (Vi (m.length : Int))), (18, (Vi e)), (24, (sv x)), (25, (Vi (t.length : Int))), (26, (Vi r))] = j ∧ S = d ∧ (.blk L 38 (fe (Result.mk 2 b.index a.case_.value true 0))) :: (.blk J 38 (fe (Result.mk 1 a.index 0 false 0))) :: (.blk w 167 (fU a)) :: (.blk o 120 (fl p2 h i)) :: (.blk n 120 (fl p1 f g)) :: (.tok 131 10 [(sv s)]) :: (.tok 167 4 [(sv x)]) :: (.tok 167 4 [(sv p)]) :: G = c ∧ vy p0 z m e t r b a p2 p1 F V = some u) ?_ ?_
       ·refine fq _ rfl (Ic Mb0 (Ic Mb1 (Ic Mb2 (Ic Mb3 (Ic Mb4 (Ic Mb5 (Ic Mb6 In0)))))))<|JF 0 0 Z<|Jl 1 (Vi a.index) Z (Rb1 Z)<|Jq 2 Z (fH (cs := (fe (Result.mk 1 a.index 0 false 0))) rfl rfl rfl rfl rfl rfl)<|JF 3 0 Z<|Jl 4 (Vi b.index) Z (Rb0 Z)<|JF 5 1 Z<|JF 6 3 Z<|Jl 7 (.int .u64 a.case_.value) Z (Rb1 Z)<|Jq 8 Z (fH (cs := (fe (Result.mk 2 b.index a.case_.value true 0))) rfl rfl rfl rfl rfl rfl)<|?_
        refine gY 9 10 (by kernel_rfl) ?_ ?_
        ·refine id (Jy Z ?_)
         refine fC (cs := (fe (Result.mk 0 0 0 false 0))) rfl rfl rfl rfl (fun aE => ⟨(Ic Mb1 (Ic Mb2 (Ic Mb3 (Ic Mb4 (Ic Mb5 (Ic Mb6 (Ic Mb7 In0))))))), ?_⟩)
         refine Ao 10 Z ?_
         refine fC (cs := (fe (Result.mk 0 0 0 false 0))) rfl rfl rfl rfl (fun aF => ⟨(Ic Mb2 (Ic Mb3 (Ic Mb4 (Ic Mb5 (Ic Mb6 (Ic Mb7 (Ic Mb8 In0))))))), ?_⟩)
         refine Ao 11 Z ?_
         refine Sa (fe (Result.mk 1 a.index 0 false 0)) Z (.there .here) Z ⟨(Ic Mb2 (Ic Mb3 (Ic Mb4 (Ic Mb5 (Ic Mb6 (Ic Mb7 (Ic Mb8 In0))))))), ?_⟩
         refine Ao 12 Z ?_
         refine Sa (fe (Result.mk 2 b.index a.case_.value true 0)) Z .here Z ⟨(Ic Mb2 (Ic Mb3 (Ic Mb4 (Ic Mb5 (Ic Mb6 (Ic Mb7 (Ic Mb8 In0))))))), ?_⟩
         exact Ad<|Pu8<|Pu8<|Pu8<|Pu8<|Pu8<|Pu8<|Pu7<|Pu7<|Re8<|Sd<|⟨_, by exact R13, aE, aF, rfl, rfl, rfl, H⟩
        ·refine id (Jy Z ?_)
         refine fC (cs := (fe (Result.mk 0 0 0 false 0))) rfl rfl rfl rfl (fun aG => ⟨(Ic Mb1 (Ic Mb2 (Ic Mb3 (Ic Mb4 (Ic Mb5 (Ic Mb6 (Ic Mb7 In0))))))), ?_⟩)
         refine Ao 9 Z ?_
         refine fC (cs := (fe (Result.mk 0 0 0 false 0))) rfl rfl rfl rfl (fun aH => ⟨(Ic Mb2 (Ic Mb3 (Ic Mb4 (Ic Mb5 (Ic Mb6 (Ic Mb7 (Ic Mb8 In0))))))), ?_⟩)
         refine Ao 11 Z ?_
         refine Sa (fe (Result.mk 1 a.index 0 false 0)) Z .here Z ⟨(Ic Mb2 (Ic Mb3 (Ic Mb4 (Ic Mb5 (Ic Mb6 (Ic Mb7 (Ic Mb8 In0))))))), ?_⟩
         refine Ao 12 Z ?_
         refine Sa (fe (Result.mk 2 b.index a.case_.value true 0)) Z (.there .here) Z ⟨(Ic Mb2 (Ic Mb3 (Ic Mb4 (Ic Mb5 (Ic Mb6 (Ic Mb7 (Ic Mb8 In0))))))), ?_⟩
         exact Ad<|Pu8<|Pu8<|Pu8<|Pu8<|Pu8<|Pu8<|Pu6<|Pu7<|Re8<|Sd<|⟨_, by exact R13, aH, aG, rfl, rfl, rfl, H⟩
       rintro _ _ _ - ⟨J, L, rfl, rfl, rfl, H⟩
       unfold vy at H
       refine fz (fun j d c => ∃ (ag : Bool), [(0, (sv y)), (4, (Vp n)), (5, (Vp o)), (7, (sv s)), (9, (Vp w)), (12, (Vp J)), (13, (Vp L)), (16, (sv p)), (17, (Vi (m.length : Int))), (18, (Vi e)), (24, (sv x)), (25, (Vi (t.length : Int))), (26, (Vi r)), (74, (.bool ag))] = j ∧ S = d ∧ (.blk L 38 (fe (Result.mk 2 b.index a.case_.value true 0))) :: (.blk J 38 (fe (Result.mk 1 a.index 0 false 0))) :: (.blk w 167 (fU a)) :: (.blk o 120 (fl p2 h i)) :: (.blk n 120 (fl p1 f g)) :: (.tok 131 10 [(sv s)]) :: (.tok 167 4 [(sv x)]) :: (.tok 167 4 [(sv p)]) :: G = c ∧ sC p0 z m e t r b a p2 p1 F V ag = some u) ?_ ?_
       ·refine fa<|EL 14 (fl p1 f g) Z (Rb4 Z)<|EL 5 (fe (Result.mk 1 a.index 0 false 0)) Z (Rb1 Z)<|?_
        obtain ⟨a2, aW, H⟩ := bnd H
        have au := (((ak.mono O).mono C).mono D).mono E
        have av := (((al.mono O).mono C).mono D).mono E
        refine ff rfl (Ek Tryz.call102 Z (x7 p1 f g (Result.mk 1 a.index 0 false 0) a2 aW _ _ au av) ?_)
        rintro _ _ _ - ⟨rfl, rfl, rfl⟩
        refine Em Z ?_
        refine Ee Z ?_ ?_
        ·intro ab
         have H := ift ab H
         refine VL 14 (fl p2 h i) Z (Rb3 Z)<|VL 5 (fe (Result.mk 2 b.index a.case_.value true 0)) Z (Rb0 Z)<|?_
         obtain ⟨a3, aX, H⟩ := bnd H
         have aw := (ao.mono D).mono E
         have ax := (ap.mono D).mono E
         refine ib rfl rfl rfl rfl (Ek Tryz.call102 Z (x7 p2 h i (Result.mk 2 b.index a.case_.value true 0) a3 aX _ _ aw ax) ?_)
         rintro _ _ _ - ⟨rfl, rfl, rfl⟩
         refine Et Z<|Em Z<|?_
         refine Ee Z ?_ ?_
         ·intro ac
          have H := ift ac H
          refine Vm Z<|VF 0 Z<|VL 7 (fh p1.op f g) Z (Rb4 Z)<|VL 5 (fe (Result.mk 1 a.index 0 false 0)) Z (Rb1 Z)<|VF 0 Z<|VL 7 (fh p2.op h i) Z (Rb3 Z)<|VL 5 (fe (Result.mk 2 b.index a.case_.value true 0)) Z (Rb0 Z)<|?_
          obtain ⟨aD, aY, H⟩ := bnd H
          have aS := (((aM.mono O).mono C).mono D).mono E
          refine ib rfl rfl rfl rfl (Ek Tryz.call103 Z (CS p0 y p1.op f g (Result.mk 1 a.index 0 false 0) p2.op h i (Result.mk 2 b.index a.case_.value true 0) aD aY _ _ aS au av aw ax) ?_)
          rintro _ _ _ - ⟨rfl, rfl, rfl⟩
          exact Et Z<|fb<|Pu7<|Pu7<|Pu7<|Pu7<|Pu7<|Pu7<|Pu7<|Pu7<|Sd<|⟨_, by exact R14, aD, rfl, rfl, rfl, H⟩
         ·intro ac
          have H := fX (btf ac) H
          exact Ez Z<|Ez Z<|Ez Z<|Ez Z<|Ez Z<|Ez Z<|Ez Z<|Ez Z<|Ef Z<|fb<|Pu7<|Pu7<|Pu7<|Pu7<|Pu7<|Pu7<|Pu7<|Pu7<|Sd<|⟨_, by exact R14, false, rfl, rfl, rfl, H⟩
        ·intro ab
         have H := fX (btf ab) H
         refine Ez Z<|Ez Z<|Ez Z<|Ef Z<|Em Z<|Ez Z<|Ez Z<|Ez Z<|Ez Z<|Ez Z<|Ez Z<|Ez Z<|Ez Z<|Ef Z<|fb<|Pu7<|Pu7<|Pu7<|Pu7<|Pu7<|Pu7<|Pu7<|?_
         exact Pu7<|Sd<|⟨_, by exact R14, false, rfl, rfl, rfl, H⟩
       rintro _ _ _ - ⟨ag, rfl, rfl, rfl, H⟩
       unfold sC at H
       refine fm rfl ?_ ?_
       ·intro ad
        have H := ift ad H
        refine fa<|Em Z<|EL 5 (fe (Result.mk 1 a.index 0 false 0)) Z (Rb1 Z)<|EL 5 (fe (Result.mk 2 b.index a.case_.value true 0)) Z (Rb0 Z)<|Eq Z (kH (cs := (ie (gq.mk (Result.mk 1 a.index 0 false 0) (Result.mk 2 b.index a.case_.value true 0)))) rfl rfl rfl rfl rfl rfl)<|?_
        have aj : RowR gy S [(ie (gq.mk (Result.mk 1 a.index 0 false 0) (Result.mk 2 b.index a.case_.value true 0)))] [(gq.mk (Result.mk 1 a.index 0 false 0) (Result.mk 2 b.index a.case_.value true 0))] := RowR.cons rfl (RowR.nil)
        refine ff rfl (gk (T := gy) (rows := [(ie (gq.mk (Result.mk 1 a.index 0 false 0) (Result.mk 2 b.index a.case_.value true 0)))]) (l := [(gq.mk (Result.mk 1 a.index 0 false 0) (Result.mk 2 b.index a.case_.value true 0))]) rfl rfl rfl aj rfl rfl rfl rfl rfl rfl rfl rfl (fun bj => ?_))
        obtain ⟨a4, aZ, H⟩ := bnd H
        refine ff rfl (ga (T := gy) (bytes := 80) (q := 0) rfl rfl rfl U Mb6 rfl (SrcT.row Mb0 aj rfl) aZ rfl rfl rfl rfl rfl rfl rfl rfl (fun a1 a7 bd aT => ⟨_, (.there (.there (.there (.there (.there (.there .here)))))), ?_⟩))
        refine Ow.shift (Re0 (Sd ?_))
        exact Ea Z<|fb<|Pu7<|Pu7<|Pu7<|Pu7<|Pu7<|Pu7<|Re6<|Re6<|Sd<|⟨_, by exact R11, a1, a4, rfl, rfl, H, aT⟩
       ·intro ad
        have H := fX (btf ad) H
        exact ft<|Pu7<|Pu7<|Pu7<|Pu7<|Pu7<|Pu7<|Re6<|Re6<|Sd<|⟨_, by exact R11, s, z, rfl, rfl, H, U⟩
     rintro _ a8 _ be ⟨R, X, rfl, rfl, H, aR⟩
     unfold pB at H
     exact fa<|Er (wI (r + 1)) Z<|Em Z<|fb<|Pu5<|Pu5<|Pu5<|Pu5<|Pu5<|Pu5<|Sd<|⟨_, by exact R11, _, Nat.lt_succ_self _, R, X, (wI (r + 1)), rfl, rfl, (aL ▸ H), aR⟩
    ·intro N
     obtain ⟨N, H⟩ := If N H
     exact f9<|Pu5<|Pu4<|Pu4<|Pu4<|Re4<|Re4<|Sd<|⟨_, by exact R7, s, z, rfl, rfl, H, U⟩
   rintro _ a9 _ bf ⟨Q, W, rfl, rfl, H, aP⟩
   unfold vx at H
   exact fa<|Er (wI (e + 1)) Z<|Em Z<|fb<|Pu3<|Pu3<|Pu3<|Pu3<|Sd<|⟨_, by exact R7, _, Nat.lt_succ_self _, Q, W, (wI (e + 1)), rfl, rfl, (aK ▸ H), aP⟩
  ·intro M
   obtain ⟨M, H⟩ := If M H
   exact f9<|Pu2<|Re1<|Re1<|Re1<|Sd<|⟨_, by exact R1, I, P, rfl, rfl, H, am⟩
 rintro _ ba _ bg ⟨B, ae, rfl, rfl, H, aU⟩
 unfold vw at H
 refine fc<|fa<|Em Z<|Ea Z<|fb<|fx<|?_
 obtain bc := gn H
 subst u
 refine ⟨(.inl rfl), [(sv B)], ⟨(sv B), _, rfl, rfl, rfl⟩, ?_⟩
 exact Sd ⟨B, rfl, rfl, aU⟩
theorem x9 (rc : ad5) (ih : ∀ (c : Nat) (o : af9) (d : SV) (b : Bool) (n : ad2) (a : Nat) (l : Array MapEntry) (u : Nat) (e : ad8) (f : SV) (s : List (List Value)) (p1 : ad1) (y : SV) (p2 : ad0) (p : SV) (i : Bool) (j : ad8) (h : ad2) (H : rc o b n e p1 p2 = some (i, j, h)) (K : Kp) (G : List Ent) (ac : Slr (Ty.sl fY) K (sv d) o) (aa : MapR Ty.bool Value.string K l n) (ab : RowR fP K s e) (ad : Slr Ty.i64 K (sv y) p1) (ae : Slr fF K (sv p) p2) (hT : mO K), Fc Tryz.prog 29 #[(Vp c), (sv y), (sv p)] K ((.blk c 84 [(sv d), (.bool b), .nilFunc, (.map (some a)), (sv f)]) :: (.obj a (.map l u)) :: (.row (sv f) 67 6 s.flatten) :: G) (fun v g r => ∃ (L : SV) (E : List (List Value)) (z : Array MapEntry) (P : Nat), v = (.bool i) ∧ (.blk c 84 [(sv d), (.bool b), .nilFunc, (.map (some a)), (sv L)]) :: (.row (sv L) 67 6 E.flatten) :: (.obj a (.map z P)) :: G = r ∧ RowR fP g E j ∧ MapR Ty.bool Value.string g z h)) (c : Nat) (o : af9) (d : SV) (b : Bool) (n : ad2) (a : Nat) (l : Array MapEntry) (u : Nat) (e : ad8) (f : SV) (s : List (List Value)) (p1 : ad1) (y : SV) (p2 : ad0) (p : SV) (p3 : ad8) (J : SV) (i : Bool) (j : ad8) (h : ad2) (H : oh rc o b n e p1 p2 p3 = some (i, j, h)) (K : Kp) (G : List Ent) (ac : Slr (Ty.sl fY) K (sv d) o) (aa : MapR Ty.bool Value.string K l n) (ab : RowR fP K s e) (ad : Slr Ty.i64 K (sv y) p1) (ae : Slr fF K (sv p) p2) (M : Slr fP K (sv J) p3) (hT : mO K) :
  Fc Tryz.prog 62 #[(Vp c), (sv y), (sv p), (sv J)] K ((.blk c 84 [(sv d), (.bool b), .nilFunc, (.map (some a)), (sv f)]) :: (.obj a (.map l u)) :: (.row (sv f) 67 6 s.flatten) :: G) (fun v g r => ∃ (L : SV) (E : List (List Value)) (z : Array MapEntry) (P : Nat), v = (.bool i) ∧ (.blk c 84 [(sv d), (.bool b), .nilFunc, (.map (some a)), (sv L)]) :: (.row (sv L) 67 6 E.flatten) :: (.obj a (.map z P)) :: G = r ∧ RowR fP g E j ∧ MapR Ty.bool Value.string g z h) := by
 refine fN Tryz.func62 rfl Tryz.ntmps62 Tryz.results62 rfl ?_
 unfold oh at H
 refine fc<|fa<|Ea Z<|fb<|fc<|fa<|Em Z<|?_
 obtain ⟨am, aK, H⟩ := bnd H
 refine ff rfl (Ek Tryz.call100 Z (Dp p1 y am aK _ _ ad) ?_)
 rintro _ _ _ - ⟨I, aM, rfl, rfl, rfl, aH⟩
 refine Ea Z<|fb<|?_
 refine fz (fun Q g r => ∃ (O : ad1) (V : List (List Value)), [(0, (Vp c)), (2, (sv p)), (3, (sv J)), (9, (sv I))] = Q ∧ (.blk c 84 [(sv d), (.bool b), .nilFunc, (.map (some a)), (sv f)]) :: (.row (sv I) 3 1 V.flatten) :: (.obj a (.map l u)) :: (.row (sv f) 67 6 s.flatten) :: G = r ∧ og p2 p3 o b e n rc O = some (i, j, h) ∧ RowR Ty.i64 g V O) ?_ ?_
 ·refine fc<|fa<|Em Z<|Eq Z (gg (T := fP) M rfl rfl)<|Em Z<|fb<|fA<|?_
  refine f7 (fun n209 Q g r => ∃ (x : ad1) (D : List (List Value)) (C : Int), [(0, (Vp c)), (2, (sv p)), (3, (sv J)), (9, (sv I)), (15, (sv J)), (16, (Vi (p3.length : Int))), (17, (Vi C))] = Q ∧ K = g ∧ (.blk c 84 [(sv d), (.bool b), .nilFunc, (.map (some a)), (sv f)]) :: (.row (sv I) 3 1 D.flatten) :: (.obj a (.map l u)) :: (.row (sv f) 67 6 s.flatten) :: G = r ∧ lp2 (vB p2 p3 o b e n rc) n209 x C = some (i, j, h) ∧ RowR Ty.i64 g D x) BIG ?_ ?_
  ·exact Pu3<|Pu3<|Pu2<|Pu3<|Sd<|⟨_, by exact R7, am, aM, 0, rfl, rfl, rfl, H, aH⟩
  rintro n209 _ _ _ - ⟨x, D, C, rfl, rfl, rfl, H, m⟩
  obtain ⟨aY, aX, rfl, ax, H⟩ := jL H
  unfold vB at H
  refine fc<|fa<|Ec Z<|fb<|fc<|?_
  refine fm rfl ?_ ?_
  ·intro A
   obtain ⟨A, H⟩ := It A H
   refine ft<|fc<|fA<|fc<|fa<|?_
   obtain ⟨t, ai, H⟩ := bnd H
   obtain ⟨_, rfl, aw⟩ := Slr.at M ai
   refine Eq Z (Qi (T := fP) M ai Z)<|EL 6 (fK t) Z (Rdc.k aw rfl)<|?_
   refine ff rfl (fC (cs := (fK (Done.mk 0 (Result.mk 0 0 0 false 0)))) rfl rfl rfl rfl (fun aU => ?_))
   refine ff rfl (Sa (fK t) Z .here Z ?_)
   refine fb<|fa<|Em Z<|EF 0 Z<|El (Vi t.thread) Z (Rb0 Z)<|?_
   obtain ⟨q, aj, H⟩ := bnd H
   obtain ⟨aZ, af, ay⟩ := RowR.at m aj
   obtain rfl := ay
   refine Eq Z (gz (T := Ty.i64) Mb2 m af (fL aj).1 rfl rfl rfl rfl rfl)<|El (Vi q) Z (gQ (T := Ty.i64) Mb2 m af rfl rfl)<|Er (wI (q + 1)) Z<|?_
   obtain ⟨a1, ak, H⟩ := bnd H
   obtain ⟨a0, S, az⟩ := RowR.at m ak
   obtain rfl := az
   refine Eq Z (gz (T := Ty.i64) Mb2 m S (fL ak).1 rfl rfl rfl rfl rfl) ?_
   refine ff rfl (gP (T := Ty.i64) (vs := [(Vi (wI (q + 1)))]) (r' := [(Vi (wI (q + 1)))]) (l' := (f8 x t.thread (wI (q + 1)))) rfl rfl rfl rfl rfl (.there (.there .here)) m S rfl rfl rfl (RowR.set t.thread m rfl) (fun ar => ?_))
   have aV := iO S (v := [(Vi (wI (q + 1)))])
   exact fb<|fa<|Er (wI (C + 1)) Z<|Em Z<|fb<|Pu4<|Pu4<|Pu4<|Pu4<|Re4<|Sd<|⟨_, by exact R7, _, Nat.lt_succ_self _, (f8 x t.thread (wI (q + 1))), (D.set t.thread.toNat [(Vi (wI (q + 1)))]), (wI (C + 1)), rfl, rfl, rfl, (ax ▸ H), ar⟩
  ·intro A
   obtain ⟨A, H⟩ := If A H
   exact f9<|Pu3<|Pu3<|Pu3<|Pu3<|Sd<|⟨_, by exact R4, x, D, rfl, rfl, H, m⟩
 rintro _ aR _ w ⟨O, V, rfl, rfl, H, aq⟩
 unfold og at H
 refine fc<|fa<|Em Z<|Eq Z (fD rfl)<|EF 4 Z<|El (sv f) Z (Rb0 Z)<|?_
 have ag := ab.mono w
 refine Eq Z (ln (T := fP) Mb3 ag rfl rfl rfl)<|Ea Z<|fb<|fc<|fa<|Em Z<|Em Z<|Eq Z (fD rfl)<|EF 4 Z<|El (sv f) Z (Rb0 Z)<|Em Z<|?_
 obtain ⟨aN, aI, H⟩ := bnd H
 have aA := M.mono w
 refine ff rfl (gZ (T := fP) (bytes := 48) rfl rfl rfl Mb3 ag (SrcT.sl aA) aI rfl rfl rfl rfl rfl rfl rfl rfl (fun W aL au => ⟨_, (.there (.there (.there .here))), ?_⟩))
 refine Eq Z (fD rfl)<|EF 4 Z<|?_
 refine ff rfl (So [(sv W)] [(sv d), (.bool b), .nilFunc, (.map (some a)), (sv W)] Z .here Z ?_)
 refine fb<|fc<|fc<|fa<|Em Z<|Em Z<|Em Z<|?_
 refine Ow.shift (Shift.settle (T := Ty.i64) (.there .here) aq rfl (fun aS B aB => Sd ?_))
 obtain ⟨aO, aP, aQ, aJ, H⟩ := k7 H
 refine Ow.shift (Pu3 (Sd ?_))
 refine Ow.shift (Pu3 (Sd ?_))
 refine Ow.shift (Pu2 (Sd ?_))
 have aC := (ac.mono w).mono B
 have aD := (aa.mono w).mono B
 have aE := au.mono B
 have aF := (ae.mono w).mono B
 have aG := (hT.mono w).mono B
 refine ff rfl (Ek Tryz.call29 Z (ih c o d b n a l u aN W aL O I p2 p aO aP aQ aJ _ _ aC aD aE aB aF aG) ?_)
 rintro _ aT _ aW ⟨F, al, Y, X, rfl, rfl, N, ah⟩
 refine fb ?_
 refine fm rfl ?_ ?_
 ·intro R
  have H := ift R H
  refine fc<|fa<|Ea Z<|fb<|fx<|?_
  obtain ⟨ao, ap, an⟩ := jP H
  subst i j h
  refine ⟨(.inl rfl), [(.bool true)], ⟨(.bool true), _, rfl, rfl, rfl⟩, ?_⟩
  exact Pu2<|Pu2<|Pu2<|Re3<|Sd<|⟨F, al, Y, X, rfl, rfl, N, ah⟩
 ·intro R
  have H := fX (btf R) H
  refine ft<|fc<|fa<|Em Z<|Em Z<|Eq Z (fD rfl)<|EF 4 Z<|El (sv F) Z (Rb0 Z)<|Em Z<|?_
  obtain ⟨a2, U, H⟩ := bnd H
  refine Eq Z (EG (T := fP) Mb1 N rfl U rfl rfl rfl rfl)<|Eq Z (fD rfl)<|EF 4 Z<|?_
  refine Ow.shift (Pu1 (Sd ?_))
  have av := RowR.cutH N U
  refine Ow.shift (Shift.cutRow (T := fP) N rfl U (Sd ?_))
  refine ff rfl (So [(sv (jz F 6 0 (e.length : Int).toNat))] [(sv d), (.bool b), .nilFunc, (.map (some a)), (sv (jz F 6 0 (e.length : Int).toNat))] Z (.there .here) Z ?_)
  refine fb<|fc<|fa<|Ea Z<|fb<|fx<|?_
  obtain ⟨ao, ap, an⟩ := jP H
  subst i j h
  refine ⟨(.inl rfl), [(.bool false)], ⟨(.bool false), _, rfl, rfl, rfl⟩, ?_⟩
  exact Pu2<|Pu1<|Pu2<|Re3<|Sd<|⟨(jz F 6 0 (e.length : Int).toNat), (al.take (e.length : Int).toNat), Y, X, rfl, rfl, av, ah⟩
end Go.Hx
namespace Go.Hx
open Go Go.Proofs
set_option maxRecDepth 10000
set_option maxHeartbeats 1000000
theorem yj (p0 : fM) (h : SV) (o : SV) (i : ad0) (H : qL p0 = some i) (K : Kp) (G : List Ent) (s : Slr Ty.i64 K (sv h) p0.capacities) (P : Slr Ty.u64 K (sv o) p0.starts) :
  Fc Tryz.prog 30 #[(.agg (fp p0 h o).toArray)] K (G) (fun v d c => ∃ (p : SV), v = (sv p) ∧ (.tok 104 3 [(sv p)]) :: G = c ∧ Slr fF d (sv p) i) := by
 refine fN Tryz.func30 rfl Tryz.ntmps30 Tryz.results30 rfl ?_
 unfold qL at H
 refine fc<|fa<|?_
 refine ff rfl (fR (cs := (fp p0 h o)) rfl rfl rfl (fun L => ?_))
 refine Ea Z<|fb<|fc<|fa<|Ea Z<|fb<|?_
 refine fz (fun m d c => ∃ (a : SV) (n : ad0), [(3, (sv a))] = m ∧ (.tok 104 3 [(sv a)]) :: G = c ∧ zb n = some i ∧ Slr fF d (sv a) n) ?_ ?_
 ·refine fc<|fa<|EF 0 Z<|El (sv h) Z (Rb0 Z)<|Eq Z (gg (T := Ty.i64) s rfl rfl)<|Em Z<|fb<|fA<|?_
  refine f7 (fun n137 m d c => ∃ (g : SV) (j : ad0) (f : Int), [(3, (sv g)), (7, (sv h)), (8, (Vi (p0.capacities.length : Int))), (9, (Vi f))] = m ∧ (.tok 104 3 [(sv g)]) :: G = c ∧ lp2 (u9 p0) n137 j f = some i ∧ Slr fF d (sv g) j) BIG ?_ ?_
  ·exact Shift.nilTok1 104 3<|Re1<|Sd<|⟨_, by exact R4, fB, ([] : ad0), 0, rfl, rfl, H, (Slr.nil fF _)⟩
  rintro n137 _ x _ y ⟨g, j, f, rfl, rfl, H, t⟩
  obtain ⟨R, Q, rfl, A, H⟩ := jL H
  unfold u9 at H
  refine fc<|fa<|Ec Z<|fb<|fc<|?_
  refine fm rfl ?_ ?_
  ·intro e
   obtain ⟨e, H⟩ := It e H
   refine ft<|fc<|fA<|fc<|fa<|?_
   obtain ⟨b, w, H⟩ := bnd H
   have u := s.mono y
   obtain ⟨_, rfl, z⟩ := Slr.at u w
   refine Eq Z (Qi (T := Ty.i64) u w Z)<|El (Vi b) Z (Rdc.k z rfl)<|Ea Z<|fb<|fa<|Em Z<|Em Z<|Eq Z (fH (cs := (fy (fJ.mk b [] false) fB)) rfl rfl rfl rfl rfl rfl)<|?_
   have r : RowR fF x [(fy (fJ.mk b [] false) fB)] [(fJ.mk b [] false)] := RowR.cons ⟨fB, rfl, (Slr.nil Ty.u64 _)⟩ (RowR.nil)
   refine ff rfl (gk (T := fF) (rows := [(fy (fJ.mk b [] false) fB)]) (l := [(fJ.mk b [] false)]) rfl rfl rfl r rfl rfl rfl rfl rfl rfl rfl rfl (fun S => ?_))
   obtain ⟨F, D, H⟩ := bnd H
   refine ff rfl (ga (T := fF) (bytes := 40) (q := 0) rfl rfl rfl t Mb1 rfl (SrcT.row Mb0 r rfl) D rfl rfl rfl rfl rfl rfl rfl rfl (fun E I N B => ⟨_, (.there .here), ?_⟩))
   refine Ow.shift (Re0 (Sd ?_))
   exact Ea Z<|fb<|fa<|Er (wI (f + 1)) Z<|Em Z<|fb<|Sd<|⟨_, by exact R4, _, Nat.lt_succ_self _, E, F, (wI (f + 1)), rfl, rfl, (A ▸ H), B⟩
  ·intro e
   obtain ⟨e, H⟩ := If e H
   exact f9<|Sd<|⟨_, by exact R1, g, j, rfl, rfl, H, t⟩
 rintro _ J _ O ⟨a, n, rfl, rfl, H, C⟩
 unfold zb at H
 refine fc<|fa<|Em Z<|Ea Z<|fb<|fx<|?_
 obtain M := gn H
 subst i
 refine ⟨(.inl rfl), [(sv a)], ⟨(sv a), _, rfl, rfl, rfl⟩, ?_⟩
 exact Sd ⟨a, rfl, rfl, C⟩
end Go.Hx
namespace Go.Hx
open Go Go.Proofs
set_option maxRecDepth 10000
set_option maxHeartbeats 1000000
theorem zY (fu : Nat) : ∀ (f : Nat) (c : af9) (h : SV) (e : Bool) (ae : ad2) (b : Nat) (I : Array MapEntry) (S : Nat) (af : ad8) (Q : SV) (P : List (List Value)) (p1 : ad1) (u : SV) (p2 : ad0) (w : SV) (r : Bool) (s : ad8) (p : ad2) (H : pC fu c e ae af p1 p2 = some (r, s, p)) (K : Kp) (G : List Ent) (a1 : Slr (Ty.sl fY) K (sv h) c) (aG : MapR Ty.bool Value.string K I ae) (aq : RowR fP K P af) (a2 : Slr Ty.i64 K (sv u) p1) (bx : Slr fF K (sv w) p2) (hT : mO K),
  Fc Tryz.prog 29 #[(Vp f), (sv u), (sv w)] K ((.blk f 84 [(sv h), (.bool e), .nilFunc, (.map (some b)), (sv Q)]) :: (.obj b (.map I S)) :: (.row (sv Q) 67 6 P.flatten) :: G) (fun v d j => ∃ (ck : SV) (ch : List (List Value)) (bQ : Array MapEntry) (cx : Nat), v = (.bool r) ∧ (.blk f 84 [(sv h), (.bool e), .nilFunc, (.map (some b)), (sv ck)]) :: (.row (sv ck) 67 6 ch.flatten) :: (.obj b (.map bQ cx)) :: G = j ∧ RowR fP d ch s ∧ MapR Ty.bool Value.string d bQ p) := by
 induction fu with
 | zero => intro f c h e ae b I S af Q P p1 u p2 w r s p H K G a1 aG aq a2 bx hT; cases H
 | succ fu ih =>
 intro f c h e ae b I S af Q P p1 u p2 w r s p H K G a1 aG aq a2 bx hT
 have H : ri (pC fu) c e ae af p1 p2 = some (r, s, p) := H
 generalize pC fu = rc at H ih
 refine fN Tryz.func29 rfl Tryz.ntmps29 Tryz.results29 rfl ?_
 unfold ri at H
 refine fc<|fa<|Ea Z<|fb<|fc<|fa<|Em Z<|Em Z<|?_
 obtain ⟨o, dH, dv, H⟩ := ir H
 refine Ow.shift (Pu2 (Sd ?_))
 refine Ow.shift (Pu2 (Sd ?_))
 refine Ow.shift (Pu2 (Sd ?_))
 refine ff rfl (Ek Tryz.call57 Z (CE f c h e ae b I S af Q P p1 u o dH dv _ _ a1 aG aq a2) ?_)
 rintro _ dV _ C ⟨rfl, rfl⟩
 refine Em Z<|Ex Z<|Ex Z<|Ea Z<|Ea Z<|fb<|fc<|fc<|fa<|Em Z<|Eq Z (gi rfl)<|fb<|?_
 refine fm rfl ?_ ?_
 ·intro X
  have X := ix X
  have H := fX (btf X) H
  refine fc<|fc<|fa<|Em Z<|Eq Z (fD rfl)<|EF 2 Z<|El (.nilFunc) Z (Rb0 Z)<|Eq Z (AW rfl rfl rfl)<|Em Z<|Ez Z<|Ez Z<|Ez Z<|Ez Z<|Ez Z<|Ez Z<|Et Z<|fb<|AQ rfl<|fc<|fa<|Ea Z<|fb<|?_
  refine fx ?_
  obtain ⟨aV, aW, aU⟩ := jP H
  subst r s p
  refine ⟨(.inl rfl), [(.bool true)], ⟨(.bool true), _, rfl, rfl, rfl⟩, ?_⟩
  refine Pu1<|Pu2<|Pu2<|?_
  have dk := aq.mono C
  have dl := aG.mono C
  exact Sd ⟨Q, P, I, S, rfl, rfl, dk, dl⟩
 ·intro X
  have X := iw X
  have H := ift X H
  refine ft<|fc<|fa<|Em Z<|Em Z<|?_
  obtain ⟨g, dw, H⟩ := bnd H
  have b9 := a2.mono C
  have bD := bx.mono C
  have bE := hT.mono C
  refine ff rfl (Ek Tryz.call58 Z (CL p1 u p2 w g dw _ _ b9 bD bE) ?_)
  rintro _ dW _ D ⟨rfl, rfl⟩
  refine Ea Z<|fb<|fc<|fc<|fa<|Em Z<|Eq Z (fD rfl)<|EF 3 Z<|El (.map (some b)) Z (Rb0 Z)<|Em Z<|?_
  have bF := (aG.mono C).mono D
  refine Eq Z (EH (kv := Value.string) (k := g) (KeyK.str rfl) bF Mb1 rfl rfl rfl rfl rfl)<|fb<|?_
  refine fm rfl ?_ ?_
  ·intro bu
   have H := ift bu H
   refine fc<|fa<|Ea Z<|fb<|fx<|?_
   obtain ⟨aV, aW, aU⟩ := jP H
   subst r s p
   refine ⟨(.inl rfl), [(.bool false)], ⟨(.bool false), _, rfl, rfl, rfl⟩, ?_⟩
   refine Pu1<|Pu2<|Pu2<|?_
   have dm := (aq.mono C).mono D
   exact Sd ⟨Q, P, I, S, rfl, rfl, dm, bF⟩
  ·intro bu
   have H := fX (btf bu) H
   refine ft ?_
   refine fz (fun t d j => ∃ (bp : Array MapEntry) (bO : Nat) (bI : ad2) (bf : SV) (bH : ad8) (bb : List (List Value)), [(0, (Vp f)), (9, (.string g))] = t ∧ (.blk f 84 [(sv h), (.bool e), .nilFunc, (.map (some b)), (sv bf)]) :: (.obj b (.map bp bO)) :: (.row (sv bf) 67 6 bb.flatten) :: G = j ∧ vC g c e rc bI bH = some (r, s, p) ∧ MapR Ty.bool Value.string d bp bI ∧ RowR fP d bb bH) ?_ ?_
   ·refine fc<|fa<|Em Z<|Eq Z (fD rfl)<|EF 0 Z<|El (sv h) Z (Rb0 Z)<|?_
    have bX := (a1.mono C).mono D
    refine Eq Z (gg (T := (Ty.sl fY)) bX rfl rfl)<|Em Z<|fb<|fA<|?_
    refine f7 (fun cc t d j => ∃ (a : Int) (U : Array MapEntry) (ai : Nat) (ad : ad2) (ah : SV) (ac : ad8) (ag : List (List Value)), [(0, (Vp f)), (1, (sv u)), (2, (sv w)), (7, (Vi o)), (9, (.string g)), (56, (Vi (c.length : Int))), (57, (Vi a))] = t ∧ (.blk f 84 [(sv h), (.bool e), .nilFunc, (.map (some b)), (sv ah)]) :: (.obj b (.map U ai)) :: (.row (sv ah) 67 6 ag.flatten) :: G = j ∧ lp3 (vH p1 p2 o g c e rc) cc a ad ac = some (r, s, p) ∧ MapR Ty.bool Value.string d U ad ∧ RowR fP d ag ac) BIG ?_ ?_
    ·refine Pu2<|Pu2<|Pu2<|?_
     have cP := (aq.mono C).mono D
     exact Sd ⟨_, by exact R7, 0, I, S, ae, Q, af, P, rfl, rfl, H, bF, cP⟩
    rintro cc _ dI _ ak ⟨a, U, ai, ad, ah, ac, ag, rfl, rfl, H, aX, aZ⟩
    obtain ⟨d6, L, rfl, cL, H⟩ := xt H
    unfold vH at H
    refine fc<|fa<|Ec Z<|fb<|fc<|?_
    refine fm rfl ?_ ?_
    ·intro aB
     obtain ⟨aB, H⟩ := It aB H
     refine ft ?_
     refine fz (fun t d j => ∃ (aR : Array MapEntry) (bm : Nat) (a7 : ad2) (bg : SV) (a3 : ad8) (bc : List (List Value)), [(0, (Vp f)), (1, (sv u)), (2, (sv w)), (7, (Vi o)), (9, (.string g)), (56, (Vi (c.length : Int))), (57, (Vi a))] = t ∧ (.blk f 84 [(sv h), (.bool e), .nilFunc, (.map (some b)), (sv bg)]) :: (.obj b (.map aR bm)) :: (.row (sv bg) 67 6 bc.flatten) :: G = j ∧ oi p1 p2 o g c a e L rc a7 a3 = some (r, s, p) ∧ MapR Ty.bool Value.string d aR a7 ∧ RowR fP d bc a3) ?_ ?_
     ·refine fA<|fc<|fa<|Em Z<|Ea Z<|fb<|fc<|fa<|Em Z<|Em Z<|Em Z<|Em Z<|?_
      obtain ⟨i, dD, dn, H⟩ := ir H
      refine Ow.shift (Pu2 (Sd ?_))
      refine Ow.shift (Pu2 (Sd ?_))
      refine Ow.shift (Pu2 (Sd ?_))
      have bz := bX.mono ak
      have bA := (b9.mono D).mono ak
      refine ff rfl (Ek Tryz.call59 Z (Ag f c h e ad b U ai ac ah ag p1 u a o i dD dn _ _ bz aX aZ bA) ?_)
      rintro _ _ _ - ⟨z, A, rfl, rfl, rfl, bB, bC⟩
      refine Em Z<|Ex Z<|Ex Z<|?_
      refine ff rfl (fC (cs := (fl (fw.mk (Op.mk 0 0 0 0 0 [] []) (Result.mk 0 0 0 false 0) 0 0) fB fB)) rfl rfl rfl rfl (fun y => ?_))
      refine ff rfl (Sa (fl i z A) Z .here Z ?_)
      refine Ea Z<|fb<|fc<|fc<|fa<|Em Z<|Eq Z (gi rfl)<|fb<|?_
      refine fm rfl ?_ ?_
      ·intro V
       have V := ix V
       have H := fX (btf V) H
       exact f9<|Pu3<|Pu3<|Pu3<|Re3<|Sd<|⟨_, by exact R7, U, ai, ad, ah, ac, ag, rfl, rfl, H, aX, aZ⟩
      ·intro V
       have V := iw V
       have H := ift V H
       refine ft ?_
       refine fz (fun t d j => ∃ (aS : Array MapEntry) (bn : Nat) (a8 : ad2) (bh : SV) (a4 : ad8) (bd : List (List Value)), [(0, (Vp f)), (1, (sv u)), (2, (sv w)), (7, (Vi o)), (9, (.string g)), (10, (Vi a)), (11, (Vp y)), (56, (Vi (c.length : Int))), (57, (Vi a))] = t ∧ (.blk f 84 [(sv h), (.bool e), .nilFunc, (.map (some b)), (sv bh)]) :: (.blk y 120 (fl i z A)) :: (.obj b (.map aS bn)) :: (.row (sv bh) 67 6 bd.flatten) :: G = j ∧ vF p1 p2 o g a c e i L rc a8 a4 = some (r, s, p) ∧ MapR Ty.bool Value.string d aS a8 ∧ RowR fP d bd a4) ?_ ?_
       ·refine fc<|fa<|EL 14 (fl i z A) Z (Rb0 Z)<|Em Z<|?_
        obtain ⟨aO, dp, H⟩ := bnd H
        have bY := (bD.mono D).mono ak
        refine ff rfl (Ek Tryz.call60 Z (CQ i z A p2 w aO dp _ _ bB bC bY) ?_)
        rintro _ dJ _ J ⟨bi, rfl, rfl, bZ⟩
        refine Eq Z (gg (T := fO) bZ rfl rfl)<|Em Z<|fb<|fA<|?_
        refine f7 (fun cd t d j => ∃ (ab : Int) (aj : Array MapEntry) (ay : Nat) (au : ad2) (aw : SV) (ar : ad8) (av : List (List Value)), [(0, (Vp f)), (1, (sv u)), (2, (sv w)), (7, (Vi o)), (9, (.string g)), (10, (Vi a)), (11, (Vp y)), (56, (Vi (c.length : Int))), (57, (Vi a)), (72, (sv bi)), (73, (Vi (aO.length : Int))), (74, (Vi ab))] = t ∧ (.blk f 84 [(sv h), (.bool e), .nilFunc, (.map (some b)), (sv aw)]) :: (.blk y 120 (fl i z A)) :: (.obj b (.map aj ay)) :: (.row (sv aw) 67 6 av.flatten) :: (.tok 38 5 [(sv bi)]) :: G = j ∧ lp3 (vG p1 p2 o g a c aO e i L rc) cd ab au ar = some (r, s, p) ∧ MapR Ty.bool Value.string d aj au ∧ RowR fP d av ar) BIG ?_ ?_
        ·refine Pu4<|Pu4<|Pu3<|Pu4<|?_
         have cQ := aX.mono J
         have cR := aZ.mono J
         exact Sd ⟨_, by exact R12, 0, U, ai, ad, ah, ac, ag, rfl, rfl, H, cQ, cR⟩
        rintro cd _ dK _ Y ⟨ab, aj, ay, au, aw, ar, av, rfl, rfl, H, bv, bw⟩
        obtain ⟨d7, dx, rfl, cM, H⟩ := xt H
        unfold vG at H
        refine fc<|fa<|Ec Z<|fb<|fc<|?_
        refine fm rfl ?_ ?_
        ·intro aC
         obtain ⟨aC, H⟩ := It aC H
         refine ft<|fc<|fA<|fc<|fa<|?_
         obtain ⟨B, ca, H⟩ := bnd H
         have b0 := bZ.mono Y
         obtain ⟨_, rfl, cJ⟩ := Slr.at b0 ca
         refine Eq Z (Qi (T := fO) b0 ca Z)<|EL 5 (fe B) Z (Rdc.k cJ rfl)<|?_
         refine ff rfl (fC (cs := (fe (Result.mk 0 0 0 false 0))) rfl rfl rfl rfl (fun dX => ?_))
         refine ff rfl (Sa (fe B) Z .here Z ?_)
         refine fb<|fc<|fa<|Em Z<|EF 0 Z<|EL 7 (fh i.op z A) Z (Rb2 Z)<|EL 5 (fe B) Z (Rb0 Z)<|?_
         obtain ⟨cl, dE, dq, H⟩ := ir H
         have cS := (bY.mono J).mono Y
         have cT := (bB.mono J).mono Y
         have cU := (bC.mono J).mono Y
         refine ff rfl (Ek Tryz.call61 Z (x5 p2 w i.op z A B cl dE dq _ _ cS cT cU) ?_)
         rintro _ cr _ aa ⟨dz, rfl, rfl, cV⟩
         refine Em Z<|Ex Z<|Ex Z<|Ea Z<|Ea Z<|fb<|?_
         refine fz (fun t d j => ∃ (bJ : Bool) (az : Array MapEntry) (aP : Nat) (a9 : ad2) (aM : SV) (a5 : ad8) (aK : List (List Value)), [(0, (Vp f)), (1, (sv u)), (2, (sv w)), (7, (Vi o)), (9, (.string g)), (10, (Vi a)), (11, (Vp y)), (56, (Vi (c.length : Int))), (57, (Vi a)), (72, (sv bi)), (73, (Vi (aO.length : Int))), (74, (Vi ab)), (96, (.bool bJ))] = t ∧ (.blk f 84 [(sv h), (.bool e), .nilFunc, (.map (some b)), (sv aM)]) :: (.blk y 120 (fl i z A)) :: (.obj b (.map az aP)) :: (.row (sv aM) 67 6 aK.flatten) :: (.tok 38 5 [(sv bi)]) :: G = j ∧ sF p1 p2 o g a c aO ab e i L dx rc bJ a9 a5 = some (r, s, p) ∧ MapR Ty.bool Value.string d az a9 ∧ RowR fP d aK a5) ?_ ?_
         ·refine fa<|Em Z<|Em Z<|?_
          refine Ee Z ?_ ?_
          ·intro bq
           have H := ift bq H
           refine Vm Z<|Vm Z<|Vm Z<|Vm Z<|VL 5 (fe B) Z (Rb0 Z)<|Vq Z (fH (cs := (fK (Done.mk a B))) rfl rfl rfl rfl rfl rfl)<|?_
           have bU : RowR fP cr [(fK (Done.mk a B))] [(Done.mk a B)] := RowR.cons rfl (RowR.nil)
           refine ib rfl rfl rfl rfl (gk (T := fP) (rows := [(fK (Done.mk a B))]) (l := [(Done.mk a B)]) rfl rfl rfl bU rfl rfl rfl rfl rfl rfl rfl rfl (fun dA => ?_))
           refine Ow.shift (Shift.settle (T := fP) .here bU rfl (fun dL al cW => Sd ?_))
           obtain ⟨cm, cn, co, dr, H⟩ := k7 H
           refine Ow.shift (Pu5 (Sd ?_))
           refine Ow.shift (Pu5 (Sd ?_))
           refine Ow.shift (Pu4 (Sd ?_))
           have cX := (((bz.mono J).mono Y).mono aa).mono al
           have cY := (bv.mono aa).mono al
           have cZ := (bw.mono aa).mono al
           have c0 := (((bA.mono J).mono Y).mono aa).mono al
           have c1 := cV.mono al
           have c2 := (((((bE.mono D).mono ak).mono J).mono Y).mono aa).mono al
           refine ib rfl rfl rfl rfl (Ek Tryz.call62 Z (x9 rc ih f c h e au b aj ay ar aw av p1 u cl dz [(Done.mk a B)] dA cm cn co dr _ _ cX cY cZ c0 c1 cW c2) ?_)
           rintro _ dM _ dZ ⟨dB, dy, cy, cv, rfl, rfl, c3, c4⟩
           exact Et Z<|fb<|Pu6<|Pu2<|Pu3<|Pu6<|Pu4<|Re5<|Re5<|Sd<|⟨_, by exact R13, cm, cy, cv, co, dB, cn, dy, rfl, rfl, H, c4, c3⟩
          ·intro bq
           have H := fX (btf bq) H
           refine Ez Z<|Ez Z<|Ez Z<|Ez Z<|Ez Z<|Ez Z<|Ez Z<|Ez Z<|Ef Z<|fb<|Pu5<|Pu5<|Pu5<|Pu5<|Pu5<|Re5<|?_
           have c5 := bv.mono aa
           have c6 := bw.mono aa
           exact Sd ⟨_, by exact R13, false, aj, ay, au, aw, ar, av, rfl, rfl, H, c5, c6⟩
         rintro _ dN _ d0 ⟨bJ, az, aP, a9, aM, a5, aK, rfl, rfl, H, bR, bT⟩
         unfold sF at H
         refine fm rfl ?_ ?_
         ·intro br
          have H := ift br H
          refine fc<|fa<|Ea Z<|fb<|fx<|?_
          obtain ⟨aV, aW, aU⟩ := jP H
          subst r s p
          refine ⟨(.inl rfl), [(.bool true)], ⟨(.bool true), _, rfl, rfl, rfl⟩, ?_⟩
          exact Pu2<|Pu3<|Pu2<|Re3<|Re3<|Sd<|⟨aM, aK, az, aP, rfl, rfl, bT, bR⟩
         ·intro br
          have H := fX (btf br) H
          exact ft<|fa<|Er (wI (ab + 1)) Z<|Em Z<|fb<|Pu4<|Pu4<|Pu4<|Pu4<|Pu4<|Sd<|⟨_, by exact R12, _, Nat.lt_succ_self _, (wI (ab + 1)), az, aP, a9, aM, a5, aK, rfl, rfl, (cM ▸ H), bR, bT⟩
        ·intro aC
         obtain ⟨aC, H⟩ := If aC H
         exact f9<|Pu3<|Pu3<|Pu3<|Pu3<|Re4<|Sd<|⟨_, by exact R9, aj, ay, au, aw, ar, av, rfl, rfl, H, bv, bw⟩
       rintro _ dO _ am ⟨aS, bn, a8, bh, a4, bd, rfl, rfl, H, cC, cH⟩
       unfold vF at H
       refine fc<|fa<|Em Z<|Eq Z (fD rfl)<|EF 0 Z<|El (sv h) Z (Rb0 Z)<|?_
       have b1 := bz.mono am
       refine Eq Z (gg (T := (Ty.sl fY)) b1 rfl rfl)<|Em Z<|fb<|fA<|?_
       refine f7 (fun ce t d j => ∃ (n : Int) (F : Array MapEntry) (R : Nat) (N : ad2) (E : SV) (M : ad8) (O : List (List Value)), [(0, (Vp f)), (1, (sv u)), (2, (sv w)), (7, (Vi o)), (9, (.string g)), (10, (Vi a)), (11, (Vp y)), (56, (Vi (c.length : Int))), (57, (Vi a)), (102, (Vi (c.length : Int))), (103, (Vi n))] = t ∧ (.blk f 84 [(sv h), (.bool e), .nilFunc, (.map (some b)), (sv E)]) :: (.blk y 120 (fl i z A)) :: (.obj b (.map F R)) :: (.row (sv E) 67 6 O.flatten) :: G = j ∧ lp3 (vE p1 p2 o g a c e i L rc) ce n N M = some (r, s, p) ∧ MapR Ty.bool Value.string d F N ∧ RowR fP d O M) BIG ?_ ?_
       ·exact Pu3<|Pu3<|Pu3<|Pu3<|Sd<|⟨_, by exact R11, 0, aS, bn, a8, bh, a4, bd, rfl, rfl, H, cC, cH⟩
       rintro ce _ ct _ an ⟨n, F, R, N, E, M, O, rfl, rfl, H, aY, a0⟩
       obtain ⟨d8, bG, rfl, cN, H⟩ := xt H
       unfold vE at H
       refine fc<|fa<|Ec Z<|fb<|fc<|?_
       refine fm rfl ?_ ?_
       ·intro aD
        obtain ⟨aD, H⟩ := It aD H
        refine ft ?_
        refine fz (fun t d j => ∃ (aT : Array MapEntry) (bo : Nat) (ba : ad2) (bj : SV) (a6 : ad8) (be : List (List Value)), [(0, (Vp f)), (1, (sv u)), (2, (sv w)), (7, (Vi o)), (9, (.string g)), (10, (Vi a)), (11, (Vp y)), (56, (Vi (c.length : Int))), (57, (Vi a)), (102, (Vi (c.length : Int))), (103, (Vi n))] = t ∧ (.blk f 84 [(sv h), (.bool e), .nilFunc, (.map (some b)), (sv bj)]) :: (.blk y 120 (fl i z A)) :: (.obj b (.map aT bo)) :: (.row (sv bj) 67 6 be.flatten) :: G = j ∧ oj p1 p2 o g a c n e i L bG rc ba a6 = some (r, s, p) ∧ MapR Ty.bool Value.string d aT ba ∧ RowR fP d be a6) ?_ ?_
        ·refine fA<|fc<|fa<|Em Z<|Ea Z<|fb<|fc<|fa<|Em Z<|Em Z<|Em Z<|Em Z<|?_
         obtain ⟨ax, dF, ds, H⟩ := ir H
         refine Ow.shift (Pu3 (Sd ?_))
         refine Ow.shift (Pu3 (Sd ?_))
         refine Ow.shift (Pu2 (Sd ?_))
         have b2 := b1.mono an
         have b3 := (bA.mono am).mono an
         refine ff rfl (Ek Tryz.call59 Z (Ag f c h e N b F R M E O p1 u n o ax dF ds _ _ b2 aY a0 b3) ?_)
         rintro _ _ _ - ⟨bk, bl, rfl, rfl, rfl, c7, c8⟩
         refine Em Z<|Ex Z<|Ex Z<|?_
         refine ff rfl (fC (cs := (fl (fw.mk (Op.mk 0 0 0 0 0 [] []) (Result.mk 0 0 0 false 0) 0 0) fB fB)) rfl rfl rfl rfl (fun bM => ?_))
         refine ff rfl (Sa (fl ax bk bl) Z .here Z ?_)
         refine Ea Z<|fb<|fc<|?_
         refine fz (fun t d j => ∃ (bK : Bool), [(0, (Vp f)), (1, (sv u)), (2, (sv w)), (7, (Vi o)), (9, (.string g)), (10, (Vi a)), (11, (Vp y)), (17, (Vi n)), (18, (Vp bM)), (56, (Vi (c.length : Int))), (57, (Vi a)), (102, (Vi (c.length : Int))), (103, (Vi n)), (120, (.bool bK))] = t ∧ ct = d ∧ (.blk f 84 [(sv h), (.bool e), .nilFunc, (.map (some b)), (sv E)]) :: (.blk bM 120 (fl ax bk bl)) :: (.blk y 120 (fl i z A)) :: (.obj b (.map F R)) :: (.row (sv E) 67 6 O.flatten) :: G = j ∧ sE p1 p2 o g a n c e M ax i N L bG rc bK = some (r, s, p)) ?_ ?_
         ·refine fa<|Em Z<|Eq Z (gi rfl)<|Em Z<|?_
          refine Ee Z ?_ ?_
          ·intro W
           have W := ix W
           have H := fX (btf W) H
           exact Ez Z<|Ez Z<|Ez Z<|Et Z<|fb<|Pu3<|Pu3<|Pu4<|Pu3<|Pu4<|Sd<|⟨_, by exact R14, true, rfl, rfl, rfl, H⟩
          ·intro W
           have W := iw W
           have H := ift W H
           exact Vm Z<|Vm Z<|Vc Z<|Ef Z<|fb<|Pu3<|Pu3<|Pu4<|Pu3<|Pu4<|Sd<|⟨_, by exact R14, (dcd (n = a)), rfl, rfl, rfl, H⟩
         rintro _ _ _ - ⟨bK, rfl, rfl, rfl, H⟩
         unfold sE at H
         refine fm rfl ?_ ?_
         ·intro bs
          have H := ift bs H
          exact f9<|Pu4<|Pu4<|Pu4<|Pu3<|Re4<|Sd<|⟨_, by exact R11, F, R, N, E, M, O, rfl, rfl, H, aY, a0⟩
         ·intro bs
          have H := fX (btf bs) H
          refine ft<|fc<|fa<|Em Z<|EL 14 (fl i z A) Z (Rb2 Z)<|EL 14 (fl ax bk bl) Z (Rb1 Z)<|?_
          obtain ⟨bL, dt, H⟩ := bnd H
          have b4 := (((bD.mono D).mono ak).mono am).mono an
          have c9 := (bB.mono am).mono an
          have da := (bC.mono am).mono an
          refine ff rfl (Ek Tryz.call63 Z (CU p2 w i z A ax bk bl bL dt _ _ b4 c9 da c7 c8) ?_)
          rintro _ dP _ ao ⟨ci, rfl, rfl, b5⟩
          refine Eq Z (gg (T := gy) b5 rfl rfl)<|Em Z<|fb<|fA<|?_
          refine f7 (fun cf t d j => ∃ (aH : Int) (aA : Array MapEntry) (aQ : Nat) (aJ : ad2) (aN : SV) (aI : ad8) (aL : List (List Value)), [(0, (Vp f)), (1, (sv u)), (2, (sv w)), (7, (Vi o)), (9, (.string g)), (10, (Vi a)), (11, (Vp y)), (17, (Vi n)), (56, (Vi (c.length : Int))), (57, (Vi a)), (102, (Vi (c.length : Int))), (103, (Vi n)), (124, (sv ci)), (125, (Vi (bL.length : Int))), (126, (Vi aH))] = t ∧ (.blk f 84 [(sv h), (.bool e), .nilFunc, (.map (some b)), (sv aN)]) :: (.blk y 120 (fl i z A)) :: (.obj b (.map aA aQ)) :: (.row (sv aN) 67 6 aL.flatten) :: (.tok 131 10 [(sv ci)]) :: G = j ∧ lp3 (vD p1 p2 o g a n c bL e i L bG rc) cf aH aJ aI = some (r, s, p) ∧ MapR Ty.bool Value.string d aA aJ ∧ RowR fP d aL aI) BIG ?_ ?_
          ·refine Pu5<|Pu5<|Pu5<|Pu4<|Re5<|?_
           have db := aY.mono ao
           have dc := a0.mono ao
           exact Sd ⟨_, by exact R15, 0, F, R, N, E, M, O, rfl, rfl, H, db, dc⟩
          rintro cf _ cu _ aF ⟨aH, aA, aQ, aJ, aN, aI, aL, rfl, rfl, H, bS, bV⟩
          obtain ⟨d9, d5, rfl, cO, H⟩ := xt H
          unfold vD at H
          refine fc<|fa<|Ec Z<|fb<|fc<|?_
          refine fm rfl ?_ ?_
          ·intro aE
           obtain ⟨aE, H⟩ := It aE H
           refine ft<|fc<|fA<|fc<|fa<|?_
           obtain ⟨x, cb, H⟩ := bnd H
           have b6 := b5.mono aF
           obtain ⟨_, rfl, cK⟩ := Slr.at b6 cb
           refine Eq Z (Qi (T := gy) b6 cb Z)<|EL 10 (ie x) Z (Rdc.k cK rfl)<|?_
           refine ff rfl (fC (cs := (ie (gq.mk (Result.mk 0 0 0 false 0) (Result.mk 0 0 0 false 0)))) rfl rfl rfl rfl (fun dY => ?_))
           refine ff rfl (Sa (ie x) Z .here Z ?_)
           refine fb<|fc<|fa<|Em Z<|Em Z<|Em Z<|Em Z<|Eq Z (ic (q := 0) (m := 0) rfl rfl rfl rfl rfl (by decide) rfl (by decide))<|EL 5 (fe x.x0) Z (Rb0 Z)<|Eq Z (fH (cs := (fK (Done.mk a x.x0))) rfl rfl rfl rfl rfl rfl)<|Em Z<|Eq Z (ic (q := 1) (m := 5) rfl rfl rfl rfl rfl (by decide) rfl (by decide))<|EL 5 (fe x.x1) Z (Rb0 Z)<|Eq Z (fH (cs := (fK (Done.mk n x.x1))) rfl rfl rfl rfl rfl rfl)<|?_
           have bW : RowR fP cu [(fK (Done.mk a x.x0)), (fK (Done.mk n x.x1))] [(Done.mk a x.x0), (Done.mk n x.x1)] := RowR.cons rfl (RowR.cons rfl (RowR.nil))
           refine ff rfl (gk (T := fP) (rows := [(fK (Done.mk a x.x0)), (fK (Done.mk n x.x1))]) (l := [(Done.mk a x.x0), (Done.mk n x.x1)]) rfl rfl rfl bW rfl rfl rfl rfl rfl rfl rfl rfl (fun dC => ?_))
           refine Ow.shift (Shift.settle (T := fP) .here bW rfl (fun dQ ap dd => Sd ?_))
           obtain ⟨dG, cp, cq, du, H⟩ := k7 H
           refine Ow.shift (Pu5 (Sd ?_))
           refine Ow.shift (Pu5 (Sd ?_))
           refine Ow.shift (Pu4 (Sd ?_))
           have de := ((b2.mono ao).mono aF).mono ap
           have df := bS.mono ap
           have dg := bV.mono ap
           have dh := ((b3.mono ao).mono aF).mono ap
           have di := ((b4.mono ao).mono aF).mono ap
           have dj := ((((((bE.mono D).mono ak).mono am).mono an).mono ao).mono aF).mono ap
           refine ff rfl (Ek Tryz.call62 Z (x9 rc ih f c h e aJ b aA aQ aI aN aL p1 u p2 w [(Done.mk a x.x0), (Done.mk n x.x1)] dC dG cp cq du _ _ de df dg dh di dd dj) ?_)
           rintro _ dR _ d1 ⟨cj, cg, bP, bN, rfl, rfl, b7, b8⟩
           refine fb ?_
           refine fm rfl ?_ ?_
           ·intro bt
            have H := ift bt H
            refine fc<|fa<|Ea Z<|fb<|fx<|?_
            obtain ⟨aV, aW, aU⟩ := jP H
            subst r s p
            refine ⟨(.inl rfl), [(.bool true)], ⟨(.bool true), _, rfl, rfl, rfl⟩, ?_⟩
            exact Pu2<|Pu2<|Pu2<|Re3<|Re3<|Re3<|Re3<|Sd<|⟨cj, cg, bP, bN, rfl, rfl, b7, b8⟩
           ·intro bt
            have H := fX (btf bt) H
            exact ft<|fa<|Er (wI (aH + 1)) Z<|Em Z<|fb<|Pu6<|Pu2<|Pu3<|Pu6<|Pu4<|Re5<|Re5<|Sd<|⟨_, by exact R15, _, Nat.lt_succ_self _, (wI (aH + 1)), bP, bN, cq, cj, cp, cg, rfl, rfl, (cO ▸ H), b8, b7⟩
          ·intro aE
           obtain ⟨aE, H⟩ := If aE H
           exact f9<|Pu3<|Pu3<|Pu3<|Pu3<|Re4<|Sd<|⟨_, by exact R11, aA, aQ, aJ, aN, aI, aL, rfl, rfl, H, bS, bV⟩
        rintro _ dS _ d2 ⟨aT, bo, ba, bj, a6, be, rfl, rfl, H, cD, cI⟩
        unfold oj at H
        exact fa<|Er (wI (n + 1)) Z<|Em Z<|fb<|Pu3<|Pu3<|Pu3<|Pu3<|Sd<|⟨_, by exact R11, _, Nat.lt_succ_self _, (wI (n + 1)), aT, bo, ba, bj, a6, be, rfl, rfl, (cN ▸ H), cD, cI⟩
       ·intro aD
        obtain ⟨aD, H⟩ := If aD H
        exact f9<|Pu3<|Pu3<|Pu2<|Re3<|Sd<|⟨_, by exact R7, F, R, N, E, M, O, rfl, rfl, H, aY, a0⟩
     rintro _ dT _ d3 ⟨aR, bm, a7, bg, a3, bc, rfl, rfl, H, cB, cG⟩
     unfold oi at H
     exact fa<|Er (wI (a + 1)) Z<|Em Z<|fb<|Pu2<|Pu2<|Pu2<|Sd<|⟨_, by exact R7, _, Nat.lt_succ_self _, (wI (a + 1)), aR, bm, a7, bg, a3, bc, rfl, rfl, (cL ▸ H), cB, cG⟩
    ·intro aB
     obtain ⟨aB, H⟩ := If aB H
     exact f9<|Pu2<|Pu2<|Pu2<|Sd<|⟨_, by exact R2, U, ai, ad, ah, ac, ag, rfl, rfl, H, aX, aZ⟩
   rintro _ dU _ d4 ⟨bp, bO, bI, bf, bH, bb, rfl, rfl, H, cA, cF⟩
   unfold vC at H
   refine fc<|fa<|Em Z<|Eq Z (fD rfl)<|EF 3 Z<|El (.map (some b)) Z (Rb0 Z)<|Em Z<|?_
   refine ff rfl (BW (T := Ty.bool) (kv := Value.string) (k := g) (x1 := true) (KeyK.str rfl) cA Mb1 rfl rfl rfl rfl rfl (fun cz cw cE => ⟨_, (.there .here), ?_⟩))
   refine fb<|fc<|fa<|Ea Z<|fb<|fx<|?_
   obtain ⟨aV, aW, aU⟩ := jP H
   subst r s p
   refine ⟨(.inl rfl), [(.bool false)], ⟨(.bool false), _, rfl, rfl, rfl⟩, ?_⟩
   exact Pu1<|Pu2<|Pu2<|Sd<|⟨bf, bb, cz, cw, rfl, rfl, cF, cE⟩
theorem xj (p0 : fM) (c : SV) (d : SV) (p1 : ae3) (C : SV) (p2 : ad4) (D : SV) (f : ad8) (g : Bool) (H : sG p0 p1 p2 = some (f, g)) (K : Kp) (G : List Ent) (L : Slr Ty.i64 K (sv c) p0.capacities) (M : Slr Ty.u64 K (sv d) p0.starts) (N : Slr (Ty.sl gC) K (sv C) p1) (ao : Slr f4 K (sv D) p2) (hT : mO K) :
  Fc Tryz.prog 14 #[(.agg (fp p0 c d).toArray), (sv C), (sv D)] K (G) (fun v h u => ∃ (V : SV) (U : List (List Value)), v = (.tuple #[(sv V), (.bool g)]) ∧ (.row (sv V) 67 6 U.flatten) :: G = u ∧ RowR fP h U f) := by
 refine fN Tryz.func14 rfl Tryz.ntmps14 Tryz.results14 rfl ?_
 unfold sG at H
 refine fc<|fa<|?_
 refine ff rfl (fR (cs := (fp p0 c d)) rfl rfl rfl (fun a2 => ?_))
 refine Ea Z<|Ea Z<|fb<|fc<|fa<|Em Z<|Em Z<|?_
 obtain ⟨o, aW, E, aN, H⟩ := k7 H
 refine ff rfl (Ek Tryz.call28 Z (CC p1 C p2 D o aW E aN _ _ N ao) ?_)
 rintro _ aX _ a ⟨i, n, e, J, F, rfl, rfl, O, P⟩
 refine Ea Z<|fb<|fc<|fa<|Em Z<|Eq Z (fD rfl)<|EF 1 Z<|?_
 refine ff rfl (So [(.bool true)] [(sv n), (.bool true), .nilFunc, (.map (some e)), (sv fB)] Z (.there .here) Z ?_)
 refine fb<|fc<|?_
 refine fz (fun ad h u => ∃ (B : Bool) (w : Array MapEntry) (I : Nat) (A : ad2) (b : SV) (z : ad8) (m : List (List Value)), [(8, (Vp i)), (22, (.bool B))] = ad ∧ (.blk i 84 [(sv n), (.bool true), .nilFunc, (.map (some e)), (sv b)]) :: (.obj e (.map w I)) :: (.row (sv b) 67 6 m.flatten) :: G = u ∧ vI o B A z = some (f, g) ∧ MapR Ty.bool Value.string h w A ∧ RowR fP h m z) ?_ ?_
 ·obtain ⟨W, Q, H⟩ := bnd H
  obtain ⟨p, R, H⟩ := bnd H
  obtain ⟨q, s, t, S, H⟩ := k7 H
  refine fq _ rfl (Ic Mb2 In0)<|Jm 0 Z<|Jm 1 Z<|?_
  have ap := N.mono a
  refine Jq 2 Z (gg (T := (Ty.sl gC)) ap rfl rfl)<|JL 4 3 (fp p0 c d) Z (Rb0 Z)<|?_
  refine gY 3 5 (by kernel_rfl) ?_ ?_
  ·refine id (Jy Z ?_)
   refine jx (T := Ty.i64) (r := [(Vi 0)]) rfl rfl rfl Q rfl rfl rfl rfl rfl rfl rfl rfl rfl rfl (fun aQ a9 aj a7 => ⟨(Ic Mb3 In0), ?_⟩)
   refine Ao 5 Z ?_
   have aq := L.mono a
   have ar := M.mono a
   refine Ek Tryz.call30 Z (yj p0 c d p R _ _ aq ar) ?_
   rintro _ aY _ j ⟨aR, rfl, rfl, au⟩
   refine ⟨(Ic Mb4 In0), ?_⟩
   refine Ao 6 Z ?_
   have aw := aj.mono j
   refine OpW.shift (Shift.settle (T := Ty.i64) (.there .here) aw rfl (fun X k av => Sd ?_))
   have ak : RowR fP X [] [] := RowR.nil
   refine OpW.shift (Shift.nilRow 67 6 (Sd ?_))
   refine OpW.shift (Pu3 (Sd ?_))
   refine OpW.shift (Pu4 (Sd ?_))
   have ax := (O.mono j).mono k
   have ay := (P.mono j).mono k
   have az := au.mono k
   have aA := ((hT.mono a).mono j).mono k
   refine Ek Tryz.call29 Z (zY 100 i o n true E e J F ([] : ad8) fB ([] : List (List Value)) W aQ p aR q s t S _ _ ax ay ak av az aA) ?_
   rintro _ aZ _ a3 ⟨aS, aO, ae, ab, rfl, rfl, aB, aC⟩
   refine ⟨(Ic Mb5 In0), ?_⟩
   exact Jq 7 Z (gi rfl)<|Ad<|Pu1<|Pu2<|Pu2<|Re3<|Re3<|Re3<|Sd<|⟨_, by exact R2, (!(q)), ae, ab, t, aS, s, aO, rfl, rfl, H, aC, aB⟩
  ·refine id (Jy Z ?_)
   have aD := L.mono a
   have aE := M.mono a
   refine Ek Tryz.call30 Z (yj p0 c d p R _ _ aD aE) ?_
   rintro _ a0 _ y ⟨aT, rfl, rfl, aF⟩
   refine ⟨(Ic Mb3 In0), ?_⟩
   refine Ao 3 Z ?_
   refine jx (T := Ty.i64) (r := [(Vi 0)]) rfl rfl rfl Q rfl rfl rfl rfl rfl rfl rfl rfl rfl rfl (fun aU ba al a8 => ⟨(Ic Mb4 In0), ?_⟩)
   refine Ao 6 Z ?_
   refine OpW.shift (Shift.settle (T := Ty.i64) .here al rfl (fun Y l aG => Sd ?_))
   have am : RowR fP Y [] [] := RowR.nil
   refine OpW.shift (Shift.nilRow 67 6 (Sd ?_))
   refine OpW.shift (Pu3 (Sd ?_))
   refine OpW.shift (Pu4 (Sd ?_))
   have aH := (O.mono y).mono l
   have aI := (P.mono y).mono l
   have aJ := aF.mono l
   have aK := ((hT.mono a).mono y).mono l
   refine Ek Tryz.call29 Z (zY 100 i o n true E e J F ([] : ad8) fB ([] : List (List Value)) W aU p aT q s t S _ _ aH aI am aG aJ aK) ?_
   rintro _ a1 _ a4 ⟨aV, aP, af, ac, rfl, rfl, aL, aM⟩
   refine ⟨(Ic Mb5 In0), ?_⟩
   exact Jq 7 Z (gi rfl)<|Ad<|Pu1<|Pu2<|Pu2<|Re3<|Re3<|Re3<|Sd<|⟨_, by exact R2, (!(q)), af, ac, t, aV, s, aP, rfl, rfl, H, aM, aL⟩
 rintro _ aa _ a5 ⟨B, w, I, A, b, z, m, rfl, rfl, H, a6, ai⟩
 unfold vI at H
 refine fm rfl ?_ ?_
 ·intro x
  have H := ift x H
  refine fc<|fa<|Ea Z<|Ea Z<|fb<|fx<|?_
  obtain ⟨ag, ah⟩ := hY H
  subst f g
  refine ⟨(.inl rfl), [(sv fB), (.bool false)], ⟨(sv fB), _, rfl, rfl, ⟨(.bool false), _, rfl, rfl, rfl⟩⟩, ?_⟩
  have an : RowR fP aa [] [] := RowR.nil
  exact Shift.nilRow 67 6<|Re1<|Re1<|Re1<|Sd<|⟨fB, ([] : List (List Value)), rfl, rfl, an⟩
 ·intro x
  have H := fX (btf x) H
  refine ft<|fc<|fa<|Em Z<|Eq Z (fD rfl)<|EF 4 Z<|El (sv b) Z (Rb0 Z)<|Ea Z<|Ea Z<|fb<|fx<|?_
  obtain ⟨ag, ah⟩ := hY H
  subst f g
  refine ⟨(.inl rfl), [(sv b), (.bool true)], ⟨(sv b), _, rfl, rfl, ⟨(.bool true), _, rfl, rfl, rfl⟩⟩, ?_⟩
  exact Pu2<|Re1<|Re1<|Sd<|⟨b, m, rfl, rfl, ai⟩
theorem zZ (p0 : fM) (a : SV) (b : SV) (p1 : ae3) (c : SV) (p2 : ad4) (d : SV) (e : Bool) (H : zU p0 p1 p2 = some e) (K : Kp) (G : List Ent) (g : Slr Ty.i64 K (sv a) p0.capacities) (h : Slr Ty.u64 K (sv b) p0.starts) (i : Slr (Ty.sl gC) K (sv c) p1) (j : Slr f4 K (sv d) p2) (hT : mO K) :
  Fc Tryz.prog 9 #[(.agg (fp p0 a b).toArray), (sv c), (sv d)] K (G) (fun v l f => v = (.bool e) ∧ G = f) := by
 refine fN Tryz.func9 rfl Tryz.ntmps9 Tryz.results9 rfl ?_
 unfold zU at H
 refine fc<|fa<|?_
 refine ff rfl (fR (cs := (fp p0 a b)) rfl rfl rfl (fun n => ?_))
 refine Ea Z<|fb<|fc<|fa<|EL 3 (fp p0 a b) Z (Rb0 Z)<|Em Z<|Em Z<|?_
 obtain ⟨x11, x12, k, H⟩ := ir H
 refine ff rfl (Ek Tryz.call14 Z (xj p0 a b p1 c p2 d x11 x12 k _ _ g h i j hT) ?_)
 rintro _ m _ p ⟨s, r, rfl, rfl, q⟩
 refine Em Z<|Ex Z<|Ex Z<|Ea Z<|Ea Z<|fb<|fc<|fa<|Em Z<|Ea Z<|fb<|fx<|?_
 obtain o := gn H
 subst e
 refine ⟨(.inl rfl), [(.bool x12)], ⟨(.bool x12), _, rfl, rfl, rfl⟩, ?_⟩
 exact Re0<|Re0<|Sd<|⟨rfl, rfl⟩
end Go.Hx
namespace Go.Hx
open Go Go.Proofs
set_option maxRecDepth 10000
set_option maxHeartbeats 1000000
theorem Dq  (m : Bool) (H : vJ = some m) (K : Kp) (G : List Ent) (hT : mO K) :
  Fc Tryz.prog 7 #[] K (G) (fun v U n => v = (.bool m) ∧ G = n) := by
 refine fN Tryz.func7 rfl Tryz.ntmps7 Tryz.results7 rfl ?_
 unfold vJ at H
 refine fc<|fa<|Ea Z<|fb<|fc<|fa<|?_
 have B : RowR Ty.i64 K [[(Vi 1)]] [1] := RowR.cons rfl (RowR.nil)
 refine ff rfl (gk (T := Ty.i64) (rows := [[(Vi 1)]]) (l := [1]) rfl rfl rfl B rfl rfl rfl rfl rfl rfl rfl rfl (fun a => ?_))
 have C : RowR Ty.u64 K [[(.int .u64 0)]] [0] := RowR.cons rfl (RowR.nil)
 refine ff rfl (gk (T := Ty.u64) (rows := [[(.int .u64 0)]]) (l := [0]) rfl rfl rfl C rfl rfl rfl rfl rfl rfl rfl rfl (fun b => ?_))
 refine Ow.shift (Shift.settle (T := Ty.i64) (.there .here) B rfl (fun aG w am => Sd ?_))
 have ao := C.mono w
 refine Ow.shift (Shift.settle (T := Ty.u64) .here ao rfl (fun u x an => Sd ?_))
 refine Eq Z (fH (cs := (fp (fM.mk [1] [0] 2) a b)) rfl rfl rfl rfl rfl rfl) ?_
 refine ff rfl (fC (cs := (fp (fM.mk [] [] 0) fB fB)) rfl rfl rfl rfl (fun aJ => ?_))
 refine ff rfl (Sa (fp (fM.mk [1] [0] 2) a b) Z .here Z ?_)
 refine fb<|fc<|fa<|Eq Z (fH (cs := (fh (Op.mk 1 0 0 5 0 [] []) fB fB)) rfl rfl rfl rfl rfl rfl)<|?_
 have D : RowR gC u [(fh (Op.mk 1 0 0 5 0 [] []) fB fB)] [(Op.mk 1 0 0 5 0 [] [])] := RowR.cons ⟨fB, fB, rfl, (Slr.nil fW _), (Slr.nil Ty.i64 _)⟩ (RowR.nil)
 refine ff rfl (gk (T := gC) (rows := [(fh (Op.mk 1 0 0 5 0 [] []) fB fB)]) (l := [(Op.mk 1 0 0 5 0 [] [])]) rfl rfl rfl D rfl rfl rfl rfl rfl rfl rfl rfl (fun s => ?_))
 refine Eq Z (fH (cs := (fh (Op.mk 2 0 0 0 0 [] []) fB fB)) rfl rfl rfl rfl rfl rfl) ?_
 have E : RowR gC u [(fh (Op.mk 2 0 0 0 0 [] []) fB fB)] [(Op.mk 2 0 0 0 0 [] [])] := RowR.cons ⟨fB, fB, rfl, (Slr.nil fW _), (Slr.nil Ty.i64 _)⟩ (RowR.nil)
 refine ff rfl (gk (T := gC) (rows := [(fh (Op.mk 2 0 0 0 0 [] []) fB fB)]) (l := [(Op.mk 2 0 0 0 0 [] [])]) rfl rfl rfl E rfl rfl rfl rfl rfl rfl rfl rfl (fun t => ?_))
 refine Ow.shift (Shift.settle (T := gC) (.there .here) D rfl (fun aH j ap => Sd ?_))
 have Y := E.mono j
 refine Ow.shift (Shift.settle (T := gC) .here Y rfl (fun o k X => Sd ?_))
 have aa := ap.mono k
 have y : RowR (Ty.sl gC) o [[(sv s)], [(sv t)]] [[(Op.mk 1 0 0 5 0 [] [])], [(Op.mk 2 0 0 0 0 [] [])]] := RowR.cons ⟨s, rfl, aa⟩ (RowR.cons ⟨t, rfl, X⟩ (RowR.nil))
 refine ff rfl (gk (T := (Ty.sl gC)) (rows := [[(sv s)], [(sv t)]]) (l := [[(Op.mk 1 0 0 5 0 [] [])], [(Op.mk 2 0 0 0 0 [] [])]]) rfl rfl rfl y rfl rfl rfl rfl rfl rfl rfl rfl (fun r => ?_))
 refine Ea Z<|fb<|fc<|fa<|Eq Z (fH (cs := (fe (Result.mk 2 (-1) 5 true 0))) rfl rfl rfl rfl rfl rfl)<|?_
 refine ff rfl (fC (cs := (fe (Result.mk 0 0 0 false 0))) rfl rfl rfl rfl (fun aI => ?_))
 refine ff rfl (Sa (fe (Result.mk 2 (-1) 5 true 0)) Z .here Z ?_)
 refine fb<|fc<|fa<|Eq Z (fH (cs := (fZ (Event.mk 1 0 false (Result.mk 0 0 0 false 0)))) rfl rfl rfl rfl rfl rfl)<|EL 5 (fe (Result.mk 2 (-1) 5 true 0)) Z (Rb0 Z)<|Eq Z (fH (cs := (fZ (Event.mk 1 0 true (Result.mk 2 (-1) 5 true 0)))) rfl rfl rfl rfl rfl rfl)<|Eq Z (fH (cs := (fZ (Event.mk 0 0 false (Result.mk 0 0 0 false 0)))) rfl rfl rfl rfl rfl rfl)<|?_
 have z : RowR f4 o [(fZ (Event.mk 1 0 false (Result.mk 0 0 0 false 0))), (fZ (Event.mk 1 0 true (Result.mk 2 (-1) 5 true 0))), (fZ (Event.mk 0 0 false (Result.mk 0 0 0 false 0)))] [(Event.mk 1 0 false (Result.mk 0 0 0 false 0)), (Event.mk 1 0 true (Result.mk 2 (-1) 5 true 0)), (Event.mk 0 0 false (Result.mk 0 0 0 false 0))] := RowR.cons rfl (RowR.cons rfl (RowR.cons rfl (RowR.nil)))
 refine ff rfl (gk (T := f4) (rows := [(fZ (Event.mk 1 0 false (Result.mk 0 0 0 false 0))), (fZ (Event.mk 1 0 true (Result.mk 2 (-1) 5 true 0))), (fZ (Event.mk 0 0 false (Result.mk 0 0 0 false 0)))]) (l := [(Event.mk 1 0 false (Result.mk 0 0 0 false 0)), (Event.mk 1 0 true (Result.mk 2 (-1) 5 true 0)), (Event.mk 0 0 false (Result.mk 0 0 0 false 0))]) rfl rfl rfl z rfl rfl rfl rfl rfl rfl rfl rfl (fun av => ?_))
 refine Ea Z<|fb<|fc<|fa<|Eq Z (fH (cs := (fZ (Event.mk 0 0 false (Result.mk 0 0 0 false 0)))) rfl rfl rfl rfl rfl rfl)<|Eq Z (fH (cs := (fZ (Event.mk 1 0 false (Result.mk 0 0 0 false 0)))) rfl rfl rfl rfl rfl rfl)<|EL 5 (fe (Result.mk 2 (-1) 5 true 0)) Z (Rb1 Z)<|Eq Z (fH (cs := (fZ (Event.mk 1 0 true (Result.mk 2 (-1) 5 true 0)))) rfl rfl rfl rfl rfl rfl)<|?_
 have A : RowR f4 o [(fZ (Event.mk 0 0 false (Result.mk 0 0 0 false 0))), (fZ (Event.mk 1 0 false (Result.mk 0 0 0 false 0))), (fZ (Event.mk 1 0 true (Result.mk 2 (-1) 5 true 0)))] [(Event.mk 0 0 false (Result.mk 0 0 0 false 0)), (Event.mk 1 0 false (Result.mk 0 0 0 false 0)), (Event.mk 1 0 true (Result.mk 2 (-1) 5 true 0))] := RowR.cons rfl (RowR.cons rfl (RowR.cons rfl (RowR.nil)))
 refine ff rfl (gk (T := f4) (rows := [(fZ (Event.mk 0 0 false (Result.mk 0 0 0 false 0))), (fZ (Event.mk 1 0 false (Result.mk 0 0 0 false 0))), (fZ (Event.mk 1 0 true (Result.mk 2 (-1) 5 true 0)))]) (l := [(Event.mk 0 0 false (Result.mk 0 0 0 false 0)), (Event.mk 1 0 false (Result.mk 0 0 0 false 0)), (Event.mk 1 0 true (Result.mk 2 (-1) 5 true 0))]) rfl rfl rfl A rfl rfl rfl rfl rfl rfl rfl rfl (fun R => ?_))
 refine Ea Z<|fb<|fc<|fa<|EL 3 (fp (fM.mk [1] [0] 2) a b) Z (Rb6 Z)<|Em Z<|Em Z<|?_
 refine Ow.shift (Shift.settle (T := (Ty.sl gC)) (.there (.there (.there .here))) y rfl (fun az g ab => Sd ?_))
 have ac := A.mono g
 refine Ow.shift (Shift.settle (T := f4) .here ac rfl (fun aA h F => Sd ?_))
 obtain ⟨S, aw, aq, H⟩ := ir H
 have I := ((((am.mono x).mono j).mono k).mono g).mono h
 have J := (((an.mono j).mono k).mono g).mono h
 have L := ab.mono h
 have M := (((((hT.mono w).mono x).mono j).mono k).mono g).mono h
 refine ff rfl (Ek Tryz.call14 Z (xj (fM.mk [1] [0] 2) a b [[(Op.mk 1 0 0 5 0 [] [])], [(Op.mk 2 0 0 0 0 [] [])]] r [(Event.mk 0 0 false (Result.mk 0 0 0 false 0)), (Event.mk 1 0 false (Result.mk 0 0 0 false 0)), (Event.mk 1 0 true (Result.mk 2 (-1) 5 true 0))] R S aw aq _ _ I J L F M) ?_)
 rintro _ aB _ d ⟨aN, aM, rfl, rfl, ad⟩
 refine Em Z<|Ex Z<|Ex Z<|Ea Z<|Ea Z<|fb<|?_
 refine fz (fun V U n => ∃ (i : Bool), [(0, (.bool i))] = V ∧ G = n ∧ ol i = some m) ?_ ?_
 ·refine fa<|EL 3 (fp (fM.mk [1] [0] 2) a b) Z (Rb7 Z)<|Em Z<|Em Z<|?_
  have af := ((z.mono g).mono h).mono d
  refine Ow.shift (Shift.settle (T := f4) (.there (.there .here)) af rfl (fun aC e ae => Sd ?_))
  obtain ⟨ax, ar, H⟩ := bnd H
  have N := (I.mono d).mono e
  have O := (J.mono d).mono e
  have P := (L.mono d).mono e
  have Q := (M.mono d).mono e
  refine ff rfl (Ek Tryz.call9 Z (zZ (fM.mk [1] [0] 2) a b [[(Op.mk 1 0 0 5 0 [] [])], [(Op.mk 2 0 0 0 0 [] [])]] r [(Event.mk 1 0 false (Result.mk 0 0 0 false 0)), (Event.mk 1 0 true (Result.mk 2 (-1) 5 true 0)), (Event.mk 0 0 false (Result.mk 0 0 0 false 0))] av ax ar _ _ N O P ae Q) ?_)
  rintro _ aD _ f ⟨rfl, rfl⟩
  refine Eq Z (gi rfl)<|Em Z<|?_
  refine Ee Z ?_ ?_
  ·intro c
   have c := ix c
   have H := fX (btf c) H
   refine VL 3 (fp (fM.mk [1] [0] 2) a b) Z (Rb7 Z)<|Vm Z<|Vm Z<|?_
   obtain ⟨ay, au, H⟩ := bnd H
   have ag := N.mono f
   have ah := O.mono f
   have ai := P.mono f
   have aj := ((F.mono d).mono e).mono f
   have ak := Q.mono f
   refine ib rfl rfl rfl rfl (Ek Tryz.call9 Z (zZ (fM.mk [1] [0] 2) a b [[(Op.mk 1 0 0 5 0 [] [])], [(Op.mk 2 0 0 0 0 [] [])]] r [(Event.mk 0 0 false (Result.mk 0 0 0 false 0)), (Event.mk 1 0 false (Result.mk 0 0 0 false 0)), (Event.mk 1 0 true (Result.mk 2 (-1) 5 true 0))] R ay au _ _ ag ah ai aj ak) ?_)
   rintro _ aE _ W ⟨rfl, rfl⟩
   refine Et Z<|Em Z<|?_
   refine Ee Z ?_ ?_
   ·intro p
    have H := ift p H
    refine Vm Z<|Et Z<|Em Z<|?_
    refine Ee Z ?_ ?_
    ·intro q
     have H := ift q H
     refine Vm Z ?_
     have al := ((ad.mono e).mono f).mono W
     exact Vq Z (ln (T := fP) Mb0 al rfl rfl rfl)<|Vc Z<|Et Z<|Ea Z<|fb<|Re0<|Re0<|Re0<|Re0<|Re0<|Re0<|Re0<|Re0<|Re0<|Re0<|Sd<|⟨_, by exact R1, (dcd ((S.length : Int) = 2)), rfl, rfl, H⟩
    ·intro q
     have H := fX (btf q) H
     exact Ez Z<|Ez Z<|Ez Z<|Ef Z<|Ea Z<|fb<|Re0<|Re0<|Re0<|Re0<|Re0<|Re0<|Re0<|Re0<|Re0<|Re0<|Sd<|⟨_, by exact R1, false, rfl, rfl, H⟩
   ·intro p
    have H := fX (btf p) H
    exact Ez Z<|Ef Z<|Em Z<|Ez Z<|Ez Z<|Ez Z<|Ef Z<|Ea Z<|fb<|Re0<|Re0<|Re0<|Re0<|Re0<|Re0<|Re0<|Re0<|Re0<|Re0<|Sd<|⟨_, by exact R1, false, rfl, rfl, H⟩
  ·intro c
   have c := iw c
   have H := ift c H
   refine Ez Z<|Ez Z<|Ez Z<|Ez Z<|Ef Z<|Em Z<|Ez Z<|Ef Z<|Em Z<|Ez Z<|Ez Z<|Ez Z<|Ef Z<|Ea Z<|fb<|Re0<|Re0<|Re0<|Re0<|Re0<|Re0<|Re0<|?_
   exact Re0<|Re0<|Re0<|Sd<|⟨_, by exact R1, false, rfl, rfl, H⟩
 rintro _ aF _ aL ⟨i, rfl, rfl, H⟩
 unfold ol at H
 refine fx ?_
 obtain aK := gn H
 subst m
 refine ⟨(.inl rfl), [(.bool i)], ⟨(.bool i), _, rfl, rfl, rfl⟩, ?_⟩
 exact Sd ⟨rfl, rfl⟩
end Go.Hx
