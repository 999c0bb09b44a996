
import Derived.Test.YtcopfjjpiobclaaGreatDoorXSM
import Derived.Test.YtcopfjjpiobclaaGreatDoorXSWScript2
import Derived.Test.YtcopfjjpiobclaaGreatDoorXSWDraw
set_option linter.unusedVariables false
set_option linter.unusedSimpArgs false
namespace Go.Hx
open Go Go.Proofs
set_option maxRecDepth 10000
set_option maxHeartbeats 1000000
theorem ai0  (l : Bool) (H : acz = some l) (K : Kp) (G : List Ent) (hT : TabK K) :
  Fc Tryz.prog 8 #[] K (G) (fun v q m => v = (.bool l) ∧ G = m) := by
 refine XM Tryz.func8 Z Tryz.ntmps8 Tryz.results8 Z ?_
 unfold acz at H
 refine Xd<|W9<|Ea Z<|Xa<|Xd<|W9<|?_
 obtain ⟨j, M, N, I, H⟩ := YD H
 refine Xh Z (Ek Tryz.call13 Z (akj (⟨#[99, 104, 97, 110, 110, 101, 108, 32, 49, 32, 48, 10, 116, 104, 114, 101, 97, 100, 10, 32, 32, 115, 101, 110, 100, 32, 48, 32, 53, 10, 32, 32, 115, 101, 108, 101, 99, 116, 32, 114, 101, 99, 118, 32, 48, 32, 115, 101, 110, 100, 32, 45, 49, 32, 55, 32, 100, 114, 97, 119, 115, 32, 48, 32, 49, 32, 116, 114, 121, 10, 112, 105, 99, 107, 115, 32, 48, 32, 48, 32, 45, 51, 32, 48, 10]⟩ : ByteArray) j M N I _ _ hT) ?_)
 rintro _ R _ y ⟨o, p, h, i, rfl, rfl, B, C, s, t⟩
 refine Em Z<|Ex Z<|Ex Z<|Ex Z<|?_
 refine Xh Z (XP (cs := (Xc (Script.mk (Config.mk [] [] 0) [] []) Xo Xo Xo Xo)) Z Z Z Z (fun S => ?_))
 refine Xh Z (Sa (Xc j o p h i) Z .here Z ?_)
 refine Ea Z<|Ea Z<|Xa<|Xd<|W9<|EL 5 (Xc j o p h i) Z (Rb0 Z)<|?_
 obtain ⟨O, P, J, H⟩ := Yf H
 have D := hT.mono y
 refine Xh Z (Ek Tryz.call16 Z (akl j o p h i O P J _ _ B C s t D) ?_)
 rintro _ w _ r ⟨rfl, rfl⟩
 refine Em Z<|Ex Z<|Ex Z<|Ea Z<|Ea Z<|Xa<|?_
 refine XD (fun x q m => ∃ (g : Bool), [(0, (.bool g))] = x ∧ w = q ∧ G = m ∧ aaz g = some l) ?_ ?_
 ·refine W9<|Em Z<|Ec Z<|Em Z<|?_
  refine Ee Z ?_ ?_
  ·intro a
   obtain ⟨a, H⟩ := It a H
   refine Vm Z<|Vc Z<|Et Z<|Em Z<|?_
   refine Ee Z ?_ ?_
   ·intro b
    obtain ⟨b, H⟩ := It b H
    refine Vm Z<|Vc Z<|Et Z<|Em Z<|?_
    refine Ee Z ?_ ?_
    ·intro c
     obtain ⟨c, H⟩ := It c H
     refine Vm Z<|Vq Z (ZO Z Z)<|Et Z<|Em Z<|?_
     refine Ee Z ?_ ?_
     ·intro d
      obtain ⟨d, H⟩ := It d H
      refine VF 4 Z<|Vl (sv i) Z (Rb0 Z)<|?_
      have E := t.mono r
      refine Vq Z (XN (T := Ty.i64) E Z Z)<|Vc Z<|Et Z<|Em Z<|?_
      refine Ee Z ?_ ?_
      ·intro e
       obtain ⟨e, H⟩ := It e H
       refine VF 3 Z<|Vl (sv h) Z (Rb0 Z)<|?_
       have n := s.mono r
       refine Vq Z (XN (T := (Ty.sl Xf)) n Z Z)<|Vc Z<|Et Z<|Em Z<|?_
       refine Ee Z ?_ ?_
       ·intro f
        obtain ⟨f, H⟩ := It f H
        refine VF 3 Z<|Vl (sv h) Z (Rb0 Z)<|?_
        obtain ⟨Q, u, H⟩ := bnd H
        obtain ⟨V, A, z⟩ := Slr.at n u
        obtain ⟨L, rfl, F⟩ := A
        exact Vq Z (Qi (T := (Ty.sl Xf)) n u Z)<|Vl (sv L) Z (Rdc.k z Z)<|Vq Z (XN (T := Xf) F Z Z)<|Vc Z<|Et Z<|Ea Z<|Xa<|Re0<|Re0<|Re0<|Re0<|Re0<|Sd<|⟨_, by exact R1, (dcd ((Q.length : Int) = 2)), Z, Z, Z, H⟩
       ·intro f
        obtain ⟨f, H⟩ := If f H
        exact Ez Z<|Ez Z<|Ez Z<|Ez Z<|Ez Z<|Ez Z<|Ef Z<|Ea Z<|Xa<|Re0<|Re0<|Re0<|Re0<|Re0<|Sd<|⟨_, by exact R1, false, Z, Z, Z, H⟩
      ·intro e
       obtain ⟨e, H⟩ := If e H
       exact Ez Z<|Ez Z<|Ez Z<|Ez Z<|Ef Z<|Em Z<|Ez Z<|Ez Z<|Ez Z<|Ez Z<|Ez Z<|Ez Z<|Ef Z<|Ea Z<|Xa<|Re0<|Re0<|Re0<|Re0<|Re0<|Sd<|⟨_, by exact R1, false, Z, Z, Z, H⟩
     ·intro d
      obtain ⟨d, H⟩ := If d H
      refine Ez Z<|Ez Z<|Ez Z<|Ez Z<|Ef Z<|Em Z<|Ez Z<|Ez Z<|Ez Z<|Ez Z<|Ef Z<|Em Z<|Ez Z<|Ez Z<|Ez Z<|Ez Z<|Ez Z<|Ez Z<|Ef Z<|Ea Z<|Xa<|Re0<|?_
      exact Re0<|Re0<|Re0<|Re0<|Sd<|⟨_, by exact R1, false, Z, Z, Z, H⟩
    ·intro c
     obtain ⟨c, H⟩ := If c H
     refine Ez Z<|Ez Z<|Ef Z<|Em Z<|Ez Z<|Ez Z<|Ez Z<|Ez Z<|Ef Z<|Em Z<|Ez Z<|Ez Z<|Ez Z<|Ez Z<|Ef Z<|Em Z<|Ez Z<|Ez Z<|Ez Z<|Ez Z<|Ez Z<|Ez Z<|?_
     exact Ef Z<|Ea Z<|Xa<|Re0<|Re0<|Re0<|Re0<|Re0<|Sd<|⟨_, by exact R1, false, Z, Z, Z, H⟩
   ·intro b
    obtain ⟨b, H⟩ := If b H
    refine Ez Z<|Ez Z<|Ef Z<|Em Z<|Ez Z<|Ez Z<|Ef Z<|Em Z<|Ez Z<|Ez Z<|Ez Z<|Ez Z<|Ef Z<|Em Z<|Ez Z<|Ez Z<|Ez Z<|Ez Z<|Ef Z<|Em Z<|Ez Z<|Ez Z<|?_
    exact Ez Z<|Ez Z<|Ez Z<|Ez Z<|Ef Z<|Ea Z<|Xa<|Re0<|Re0<|Re0<|Re0<|Re0<|Sd<|⟨_, by exact R1, false, Z, Z, Z, H⟩
  ·intro a
   obtain ⟨a, H⟩ := If a H
   refine Ez Z<|Ez Z<|Ef Z<|Em Z<|Ez Z<|Ez Z<|Ef Z<|Em Z<|Ez Z<|Ez Z<|Ef Z<|Em Z<|Ez Z<|Ez Z<|Ez Z<|Ez Z<|Ef Z<|Em Z<|Ez Z<|Ez Z<|Ez Z<|Ez Z<|?_
   exact Ef Z<|Em Z<|Ez Z<|Ez Z<|Ez Z<|Ez Z<|Ez Z<|Ez Z<|Ef Z<|Ea Z<|Xa<|Re0<|Re0<|Re0<|Re0<|Re0<|Sd<|⟨_, by exact R1, false, Z, Z, Z, H⟩
 rintro _ _ _ - ⟨g, rfl, rfl, rfl, H⟩
 unfold aaz at H
 refine Xy ?_
 obtain U := X0 H
 subst l
 refine ⟨(.inl Z), [(.bool g)], ⟨(.bool g), _, Z, Z, Z⟩, ?_⟩
 exact Sd ⟨Z, Z⟩
theorem aja (p0 : Script) (h i : SV) (b j : SV) (c : Bool) (H : acW p0 = some c) (K : Kp) (G : List Ent) (Y : Slr Ty.i64 K (sv h) p0.cnfg.capacities) (aa : Slr Ty.u64 K (sv i) p0.cnfg.starts) (z : Slr (Ty.sl Xf) K (sv b) p0.ops) (ab : Slr Ty.i64 K (sv j) p0.picks) :
  Fc Tryz.prog 17 #[(.agg (Xc p0 h i b j).toArray)] K (G) (fun v g a => v = (.bool c) ∧ G = a) := by
 refine XM Tryz.func17 Z Tryz.ntmps17 Tryz.results17 Z ?_
 unfold acW at H
 refine Xd<|W9<|?_
 refine Xh Z (X6 (cs := (Xc p0 h i b j)) Z Z Z (fun f => ?_))
 refine Ea Z<|Xa<|Xd<|?_
 refine XD (fun d g a => ∃ (C : Bool), [(1, (Vp f)), (29, (.bool C))] = d ∧ K = g ∧ (.blk f 33 (Xc p0 h i b j)) :: G = a ∧ abB p0 C = some c) ?_ ?_
 ·refine W9<|EF 0 Z<|EF 0 Z<|El (sv h) Z (Rb0 Z)<|Eq Z (XN (T := Ty.i64) Y Z Z)<|Ec Z<|Em Z<|?_
  refine Ee Z ?_ ?_
  ·intro m
   obtain ⟨m, H⟩ := It m H
   exact Ez Z<|Ez Z<|Ez Z<|Ez Z<|Ez Z<|Et Z<|Em Z<|Ez Z<|Ez Z<|Ez Z<|Ez Z<|Et Z<|Em Z<|Ez Z<|Ez Z<|Ez Z<|Ez Z<|Et Z<|Xa<|Sd<|⟨_, by exact R2, true, Z, Z, Z, H⟩
  ·intro m
   obtain ⟨m, H⟩ := If m H
   refine VF 0 Z<|VF 1 Z<|Vl (sv i) Z (Rb0 Z)<|Vq Z (XN (T := Ty.u64) aa Z Z)<|Vc Z<|Ef Z<|Em Z<|?_
   refine Ee Z ?_ ?_
   ·intro n
    obtain ⟨n, H⟩ := It n H
    exact Ez Z<|Ez Z<|Ez Z<|Ez Z<|Et Z<|Em Z<|Ez Z<|Ez Z<|Ez Z<|Ez Z<|Et Z<|Xa<|Sd<|⟨_, by exact R2, true, Z, Z, Z, H⟩
   ·intro n
    obtain ⟨n, H⟩ := If n H
    refine VF 3 Z<|Vl (sv b) Z (Rb0 Z)<|Vq Z (XN (T := (Ty.sl Xf)) z Z Z)<|Vc Z<|Ef Z<|Em Z<|?_
    refine Ee Z ?_ ?_
    ·intro o
     obtain ⟨o, H⟩ := It o H
     exact Ez Z<|Ez Z<|Ez Z<|Ez Z<|Et Z<|Xa<|Sd<|⟨_, by exact R2, true, Z, Z, Z, H⟩
    ·intro o
     obtain ⟨o, H⟩ := If o H
     exact VF 4 Z<|Vl (sv j) Z (Rb0 Z)<|Vq Z (XN (T := Ty.i64) ab Z Z)<|Vc Z<|Ef Z<|Xa<|Sd<|⟨_, by exact R2, (dcd ((p0.picks.length : Int) > 100)), Z, Z, Z, H⟩
 rintro _ _ _ - ⟨C, rfl, rfl, rfl, H⟩
 unfold abB at H
 refine Xp Z ?_ ?_
 ·intro x
  have H := ift x H
  refine Xd<|W9<|Ea Z<|Xa<|Xy<|?_
  obtain w := X0 H
  subst c
  refine ⟨(.inl Z), [(.bool true)], ⟨(.bool true), _, Z, Z, Z⟩, ?_⟩
  exact Re0<|Sd<|⟨Z, Z⟩
 ·intro x
  have H := XX (btf x) H
  refine Xt ?_
  refine XD (fun d g a => [] = d ∧ G = a ∧ agV = some c) ?_ ?_
  ·refine Xd<|W9<|EF 3 Z<|El (sv b) Z (Rb0 Z)<|Eq Z (XN (T := (Ty.sl Xf)) z Z Z)<|Em Z<|Xa<|XA<|?_
   refine XO (fun P d g a => ∃ (e : Int), [(1, (Vp f)), (32, (Vi (p0.ops.length : Int))), (33, (Vi e))] = d ∧ (.blk f 33 (Xc p0 h i b j)) :: G = a ∧ lp1 (afx p0) P e = some c) BIG ?_ ?_
   ·exact Sd ⟨_, by exact R3, 0, Z, Z, H⟩
   rintro P _ L _ R ⟨e, rfl, rfl, H⟩
   obtain ⟨ap, B, rfl, W, H⟩ := ZL H
   unfold afx at H
   refine Xd<|W9<|Ec Z<|Xa<|Xd<|?_
   refine Xp Z ?_ ?_
   ·intro p
    obtain ⟨p, H⟩ := It p H
    refine Xt ?_
    refine XD (fun d g a => [(1, (Vp f)), (32, (Vi (p0.ops.length : Int))), (33, (Vi e))] = d ∧ (.blk f 33 (Xc p0 h i b j)) :: G = a ∧ afv p0 e B = some c) ?_ ?_
    ·refine XA<|Xd<|W9<|Em Z<|Ea Z<|Xa<|Xd<|Xd<|W9<|EF 3 Z<|El (sv b) Z (Rb0 Z)<|Em Z<|?_
     obtain ⟨aw, M, H⟩ := bnd H
     have t := z.mono R
     obtain ⟨ar, ac, S⟩ := Slr.at t M
     obtain ⟨aj, rfl, af⟩ := ac
     refine Eq Z (Qi (T := (Ty.sl Xf)) t M Z)<|El (sv aj) Z (Rdc.k S Z)<|Eq Z (XN (T := Xf) af Z Z)<|Ec Z<|Xa<|?_
     refine Xp Z ?_ ?_
     ·intro q
      obtain ⟨q, H⟩ := It q H
      refine Xd<|W9<|Ea Z<|Xa<|Xy<|?_
      obtain w := X0 H
      subst c
      refine ⟨(.inl Z), [(.bool true)], ⟨(.bool true), _, Z, Z, Z⟩, ?_⟩
      exact Re0<|Sd<|⟨Z, Z⟩
     ·intro q
      obtain ⟨q, H⟩ := If q H
      refine Xt<|Xd<|W9<|EF 3 Z<|El (sv b) Z (Rb0 Z)<|Em Z<|?_
      obtain ⟨u, N, H⟩ := bnd H
      obtain ⟨au, ad, U⟩ := Slr.at t N
      obtain ⟨E, rfl, A⟩ := ad
      refine Eq Z (Qi (T := (Ty.sl Xf)) t N Z)<|El (sv E) Z (Rdc.k U Z)<|Eq Z (XN (T := Xf) A Z Z)<|Em Z<|Xa<|XA<|?_
      refine XO (fun Q d g a => ∃ (l : Int), [(1, (Vp f)), (32, (Vi (p0.ops.length : Int))), (33, (Vi e)), (47, (sv E)), (48, (Vi (u.length : Int))), (49, (Vi l))] = d ∧ L = g ∧ (.blk f 33 (Xc p0 h i b j)) :: G = a ∧ lp1 (afw p0 e u B) Q l = some c) BIG ?_ ?_
      ·exact Sd ⟨_, by exact R6, 0, Z, Z, Z, H⟩
      rintro Q _ _ _ - ⟨l, rfl, rfl, rfl, H⟩
      obtain ⟨aq, ai, rfl, X, H⟩ := ZL H
      unfold afw at H
      refine Xd<|W9<|Ec Z<|Xa<|Xd<|?_
      refine Xp Z ?_ ?_
      ·intro r
       obtain ⟨r, H⟩ := It r H
       refine Xt<|Xd<|XA<|Xd<|W9<|?_
       obtain ⟨J, O, H⟩ := bnd H
       obtain ⟨av, ae, V⟩ := Slr.at A O
       obtain ⟨F, I, rfl, ag, ah⟩ := ae
       refine Eq Z (Qi (T := Xf) A O Z)<|EL 7 (Xb J F I) Z (Rdc.k V Z)<|?_
       refine Xh Z (XP (cs := (Xb (Op.mk 0 0 0 0 0 [] []) Xo Xo)) Z Z Z Z (fun am => ?_))
       refine Xh Z (Sa (Xb J F I) Z .here Z ?_)
       refine Xa ?_
       refine XD (fun d g a => ∃ (D : Bool), [(1, (Vp f)), (32, (Vi (p0.ops.length : Int))), (33, (Vi e)), (47, (sv E)), (48, (Vi (u.length : Int))), (49, (Vi l)), (62, (.bool D))] = d ∧ L = g ∧ (.blk f 33 (Xc p0 h i b j)) :: G = a ∧ aaX p0 e u l B ai D = some c) ?_ ?_
       ·refine W9<|EF 5 Z<|El (sv F) Z (Rb0 Z)<|Eq Z (XN (T := XC) ag Z Z)<|Ec Z<|Em Z<|?_
        refine Ee Z ?_ ?_
        ·intro s
         obtain ⟨s, H⟩ := It s H
         exact Ez Z<|Ez Z<|Ez Z<|Ez Z<|Et Z<|Xa<|Pu1<|Re1<|Sd<|⟨_, by exact R7, true, Z, Z, Z, H⟩
        ·intro s
         obtain ⟨s, H⟩ := If s H
         exact VF 6 Z<|Vl (sv I) Z (Rb0 Z)<|Vq Z (XN (T := Ty.i64) ah Z Z)<|Vc Z<|Ef Z<|Xa<|Pu1<|Re1<|Sd<|⟨_, by exact R7, (dcd ((J.draws.length : Int) > 20)), Z, Z, Z, H⟩
       rintro _ _ _ - ⟨D, rfl, rfl, rfl, H⟩
       unfold aaX at H
       refine Xp Z ?_ ?_
       ·intro y
        have H := ift y H
        refine Xd<|W9<|Ea Z<|Xa<|Xy<|?_
        obtain w := X0 H
        subst c
        refine ⟨(.inl Z), [(.bool true)], ⟨(.bool true), _, Z, Z, Z⟩, ?_⟩
        exact Re0<|Sd<|⟨Z, Z⟩
       ·intro y
        have H := XX (btf y) H
        exact Xt<|W9<|Er (wI (l + 1)) Z<|Em Z<|Xa<|Sd<|⟨_, by exact R6, _, Nat.lt_succ_self _, (wI (l + 1)), Z, Z, Z, (X ▸ H)⟩
      ·intro r
       obtain ⟨r, H⟩ := If r H
       exact XS<|Sd<|⟨_, by exact R3, Z, Z, H⟩
    rintro _ ak _ an ⟨rfl, rfl, H⟩
    unfold afv at H
    exact W9<|Er (wI (e + 1)) Z<|Em Z<|Xa<|Sd<|⟨_, by exact R3, _, Nat.lt_succ_self _, (wI (e + 1)), Z, Z, (W ▸ H)⟩
   ·intro p
    obtain ⟨p, H⟩ := If p H
    exact XS<|Re0<|Sd<|⟨[], trivial, Z, Z, H⟩
  rintro _ al _ ao ⟨rfl, rfl, H⟩
  unfold agV at H
  refine Xd<|W9<|Ea Z<|Xa<|Xy<|?_
  obtain w := X0 H
  subst c
  refine ⟨(.inl Z), [(.bool false)], ⟨(.bool false), _, Z, Z, Z⟩, ?_⟩
  exact Sd ⟨Z, Z⟩
theorem XL (f : Nat) (p0 : W8) (g : SV) (p1 : Op) (aQ az : SV) (y0 : Op) (aE aF : Int) (H : acX p0 p1 = some (y0, aE, aF)) (K : Kp) (G : List Ent) (b3 : Slr Ty.u8 K (sv g) p0.list) (b4 : Slr XC K (sv aQ) p1.cases) (b5 : Slr Ty.i64 K (sv az) p1.draws) :
  Fc Tryz.prog 39 #[(Vp f), (.agg (Xb p1 aQ az).toArray)] K ((.blk f 55 (Xn p0 g)) :: G) (fun v R G' => ∃ (bh bB : SV) (bA : List (List Value)), v = (.agg (Xb y0 bh bB).toArray) ∧ (.blk f 55 (Xn (W8.mk p0.list aE aF) g)) :: (.tok 101 3 [(sv bh)]) :: (.row (sv bB) 3 1 bA.flatten) :: G = G' ∧ Slr XC R (sv bh) y0.cases ∧ RowR Ty.i64 R bA y0.draws) := by
 refine XM Tryz.func39 Z Tryz.ntmps39 Tryz.results39 Z ?_
 unfold acX at H
 refine Xd<|W9<|?_
 refine Xh Z (X6 (cs := (Xb p1 aQ az)) Z Z Z (fun aH => ?_))
 refine Xh Z (XP (cs := (Xb (Op.mk 0 0 0 0 0 [] []) Xo Xo)) Z Z Z Z (fun aI => ?_))
 refine Xa<|Xd<|W9<|EF 5 Z<|El (sv aQ) Z (Rb1 Z)<|?_
 refine Ow.shift (Shift.nilTok1 101 3 (Sd ?_))
 obtain ⟨n, cv, H⟩ := bnd H
 refine Xh Z (Xj (T := XC) (bytes := 24) (q := 0) Z Z Z (Slr.nil XC _) Mb0 Z (SrcT.sl b4) cv Z Z Z Z Z Z Z Z (fun i J bi r => ⟨_, .here, ?_⟩))
 refine EF 5 Z ?_
 refine Xh Z (So [(sv i)] (Xb (Op.mk p1.kind p1.mode p1.channel p1.value p1.deadline n p1.draws) i az) Z (.there (.there .here)) Z ?_)
 refine Xa<|Xd<|W9<|EF 6 Z<|El (sv az) Z (Rb2 Z)<|?_
 have bP : RowR Ty.i64 J [] [] := RowR.nil
 refine Ow.shift (Shift.nilRow 3 1 (Sd ?_))
 obtain ⟨e, cw, H⟩ := bnd H
 have cb := b5.mono bi
 refine Xh Z (Xv (T := Ty.i64) (bytes := 8) Z Z Z Mb0 bP (SrcT.sl cb) cw Z Z Z Z Z Z Z Z (fun b t d => ⟨_, .here, ?_⟩))
 refine EF 6 Z ?_
 refine Xh Z (So [(sv b)] (Xb (Op.mk p1.kind p1.mode p1.channel p1.value p1.deadline n e) i b) Z (.there (.there (.there .here))) Z ?_)
 refine Xa ?_
 refine XD (fun aT R G' => ∃ (a3 a4 : Int) (S U : Int) (V W X : Int) (E : SV) (L : ab7) (N : SV) (M : ab3) (aO : List (List Value)), [(3, (Vp aH)), (4, (Vp aI))] = aT ∧ (.blk f 55 (Xn (W8.mk p0.list a3 a4) g)) :: (.blk aI 70 (Xb (Op.mk 0 0 0 0 0 [] []) Xo Xo)) :: (.blk aH 70 (Xb (Op.mk S U V W X L M) E N)) :: (.tok 101 3 [(sv E)]) :: (.row (sv N) 3 1 aO.flatten) :: G = G' ∧ aaC p0 a3 a4 S U V W X L M = some (y0, aE, aF) ∧ Slr XC R (sv E) L ∧ RowR Ty.i64 R aO M) ?_ ?_
 ·refine Xd<|W9<|Em Z<|?_
  obtain ⟨cM, a, cx, H⟩ := Yf H
  refine Ow.shift (Pu4 (Sd ?_))
  have k := b3.mono bi
  refine Xh Z (Ek Tryz.call21 Z (XU f p0 g 9 cM a cx _ _ k) ?_)
  rintro _ _ _ - ⟨rfl, rfl, rfl⟩
  refine Xa<|XA<|Xd<|W9<|Ec Z<|Ea Z<|Xa<|?_
  refine Xp Z ?_ ?_
  ·intro ai
   obtain ⟨ai, H⟩ := It ai H
   refine W9<|Em Z<|?_
   obtain ⟨aA, bC, cy, H⟩ := Yf H
   refine Xh Z (Ek Tryz.call21 Z (XU f (W8.mk p0.list a p0.value) g 9 aA bC cy _ _ k) ?_)
   rintro _ _ _ - ⟨rfl, rfl, rfl⟩
   refine Er (wI (aA - 1)) Z<|EF 0 Z<|?_
   refine Xh Z (So [(Vi (wI (aA - 1)))] (Xb (Op.mk (wI (aA - 1)) p1.mode p1.channel p1.value p1.deadline n e) i b) Z (.there (.there (.there (.there .here)))) Z ?_)
   exact Xa<|Pu1<|Pu2<|Pu4<|Pu4<|Pu4<|Sd<|⟨_, by exact R2, bC, ((W8.mk p0.list a p0.value).value), (wI (aA - 1)), p1.mode, p1.channel, p1.value, p1.deadline, i, n, b, e, t, Z, Z, H, r, d⟩
  ·intro ai
   obtain ⟨ai, H⟩ := If ai H
   refine Xd<|W9<|Ec Z<|Ea Z<|Xa<|?_
   refine Xp Z ?_ ?_
   ·intro aj
    obtain ⟨aj, H⟩ := It aj H
    refine W9<|Em Z<|?_
    obtain ⟨aB, bD, cz, H⟩ := Yf H
    refine Xh Z (Ek Tryz.call21 Z (XU f (W8.mk p0.list a p0.value) g 5 aB bD cz _ _ k) ?_)
    rintro _ _ _ - ⟨rfl, rfl, rfl⟩
    refine Er (wI (aB - 1)) Z<|EF 1 Z<|?_
    refine Xh Z (So [(Vi (wI (aB - 1)))] (Xb (Op.mk p1.kind (wI (aB - 1)) p1.channel p1.value p1.deadline n e) i b) Z (.there (.there (.there (.there .here)))) Z ?_)
    exact Xa<|Pu1<|Pu2<|Pu4<|Pu4<|Pu4<|Sd<|⟨_, by exact R2, bD, ((W8.mk p0.list a p0.value).value), p1.kind, (wI (aB - 1)), p1.channel, p1.value, p1.deadline, i, n, b, e, t, Z, Z, H, r, d⟩
   ·intro aj
    obtain ⟨aj, H⟩ := If aj H
    refine Xd<|W9<|Ec Z<|Ea Z<|Xa<|?_
    refine Xp Z ?_ ?_
    ·intro ak
     obtain ⟨ak, H⟩ := It ak H
     refine W9<|Em Z<|?_
     obtain ⟨aR, bE, cA, H⟩ := Yf H
     refine Xh Z (Ek Tryz.call38 Z (YV f (W8.mk p0.list a p0.value) g aR bE cA _ _ k) ?_)
     rintro _ _ _ - ⟨rfl, rfl, rfl⟩
     refine EF 2 Z ?_
     refine Xh Z (So [(Vi aR)] (Xb (Op.mk p1.kind p1.mode aR p1.value p1.deadline n e) i b) Z (.there (.there (.there (.there .here)))) Z ?_)
     exact Xa<|Pu1<|Pu2<|Pu4<|Pu4<|Pu4<|Sd<|⟨_, by exact R2, bE, ((W8.mk p0.list a p0.value).value), p1.kind, p1.mode, aR, p1.value, p1.deadline, i, n, b, e, t, Z, Z, H, r, d⟩
    ·intro ak
     obtain ⟨ak, H⟩ := If ak H
     refine Xd<|W9<|Ec Z<|Ea Z<|Xa<|?_
     refine Xp Z ?_ ?_
     ·intro al
      obtain ⟨al, H⟩ := It al H
      refine W9<|Em Z<|?_
      obtain ⟨aS, bF, cB, H⟩ := Yf H
      refine Xh Z (Ek Tryz.call38 Z (YV f (W8.mk p0.list a p0.value) g aS bF cB _ _ k) ?_)
      rintro _ _ _ - ⟨rfl, rfl, rfl⟩
      refine EF 4 Z ?_
      refine Xh Z (So [(Vi aS)] (Xb (Op.mk p1.kind p1.mode p1.channel p1.value aS n e) i b) Z (.there (.there (.there (.there .here)))) Z ?_)
      exact Xa<|Pu1<|Pu2<|Pu4<|Pu4<|Pu4<|Sd<|⟨_, by exact R2, bF, ((W8.mk p0.list a p0.value).value), p1.kind, p1.mode, p1.channel, p1.value, aS, i, n, b, e, t, Z, Z, H, r, d⟩
     ·intro al
      obtain ⟨al, H⟩ := If al H
      refine Xd<|W9<|Ec Z<|Ea Z<|Xa<|?_
      refine Xp Z ?_ ?_
      ·intro am
       obtain ⟨am, H⟩ := It am H
       refine W9<|Em Z<|?_
       obtain ⟨aC, bG, cC, H⟩ := Yf H
       refine Xh Z (Ek Tryz.call21 Z (XU f (W8.mk p0.list a p0.value) g 3 aC bG cC _ _ k) ?_)
       rintro _ _ _ - ⟨rfl, rfl, rfl⟩
       refine Eq Z (Z0 (c := wU aC) Z Z Z Z)<|EF 3 Z<|?_
       refine Xh Z (So [(.int .u64 (wU aC))] (Xb (Op.mk p1.kind p1.mode p1.channel (wU aC) p1.deadline n e) i b) Z (.there (.there (.there (.there .here)))) Z ?_)
       exact Xa<|Pu1<|Pu2<|Pu4<|Pu4<|Pu4<|Sd<|⟨_, by exact R2, bG, ((W8.mk p0.list a p0.value).value), p1.kind, p1.mode, p1.channel, (wU aC), p1.deadline, i, n, b, e, t, Z, Z, H, r, d⟩
      ·intro am
       obtain ⟨am, H⟩ := If am H
       refine Xd<|W9<|Ec Z<|Ea Z<|Xa<|?_
       refine Xp Z ?_ ?_
       ·intro an
        obtain ⟨an, H⟩ := It an H
        obtain ⟨o, w, bw, H⟩ := Yf H
        obtain ⟨m, B, a0, H⟩ := Yf H
        obtain ⟨j, P, aL, H⟩ := Yf H
        obtain ⟨F, aw, H⟩ := bnd H
        refine XH _ Z (Ic Mb1 (Ic Mb3 In0))<|JF 0 5 Z<|Jm 2 Z<|Jm 5 Z<|Jm 7 Z<|?_
        refine Xu 1 3 (by kernel_rfl) ?_ ?_
        ·refine id (Jyq Z (Xe (v := (sv i)) Z Z Z (Rb4 Z)) ⟨(Ic Mb1 (Ic Mb3 In0)), ?_⟩)
         refine Ao 3 Z ?_
         refine Ek Tryz.call21 Z (XU f (W8.mk p0.list a p0.value) g 2 o w bw _ _ k) ?_
         rintro _ _ _ - ⟨rfl, rfl, rfl⟩
         refine ⟨(Ic Mb1 (Ic Mb3 In0)), ?_⟩
         refine Jc 4 Z ?_
         refine Ao 6 Z ?_
         refine Ek Tryz.call38 Z (YV f (W8.mk p0.list w ((W8.mk p0.list a p0.value).value)) g m B a0 _ _ k) ?_
         rintro _ _ _ - ⟨rfl, rfl, rfl⟩
         refine ⟨(Ic Mb1 (Ic Mb3 In0)), ?_⟩
         refine Ao 8 Z ?_
         refine Ek Tryz.call21 Z (XU f (W8.mk p0.list B ((W8.mk p0.list w ((W8.mk p0.list a p0.value).value)).value)) g 2 j P aL _ _ k) ?_
         rintro _ _ _ - ⟨rfl, rfl, rfl⟩
         refine ⟨(Ic Mb1 (Ic Mb3 In0)), ?_⟩
         refine Jq 9 Z (Z0 (c := wU j) Z Z Z Z)<|Jq 10 Z (XV (cs := (Xw (Case.mk (dcd (o = 1)) m (wU j)))) Z Z Z Z Z Z)<|?_
         refine Ao 11 Z ?_
         have bj : RowR XC J [(Xw (Case.mk (dcd (o = 1)) m (wU j)))] [(Case.mk (dcd (o = 1)) m (wU j))] := RowR.cons Z (RowR.nil)
         refine Xx (T := XC) (rows := [(Xw (Case.mk (dcd (o = 1)) m (wU j)))]) (l := [(Case.mk (dcd (o = 1)) m (wU j))]) Z Z Z bj Z Z Z Z Z Z Z Z (fun c9 => ⟨(Ic Mb2 (Ic Mb4 In0)), ?_⟩)
         refine Ao 12 Z ?_
         refine Xj (T := XC) (bytes := 24) (q := 0) Z Z Z r Mb3 Z (SrcT.row Mb0 bj Z) aw Z Z Z Z Z Z Z Z (fun a5 cN bJ cd => ⟨_, (.there (.there (.there .here))), ⟨(Ic Mb2 (Ic Mb4 In0)), ?_⟩⟩)
         refine Aw.shift (Re0 (Sd ⟨(Ic Mb1 (Ic Mb3 In0)), ?_⟩))
         refine JF 13 5 Z ?_
         refine Ao 14 Z ?_
         refine So [(sv a5)] (Xb (Op.mk p1.kind p1.mode p1.channel p1.value p1.deadline F e) a5 b) Z (.there (.there (.there (.there .here)))) Z ⟨(Ic Mb1 (Ic Mb3 In0)), ?_⟩
         refine Ad<|Pu1<|Pu2<|Pu4<|Pu4<|Pu4<|?_
         have ce := d.mono bJ
         exact Sd ⟨_, by exact R2, P, ((W8.mk p0.list B ((W8.mk p0.list w ((W8.mk p0.list a p0.value).value)).value)).value), p1.kind, p1.mode, p1.channel, p1.value, p1.deadline, a5, F, b, e, t, Z, Z, H, cd, ce⟩
        ·refine id (Jy Z ?_)
         refine Ek Tryz.call21 Z (XU f (W8.mk p0.list a p0.value) g 2 o w bw _ _ k) ?_
         rintro _ _ _ - ⟨rfl, rfl, rfl⟩
         refine ⟨(Ic Mb1 (Ic Mb3 In0)), ?_⟩
         refine Jc 4 Z ?_
         refine Xu 1 6 (by kernel_rfl) ?_ ?_
         ·refine id (Jyq Z (Xe (v := (sv i)) Z Z Z (Rb4 Z)) ⟨(Ic Mb1 (Ic Mb3 In0)), ?_⟩)
          refine Ao 6 Z ?_
          refine Ek Tryz.call38 Z (YV f (W8.mk p0.list w ((W8.mk p0.list a p0.value).value)) g m B a0 _ _ k) ?_
          rintro _ _ _ - ⟨rfl, rfl, rfl⟩
          refine ⟨(Ic Mb1 (Ic Mb3 In0)), ?_⟩
          refine Ao 8 Z ?_
          refine Ek Tryz.call21 Z (XU f (W8.mk p0.list B ((W8.mk p0.list w ((W8.mk p0.list a p0.value).value)).value)) g 2 j P aL _ _ k) ?_
          rintro _ _ _ - ⟨rfl, rfl, rfl⟩
          refine ⟨(Ic Mb1 (Ic Mb3 In0)), ?_⟩
          refine Jq 9 Z (Z0 (c := wU j) Z Z Z Z)<|Jq 10 Z (XV (cs := (Xw (Case.mk (dcd (o = 1)) m (wU j)))) Z Z Z Z Z Z)<|?_
          refine Ao 11 Z ?_
          have bk : RowR XC J [(Xw (Case.mk (dcd (o = 1)) m (wU j)))] [(Case.mk (dcd (o = 1)) m (wU j))] := RowR.cons Z (RowR.nil)
          refine Xx (T := XC) (rows := [(Xw (Case.mk (dcd (o = 1)) m (wU j)))]) (l := [(Case.mk (dcd (o = 1)) m (wU j))]) Z Z Z bk Z Z Z Z Z Z Z Z (fun da => ⟨(Ic Mb2 (Ic Mb4 In0)), ?_⟩)
          refine Ao 12 Z ?_
          refine Xj (T := XC) (bytes := 24) (q := 0) Z Z Z r Mb3 Z (SrcT.row Mb0 bk Z) aw Z Z Z Z Z Z Z Z (fun a6 cO bK cf => ⟨_, (.there (.there (.there .here))), ⟨(Ic Mb2 (Ic Mb4 In0)), ?_⟩⟩)
          refine Aw.shift (Re0 (Sd ⟨(Ic Mb1 (Ic Mb3 In0)), ?_⟩))
          refine JF 13 5 Z ?_
          refine Ao 14 Z ?_
          refine So [(sv a6)] (Xb (Op.mk p1.kind p1.mode p1.channel p1.value p1.deadline F e) a6 b) Z (.there (.there (.there (.there .here)))) Z ⟨(Ic Mb1 (Ic Mb3 In0)), ?_⟩
          refine Ad<|Pu1<|Pu2<|Pu4<|Pu4<|Pu4<|?_
          have cg := d.mono bK
          exact Sd ⟨_, by exact R2, P, ((W8.mk p0.list B ((W8.mk p0.list w ((W8.mk p0.list a p0.value).value)).value)).value), p1.kind, p1.mode, p1.channel, p1.value, p1.deadline, a6, F, b, e, t, Z, Z, H, cf, cg⟩
         ·refine id (Jy Z ?_)
          refine Ek Tryz.call38 Z (YV f (W8.mk p0.list w ((W8.mk p0.list a p0.value).value)) g m B a0 _ _ k) ?_
          rintro _ _ _ - ⟨rfl, rfl, rfl⟩
          refine ⟨(Ic Mb1 (Ic Mb3 In0)), ?_⟩
          refine Xu 1 8 (by kernel_rfl) ?_ ?_
          ·refine id (Jyq Z (Xe (v := (sv i)) Z Z Z (Rb4 Z)) ⟨(Ic Mb1 (Ic Mb3 In0)), ?_⟩)
           refine Ao 8 Z ?_
           refine Ek Tryz.call21 Z (XU f (W8.mk p0.list B ((W8.mk p0.list w ((W8.mk p0.list a p0.value).value)).value)) g 2 j P aL _ _ k) ?_
           rintro _ _ _ - ⟨rfl, rfl, rfl⟩
           refine ⟨(Ic Mb1 (Ic Mb3 In0)), ?_⟩
           refine Jq 9 Z (Z0 (c := wU j) Z Z Z Z)<|Jq 10 Z (XV (cs := (Xw (Case.mk (dcd (o = 1)) m (wU j)))) Z Z Z Z Z Z)<|?_
           refine Ao 11 Z ?_
           have bl : RowR XC J [(Xw (Case.mk (dcd (o = 1)) m (wU j)))] [(Case.mk (dcd (o = 1)) m (wU j))] := RowR.cons Z (RowR.nil)
           refine Xx (T := XC) (rows := [(Xw (Case.mk (dcd (o = 1)) m (wU j)))]) (l := [(Case.mk (dcd (o = 1)) m (wU j))]) Z Z Z bl Z Z Z Z Z Z Z Z (fun db => ⟨(Ic Mb2 (Ic Mb4 In0)), ?_⟩)
           refine Ao 12 Z ?_
           refine Xj (T := XC) (bytes := 24) (q := 0) Z Z Z r Mb3 Z (SrcT.row Mb0 bl Z) aw Z Z Z Z Z Z Z Z (fun a7 cP bL ch => ⟨_, (.there (.there (.there .here))), ⟨(Ic Mb2 (Ic Mb4 In0)), ?_⟩⟩)
           refine Aw.shift (Re0 (Sd ⟨(Ic Mb1 (Ic Mb3 In0)), ?_⟩))
           refine JF 13 5 Z ?_
           refine Ao 14 Z ?_
           refine So [(sv a7)] (Xb (Op.mk p1.kind p1.mode p1.channel p1.value p1.deadline F e) a7 b) Z (.there (.there (.there (.there .here)))) Z ⟨(Ic Mb1 (Ic Mb3 In0)), ?_⟩
           refine Ad<|Pu1<|Pu2<|Pu4<|Pu4<|Pu4<|?_
           have ci := d.mono bL
           exact Sd ⟨_, by exact R2, P, ((W8.mk p0.list B ((W8.mk p0.list w ((W8.mk p0.list a p0.value).value)).value)).value), p1.kind, p1.mode, p1.channel, p1.value, p1.deadline, a7, F, b, e, t, Z, Z, H, ch, ci⟩
          ·refine id (Jy Z ?_)
           refine Ek Tryz.call21 Z (XU f (W8.mk p0.list B ((W8.mk p0.list w ((W8.mk p0.list a p0.value).value)).value)) g 2 j P aL _ _ k) ?_
           rintro _ _ _ - ⟨rfl, rfl, rfl⟩
           refine ⟨(Ic Mb1 (Ic Mb3 In0)), ?_⟩
           refine Jq 9 Z (Z0 (c := wU j) Z Z Z Z)<|Jq 10 Z (XV (cs := (Xw (Case.mk (dcd (o = 1)) m (wU j)))) Z Z Z Z Z Z)<|?_
           refine Xu 1 11 (by kernel_rfl) ?_ ?_
           ·refine id (Jyq Z (Xe (v := (sv i)) Z Z Z (Rb4 Z)) ⟨(Ic Mb1 (Ic Mb3 In0)), ?_⟩)
            refine Ao 11 Z ?_
            have bm : RowR XC J [(Xw (Case.mk (dcd (o = 1)) m (wU j)))] [(Case.mk (dcd (o = 1)) m (wU j))] := RowR.cons Z (RowR.nil)
            refine Xx (T := XC) (rows := [(Xw (Case.mk (dcd (o = 1)) m (wU j)))]) (l := [(Case.mk (dcd (o = 1)) m (wU j))]) Z Z Z bm Z Z Z Z Z Z Z Z (fun dc => ⟨(Ic Mb2 (Ic Mb4 In0)), ?_⟩)
            refine Ao 12 Z ?_
            refine Xj (T := XC) (bytes := 24) (q := 0) Z Z Z r Mb3 Z (SrcT.row Mb0 bm Z) aw Z Z Z Z Z Z Z Z (fun a8 cQ bM cj => ⟨_, (.there (.there (.there .here))), ⟨(Ic Mb2 (Ic Mb4 In0)), ?_⟩⟩)
            refine Aw.shift (Re0 (Sd ⟨(Ic Mb1 (Ic Mb3 In0)), ?_⟩))
            refine JF 13 5 Z ?_
            refine Ao 14 Z ?_
            refine So [(sv a8)] (Xb (Op.mk p1.kind p1.mode p1.channel p1.value p1.deadline F e) a8 b) Z (.there (.there (.there (.there .here)))) Z ⟨(Ic Mb1 (Ic Mb3 In0)), ?_⟩
            refine Ad<|Pu1<|Pu2<|Pu4<|Pu4<|Pu4<|?_
            have ck := d.mono bM
            exact Sd ⟨_, by exact R2, P, ((W8.mk p0.list B ((W8.mk p0.list w ((W8.mk p0.list a p0.value).value)).value)).value), p1.kind, p1.mode, p1.channel, p1.value, p1.deadline, a8, F, b, e, t, Z, Z, H, cj, ck⟩
           ·refine id (Jy Z ?_)
            have bn : RowR XC J [(Xw (Case.mk (dcd (o = 1)) m (wU j)))] [(Case.mk (dcd (o = 1)) m (wU j))] := RowR.cons Z (RowR.nil)
            refine Xx (T := XC) (rows := [(Xw (Case.mk (dcd (o = 1)) m (wU j)))]) (l := [(Case.mk (dcd (o = 1)) m (wU j))]) Z Z Z bn Z Z Z Z Z Z Z Z (fun dd => ⟨(Ic Mb2 (Ic Mb4 In0)), ?_⟩)
            refine Xk 1 (by kernel_rfl) (Jyq Z (Xe (v := (sv i)) Z Z Z (Rb5 Z)) ⟨(Ic Mb2 (Ic Mb4 In0)), ?_⟩)
            refine Ao 12 Z ?_
            refine Xj (T := XC) (bytes := 24) (q := 0) Z Z Z r Mb3 Z (SrcT.row Mb0 bn Z) aw Z Z Z Z Z Z Z Z (fun a9 cR bN cl => ⟨_, (.there (.there (.there .here))), ⟨(Ic Mb2 (Ic Mb4 In0)), ?_⟩⟩)
            refine Aw.shift (Re0 (Sd ⟨(Ic Mb1 (Ic Mb3 In0)), ?_⟩))
            refine JF 13 5 Z ?_
            refine Ao 14 Z ?_
            refine So [(sv a9)] (Xb (Op.mk p1.kind p1.mode p1.channel p1.value p1.deadline F e) a9 b) Z (.there (.there (.there (.there .here)))) Z ⟨(Ic Mb1 (Ic Mb3 In0)), ?_⟩
            refine Ad<|Pu1<|Pu2<|Pu4<|Pu4<|Pu4<|?_
            have cm := d.mono bN
            exact Sd ⟨_, by exact R2, P, ((W8.mk p0.list B ((W8.mk p0.list w ((W8.mk p0.list a p0.value).value)).value)).value), p1.kind, p1.mode, p1.channel, p1.value, p1.deadline, a9, F, b, e, t, Z, Z, H, cl, cm⟩
       ·intro an
        obtain ⟨an, H⟩ := If an H
        refine Xd<|W9<|Ec Z<|Ea Z<|Xa<|?_
        refine Xp Z ?_ ?_
        ·intro ao
         obtain ⟨ao, H⟩ := It ao H
         obtain ⟨u, aD, bx, H⟩ := Yf H
         obtain ⟨ag, a1, H⟩ := bnd H
         refine XH _ Z (Ic Mb2 (Ic Mb3 In0))<|JF 0 6 Z<|Jm 2 Z<|?_
         refine Xu 1 3 (by kernel_rfl) ?_ ?_
         ·refine id (Jyq Z (Xe (v := (sv b)) Z Z Z (Rb4 Z)) ⟨(Ic Mb2 (Ic Mb3 In0)), ?_⟩)
          refine Ao 3 Z ?_
          refine Ek Tryz.call21 Z (XU f (W8.mk p0.list a p0.value) g 9 u aD bx _ _ k) ?_
          rintro _ _ _ - ⟨rfl, rfl, rfl⟩
          refine ⟨(Ic Mb2 (Ic Mb3 In0)), ?_⟩
          refine Jr 4 (wI (u - 1)) Z ?_
          refine Ao 5 Z ?_
          have bo : RowR Ty.i64 J [[(Vi (wI (u - 1)))]] [wI (u - 1)] := RowR.cons Z (RowR.nil)
          refine Xx (T := Ty.i64) (rows := [[(Vi (wI (u - 1)))]]) (l := [wI (u - 1)]) Z Z Z bo Z Z Z Z Z Z Z Z (fun de => ⟨(Ic Mb3 (Ic Mb4 In0)), ?_⟩)
          refine Ao 6 Z ?_
          refine Xv (T := Ty.i64) (bytes := 8) Z Z Z Mb2 d (SrcT.row Mb0 bo Z) a1 Z Z Z Z Z Z Z Z (fun ba cF bR => ⟨_, (.there (.there .here)), ⟨(Ic Mb3 (Ic Mb4 In0)), ?_⟩⟩)
          refine Aw.shift (Re0 (Sd ⟨(Ic Mb2 (Ic Mb3 In0)), ?_⟩))
          refine JF 7 6 Z ?_
          refine Ao 8 Z ?_
          refine So [(sv ba)] (Xb (Op.mk p1.kind p1.mode p1.channel p1.value p1.deadline n ag) i ba) Z (.there (.there (.there (.there .here)))) Z ⟨(Ic Mb2 (Ic Mb3 In0)), ?_⟩
          exact Ad<|Pu1<|Pu2<|Pu4<|Pu4<|Pu4<|Sd<|⟨_, by exact R2, aD, ((W8.mk p0.list a p0.value).value), p1.kind, p1.mode, p1.channel, p1.value, p1.deadline, i, n, ba, ag, cF, Z, Z, H, r, bR⟩
         ·refine id (Jy Z ?_)
          refine Ek Tryz.call21 Z (XU f (W8.mk p0.list a p0.value) g 9 u aD bx _ _ k) ?_
          rintro _ _ _ - ⟨rfl, rfl, rfl⟩
          refine ⟨(Ic Mb2 (Ic Mb3 In0)), ?_⟩
          refine Jr 4 (wI (u - 1)) Z ?_
          refine Xu 1 5 (by kernel_rfl) ?_ ?_
          ·refine id (Jyq Z (Xe (v := (sv b)) Z Z Z (Rb4 Z)) ⟨(Ic Mb2 (Ic Mb3 In0)), ?_⟩)
           refine Ao 5 Z ?_
           have bp : RowR Ty.i64 J [[(Vi (wI (u - 1)))]] [wI (u - 1)] := RowR.cons Z (RowR.nil)
           refine Xx (T := Ty.i64) (rows := [[(Vi (wI (u - 1)))]]) (l := [wI (u - 1)]) Z Z Z bp Z Z Z Z Z Z Z Z (fun df => ⟨(Ic Mb3 (Ic Mb4 In0)), ?_⟩)
           refine Ao 6 Z ?_
           refine Xv (T := Ty.i64) (bytes := 8) Z Z Z Mb2 d (SrcT.row Mb0 bp Z) a1 Z Z Z Z Z Z Z Z (fun bb cG bS => ⟨_, (.there (.there .here)), ⟨(Ic Mb3 (Ic Mb4 In0)), ?_⟩⟩)
           refine Aw.shift (Re0 (Sd ⟨(Ic Mb2 (Ic Mb3 In0)), ?_⟩))
           refine JF 7 6 Z ?_
           refine Ao 8 Z ?_
           refine So [(sv bb)] (Xb (Op.mk p1.kind p1.mode p1.channel p1.value p1.deadline n ag) i bb) Z (.there (.there (.there (.there .here)))) Z ⟨(Ic Mb2 (Ic Mb3 In0)), ?_⟩
           exact Ad<|Pu1<|Pu2<|Pu4<|Pu4<|Pu4<|Sd<|⟨_, by exact R2, aD, ((W8.mk p0.list a p0.value).value), p1.kind, p1.mode, p1.channel, p1.value, p1.deadline, i, n, bb, ag, cG, Z, Z, H, r, bS⟩
          ·refine id (Jy Z ?_)
           have bq : RowR Ty.i64 J [[(Vi (wI (u - 1)))]] [wI (u - 1)] := RowR.cons Z (RowR.nil)
           refine Xx (T := Ty.i64) (rows := [[(Vi (wI (u - 1)))]]) (l := [wI (u - 1)]) Z Z Z bq Z Z Z Z Z Z Z Z (fun dg => ⟨(Ic Mb3 (Ic Mb4 In0)), ?_⟩)
           refine Xk 1 (by kernel_rfl) (Jyq Z (Xe (v := (sv b)) Z Z Z (Rb5 Z)) ⟨(Ic Mb3 (Ic Mb4 In0)), ?_⟩)
           refine Ao 6 Z ?_
           refine Xv (T := Ty.i64) (bytes := 8) Z Z Z Mb2 d (SrcT.row Mb0 bq Z) a1 Z Z Z Z Z Z Z Z (fun bc cH bT => ⟨_, (.there (.there .here)), ⟨(Ic Mb3 (Ic Mb4 In0)), ?_⟩⟩)
           refine Aw.shift (Re0 (Sd ⟨(Ic Mb2 (Ic Mb3 In0)), ?_⟩))
           refine JF 7 6 Z ?_
           refine Ao 8 Z ?_
           refine So [(sv bc)] (Xb (Op.mk p1.kind p1.mode p1.channel p1.value p1.deadline n ag) i bc) Z (.there (.there (.there (.there .here)))) Z ⟨(Ic Mb2 (Ic Mb3 In0)), ?_⟩
           exact Ad<|Pu1<|Pu2<|Pu4<|Pu4<|Pu4<|Sd<|⟨_, by exact R2, aD, ((W8.mk p0.list a p0.value).value), p1.kind, p1.mode, p1.channel, p1.value, p1.deadline, i, n, bc, ag, cH, Z, Z, H, r, bT⟩
        ·intro ao
         obtain ⟨ao, H⟩ := If ao H
         refine Xd<|W9<|Ec Z<|Ea Z<|Xa<|?_
         refine Xp Z ?_ ?_
         ·intro ap
          obtain ⟨ap, H⟩ := It ap H
          refine Xd<|W9<|EF 6 Z<|El (sv b) Z (Rb4 Z)<|Eq Z (YL (T := Ty.i64) Mb1 d Z Z Z)<|Ec Z<|Xa<|?_
          refine Xp Z ?_ ?_
          ·intro aq
           obtain ⟨aq, H⟩ := It aq H
           obtain ⟨p, x, aM, H⟩ := Yf H
           obtain ⟨h, I, ax, H⟩ := Yf H
           obtain ⟨dm, D, H⟩ := bnd H
           refine XH _ Z (Ic Mb2 (Ic Mb3 In0))<|JF 0 6 Z<|Jm 2 Z<|JF 3 6 Z<|Jm 7 Z<|?_
           refine Xu 1 4 (by kernel_rfl) ?_ ?_
           ·refine id (Jyq Z (Xe (v := (sv b)) Z Z Z (Rb4 Z)) ⟨(Ic Mb2 (Ic Mb3 In0)), ?_⟩)
            refine Xk 4 (by kernel_rfl) (Jyq Z (Xe (v := (sv b)) Z Z Z (Rb4 Z)) ⟨(Ic Mb2 (Ic Mb3 In0)), ?_⟩)
            refine Xk 5 (by kernel_rfl) (Jyq Z (YL (T := Ty.i64) Mb1 d Z Z Z) ⟨(Ic Mb2 (Ic Mb3 In0)), ?_⟩)
            refine Ao 6 Z ?_
            refine Ek Tryz.call21 Z (XU f (W8.mk p0.list a p0.value) g (e.length : Int) p x aM _ _ k) ?_
            rintro _ _ _ - ⟨rfl, rfl, rfl⟩
            refine ⟨(Ic Mb2 (Ic Mb3 In0)), ?_⟩
            refine Ao 8 Z ?_
            refine Ek Tryz.call38 Z (YV f (W8.mk p0.list x ((W8.mk p0.list a p0.value).value)) g h I ax _ _ k) ?_
            rintro _ _ _ - ⟨rfl, rfl, rfl⟩
            refine ⟨(Ic Mb2 (Ic Mb3 In0)), ?_⟩
            obtain ⟨c4, aU, b6⟩ := RowR.at d D
            obtain rfl := b6
            refine Xk 9 (by kernel_rfl) (Jyq Z (XB (T := Ty.i64) Mb1 d aU (Xm D).1 Z Z Z Z Z) ⟨(Ic Mb2 (Ic Mb3 In0)), ?_⟩)
            refine Ao 10 Z ?_
            refine Xr (T := Ty.i64) (vs := [(Vi h)]) (r' := [(Vi h)]) (l' := (Xz e p h)) Z Z Z Z Z (.there .here) d aU Z Z Z (RowR.set p d Z) (fun bU => ⟨(Ic Mb2 (Ic Mb3 In0)), ?_⟩)
            have cW := XG aU (v := [(Vi h)])
            exact Ad<|Pu1<|Pu2<|Pu4<|Pu4<|Pu4<|Sd<|⟨_, by exact R2, I, ((W8.mk p0.list x ((W8.mk p0.list a p0.value).value)).value), p1.kind, p1.mode, p1.channel, p1.value, p1.deadline, i, n, b, (Xz e p h), (t.set p.toNat [(Vi h)]), Z, Z, H, r, bU⟩
           ·refine id (Jyq Z (Xe (v := (sv b)) Z Z Z (Rb4 Z)) ⟨(Ic Mb2 (Ic Mb3 In0)), ?_⟩)
            refine Xu 1 5 (by kernel_rfl) ?_ ?_
            ·refine id (Jyq Z (Xe (v := (sv b)) Z Z Z (Rb4 Z)) ⟨(Ic Mb2 (Ic Mb3 In0)), ?_⟩)
             refine Xk 5 (by kernel_rfl) (Jyq Z (YL (T := Ty.i64) Mb1 d Z Z Z) ⟨(Ic Mb2 (Ic Mb3 In0)), ?_⟩)
             refine Ao 6 Z ?_
             refine Ek Tryz.call21 Z (XU f (W8.mk p0.list a p0.value) g (e.length : Int) p x aM _ _ k) ?_
             rintro _ _ _ - ⟨rfl, rfl, rfl⟩
             refine ⟨(Ic Mb2 (Ic Mb3 In0)), ?_⟩
             refine Ao 8 Z ?_
             refine Ek Tryz.call38 Z (YV f (W8.mk p0.list x ((W8.mk p0.list a p0.value).value)) g h I ax _ _ k) ?_
             rintro _ _ _ - ⟨rfl, rfl, rfl⟩
             refine ⟨(Ic Mb2 (Ic Mb3 In0)), ?_⟩
             obtain ⟨c5, aV, b7⟩ := RowR.at d D
             obtain rfl := b7
             refine Xk 9 (by kernel_rfl) (Jyq Z (XB (T := Ty.i64) Mb1 d aV (Xm D).1 Z Z Z Z Z) ⟨(Ic Mb2 (Ic Mb3 In0)), ?_⟩)
             refine Ao 10 Z ?_
             refine Xr (T := Ty.i64) (vs := [(Vi h)]) (r' := [(Vi h)]) (l' := (Xz e p h)) Z Z Z Z Z (.there .here) d aV Z Z Z (RowR.set p d Z) (fun bV => ⟨(Ic Mb2 (Ic Mb3 In0)), ?_⟩)
             have cX := XG aV (v := [(Vi h)])
             exact Ad<|Pu1<|Pu2<|Pu4<|Pu4<|Pu4<|Sd<|⟨_, by exact R2, I, ((W8.mk p0.list x ((W8.mk p0.list a p0.value).value)).value), p1.kind, p1.mode, p1.channel, p1.value, p1.deadline, i, n, b, (Xz e p h), (t.set p.toNat [(Vi h)]), Z, Z, H, r, bV⟩
            ·refine id (Jyq Z (YL (T := Ty.i64) Mb1 d Z Z Z) ⟨(Ic Mb2 (Ic Mb3 In0)), ?_⟩)
             refine Xu 1 6 (by kernel_rfl) ?_ ?_
             ·refine id (Jyq Z (Xe (v := (sv b)) Z Z Z (Rb4 Z)) ⟨(Ic Mb2 (Ic Mb3 In0)), ?_⟩)
              refine Ao 6 Z ?_
              refine Ek Tryz.call21 Z (XU f (W8.mk p0.list a p0.value) g (e.length : Int) p x aM _ _ k) ?_
              rintro _ _ _ - ⟨rfl, rfl, rfl⟩
              refine ⟨(Ic Mb2 (Ic Mb3 In0)), ?_⟩
              refine Ao 8 Z ?_
              refine Ek Tryz.call38 Z (YV f (W8.mk p0.list x ((W8.mk p0.list a p0.value).value)) g h I ax _ _ k) ?_
              rintro _ _ _ - ⟨rfl, rfl, rfl⟩
              refine ⟨(Ic Mb2 (Ic Mb3 In0)), ?_⟩
              obtain ⟨c6, aW, b8⟩ := RowR.at d D
              obtain rfl := b8
              refine Xk 9 (by kernel_rfl) (Jyq Z (XB (T := Ty.i64) Mb1 d aW (Xm D).1 Z Z Z Z Z) ⟨(Ic Mb2 (Ic Mb3 In0)), ?_⟩)
              refine Ao 10 Z ?_
              refine Xr (T := Ty.i64) (vs := [(Vi h)]) (r' := [(Vi h)]) (l' := (Xz e p h)) Z Z Z Z Z (.there .here) d aW Z Z Z (RowR.set p d Z) (fun bW => ⟨(Ic Mb2 (Ic Mb3 In0)), ?_⟩)
              have cY := XG aW (v := [(Vi h)])
              exact Ad<|Pu1<|Pu2<|Pu4<|Pu4<|Pu4<|Sd<|⟨_, by exact R2, I, ((W8.mk p0.list x ((W8.mk p0.list a p0.value).value)).value), p1.kind, p1.mode, p1.channel, p1.value, p1.deadline, i, n, b, (Xz e p h), (t.set p.toNat [(Vi h)]), Z, Z, H, r, bW⟩
             ·refine id (Jy Z ?_)
              refine Ek Tryz.call21 Z (XU f (W8.mk p0.list a p0.value) g (e.length : Int) p x aM _ _ k) ?_
              rintro _ _ _ - ⟨rfl, rfl, rfl⟩
              refine ⟨(Ic Mb2 (Ic Mb3 In0)), ?_⟩
              refine Xu 1 8 (by kernel_rfl) ?_ ?_
              ·refine id (Jyq Z (Xe (v := (sv b)) Z Z Z (Rb4 Z)) ⟨(Ic Mb2 (Ic Mb3 In0)), ?_⟩)
               refine Ao 8 Z ?_
               refine Ek Tryz.call38 Z (YV f (W8.mk p0.list x ((W8.mk p0.list a p0.value).value)) g h I ax _ _ k) ?_
               rintro _ _ _ - ⟨rfl, rfl, rfl⟩
               refine ⟨(Ic Mb2 (Ic Mb3 In0)), ?_⟩
               obtain ⟨c7, aX, b9⟩ := RowR.at d D
               obtain rfl := b9
               refine Xk 9 (by kernel_rfl) (Jyq Z (XB (T := Ty.i64) Mb1 d aX (Xm D).1 Z Z Z Z Z) ⟨(Ic Mb2 (Ic Mb3 In0)), ?_⟩)
               refine Ao 10 Z ?_
               refine Xr (T := Ty.i64) (vs := [(Vi h)]) (r' := [(Vi h)]) (l' := (Xz e p h)) Z Z Z Z Z (.there .here) d aX Z Z Z (RowR.set p d Z) (fun bX => ⟨(Ic Mb2 (Ic Mb3 In0)), ?_⟩)
               have cZ := XG aX (v := [(Vi h)])
               exact Ad<|Pu1<|Pu2<|Pu4<|Pu4<|Pu4<|Sd<|⟨_, by exact R2, I, ((W8.mk p0.list x ((W8.mk p0.list a p0.value).value)).value), p1.kind, p1.mode, p1.channel, p1.value, p1.deadline, i, n, b, (Xz e p h), (t.set p.toNat [(Vi h)]), Z, Z, H, r, bX⟩
              ·refine id (Jy Z ?_)
               refine Ek Tryz.call38 Z (YV f (W8.mk p0.list x ((W8.mk p0.list a p0.value).value)) g h I ax _ _ k) ?_
               rintro _ _ _ - ⟨rfl, rfl, rfl⟩
               refine ⟨(Ic Mb2 (Ic Mb3 In0)), ?_⟩
               refine Xk 1 (by kernel_rfl) (Jyq Z (Xe (v := (sv b)) Z Z Z (Rb4 Z)) ⟨(Ic Mb2 (Ic Mb3 In0)), ?_⟩)
               obtain ⟨c8, aY, ca⟩ := RowR.at d D
               obtain rfl := ca
               refine Xk 9 (by kernel_rfl) (Jyq Z (XB (T := Ty.i64) Mb1 d aY (Xm D).1 Z Z Z Z Z) ⟨(Ic Mb2 (Ic Mb3 In0)), ?_⟩)
               refine Ao 10 Z ?_
               refine Xr (T := Ty.i64) (vs := [(Vi h)]) (r' := [(Vi h)]) (l' := (Xz e p h)) Z Z Z Z Z (.there .here) d aY Z Z Z (RowR.set p d Z) (fun bY => ⟨(Ic Mb2 (Ic Mb3 In0)), ?_⟩)
               have c0 := XG aY (v := [(Vi h)])
               exact Ad<|Pu1<|Pu2<|Pu4<|Pu4<|Pu4<|Sd<|⟨_, by exact R2, I, ((W8.mk p0.list x ((W8.mk p0.list a p0.value).value)).value), p1.kind, p1.mode, p1.channel, p1.value, p1.deadline, i, n, b, (Xz e p h), (t.set p.toNat [(Vi h)]), Z, Z, H, r, bY⟩
          ·intro aq
           obtain ⟨aq, H⟩ := If aq H
           exact Xt<|Pu1<|Pu2<|Pu4<|Pu4<|Pu4<|Sd<|⟨_, by exact R2, a, p0.value, p1.kind, p1.mode, p1.channel, p1.value, p1.deadline, i, n, b, e, t, Z, Z, H, r, d⟩
         ·intro ap
          obtain ⟨ap, H⟩ := If ap H
          refine Xd<|W9<|Ec Z<|Ea Z<|Xa<|?_
          refine Xp Z ?_ ?_
          ·intro ar
           obtain ⟨ar, H⟩ := It ar H
           refine XA ?_
           refine XO (fun bz aT R G' => ∃ (y z : Int) (ab : SV) (ay : ab7) (O : SV) (af : ab3) (aP : List (List Value)), [(0, (Vp f)), (3, (Vp aH)), (4, (Vp aI))] = aT ∧ (.blk f 55 (Xn (W8.mk p0.list y z) g)) :: (.blk aI 70 (Xb (Op.mk 0 0 0 0 0 [] []) Xo Xo)) :: (.blk aH 70 (Xb (Op.mk p1.kind p1.mode p1.channel p1.value p1.deadline ay af) ab O)) :: (.tok 101 3 [(sv ab)]) :: (.row (sv O) 3 1 aP.flatten) :: G = G' ∧ lp4 (afy p0 p1) bz y z ay af = some (y0, aE, aF) ∧ Slr XC R (sv ab) ay ∧ RowR Ty.i64 R aP af) BIG ?_ ?_
           ·exact Pu1<|Pu2<|Pu4<|Pu4<|Pu4<|Sd<|⟨_, by exact R3, a, p0.value, i, n, b, e, t, Z, Z, H, r, d⟩
           rintro bz _ bI _ bO ⟨y, z, ab, ay, O, af, aP, rfl, rfl, H, aZ, av⟩
           obtain ⟨c3, c2, rfl, aJ, H⟩ := aks H
           unfold afy at H
           refine Xd<|Xd<|?_
           obtain ⟨bH, Q, cD, H⟩ := Yf H
           refine XH _ Z (Ic Mb1 (Ic Mb2 (Ic Mb3 (Ic Mb4 In0))))<|JF 0 5 Z<|Jl 1 (sv ab) Z (Rb1 Z)<|Jq 2 Z (XN (T := XC) aZ Z Z)<|Jm 3 Z<|?_
           refine Ao 4 Z ?_
           have aK := k.mono bO
           refine Ek Tryz.call21 Z (XU f (W8.mk p0.list y z) g 2 bH Q cD _ _ aK) ?_
           rintro _ _ _ - ⟨rfl, rfl, rfl⟩
           refine ⟨(Ic Mb1 (Ic Mb2 (Ic Mb3 (Ic Mb4 In0)))), ?_⟩
           refine Jr 5 (wI (6 + bH)) Z<|Jc 6 Z<|Ad<|?_
           refine Xp Z ?_ ?_
           ·intro au
            obtain ⟨au, H⟩ := It au H
            refine Xt<|XA<|Xd<|W9<|EF 5 Z<|El (sv ab) Z (Rb2 Z)<|Eq Z (XV (cs := (Xw (Case.mk false 0 0))) Z Z Z Z Z Z)<|?_
            have br : RowR XC bI [(Xw (Case.mk false 0 0))] [(Case.mk false 0 0)] := RowR.cons Z (RowR.nil)
            refine Xh Z (Xx (T := XC) (rows := [(Xw (Case.mk false 0 0))]) (l := [(Case.mk false 0 0)]) Z Z Z br Z Z Z Z Z Z Z Z (fun dh => ?_))
            obtain ⟨C, cE, H⟩ := bnd H
            refine Xh Z (Xj (T := XC) (bytes := 24) (q := 0) Z Z Z aZ Mb4 Z (SrcT.row Mb0 br Z) cE Z Z Z Z Z Z Z Z (fun A aG aa ae => ⟨_, (.there (.there (.there (.there .here)))), ?_⟩))
            refine Ow.shift (Re0 (Sd ?_))
            refine EF 5 Z ?_
            refine Xh Z (So [(sv A)] (Xb (Op.mk p1.kind p1.mode p1.channel p1.value p1.deadline C af) A O) Z (.there (.there .here)) Z ?_)
            refine Xa ?_
            obtain ⟨s, ac, a2, H⟩ := Yf H
            obtain ⟨Y, aN, H⟩ := bnd H
            refine XH _ Z (Ic Mb1 (Ic Mb3 In0))<|JF 0 6 Z<|Jm 2 Z<|JF 3 5 Z<|?_
            refine Xu 1 4 (by kernel_rfl) ?_ ?_
            ·refine id (Jyq Z (Xe (v := (sv O)) Z Z Z (Rb2 Z)) ⟨(Ic Mb1 (Ic Mb3 In0)), ?_⟩)
             refine Xk 4 (by kernel_rfl) (Jyq Z (Xe (v := (sv A)) Z Z Z (Rb2 Z)) ⟨(Ic Mb1 (Ic Mb3 In0)), ?_⟩)
             refine Jq 5 Z (XN (T := XC) ae Z Z) ?_
             refine Ao 6 Z ?_
             have cn := aK.mono aa
             refine Ek Tryz.call21 Z (XU f (W8.mk p0.list Q ((W8.mk p0.list y z).value)) g (C.length : Int) s ac a2 _ _ cn) ?_
             rintro _ _ _ - ⟨rfl, rfl, rfl⟩
             refine ⟨(Ic Mb1 (Ic Mb3 In0)), ?_⟩
             refine Ao 7 Z ?_
             have bs : RowR Ty.i64 aG [[(Vi s)]] [s] := RowR.cons Z (RowR.nil)
             refine Xx (T := Ty.i64) (rows := [[(Vi s)]]) (l := [s]) Z Z Z bs Z Z Z Z Z Z Z Z (fun di => ⟨(Ic Mb2 (Ic Mb4 In0)), ?_⟩)
             refine Ao 8 Z ?_
             have co := av.mono aa
             refine Xv (T := Ty.i64) (bytes := 8) Z Z Z Mb5 co (SrcT.row Mb0 bs Z) aN Z Z Z Z Z Z Z Z (fun bd cI bZ => ⟨_, (.there (.there (.there (.there (.there .here))))), ⟨(Ic Mb2 (Ic Mb4 In0)), ?_⟩⟩)
             refine Aw.shift (Re0 (Sd ⟨(Ic Mb1 (Ic Mb3 In0)), ?_⟩))
             refine JF 9 6 Z ?_
             refine Ao 10 Z ?_
             refine So [(sv bd)] (Xb (Op.mk p1.kind p1.mode p1.channel p1.value p1.deadline C Y) A bd) Z (.there (.there .here)) Z ⟨(Ic Mb1 (Ic Mb3 In0)), ?_⟩
             exact Ad<|Pu4<|Pu4<|Pu4<|Pu4<|Pu4<|Sd<|⟨_, by exact R3, _, Nat.lt_succ_self _, ac, ((W8.mk p0.list Q ((W8.mk p0.list y z).value)).value), A, C, bd, Y, cI, Z, Z, (aJ ▸ H), ae, bZ⟩
            ·refine id (Jyq Z (Xe (v := (sv A)) Z Z Z (Rb2 Z)) ⟨(Ic Mb1 (Ic Mb3 In0)), ?_⟩)
             refine Jq 5 Z (XN (T := XC) ae Z Z) ?_
             refine Xu 1 6 (by kernel_rfl) ?_ ?_
             ·refine id (Jyq Z (Xe (v := (sv O)) Z Z Z (Rb2 Z)) ⟨(Ic Mb1 (Ic Mb3 In0)), ?_⟩)
              refine Ao 6 Z ?_
              have cp := aK.mono aa
              refine Ek Tryz.call21 Z (XU f (W8.mk p0.list Q ((W8.mk p0.list y z).value)) g (C.length : Int) s ac a2 _ _ cp) ?_
              rintro _ _ _ - ⟨rfl, rfl, rfl⟩
              refine ⟨(Ic Mb1 (Ic Mb3 In0)), ?_⟩
              refine Ao 7 Z ?_
              have bt : RowR Ty.i64 aG [[(Vi s)]] [s] := RowR.cons Z (RowR.nil)
              refine Xx (T := Ty.i64) (rows := [[(Vi s)]]) (l := [s]) Z Z Z bt Z Z Z Z Z Z Z Z (fun dj => ⟨(Ic Mb2 (Ic Mb4 In0)), ?_⟩)
              refine Ao 8 Z ?_
              have cq := av.mono aa
              refine Xv (T := Ty.i64) (bytes := 8) Z Z Z Mb5 cq (SrcT.row Mb0 bt Z) aN Z Z Z Z Z Z Z Z (fun be cJ b0 => ⟨_, (.there (.there (.there (.there (.there .here))))), ⟨(Ic Mb2 (Ic Mb4 In0)), ?_⟩⟩)
              refine Aw.shift (Re0 (Sd ⟨(Ic Mb1 (Ic Mb3 In0)), ?_⟩))
              refine JF 9 6 Z ?_
              refine Ao 10 Z ?_
              refine So [(sv be)] (Xb (Op.mk p1.kind p1.mode p1.channel p1.value p1.deadline C Y) A be) Z (.there (.there .here)) Z ⟨(Ic Mb1 (Ic Mb3 In0)), ?_⟩
              exact Ad<|Pu4<|Pu4<|Pu4<|Pu4<|Pu4<|Sd<|⟨_, by exact R3, _, Nat.lt_succ_self _, ac, ((W8.mk p0.list Q ((W8.mk p0.list y z).value)).value), A, C, be, Y, cJ, Z, Z, (aJ ▸ H), ae, b0⟩
             ·refine id (Jy Z ?_)
              have cr := aK.mono aa
              refine Ek Tryz.call21 Z (XU f (W8.mk p0.list Q ((W8.mk p0.list y z).value)) g (C.length : Int) s ac a2 _ _ cr) ?_
              rintro _ _ _ - ⟨rfl, rfl, rfl⟩
              refine ⟨(Ic Mb1 (Ic Mb3 In0)), ?_⟩
              refine Xu 1 7 (by kernel_rfl) ?_ ?_
              ·refine id (Jyq Z (Xe (v := (sv O)) Z Z Z (Rb2 Z)) ⟨(Ic Mb1 (Ic Mb3 In0)), ?_⟩)
               refine Ao 7 Z ?_
               have bu : RowR Ty.i64 aG [[(Vi s)]] [s] := RowR.cons Z (RowR.nil)
               refine Xx (T := Ty.i64) (rows := [[(Vi s)]]) (l := [s]) Z Z Z bu Z Z Z Z Z Z Z Z (fun dk => ⟨(Ic Mb2 (Ic Mb4 In0)), ?_⟩)
               refine Ao 8 Z ?_
               have ct := av.mono aa
               refine Xv (T := Ty.i64) (bytes := 8) Z Z Z Mb5 ct (SrcT.row Mb0 bu Z) aN Z Z Z Z Z Z Z Z (fun bf cK b1 => ⟨_, (.there (.there (.there (.there (.there .here))))), ⟨(Ic Mb2 (Ic Mb4 In0)), ?_⟩⟩)
               refine Aw.shift (Re0 (Sd ⟨(Ic Mb1 (Ic Mb3 In0)), ?_⟩))
               refine JF 9 6 Z ?_
               refine Ao 10 Z ?_
               refine So [(sv bf)] (Xb (Op.mk p1.kind p1.mode p1.channel p1.value p1.deadline C Y) A bf) Z (.there (.there .here)) Z ⟨(Ic Mb1 (Ic Mb3 In0)), ?_⟩
               exact Ad<|Pu4<|Pu4<|Pu4<|Pu4<|Pu4<|Sd<|⟨_, by exact R3, _, Nat.lt_succ_self _, ac, ((W8.mk p0.list Q ((W8.mk p0.list y z).value)).value), A, C, bf, Y, cK, Z, Z, (aJ ▸ H), ae, b1⟩
              ·refine id (Jy Z ?_)
               have bv : RowR Ty.i64 aG [[(Vi s)]] [s] := RowR.cons Z (RowR.nil)
               refine Xx (T := Ty.i64) (rows := [[(Vi s)]]) (l := [s]) Z Z Z bv Z Z Z Z Z Z Z Z (fun dl => ⟨(Ic Mb2 (Ic Mb4 In0)), ?_⟩)
               refine Xk 1 (by kernel_rfl) (Jyq Z (Xe (v := (sv O)) Z Z Z (Rb3 Z)) ⟨(Ic Mb2 (Ic Mb4 In0)), ?_⟩)
               refine Ao 8 Z ?_
               have cu := av.mono aa
               refine Xv (T := Ty.i64) (bytes := 8) Z Z Z Mb5 cu (SrcT.row Mb0 bv Z) aN Z Z Z Z Z Z Z Z (fun bg cL b2 => ⟨_, (.there (.there (.there (.there (.there .here))))), ⟨(Ic Mb2 (Ic Mb4 In0)), ?_⟩⟩)
               refine Aw.shift (Re0 (Sd ⟨(Ic Mb1 (Ic Mb3 In0)), ?_⟩))
               refine JF 9 6 Z ?_
               refine Ao 10 Z ?_
               refine So [(sv bg)] (Xb (Op.mk p1.kind p1.mode p1.channel p1.value p1.deadline C Y) A bg) Z (.there (.there .here)) Z ⟨(Ic Mb1 (Ic Mb3 In0)), ?_⟩
               exact Ad<|Pu4<|Pu4<|Pu4<|Pu4<|Pu4<|Sd<|⟨_, by exact R3, _, Nat.lt_succ_self _, ac, ((W8.mk p0.list Q ((W8.mk p0.list y z).value)).value), A, C, bg, Y, cL, Z, Z, (aJ ▸ H), ae, b2⟩
           ·intro au
            obtain ⟨au, H⟩ := If au H
            exact XS<|Pu4<|Pu4<|Pu4<|Pu4<|Pu4<|Sd<|⟨_, by exact R2, Q, ((W8.mk p0.list y z).value), p1.kind, p1.mode, p1.channel, p1.value, p1.deadline, ab, ay, O, af, aP, Z, Z, H, aZ, av⟩
          ·intro ar
           obtain ⟨ar, H⟩ := If ar H
           exact Xt<|Pu1<|Pu2<|Pu4<|Pu4<|Pu4<|Sd<|⟨_, by exact R2, a, p0.value, p1.kind, p1.mode, p1.channel, p1.value, p1.deadline, i, n, b, e, t, Z, Z, H, r, d⟩
 rintro _ cS _ c1 ⟨a3, a4, S, U, V, W, X, E, L, N, M, aO, rfl, rfl, H, cc, bQ⟩
 unfold aaC at H
 refine Xd<|W9<|EL 7 (Xb (Op.mk S U V W X L M) E N) Z (Rb2 Z)<|?_
 refine Xh Z (Sa (Xb (Op.mk S U V W X L M) E N) Z (.there .here) Z ?_)
 refine Xa<|Xy<|?_
 obtain ⟨cT, cU, cV⟩ := YZ H
 subst y0 aE aF
 refine ⟨(.inl Z), [(.agg (Xb (Op.mk S U V W X L M) E N).toArray)], ⟨(.agg (Xb (Op.mk S U V W X L M) E N).toArray), _, Z, ⟨_, 7, (Xb (Op.mk S U V W X L M) E N), Z, Z, Z, Z, ⟨Z, Rb1 Z⟩, Z⟩, Z⟩, ?_⟩
 exact Pu4<|Pu4<|Pu2<|Re3<|Re3<|Sd<|⟨E, N, aO, Z, Z, cc, bQ⟩
end Go.Hx
