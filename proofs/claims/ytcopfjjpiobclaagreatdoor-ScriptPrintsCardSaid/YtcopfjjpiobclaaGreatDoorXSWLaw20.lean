
import Derived.Test.YtcopfjjpiobclaaGreatDoorXSM
import Derived.Test.YtcopfjjpiobclaaGreatDoorXSWScript2
import Derived.Test.YtcopfjjpiobclaaGreatDoorXSWDraw
set_option linter.unusedVariables false
set_option linter.unusedSimpArgs false
namespace Go.Hx
open Go Go.Proofs
set_option maxRecDepth 10000
set_option maxHeartbeats 1000000
theorem abv  (l : Bool) (H : UH = some l) (K : Kp) (G : List Ent) (hT : TabK K) :
  Fc Tryz.prog 8 #[] K (G) (fun v q m => v = (.bool l) ∧ G = m) := by
 refine Om Tryz.func8 Z Tryz.ntmps8 Tryz.results8 Z ?_
 unfold UH at H
 refine NK<|NH<|Ea Z<|NI<|NK<|NH<|?_
 obtain ⟨j, M, N, I, H⟩ := PP H
 refine NP Z (Ek Tryz.call13 Z (adi (⟨#[99, 104, 97, 110, 110, 101, 108, 32, 49, 32, 48, 10, 116, 104, 114, 101, 97, 100, 10, 32, 32, 115, 101, 110, 100, 32, 48, 32, 53, 10, 32, 32, 115, 101, 108, 101, 99, 116, 32, 114, 101, 99, 118, 32, 48, 32, 115, 101, 110, 100, 32, 45, 49, 32, 55, 32, 100, 114, 97, 119, 115, 32, 48, 32, 49, 32, 116, 114, 121, 10, 112, 105, 99, 107, 115, 32, 48, 32, 48, 32, 45, 51, 32, 48, 10]⟩ : ByteArray) j M N I _ _ hT) ?_)
 rintro _ R _ y ⟨o, p, h, i, rfl, rfl, B, C, s, t⟩
 refine Em Z<|Ex Z<|Ex Z<|Ex Z<|?_
 refine NP Z (Ox (cs := (NJ (Script.mk (Config.mk [] [] 0) [] []) NY NY NY NY)) Z Z Z Z (fun S => ?_))
 refine NP Z (Sa (NJ j o p h i) Z .here Z ?_)
 refine Ea Z<|Ea Z<|NI<|NK<|NH<|EL 5 (NJ j o p h i) Z (Rb0 Z)<|?_
 obtain ⟨O, P, J, H⟩ := O4 H
 have D := hT.mono y
 refine NP Z (Ek Tryz.call16 Z (ZR j o p h i O P J _ _ B C s t D) ?_)
 rintro _ w _ r ⟨rfl, rfl⟩
 refine Em Z<|Ex Z<|Ex Z<|Ea Z<|Ea Z<|NI<|?_
 refine Ob (fun x q m => ∃ (g : Bool), [(0, (.bool g))] = x ∧ w = q ∧ G = m ∧ Ss g = some l) ?_ ?_
 ·refine NH<|Em Z<|Ec Z<|Em Z<|?_
  refine Ee Z ?_ ?_
  ·intro a
   obtain ⟨a, H⟩ := It a H
   refine Vm Z<|Vc Z<|Et Z<|Em Z<|?_
   refine Ee Z ?_ ?_
   ·intro b
    obtain ⟨b, H⟩ := It b H
    refine Vm Z<|Vc Z<|Et Z<|Em Z<|?_
    refine Ee Z ?_ ?_
    ·intro c
     obtain ⟨c, H⟩ := It c H
     refine Vm Z<|Vq Z (Q1 Z Z)<|Et Z<|Em Z<|?_
     refine Ee Z ?_ ?_
     ·intro d
      obtain ⟨d, H⟩ := It d H
      refine VF 4 Z<|Vl (sv i) Z (Rb0 Z)<|?_
      have E := t.mono r
      refine Vq Z (Oo (T := Ty.i64) E Z Z)<|Vc Z<|Et Z<|Em Z<|?_
      refine Ee Z ?_ ?_
      ·intro e
       obtain ⟨e, H⟩ := It e H
       refine VF 3 Z<|Vl (sv h) Z (Rb0 Z)<|?_
       have n := s.mono r
       refine Vq Z (Oo (T := (Ty.sl NN)) n Z Z)<|Vc Z<|Et Z<|Em Z<|?_
       refine Ee Z ?_ ?_
       ·intro f
        obtain ⟨f, H⟩ := It f H
        refine VF 3 Z<|Vl (sv h) Z (Rb0 Z)<|?_
        obtain ⟨Q, u, H⟩ := bnd H
        obtain ⟨V, A, z⟩ := Slr.at n u
        obtain ⟨L, rfl, F⟩ := A
        exact Vq Z (Qi (T := (Ty.sl NN)) n u Z)<|Vl (sv L) Z (Rdc.k z Z)<|Vq Z (Oo (T := NN) F Z Z)<|Vc Z<|Et Z<|Ea Z<|NI<|Re0<|Re0<|Re0<|Re0<|Re0<|Sd<|⟨_, by exact R1, (dcd ((Q.length : Int) = 2)), Z, Z, Z, H⟩
       ·intro f
        obtain ⟨f, H⟩ := If f H
        exact Ez Z<|Ez Z<|Ez Z<|Ez Z<|Ez Z<|Ez Z<|Ef Z<|Ea Z<|NI<|Re0<|Re0<|Re0<|Re0<|Re0<|Sd<|⟨_, by exact R1, false, Z, Z, Z, H⟩
      ·intro e
       obtain ⟨e, H⟩ := If e H
       exact Ez Z<|Ez Z<|Ez Z<|Ez Z<|Ef Z<|Em Z<|Ez Z<|Ez Z<|Ez Z<|Ez Z<|Ez Z<|Ez Z<|Ef Z<|Ea Z<|NI<|Re0<|Re0<|Re0<|Re0<|Re0<|Sd<|⟨_, by exact R1, false, Z, Z, Z, H⟩
     ·intro d
      obtain ⟨d, H⟩ := If d H
      refine Ez Z<|Ez Z<|Ez Z<|Ez Z<|Ef Z<|Em Z<|Ez Z<|Ez Z<|Ez Z<|Ez Z<|Ef Z<|Em Z<|Ez Z<|Ez Z<|Ez Z<|Ez Z<|Ez Z<|Ez Z<|Ef Z<|Ea Z<|NI<|Re0<|?_
      exact Re0<|Re0<|Re0<|Re0<|Sd<|⟨_, by exact R1, false, Z, Z, Z, H⟩
    ·intro c
     obtain ⟨c, H⟩ := If c H
     refine Ez Z<|Ez Z<|Ef Z<|Em Z<|Ez Z<|Ez Z<|Ez Z<|Ez Z<|Ef Z<|Em Z<|Ez Z<|Ez Z<|Ez Z<|Ez Z<|Ef Z<|Em Z<|Ez Z<|Ez Z<|Ez Z<|Ez Z<|Ez Z<|Ez Z<|?_
     exact Ef Z<|Ea Z<|NI<|Re0<|Re0<|Re0<|Re0<|Re0<|Sd<|⟨_, by exact R1, false, Z, Z, Z, H⟩
   ·intro b
    obtain ⟨b, H⟩ := If b H
    refine Ez Z<|Ez Z<|Ef Z<|Em Z<|Ez Z<|Ez Z<|Ef Z<|Em Z<|Ez Z<|Ez Z<|Ez Z<|Ez Z<|Ef Z<|Em Z<|Ez Z<|Ez Z<|Ez Z<|Ez Z<|Ef Z<|Em Z<|Ez Z<|Ez Z<|?_
    exact Ez Z<|Ez Z<|Ez Z<|Ez Z<|Ef Z<|Ea Z<|NI<|Re0<|Re0<|Re0<|Re0<|Re0<|Sd<|⟨_, by exact R1, false, Z, Z, Z, H⟩
  ·intro a
   obtain ⟨a, H⟩ := If a H
   refine Ez Z<|Ez Z<|Ef Z<|Em Z<|Ez Z<|Ez Z<|Ef Z<|Em Z<|Ez Z<|Ez Z<|Ef Z<|Em Z<|Ez Z<|Ez Z<|Ez Z<|Ez Z<|Ef Z<|Em Z<|Ez Z<|Ez Z<|Ez Z<|Ez Z<|?_
   exact Ef Z<|Em Z<|Ez Z<|Ez Z<|Ez Z<|Ez Z<|Ez Z<|Ez Z<|Ef Z<|Ea Z<|NI<|Re0<|Re0<|Re0<|Re0<|Re0<|Sd<|⟨_, by exact R1, false, Z, Z, Z, H⟩
 rintro _ _ _ - ⟨g, rfl, rfl, rfl, H⟩
 unfold Ss at H
 refine N5 ?_
 obtain U := OB H
 subst l
 refine ⟨(.inl Z), [(.bool g)], ⟨(.bool g), _, Z, Z, Z⟩, ?_⟩
 exact Sd ⟨Z, Z⟩
theorem abN (p0 : Script) (h i : SV) (b j : SV) (c : Bool) (H : Va p0 = some c) (K : Kp) (G : List Ent) (Y : Slr Ty.i64 K (sv h) p0.cnfg.capacities) (aa : Slr Ty.u64 K (sv i) p0.cnfg.starts) (z : Slr (Ty.sl NN) K (sv b) p0.ops) (ab : Slr Ty.i64 K (sv j) p0.picks) :
  Fc Tryz.prog 17 #[(.agg (NJ p0 h i b j).toArray)] K (G) (fun v g a => v = (.bool c) ∧ G = a) := by
 refine Om Tryz.func17 Z Tryz.ntmps17 Tryz.results17 Z ?_
 unfold Va at H
 refine NK<|NH<|?_
 refine NP Z (ON (cs := (NJ p0 h i b j)) Z Z Z (fun f => ?_))
 refine Ea Z<|NI<|NK<|?_
 refine Ob (fun d g a => ∃ (C : Bool), [(1, (Vp f)), (29, (.bool C))] = d ∧ K = g ∧ (.blk f 33 (NJ p0 h i b j)) :: G = a ∧ TM p0 C = some c) ?_ ?_
 ·refine NH<|EF 0 Z<|EF 0 Z<|El (sv h) Z (Rb0 Z)<|Eq Z (Oo (T := Ty.i64) Y Z Z)<|Ec Z<|Em Z<|?_
  refine Ee Z ?_ ?_
  ·intro m
   obtain ⟨m, H⟩ := It m H
   exact Ez Z<|Ez Z<|Ez Z<|Ez Z<|Ez Z<|Et Z<|Em Z<|Ez Z<|Ez Z<|Ez Z<|Ez Z<|Et Z<|Em Z<|Ez Z<|Ez Z<|Ez Z<|Ez Z<|Et Z<|NI<|Sd<|⟨_, by exact R2, true, Z, Z, Z, H⟩
  ·intro m
   obtain ⟨m, H⟩ := If m H
   refine VF 0 Z<|VF 1 Z<|Vl (sv i) Z (Rb0 Z)<|Vq Z (Oo (T := Ty.u64) aa Z Z)<|Vc Z<|Ef Z<|Em Z<|?_
   refine Ee Z ?_ ?_
   ·intro n
    obtain ⟨n, H⟩ := It n H
    exact Ez Z<|Ez Z<|Ez Z<|Ez Z<|Et Z<|Em Z<|Ez Z<|Ez Z<|Ez Z<|Ez Z<|Et Z<|NI<|Sd<|⟨_, by exact R2, true, Z, Z, Z, H⟩
   ·intro n
    obtain ⟨n, H⟩ := If n H
    refine VF 3 Z<|Vl (sv b) Z (Rb0 Z)<|Vq Z (Oo (T := (Ty.sl NN)) z Z Z)<|Vc Z<|Ef Z<|Em Z<|?_
    refine Ee Z ?_ ?_
    ·intro o
     obtain ⟨o, H⟩ := It o H
     exact Ez Z<|Ez Z<|Ez Z<|Ez Z<|Et Z<|NI<|Sd<|⟨_, by exact R2, true, Z, Z, Z, H⟩
    ·intro o
     obtain ⟨o, H⟩ := If o H
     exact VF 4 Z<|Vl (sv j) Z (Rb0 Z)<|Vq Z (Oo (T := Ty.i64) ab Z Z)<|Vc Z<|Ef Z<|NI<|Sd<|⟨_, by exact R2, (dcd ((p0.picks.length : Int) > 100)), Z, Z, Z, H⟩
 rintro _ _ _ - ⟨C, rfl, rfl, rfl, H⟩
 unfold TM at H
 refine NW Z ?_ ?_
 ·intro x
  have H := ift x H
  refine NK<|NH<|Ea Z<|NI<|N5<|?_
  obtain w := OB H
  subst c
  refine ⟨(.inl Z), [(.bool true)], ⟨(.bool true), _, Z, Z, Z⟩, ?_⟩
  exact Re0<|Sd<|⟨Z, Z⟩
 ·intro x
  have H := OF (btf x) H
  refine N2 ?_
  refine Ob (fun d g a => [] = d ∧ G = a ∧ Y7 = some c) ?_ ?_
  ·refine NK<|NH<|EF 3 Z<|El (sv b) Z (Rb0 Z)<|Eq Z (Oo (T := (Ty.sl NN)) z Z Z)<|Em Z<|NI<|N4<|?_
   refine On (fun P d g a => ∃ (e : Int), [(1, (Vp f)), (32, (Vi (p0.ops.length : Int))), (33, (Vi e))] = d ∧ (.blk f 33 (NJ p0 h i b j)) :: G = a ∧ lp1 (XF p0) P e = some c) BIG ?_ ?_
   ·exact Sd ⟨_, by exact R3, 0, Z, Z, H⟩
   rintro P _ L _ R ⟨e, rfl, rfl, H⟩
   obtain ⟨ap, B, rfl, W, H⟩ := QP H
   unfold XF at H
   refine NK<|NH<|Ec Z<|NI<|NK<|?_
   refine NW Z ?_ ?_
   ·intro p
    obtain ⟨p, H⟩ := It p H
    refine N2 ?_
    refine Ob (fun d g a => [(1, (Vp f)), (32, (Vi (p0.ops.length : Int))), (33, (Vi e))] = d ∧ (.blk f 33 (NJ p0 h i b j)) :: G = a ∧ XD p0 e B = some c) ?_ ?_
    ·refine N4<|NK<|NH<|Em Z<|Ea Z<|NI<|NK<|NK<|NH<|EF 3 Z<|El (sv b) Z (Rb0 Z)<|Em Z<|?_
     obtain ⟨aw, M, H⟩ := bnd H
     have t := z.mono R
     obtain ⟨ar, ac, S⟩ := Slr.at t M
     obtain ⟨aj, rfl, af⟩ := ac
     refine Eq Z (Qi (T := (Ty.sl NN)) t M Z)<|El (sv aj) Z (Rdc.k S Z)<|Eq Z (Oo (T := NN) af Z Z)<|Ec Z<|NI<|?_
     refine NW Z ?_ ?_
     ·intro q
      obtain ⟨q, H⟩ := It q H
      refine NK<|NH<|Ea Z<|NI<|N5<|?_
      obtain w := OB H
      subst c
      refine ⟨(.inl Z), [(.bool true)], ⟨(.bool true), _, Z, Z, Z⟩, ?_⟩
      exact Re0<|Sd<|⟨Z, Z⟩
     ·intro q
      obtain ⟨q, H⟩ := If q H
      refine N2<|NK<|NH<|EF 3 Z<|El (sv b) Z (Rb0 Z)<|Em Z<|?_
      obtain ⟨u, N, H⟩ := bnd H
      obtain ⟨au, ad, U⟩ := Slr.at t N
      obtain ⟨E, rfl, A⟩ := ad
      refine Eq Z (Qi (T := (Ty.sl NN)) t N Z)<|El (sv E) Z (Rdc.k U Z)<|Eq Z (Oo (T := NN) A Z Z)<|Em Z<|NI<|N4<|?_
      refine On (fun Q d g a => ∃ (l : Int), [(1, (Vp f)), (32, (Vi (p0.ops.length : Int))), (33, (Vi e)), (47, (sv E)), (48, (Vi (u.length : Int))), (49, (Vi l))] = d ∧ L = g ∧ (.blk f 33 (NJ p0 h i b j)) :: G = a ∧ lp1 (XE p0 e u B) Q l = some c) BIG ?_ ?_
      ·exact Sd ⟨_, by exact R6, 0, Z, Z, Z, H⟩
      rintro Q _ _ _ - ⟨l, rfl, rfl, rfl, H⟩
      obtain ⟨aq, ai, rfl, X, H⟩ := QP H
      unfold XE at H
      refine NK<|NH<|Ec Z<|NI<|NK<|?_
      refine NW Z ?_ ?_
      ·intro r
       obtain ⟨r, H⟩ := It r H
       refine N2<|NK<|N4<|NK<|NH<|?_
       obtain ⟨J, O, H⟩ := bnd H
       obtain ⟨av, ae, V⟩ := Slr.at A O
       obtain ⟨F, I, rfl, ag, ah⟩ := ae
       refine Eq Z (Qi (T := NN) A O Z)<|EL 7 (NL J F I) Z (Rdc.k V Z)<|?_
       refine NP Z (Ox (cs := (NL (Op.mk 0 0 0 0 0 [] []) NY NY)) Z Z Z Z (fun am => ?_))
       refine NP Z (Sa (NL J F I) Z .here Z ?_)
       refine NI ?_
       refine Ob (fun d g a => ∃ (D : Bool), [(1, (Vp f)), (32, (Vi (p0.ops.length : Int))), (33, (Vi e)), (47, (sv E)), (48, (Vi (u.length : Int))), (49, (Vi l)), (62, (.bool D))] = d ∧ L = g ∧ (.blk f 33 (NJ p0 h i b j)) :: G = a ∧ S5 p0 e u l B ai D = some c) ?_ ?_
       ·refine NH<|EF 5 Z<|El (sv F) Z (Rb0 Z)<|Eq Z (Oo (T := Oa) ag Z Z)<|Ec Z<|Em Z<|?_
        refine Ee Z ?_ ?_
        ·intro s
         obtain ⟨s, H⟩ := It s H
         exact Ez Z<|Ez Z<|Ez Z<|Ez Z<|Et Z<|NI<|Pu1<|Re1<|Sd<|⟨_, by exact R7, true, Z, Z, Z, H⟩
        ·intro s
         obtain ⟨s, H⟩ := If s H
         exact VF 6 Z<|Vl (sv I) Z (Rb0 Z)<|Vq Z (Oo (T := Ty.i64) ah Z Z)<|Vc Z<|Ef Z<|NI<|Pu1<|Re1<|Sd<|⟨_, by exact R7, (dcd ((J.draws.length : Int) > 20)), Z, Z, Z, H⟩
       rintro _ _ _ - ⟨D, rfl, rfl, rfl, H⟩
       unfold S5 at H
       refine NW Z ?_ ?_
       ·intro y
        have H := ift y H
        refine NK<|NH<|Ea Z<|NI<|N5<|?_
        obtain w := OB H
        subst c
        refine ⟨(.inl Z), [(.bool true)], ⟨(.bool true), _, Z, Z, Z⟩, ?_⟩
        exact Re0<|Sd<|⟨Z, Z⟩
       ·intro y
        have H := OF (btf y) H
        exact N2<|NH<|Er (wI (l + 1)) Z<|Em Z<|NI<|Sd<|⟨_, by exact R6, _, Nat.lt_succ_self _, (wI (l + 1)), Z, Z, Z, (X ▸ H)⟩
      ·intro r
       obtain ⟨r, H⟩ := If r H
       exact Ov<|Sd<|⟨_, by exact R3, Z, Z, H⟩
    rintro _ ak _ an ⟨rfl, rfl, H⟩
    unfold XD at H
    exact NH<|Er (wI (e + 1)) Z<|Em Z<|NI<|Sd<|⟨_, by exact R3, _, Nat.lt_succ_self _, (wI (e + 1)), Z, Z, (W ▸ H)⟩
   ·intro p
    obtain ⟨p, H⟩ := If p H
    exact Ov<|Re0<|Sd<|⟨[], trivial, Z, Z, H⟩
  rintro _ al _ ao ⟨rfl, rfl, H⟩
  unfold Y7 at H
  refine NK<|NH<|Ea Z<|NI<|N5<|?_
  obtain w := OB H
  subst c
  refine ⟨(.inl Z), [(.bool false)], ⟨(.bool false), _, Z, Z, Z⟩, ?_⟩
  exact Sd ⟨Z, Z⟩
theorem Ou (f : Nat) (p0 : NG) (g : SV) (p1 : Op) (aQ az : SV) (y0 : Op) (aE aF : Int) (H : Vb p0 p1 = some (y0, aE, aF)) (K : Kp) (G : List Ent) (b3 : Slr Ty.u8 K (sv g) p0.list) (b4 : Slr Oa K (sv aQ) p1.cases) (b5 : Slr Ty.i64 K (sv az) p1.draws) :
  Fc Tryz.prog 39 #[(Vp f), (.agg (NL p1 aQ az).toArray)] K ((.blk f 55 (NX p0 g)) :: G) (fun v R G' => ∃ (bh bB : SV) (bA : List (List Value)), v = (.agg (NL y0 bh bB).toArray) ∧ (.blk f 55 (NX (NG.mk p0.list aE aF) g)) :: (.tok 101 3 [(sv bh)]) :: (.row (sv bB) 3 1 bA.flatten) :: G = G' ∧ Slr Oa R (sv bh) y0.cases ∧ RowR Ty.i64 R bA y0.draws) := by
 refine Om Tryz.func39 Z Tryz.ntmps39 Tryz.results39 Z ?_
 unfold Vb at H
 refine NK<|NH<|?_
 refine NP Z (ON (cs := (NL p1 aQ az)) Z Z Z (fun aH => ?_))
 refine NP Z (Ox (cs := (NL (Op.mk 0 0 0 0 0 [] []) NY NY)) Z Z Z Z (fun aI => ?_))
 refine NI<|NK<|NH<|EF 5 Z<|El (sv aQ) Z (Rb1 Z)<|?_
 refine Ow.shift (Shift.nilTok1 101 3 (Sd ?_))
 obtain ⟨n, cv, H⟩ := bnd H
 refine NP Z (NS (T := Oa) (bytes := 24) (q := 0) Z Z Z (Slr.nil Oa _) Mb0 Z (SrcT.sl b4) cv Z Z Z Z Z Z Z Z (fun i J bi r => ⟨_, .here, ?_⟩))
 refine EF 5 Z ?_
 refine NP Z (So [(sv i)] (NL (Op.mk p1.kind p1.mode p1.channel p1.value p1.deadline n p1.draws) i az) Z (.there (.there .here)) Z ?_)
 refine NI<|NK<|NH<|EF 6 Z<|El (sv az) Z (Rb2 Z)<|?_
 have bP : RowR Ty.i64 J [] [] := RowR.nil
 refine Ow.shift (Shift.nilRow 3 1 (Sd ?_))
 obtain ⟨e, cw, H⟩ := bnd H
 have cb := b5.mono bi
 refine NP Z (N7 (T := Ty.i64) (bytes := 8) Z Z Z Mb0 bP (SrcT.sl cb) cw Z Z Z Z Z Z Z Z (fun b t d => ⟨_, .here, ?_⟩))
 refine EF 6 Z ?_
 refine NP Z (So [(sv b)] (NL (Op.mk p1.kind p1.mode p1.channel p1.value p1.deadline n e) i b) Z (.there (.there (.there .here))) Z ?_)
 refine NI ?_
 refine Ob (fun aT R G' => ∃ (a3 a4 : Int) (S U : Int) (V W X : Int) (E : SV) (L : ab8) (N : SV) (M : ab2) (aO : List (List Value)), [(3, (Vp aH)), (4, (Vp aI))] = aT ∧ (.blk f 55 (NX (NG.mk p0.list a3 a4) g)) :: (.blk aI 70 (NL (Op.mk 0 0 0 0 0 [] []) NY NY)) :: (.blk aH 70 (NL (Op.mk S U V W X L M) E N)) :: (.tok 101 3 [(sv E)]) :: (.row (sv N) 3 1 aO.flatten) :: G = G' ∧ SB p0 a3 a4 S U V W X L M = some (y0, aE, aF) ∧ Slr Oa R (sv E) L ∧ RowR Ty.i64 R aO M) ?_ ?_
 ·refine NK<|NH<|Em Z<|?_
  obtain ⟨cM, a, cx, H⟩ := O4 H
  refine Ow.shift (Pu4 (Sd ?_))
  have k := b3.mono bi
  refine NP Z (Ek Tryz.call21 Z (Oz f p0 g 9 cM a cx _ _ k) ?_)
  rintro _ _ _ - ⟨rfl, rfl, rfl⟩
  refine NI<|N4<|NK<|NH<|Ec Z<|Ea Z<|NI<|?_
  refine NW Z ?_ ?_
  ·intro ai
   obtain ⟨ai, H⟩ := It ai H
   refine NH<|Em Z<|?_
   obtain ⟨aA, bC, cy, H⟩ := O4 H
   refine NP Z (Ek Tryz.call21 Z (Oz f (NG.mk p0.list a p0.value) g 9 aA bC cy _ _ k) ?_)
   rintro _ _ _ - ⟨rfl, rfl, rfl⟩
   refine Er (wI (aA - 1)) Z<|EF 0 Z<|?_
   refine NP Z (So [(Vi (wI (aA - 1)))] (NL (Op.mk (wI (aA - 1)) p1.mode p1.channel p1.value p1.deadline n e) i b) Z (.there (.there (.there (.there .here)))) Z ?_)
   exact NI<|Pu1<|Pu2<|Pu4<|Pu4<|Pu4<|Sd<|⟨_, by exact R2, bC, ((NG.mk p0.list a p0.value).value), (wI (aA - 1)), p1.mode, p1.channel, p1.value, p1.deadline, i, n, b, e, t, Z, Z, H, r, d⟩
  ·intro ai
   obtain ⟨ai, H⟩ := If ai H
   refine NK<|NH<|Ec Z<|Ea Z<|NI<|?_
   refine NW Z ?_ ?_
   ·intro aj
    obtain ⟨aj, H⟩ := It aj H
    refine NH<|Em Z<|?_
    obtain ⟨aB, bD, cz, H⟩ := O4 H
    refine NP Z (Ek Tryz.call21 Z (Oz f (NG.mk p0.list a p0.value) g 5 aB bD cz _ _ k) ?_)
    rintro _ _ _ - ⟨rfl, rfl, rfl⟩
    refine Er (wI (aB - 1)) Z<|EF 1 Z<|?_
    refine NP Z (So [(Vi (wI (aB - 1)))] (NL (Op.mk p1.kind (wI (aB - 1)) p1.channel p1.value p1.deadline n e) i b) Z (.there (.there (.there (.there .here)))) Z ?_)
    exact NI<|Pu1<|Pu2<|Pu4<|Pu4<|Pu4<|Sd<|⟨_, by exact R2, bD, ((NG.mk p0.list a p0.value).value), p1.kind, (wI (aB - 1)), p1.channel, p1.value, p1.deadline, i, n, b, e, t, Z, Z, H, r, d⟩
   ·intro aj
    obtain ⟨aj, H⟩ := If aj H
    refine NK<|NH<|Ec Z<|Ea Z<|NI<|?_
    refine NW Z ?_ ?_
    ·intro ak
     obtain ⟨ak, H⟩ := It ak H
     refine NH<|Em Z<|?_
     obtain ⟨aR, bE, cA, H⟩ := O4 H
     refine NP Z (Ek Tryz.call38 Z (P2 f (NG.mk p0.list a p0.value) g aR bE cA _ _ k) ?_)
     rintro _ _ _ - ⟨rfl, rfl, rfl⟩
     refine EF 2 Z ?_
     refine NP Z (So [(Vi aR)] (NL (Op.mk p1.kind p1.mode aR p1.value p1.deadline n e) i b) Z (.there (.there (.there (.there .here)))) Z ?_)
     exact NI<|Pu1<|Pu2<|Pu4<|Pu4<|Pu4<|Sd<|⟨_, by exact R2, bE, ((NG.mk p0.list a p0.value).value), p1.kind, p1.mode, aR, p1.value, p1.deadline, i, n, b, e, t, Z, Z, H, r, d⟩
    ·intro ak
     obtain ⟨ak, H⟩ := If ak H
     refine NK<|NH<|Ec Z<|Ea Z<|NI<|?_
     refine NW Z ?_ ?_
     ·intro al
      obtain ⟨al, H⟩ := It al H
      refine NH<|Em Z<|?_
      obtain ⟨aS, bF, cB, H⟩ := O4 H
      refine NP Z (Ek Tryz.call38 Z (P2 f (NG.mk p0.list a p0.value) g aS bF cB _ _ k) ?_)
      rintro _ _ _ - ⟨rfl, rfl, rfl⟩
      refine EF 4 Z ?_
      refine NP Z (So [(Vi aS)] (NL (Op.mk p1.kind p1.mode p1.channel p1.value aS n e) i b) Z (.there (.there (.there (.there .here)))) Z ?_)
      exact NI<|Pu1<|Pu2<|Pu4<|Pu4<|Pu4<|Sd<|⟨_, by exact R2, bF, ((NG.mk p0.list a p0.value).value), p1.kind, p1.mode, p1.channel, p1.value, aS, i, n, b, e, t, Z, Z, H, r, d⟩
     ·intro al
      obtain ⟨al, H⟩ := If al H
      refine NK<|NH<|Ec Z<|Ea Z<|NI<|?_
      refine NW Z ?_ ?_
      ·intro am
       obtain ⟨am, H⟩ := It am H
       refine NH<|Em Z<|?_
       obtain ⟨aC, bG, cC, H⟩ := O4 H
       refine NP Z (Ek Tryz.call21 Z (Oz f (NG.mk p0.list a p0.value) g 3 aC bG cC _ _ k) ?_)
       rintro _ _ _ - ⟨rfl, rfl, rfl⟩
       refine Eq Z (Qd (c := wU aC) Z Z Z Z)<|EF 3 Z<|?_
       refine NP Z (So [(.int .u64 (wU aC))] (NL (Op.mk p1.kind p1.mode p1.channel (wU aC) p1.deadline n e) i b) Z (.there (.there (.there (.there .here)))) Z ?_)
       exact NI<|Pu1<|Pu2<|Pu4<|Pu4<|Pu4<|Sd<|⟨_, by exact R2, bG, ((NG.mk p0.list a p0.value).value), p1.kind, p1.mode, p1.channel, (wU aC), p1.deadline, i, n, b, e, t, Z, Z, H, r, d⟩
      ·intro am
       obtain ⟨am, H⟩ := If am H
       refine NK<|NH<|Ec Z<|Ea Z<|NI<|?_
       refine NW Z ?_ ?_
       ·intro an
        obtain ⟨an, H⟩ := It an H
        obtain ⟨o, w, bw, H⟩ := O4 H
        obtain ⟨m, B, a0, H⟩ := O4 H
        obtain ⟨j, P, aL, H⟩ := O4 H
        obtain ⟨F, aw, H⟩ := bnd H
        refine Oi _ Z (Ic Mb1 (Ic Mb3 In0))<|JF 0 5 Z<|Jm 2 Z<|Jm 5 Z<|Jm 7 Z<|?_
        refine N6 1 3 (by kernel_rfl) ?_ ?_
        ·refine id (Jyq Z (NM (v := (sv i)) Z Z Z (Rb4 Z)) ⟨(Ic Mb1 (Ic Mb3 In0)), ?_⟩)
         refine Ao 3 Z ?_
         refine Ek Tryz.call21 Z (Oz f (NG.mk p0.list a p0.value) g 2 o w bw _ _ k) ?_
         rintro _ _ _ - ⟨rfl, rfl, rfl⟩
         refine ⟨(Ic Mb1 (Ic Mb3 In0)), ?_⟩
         refine Jc 4 Z ?_
         refine Ao 6 Z ?_
         refine Ek Tryz.call38 Z (P2 f (NG.mk p0.list w ((NG.mk p0.list a p0.value).value)) g m B a0 _ _ k) ?_
         rintro _ _ _ - ⟨rfl, rfl, rfl⟩
         refine ⟨(Ic Mb1 (Ic Mb3 In0)), ?_⟩
         refine Ao 8 Z ?_
         refine Ek Tryz.call21 Z (Oz f (NG.mk p0.list B ((NG.mk p0.list w ((NG.mk p0.list a p0.value).value)).value)) g 2 j P aL _ _ k) ?_
         rintro _ _ _ - ⟨rfl, rfl, rfl⟩
         refine ⟨(Ic Mb1 (Ic Mb3 In0)), ?_⟩
         refine Jq 9 Z (Qd (c := wU j) Z Z Z Z)<|Jq 10 Z (OD (cs := (N9 (Case.mk (dcd (o = 1)) m (wU j)))) Z Z Z Z Z Z)<|?_
         refine Ao 11 Z ?_
         have bj : RowR Oa J [(N9 (Case.mk (dcd (o = 1)) m (wU j)))] [(Case.mk (dcd (o = 1)) m (wU j))] := RowR.cons Z (RowR.nil)
         refine N8 (T := Oa) (rows := [(N9 (Case.mk (dcd (o = 1)) m (wU j)))]) (l := [(Case.mk (dcd (o = 1)) m (wU j))]) Z Z Z bj Z Z Z Z Z Z Z Z (fun c9 => ⟨(Ic Mb2 (Ic Mb4 In0)), ?_⟩)
         refine Ao 12 Z ?_
         refine NS (T := Oa) (bytes := 24) (q := 0) Z Z Z r Mb3 Z (SrcT.row Mb0 bj Z) aw Z Z Z Z Z Z Z Z (fun a5 cN bJ cd => ⟨_, (.there (.there (.there .here))), ⟨(Ic Mb2 (Ic Mb4 In0)), ?_⟩⟩)
         refine Aw.shift (Re0 (Sd ⟨(Ic Mb1 (Ic Mb3 In0)), ?_⟩))
         refine JF 13 5 Z ?_
         refine Ao 14 Z ?_
         refine So [(sv a5)] (NL (Op.mk p1.kind p1.mode p1.channel p1.value p1.deadline F e) a5 b) Z (.there (.there (.there (.there .here)))) Z ⟨(Ic Mb1 (Ic Mb3 In0)), ?_⟩
         refine Ad<|Pu1<|Pu2<|Pu4<|Pu4<|Pu4<|?_
         have ce := d.mono bJ
         exact Sd ⟨_, by exact R2, P, ((NG.mk p0.list B ((NG.mk p0.list w ((NG.mk p0.list a p0.value).value)).value)).value), p1.kind, p1.mode, p1.channel, p1.value, p1.deadline, a5, F, b, e, t, Z, Z, H, cd, ce⟩
        ·refine id (Jy Z ?_)
         refine Ek Tryz.call21 Z (Oz f (NG.mk p0.list a p0.value) g 2 o w bw _ _ k) ?_
         rintro _ _ _ - ⟨rfl, rfl, rfl⟩
         refine ⟨(Ic Mb1 (Ic Mb3 In0)), ?_⟩
         refine Jc 4 Z ?_
         refine N6 1 6 (by kernel_rfl) ?_ ?_
         ·refine id (Jyq Z (NM (v := (sv i)) Z Z Z (Rb4 Z)) ⟨(Ic Mb1 (Ic Mb3 In0)), ?_⟩)
          refine Ao 6 Z ?_
          refine Ek Tryz.call38 Z (P2 f (NG.mk p0.list w ((NG.mk p0.list a p0.value).value)) g m B a0 _ _ k) ?_
          rintro _ _ _ - ⟨rfl, rfl, rfl⟩
          refine ⟨(Ic Mb1 (Ic Mb3 In0)), ?_⟩
          refine Ao 8 Z ?_
          refine Ek Tryz.call21 Z (Oz f (NG.mk p0.list B ((NG.mk p0.list w ((NG.mk p0.list a p0.value).value)).value)) g 2 j P aL _ _ k) ?_
          rintro _ _ _ - ⟨rfl, rfl, rfl⟩
          refine ⟨(Ic Mb1 (Ic Mb3 In0)), ?_⟩
          refine Jq 9 Z (Qd (c := wU j) Z Z Z Z)<|Jq 10 Z (OD (cs := (N9 (Case.mk (dcd (o = 1)) m (wU j)))) Z Z Z Z Z Z)<|?_
          refine Ao 11 Z ?_
          have bk : RowR Oa J [(N9 (Case.mk (dcd (o = 1)) m (wU j)))] [(Case.mk (dcd (o = 1)) m (wU j))] := RowR.cons Z (RowR.nil)
          refine N8 (T := Oa) (rows := [(N9 (Case.mk (dcd (o = 1)) m (wU j)))]) (l := [(Case.mk (dcd (o = 1)) m (wU j))]) Z Z Z bk Z Z Z Z Z Z Z Z (fun da => ⟨(Ic Mb2 (Ic Mb4 In0)), ?_⟩)
          refine Ao 12 Z ?_
          refine NS (T := Oa) (bytes := 24) (q := 0) Z Z Z r Mb3 Z (SrcT.row Mb0 bk Z) aw Z Z Z Z Z Z Z Z (fun a6 cO bK cf => ⟨_, (.there (.there (.there .here))), ⟨(Ic Mb2 (Ic Mb4 In0)), ?_⟩⟩)
          refine Aw.shift (Re0 (Sd ⟨(Ic Mb1 (Ic Mb3 In0)), ?_⟩))
          refine JF 13 5 Z ?_
          refine Ao 14 Z ?_
          refine So [(sv a6)] (NL (Op.mk p1.kind p1.mode p1.channel p1.value p1.deadline F e) a6 b) Z (.there (.there (.there (.there .here)))) Z ⟨(Ic Mb1 (Ic Mb3 In0)), ?_⟩
          refine Ad<|Pu1<|Pu2<|Pu4<|Pu4<|Pu4<|?_
          have cg := d.mono bK
          exact Sd ⟨_, by exact R2, P, ((NG.mk p0.list B ((NG.mk p0.list w ((NG.mk p0.list a p0.value).value)).value)).value), p1.kind, p1.mode, p1.channel, p1.value, p1.deadline, a6, F, b, e, t, Z, Z, H, cf, cg⟩
         ·refine id (Jy Z ?_)
          refine Ek Tryz.call38 Z (P2 f (NG.mk p0.list w ((NG.mk p0.list a p0.value).value)) g m B a0 _ _ k) ?_
          rintro _ _ _ - ⟨rfl, rfl, rfl⟩
          refine ⟨(Ic Mb1 (Ic Mb3 In0)), ?_⟩
          refine N6 1 8 (by kernel_rfl) ?_ ?_
          ·refine id (Jyq Z (NM (v := (sv i)) Z Z Z (Rb4 Z)) ⟨(Ic Mb1 (Ic Mb3 In0)), ?_⟩)
           refine Ao 8 Z ?_
           refine Ek Tryz.call21 Z (Oz f (NG.mk p0.list B ((NG.mk p0.list w ((NG.mk p0.list a p0.value).value)).value)) g 2 j P aL _ _ k) ?_
           rintro _ _ _ - ⟨rfl, rfl, rfl⟩
           refine ⟨(Ic Mb1 (Ic Mb3 In0)), ?_⟩
           refine Jq 9 Z (Qd (c := wU j) Z Z Z Z)<|Jq 10 Z (OD (cs := (N9 (Case.mk (dcd (o = 1)) m (wU j)))) Z Z Z Z Z Z)<|?_
           refine Ao 11 Z ?_
           have bl : RowR Oa J [(N9 (Case.mk (dcd (o = 1)) m (wU j)))] [(Case.mk (dcd (o = 1)) m (wU j))] := RowR.cons Z (RowR.nil)
           refine N8 (T := Oa) (rows := [(N9 (Case.mk (dcd (o = 1)) m (wU j)))]) (l := [(Case.mk (dcd (o = 1)) m (wU j))]) Z Z Z bl Z Z Z Z Z Z Z Z (fun db => ⟨(Ic Mb2 (Ic Mb4 In0)), ?_⟩)
           refine Ao 12 Z ?_
           refine NS (T := Oa) (bytes := 24) (q := 0) Z Z Z r Mb3 Z (SrcT.row Mb0 bl Z) aw Z Z Z Z Z Z Z Z (fun a7 cP bL ch => ⟨_, (.there (.there (.there .here))), ⟨(Ic Mb2 (Ic Mb4 In0)), ?_⟩⟩)
           refine Aw.shift (Re0 (Sd ⟨(Ic Mb1 (Ic Mb3 In0)), ?_⟩))
           refine JF 13 5 Z ?_
           refine Ao 14 Z ?_
           refine So [(sv a7)] (NL (Op.mk p1.kind p1.mode p1.channel p1.value p1.deadline F e) a7 b) Z (.there (.there (.there (.there .here)))) Z ⟨(Ic Mb1 (Ic Mb3 In0)), ?_⟩
           refine Ad<|Pu1<|Pu2<|Pu4<|Pu4<|Pu4<|?_
           have ci := d.mono bL
           exact Sd ⟨_, by exact R2, P, ((NG.mk p0.list B ((NG.mk p0.list w ((NG.mk p0.list a p0.value).value)).value)).value), p1.kind, p1.mode, p1.channel, p1.value, p1.deadline, a7, F, b, e, t, Z, Z, H, ch, ci⟩
          ·refine id (Jy Z ?_)
           refine Ek Tryz.call21 Z (Oz f (NG.mk p0.list B ((NG.mk p0.list w ((NG.mk p0.list a p0.value).value)).value)) g 2 j P aL _ _ k) ?_
           rintro _ _ _ - ⟨rfl, rfl, rfl⟩
           refine ⟨(Ic Mb1 (Ic Mb3 In0)), ?_⟩
           refine Jq 9 Z (Qd (c := wU j) Z Z Z Z)<|Jq 10 Z (OD (cs := (N9 (Case.mk (dcd (o = 1)) m (wU j)))) Z Z Z Z Z Z)<|?_
           refine N6 1 11 (by kernel_rfl) ?_ ?_
           ·refine id (Jyq Z (NM (v := (sv i)) Z Z Z (Rb4 Z)) ⟨(Ic Mb1 (Ic Mb3 In0)), ?_⟩)
            refine Ao 11 Z ?_
            have bm : RowR Oa J [(N9 (Case.mk (dcd (o = 1)) m (wU j)))] [(Case.mk (dcd (o = 1)) m (wU j))] := RowR.cons Z (RowR.nil)
            refine N8 (T := Oa) (rows := [(N9 (Case.mk (dcd (o = 1)) m (wU j)))]) (l := [(Case.mk (dcd (o = 1)) m (wU j))]) Z Z Z bm Z Z Z Z Z Z Z Z (fun dc => ⟨(Ic Mb2 (Ic Mb4 In0)), ?_⟩)
            refine Ao 12 Z ?_
            refine NS (T := Oa) (bytes := 24) (q := 0) Z Z Z r Mb3 Z (SrcT.row Mb0 bm Z) aw Z Z Z Z Z Z Z Z (fun a8 cQ bM cj => ⟨_, (.there (.there (.there .here))), ⟨(Ic Mb2 (Ic Mb4 In0)), ?_⟩⟩)
            refine Aw.shift (Re0 (Sd ⟨(Ic Mb1 (Ic Mb3 In0)), ?_⟩))
            refine JF 13 5 Z ?_
            refine Ao 14 Z ?_
            refine So [(sv a8)] (NL (Op.mk p1.kind p1.mode p1.channel p1.value p1.deadline F e) a8 b) Z (.there (.there (.there (.there .here)))) Z ⟨(Ic Mb1 (Ic Mb3 In0)), ?_⟩
            refine Ad<|Pu1<|Pu2<|Pu4<|Pu4<|Pu4<|?_
            have ck := d.mono bM
            exact Sd ⟨_, by exact R2, P, ((NG.mk p0.list B ((NG.mk p0.list w ((NG.mk p0.list a p0.value).value)).value)).value), p1.kind, p1.mode, p1.channel, p1.value, p1.deadline, a8, F, b, e, t, Z, Z, H, cj, ck⟩
           ·refine id (Jy Z ?_)
            have bn : RowR Oa J [(N9 (Case.mk (dcd (o = 1)) m (wU j)))] [(Case.mk (dcd (o = 1)) m (wU j))] := RowR.cons Z (RowR.nil)
            refine N8 (T := Oa) (rows := [(N9 (Case.mk (dcd (o = 1)) m (wU j)))]) (l := [(Case.mk (dcd (o = 1)) m (wU j))]) Z Z Z bn Z Z Z Z Z Z Z Z (fun dd => ⟨(Ic Mb2 (Ic Mb4 In0)), ?_⟩)
            refine NT 1 (by kernel_rfl) (Jyq Z (NM (v := (sv i)) Z Z Z (Rb5 Z)) ⟨(Ic Mb2 (Ic Mb4 In0)), ?_⟩)
            refine Ao 12 Z ?_
            refine NS (T := Oa) (bytes := 24) (q := 0) Z Z Z r Mb3 Z (SrcT.row Mb0 bn Z) aw Z Z Z Z Z Z Z Z (fun a9 cR bN cl => ⟨_, (.there (.there (.there .here))), ⟨(Ic Mb2 (Ic Mb4 In0)), ?_⟩⟩)
            refine Aw.shift (Re0 (Sd ⟨(Ic Mb1 (Ic Mb3 In0)), ?_⟩))
            refine JF 13 5 Z ?_
            refine Ao 14 Z ?_
            refine So [(sv a9)] (NL (Op.mk p1.kind p1.mode p1.channel p1.value p1.deadline F e) a9 b) Z (.there (.there (.there (.there .here)))) Z ⟨(Ic Mb1 (Ic Mb3 In0)), ?_⟩
            refine Ad<|Pu1<|Pu2<|Pu4<|Pu4<|Pu4<|?_
            have cm := d.mono bN
            exact Sd ⟨_, by exact R2, P, ((NG.mk p0.list B ((NG.mk p0.list w ((NG.mk p0.list a p0.value).value)).value)).value), p1.kind, p1.mode, p1.channel, p1.value, p1.deadline, a9, F, b, e, t, Z, Z, H, cl, cm⟩
       ·intro an
        obtain ⟨an, H⟩ := If an H
        refine NK<|NH<|Ec Z<|Ea Z<|NI<|?_
        refine NW Z ?_ ?_
        ·intro ao
         obtain ⟨ao, H⟩ := It ao H
         obtain ⟨u, aD, bx, H⟩ := O4 H
         obtain ⟨ag, a1, H⟩ := bnd H
         refine Oi _ Z (Ic Mb2 (Ic Mb3 In0))<|JF 0 6 Z<|Jm 2 Z<|?_
         refine N6 1 3 (by kernel_rfl) ?_ ?_
         ·refine id (Jyq Z (NM (v := (sv b)) Z Z Z (Rb4 Z)) ⟨(Ic Mb2 (Ic Mb3 In0)), ?_⟩)
          refine Ao 3 Z ?_
          refine Ek Tryz.call21 Z (Oz f (NG.mk p0.list a p0.value) g 9 u aD bx _ _ k) ?_
          rintro _ _ _ - ⟨rfl, rfl, rfl⟩
          refine ⟨(Ic Mb2 (Ic Mb3 In0)), ?_⟩
          refine Jr 4 (wI (u - 1)) Z ?_
          refine Ao 5 Z ?_
          have bo : RowR Ty.i64 J [[(Vi (wI (u - 1)))]] [wI (u - 1)] := RowR.cons Z (RowR.nil)
          refine N8 (T := Ty.i64) (rows := [[(Vi (wI (u - 1)))]]) (l := [wI (u - 1)]) Z Z Z bo Z Z Z Z Z Z Z Z (fun de => ⟨(Ic Mb3 (Ic Mb4 In0)), ?_⟩)
          refine Ao 6 Z ?_
          refine N7 (T := Ty.i64) (bytes := 8) Z Z Z Mb2 d (SrcT.row Mb0 bo Z) a1 Z Z Z Z Z Z Z Z (fun ba cF bR => ⟨_, (.there (.there .here)), ⟨(Ic Mb3 (Ic Mb4 In0)), ?_⟩⟩)
          refine Aw.shift (Re0 (Sd ⟨(Ic Mb2 (Ic Mb3 In0)), ?_⟩))
          refine JF 7 6 Z ?_
          refine Ao 8 Z ?_
          refine So [(sv ba)] (NL (Op.mk p1.kind p1.mode p1.channel p1.value p1.deadline n ag) i ba) Z (.there (.there (.there (.there .here)))) Z ⟨(Ic Mb2 (Ic Mb3 In0)), ?_⟩
          exact Ad<|Pu1<|Pu2<|Pu4<|Pu4<|Pu4<|Sd<|⟨_, by exact R2, aD, ((NG.mk p0.list a p0.value).value), p1.kind, p1.mode, p1.channel, p1.value, p1.deadline, i, n, ba, ag, cF, Z, Z, H, r, bR⟩
         ·refine id (Jy Z ?_)
          refine Ek Tryz.call21 Z (Oz f (NG.mk p0.list a p0.value) g 9 u aD bx _ _ k) ?_
          rintro _ _ _ - ⟨rfl, rfl, rfl⟩
          refine ⟨(Ic Mb2 (Ic Mb3 In0)), ?_⟩
          refine Jr 4 (wI (u - 1)) Z ?_
          refine N6 1 5 (by kernel_rfl) ?_ ?_
          ·refine id (Jyq Z (NM (v := (sv b)) Z Z Z (Rb4 Z)) ⟨(Ic Mb2 (Ic Mb3 In0)), ?_⟩)
           refine Ao 5 Z ?_
           have bp : RowR Ty.i64 J [[(Vi (wI (u - 1)))]] [wI (u - 1)] := RowR.cons Z (RowR.nil)
           refine N8 (T := Ty.i64) (rows := [[(Vi (wI (u - 1)))]]) (l := [wI (u - 1)]) Z Z Z bp Z Z Z Z Z Z Z Z (fun df => ⟨(Ic Mb3 (Ic Mb4 In0)), ?_⟩)
           refine Ao 6 Z ?_
           refine N7 (T := Ty.i64) (bytes := 8) Z Z Z Mb2 d (SrcT.row Mb0 bp Z) a1 Z Z Z Z Z Z Z Z (fun bb cG bS => ⟨_, (.there (.there .here)), ⟨(Ic Mb3 (Ic Mb4 In0)), ?_⟩⟩)
           refine Aw.shift (Re0 (Sd ⟨(Ic Mb2 (Ic Mb3 In0)), ?_⟩))
           refine JF 7 6 Z ?_
           refine Ao 8 Z ?_
           refine So [(sv bb)] (NL (Op.mk p1.kind p1.mode p1.channel p1.value p1.deadline n ag) i bb) Z (.there (.there (.there (.there .here)))) Z ⟨(Ic Mb2 (Ic Mb3 In0)), ?_⟩
           exact Ad<|Pu1<|Pu2<|Pu4<|Pu4<|Pu4<|Sd<|⟨_, by exact R2, aD, ((NG.mk p0.list a p0.value).value), p1.kind, p1.mode, p1.channel, p1.value, p1.deadline, i, n, bb, ag, cG, Z, Z, H, r, bS⟩
          ·refine id (Jy Z ?_)
           have bq : RowR Ty.i64 J [[(Vi (wI (u - 1)))]] [wI (u - 1)] := RowR.cons Z (RowR.nil)
           refine N8 (T := Ty.i64) (rows := [[(Vi (wI (u - 1)))]]) (l := [wI (u - 1)]) Z Z Z bq Z Z Z Z Z Z Z Z (fun dg => ⟨(Ic Mb3 (Ic Mb4 In0)), ?_⟩)
           refine NT 1 (by kernel_rfl) (Jyq Z (NM (v := (sv b)) Z Z Z (Rb5 Z)) ⟨(Ic Mb3 (Ic Mb4 In0)), ?_⟩)
           refine Ao 6 Z ?_
           refine N7 (T := Ty.i64) (bytes := 8) Z Z Z Mb2 d (SrcT.row Mb0 bq Z) a1 Z Z Z Z Z Z Z Z (fun bc cH bT => ⟨_, (.there (.there .here)), ⟨(Ic Mb3 (Ic Mb4 In0)), ?_⟩⟩)
           refine Aw.shift (Re0 (Sd ⟨(Ic Mb2 (Ic Mb3 In0)), ?_⟩))
           refine JF 7 6 Z ?_
           refine Ao 8 Z ?_
           refine So [(sv bc)] (NL (Op.mk p1.kind p1.mode p1.channel p1.value p1.deadline n ag) i bc) Z (.there (.there (.there (.there .here)))) Z ⟨(Ic Mb2 (Ic Mb3 In0)), ?_⟩
           exact Ad<|Pu1<|Pu2<|Pu4<|Pu4<|Pu4<|Sd<|⟨_, by exact R2, aD, ((NG.mk p0.list a p0.value).value), p1.kind, p1.mode, p1.channel, p1.value, p1.deadline, i, n, bc, ag, cH, Z, Z, H, r, bT⟩
        ·intro ao
         obtain ⟨ao, H⟩ := If ao H
         refine NK<|NH<|Ec Z<|Ea Z<|NI<|?_
         refine NW Z ?_ ?_
         ·intro ap
          obtain ⟨ap, H⟩ := It ap H
          refine NK<|NH<|EF 6 Z<|El (sv b) Z (Rb4 Z)<|Eq Z (PO (T := Ty.i64) Mb1 d Z Z Z)<|Ec Z<|NI<|?_
          refine NW Z ?_ ?_
          ·intro aq
           obtain ⟨aq, H⟩ := It aq H
           obtain ⟨p, x, aM, H⟩ := O4 H
           obtain ⟨h, I, ax, H⟩ := O4 H
           obtain ⟨dm, D, H⟩ := bnd H
           refine Oi _ Z (Ic Mb2 (Ic Mb3 In0))<|JF 0 6 Z<|Jm 2 Z<|JF 3 6 Z<|Jm 7 Z<|?_
           refine N6 1 4 (by kernel_rfl) ?_ ?_
           ·refine id (Jyq Z (NM (v := (sv b)) Z Z Z (Rb4 Z)) ⟨(Ic Mb2 (Ic Mb3 In0)), ?_⟩)
            refine NT 4 (by kernel_rfl) (Jyq Z (NM (v := (sv b)) Z Z Z (Rb4 Z)) ⟨(Ic Mb2 (Ic Mb3 In0)), ?_⟩)
            refine NT 5 (by kernel_rfl) (Jyq Z (PO (T := Ty.i64) Mb1 d Z Z Z) ⟨(Ic Mb2 (Ic Mb3 In0)), ?_⟩)
            refine Ao 6 Z ?_
            refine Ek Tryz.call21 Z (Oz f (NG.mk p0.list a p0.value) g (e.length : Int) p x aM _ _ k) ?_
            rintro _ _ _ - ⟨rfl, rfl, rfl⟩
            refine ⟨(Ic Mb2 (Ic Mb3 In0)), ?_⟩
            refine Ao 8 Z ?_
            refine Ek Tryz.call38 Z (P2 f (NG.mk p0.list x ((NG.mk p0.list a p0.value).value)) g h I ax _ _ k) ?_
            rintro _ _ _ - ⟨rfl, rfl, rfl⟩
            refine ⟨(Ic Mb2 (Ic Mb3 In0)), ?_⟩
            obtain ⟨c4, aU, b6⟩ := RowR.at d D
            obtain rfl := b6
            refine NT 9 (by kernel_rfl) (Jyq Z (Oe (T := Ty.i64) Mb1 d aU (NV D).1 Z Z Z Z Z) ⟨(Ic Mb2 (Ic Mb3 In0)), ?_⟩)
            refine Ao 10 Z ?_
            refine N1 (T := Ty.i64) (vs := [(Vi h)]) (r' := [(Vi h)]) (l' := (Oc e p h)) Z Z Z Z Z (.there .here) d aU Z Z Z (RowR.set p d Z) (fun bU => ⟨(Ic Mb2 (Ic Mb3 In0)), ?_⟩)
            have cW := Oh aU (v := [(Vi h)])
            exact Ad<|Pu1<|Pu2<|Pu4<|Pu4<|Pu4<|Sd<|⟨_, by exact R2, I, ((NG.mk p0.list x ((NG.mk p0.list a p0.value).value)).value), p1.kind, p1.mode, p1.channel, p1.value, p1.deadline, i, n, b, (Oc e p h), (t.set p.toNat [(Vi h)]), Z, Z, H, r, bU⟩
           ·refine id (Jyq Z (NM (v := (sv b)) Z Z Z (Rb4 Z)) ⟨(Ic Mb2 (Ic Mb3 In0)), ?_⟩)
            refine N6 1 5 (by kernel_rfl) ?_ ?_
            ·refine id (Jyq Z (NM (v := (sv b)) Z Z Z (Rb4 Z)) ⟨(Ic Mb2 (Ic Mb3 In0)), ?_⟩)
             refine NT 5 (by kernel_rfl) (Jyq Z (PO (T := Ty.i64) Mb1 d Z Z Z) ⟨(Ic Mb2 (Ic Mb3 In0)), ?_⟩)
             refine Ao 6 Z ?_
             refine Ek Tryz.call21 Z (Oz f (NG.mk p0.list a p0.value) g (e.length : Int) p x aM _ _ k) ?_
             rintro _ _ _ - ⟨rfl, rfl, rfl⟩
             refine ⟨(Ic Mb2 (Ic Mb3 In0)), ?_⟩
             refine Ao 8 Z ?_
             refine Ek Tryz.call38 Z (P2 f (NG.mk p0.list x ((NG.mk p0.list a p0.value).value)) g h I ax _ _ k) ?_
             rintro _ _ _ - ⟨rfl, rfl, rfl⟩
             refine ⟨(Ic Mb2 (Ic Mb3 In0)), ?_⟩
             obtain ⟨c5, aV, b7⟩ := RowR.at d D
             obtain rfl := b7
             refine NT 9 (by kernel_rfl) (Jyq Z (Oe (T := Ty.i64) Mb1 d aV (NV D).1 Z Z Z Z Z) ⟨(Ic Mb2 (Ic Mb3 In0)), ?_⟩)
             refine Ao 10 Z ?_
             refine N1 (T := Ty.i64) (vs := [(Vi h)]) (r' := [(Vi h)]) (l' := (Oc e p h)) Z Z Z Z Z (.there .here) d aV Z Z Z (RowR.set p d Z) (fun bV => ⟨(Ic Mb2 (Ic Mb3 In0)), ?_⟩)
             have cX := Oh aV (v := [(Vi h)])
             exact Ad<|Pu1<|Pu2<|Pu4<|Pu4<|Pu4<|Sd<|⟨_, by exact R2, I, ((NG.mk p0.list x ((NG.mk p0.list a p0.value).value)).value), p1.kind, p1.mode, p1.channel, p1.value, p1.deadline, i, n, b, (Oc e p h), (t.set p.toNat [(Vi h)]), Z, Z, H, r, bV⟩
            ·refine id (Jyq Z (PO (T := Ty.i64) Mb1 d Z Z Z) ⟨(Ic Mb2 (Ic Mb3 In0)), ?_⟩)
             refine N6 1 6 (by kernel_rfl) ?_ ?_
             ·refine id (Jyq Z (NM (v := (sv b)) Z Z Z (Rb4 Z)) ⟨(Ic Mb2 (Ic Mb3 In0)), ?_⟩)
              refine Ao 6 Z ?_
              refine Ek Tryz.call21 Z (Oz f (NG.mk p0.list a p0.value) g (e.length : Int) p x aM _ _ k) ?_
              rintro _ _ _ - ⟨rfl, rfl, rfl⟩
              refine ⟨(Ic Mb2 (Ic Mb3 In0)), ?_⟩
              refine Ao 8 Z ?_
              refine Ek Tryz.call38 Z (P2 f (NG.mk p0.list x ((NG.mk p0.list a p0.value).value)) g h I ax _ _ k) ?_
              rintro _ _ _ - ⟨rfl, rfl, rfl⟩
              refine ⟨(Ic Mb2 (Ic Mb3 In0)), ?_⟩
              obtain ⟨c6, aW, b8⟩ := RowR.at d D
              obtain rfl := b8
              refine NT 9 (by kernel_rfl) (Jyq Z (Oe (T := Ty.i64) Mb1 d aW (NV D).1 Z Z Z Z Z) ⟨(Ic Mb2 (Ic Mb3 In0)), ?_⟩)
              refine Ao 10 Z ?_
              refine N1 (T := Ty.i64) (vs := [(Vi h)]) (r' := [(Vi h)]) (l' := (Oc e p h)) Z Z Z Z Z (.there .here) d aW Z Z Z (RowR.set p d Z) (fun bW => ⟨(Ic Mb2 (Ic Mb3 In0)), ?_⟩)
              have cY := Oh aW (v := [(Vi h)])
              exact Ad<|Pu1<|Pu2<|Pu4<|Pu4<|Pu4<|Sd<|⟨_, by exact R2, I, ((NG.mk p0.list x ((NG.mk p0.list a p0.value).value)).value), p1.kind, p1.mode, p1.channel, p1.value, p1.deadline, i, n, b, (Oc e p h), (t.set p.toNat [(Vi h)]), Z, Z, H, r, bW⟩
             ·refine id (Jy Z ?_)
              refine Ek Tryz.call21 Z (Oz f (NG.mk p0.list a p0.value) g (e.length : Int) p x aM _ _ k) ?_
              rintro _ _ _ - ⟨rfl, rfl, rfl⟩
              refine ⟨(Ic Mb2 (Ic Mb3 In0)), ?_⟩
              refine N6 1 8 (by kernel_rfl) ?_ ?_
              ·refine id (Jyq Z (NM (v := (sv b)) Z Z Z (Rb4 Z)) ⟨(Ic Mb2 (Ic Mb3 In0)), ?_⟩)
               refine Ao 8 Z ?_
               refine Ek Tryz.call38 Z (P2 f (NG.mk p0.list x ((NG.mk p0.list a p0.value).value)) g h I ax _ _ k) ?_
               rintro _ _ _ - ⟨rfl, rfl, rfl⟩
               refine ⟨(Ic Mb2 (Ic Mb3 In0)), ?_⟩
               obtain ⟨c7, aX, b9⟩ := RowR.at d D
               obtain rfl := b9
               refine NT 9 (by kernel_rfl) (Jyq Z (Oe (T := Ty.i64) Mb1 d aX (NV D).1 Z Z Z Z Z) ⟨(Ic Mb2 (Ic Mb3 In0)), ?_⟩)
               refine Ao 10 Z ?_
               refine N1 (T := Ty.i64) (vs := [(Vi h)]) (r' := [(Vi h)]) (l' := (Oc e p h)) Z Z Z Z Z (.there .here) d aX Z Z Z (RowR.set p d Z) (fun bX => ⟨(Ic Mb2 (Ic Mb3 In0)), ?_⟩)
               have cZ := Oh aX (v := [(Vi h)])
               exact Ad<|Pu1<|Pu2<|Pu4<|Pu4<|Pu4<|Sd<|⟨_, by exact R2, I, ((NG.mk p0.list x ((NG.mk p0.list a p0.value).value)).value), p1.kind, p1.mode, p1.channel, p1.value, p1.deadline, i, n, b, (Oc e p h), (t.set p.toNat [(Vi h)]), Z, Z, H, r, bX⟩
              ·refine id (Jy Z ?_)
               refine Ek Tryz.call38 Z (P2 f (NG.mk p0.list x ((NG.mk p0.list a p0.value).value)) g h I ax _ _ k) ?_
               rintro _ _ _ - ⟨rfl, rfl, rfl⟩
               refine ⟨(Ic Mb2 (Ic Mb3 In0)), ?_⟩
               refine NT 1 (by kernel_rfl) (Jyq Z (NM (v := (sv b)) Z Z Z (Rb4 Z)) ⟨(Ic Mb2 (Ic Mb3 In0)), ?_⟩)
               obtain ⟨c8, aY, ca⟩ := RowR.at d D
               obtain rfl := ca
               refine NT 9 (by kernel_rfl) (Jyq Z (Oe (T := Ty.i64) Mb1 d aY (NV D).1 Z Z Z Z Z) ⟨(Ic Mb2 (Ic Mb3 In0)), ?_⟩)
               refine Ao 10 Z ?_
               refine N1 (T := Ty.i64) (vs := [(Vi h)]) (r' := [(Vi h)]) (l' := (Oc e p h)) Z Z Z Z Z (.there .here) d aY Z Z Z (RowR.set p d Z) (fun bY => ⟨(Ic Mb2 (Ic Mb3 In0)), ?_⟩)
               have c0 := Oh aY (v := [(Vi h)])
               exact Ad<|Pu1<|Pu2<|Pu4<|Pu4<|Pu4<|Sd<|⟨_, by exact R2, I, ((NG.mk p0.list x ((NG.mk p0.list a p0.value).value)).value), p1.kind, p1.mode, p1.channel, p1.value, p1.deadline, i, n, b, (Oc e p h), (t.set p.toNat [(Vi h)]), Z, Z, H, r, bY⟩
          ·intro aq
           obtain ⟨aq, H⟩ := If aq H
           exact N2<|Pu1<|Pu2<|Pu4<|Pu4<|Pu4<|Sd<|⟨_, by exact R2, a, p0.value, p1.kind, p1.mode, p1.channel, p1.value, p1.deadline, i, n, b, e, t, Z, Z, H, r, d⟩
         ·intro ap
          obtain ⟨ap, H⟩ := If ap H
          refine NK<|NH<|Ec Z<|Ea Z<|NI<|?_
          refine NW Z ?_ ?_
          ·intro ar
           obtain ⟨ar, H⟩ := It ar H
           refine N4 ?_
           refine On (fun bz aT R G' => ∃ (y z : Int) (ab : SV) (ay : ab8) (O : SV) (af : ab2) (aP : List (List Value)), [(0, (Vp f)), (3, (Vp aH)), (4, (Vp aI))] = aT ∧ (.blk f 55 (NX (NG.mk p0.list y z) g)) :: (.blk aI 70 (NL (Op.mk 0 0 0 0 0 [] []) NY NY)) :: (.blk aH 70 (NL (Op.mk p1.kind p1.mode p1.channel p1.value p1.deadline ay af) ab O)) :: (.tok 101 3 [(sv ab)]) :: (.row (sv O) 3 1 aP.flatten) :: G = G' ∧ lp4 (XG p0 p1) bz y z ay af = some (y0, aE, aF) ∧ Slr Oa R (sv ab) ay ∧ RowR Ty.i64 R aP af) BIG ?_ ?_
           ·exact Pu1<|Pu2<|Pu4<|Pu4<|Pu4<|Sd<|⟨_, by exact R3, a, p0.value, i, n, b, e, t, Z, Z, H, r, d⟩
           rintro bz _ bI _ bO ⟨y, z, ab, ay, O, af, aP, rfl, rfl, H, aZ, av⟩
           obtain ⟨c3, c2, rfl, aJ, H⟩ := acn H
           unfold XG at H
           refine NK<|NK<|?_
           obtain ⟨bH, Q, cD, H⟩ := O4 H
           refine Oi _ Z (Ic Mb1 (Ic Mb2 (Ic Mb3 (Ic Mb4 In0))))<|JF 0 5 Z<|Jl 1 (sv ab) Z (Rb1 Z)<|Jq 2 Z (Oo (T := Oa) aZ Z Z)<|Jm 3 Z<|?_
           refine Ao 4 Z ?_
           have aK := k.mono bO
           refine Ek Tryz.call21 Z (Oz f (NG.mk p0.list y z) g 2 bH Q cD _ _ aK) ?_
           rintro _ _ _ - ⟨rfl, rfl, rfl⟩
           refine ⟨(Ic Mb1 (Ic Mb2 (Ic Mb3 (Ic Mb4 In0)))), ?_⟩
           refine Jr 5 (wI (6 + bH)) Z<|Jc 6 Z<|Ad<|?_
           refine NW Z ?_ ?_
           ·intro au
            obtain ⟨au, H⟩ := It au H
            refine N2<|N4<|NK<|NH<|EF 5 Z<|El (sv ab) Z (Rb2 Z)<|Eq Z (OD (cs := (N9 (Case.mk false 0 0))) Z Z Z Z Z Z)<|?_
            have br : RowR Oa bI [(N9 (Case.mk false 0 0))] [(Case.mk false 0 0)] := RowR.cons Z (RowR.nil)
            refine NP Z (N8 (T := Oa) (rows := [(N9 (Case.mk false 0 0))]) (l := [(Case.mk false 0 0)]) Z Z Z br Z Z Z Z Z Z Z Z (fun dh => ?_))
            obtain ⟨C, cE, H⟩ := bnd H
            refine NP Z (NS (T := Oa) (bytes := 24) (q := 0) Z Z Z aZ Mb4 Z (SrcT.row Mb0 br Z) cE Z Z Z Z Z Z Z Z (fun A aG aa ae => ⟨_, (.there (.there (.there (.there .here)))), ?_⟩))
            refine Ow.shift (Re0 (Sd ?_))
            refine EF 5 Z ?_
            refine NP Z (So [(sv A)] (NL (Op.mk p1.kind p1.mode p1.channel p1.value p1.deadline C af) A O) Z (.there (.there .here)) Z ?_)
            refine NI ?_
            obtain ⟨s, ac, a2, H⟩ := O4 H
            obtain ⟨Y, aN, H⟩ := bnd H
            refine Oi _ Z (Ic Mb1 (Ic Mb3 In0))<|JF 0 6 Z<|Jm 2 Z<|JF 3 5 Z<|?_
            refine N6 1 4 (by kernel_rfl) ?_ ?_
            ·refine id (Jyq Z (NM (v := (sv O)) Z Z Z (Rb2 Z)) ⟨(Ic Mb1 (Ic Mb3 In0)), ?_⟩)
             refine NT 4 (by kernel_rfl) (Jyq Z (NM (v := (sv A)) Z Z Z (Rb2 Z)) ⟨(Ic Mb1 (Ic Mb3 In0)), ?_⟩)
             refine Jq 5 Z (Oo (T := Oa) ae Z Z) ?_
             refine Ao 6 Z ?_
             have cn := aK.mono aa
             refine Ek Tryz.call21 Z (Oz f (NG.mk p0.list Q ((NG.mk p0.list y z).value)) g (C.length : Int) s ac a2 _ _ cn) ?_
             rintro _ _ _ - ⟨rfl, rfl, rfl⟩
             refine ⟨(Ic Mb1 (Ic Mb3 In0)), ?_⟩
             refine Ao 7 Z ?_
             have bs : RowR Ty.i64 aG [[(Vi s)]] [s] := RowR.cons Z (RowR.nil)
             refine N8 (T := Ty.i64) (rows := [[(Vi s)]]) (l := [s]) Z Z Z bs Z Z Z Z Z Z Z Z (fun di => ⟨(Ic Mb2 (Ic Mb4 In0)), ?_⟩)
             refine Ao 8 Z ?_
             have co := av.mono aa
             refine N7 (T := Ty.i64) (bytes := 8) Z Z Z Mb5 co (SrcT.row Mb0 bs Z) aN Z Z Z Z Z Z Z Z (fun bd cI bZ => ⟨_, (.there (.there (.there (.there (.there .here))))), ⟨(Ic Mb2 (Ic Mb4 In0)), ?_⟩⟩)
             refine Aw.shift (Re0 (Sd ⟨(Ic Mb1 (Ic Mb3 In0)), ?_⟩))
             refine JF 9 6 Z ?_
             refine Ao 10 Z ?_
             refine So [(sv bd)] (NL (Op.mk p1.kind p1.mode p1.channel p1.value p1.deadline C Y) A bd) Z (.there (.there .here)) Z ⟨(Ic Mb1 (Ic Mb3 In0)), ?_⟩
             exact Ad<|Pu4<|Pu4<|Pu4<|Pu4<|Pu4<|Sd<|⟨_, by exact R3, _, Nat.lt_succ_self _, ac, ((NG.mk p0.list Q ((NG.mk p0.list y z).value)).value), A, C, bd, Y, cI, Z, Z, (aJ ▸ H), ae, bZ⟩
            ·refine id (Jyq Z (NM (v := (sv A)) Z Z Z (Rb2 Z)) ⟨(Ic Mb1 (Ic Mb3 In0)), ?_⟩)
             refine Jq 5 Z (Oo (T := Oa) ae Z Z) ?_
             refine N6 1 6 (by kernel_rfl) ?_ ?_
             ·refine id (Jyq Z (NM (v := (sv O)) Z Z Z (Rb2 Z)) ⟨(Ic Mb1 (Ic Mb3 In0)), ?_⟩)
              refine Ao 6 Z ?_
              have cp := aK.mono aa
              refine Ek Tryz.call21 Z (Oz f (NG.mk p0.list Q ((NG.mk p0.list y z).value)) g (C.length : Int) s ac a2 _ _ cp) ?_
              rintro _ _ _ - ⟨rfl, rfl, rfl⟩
              refine ⟨(Ic Mb1 (Ic Mb3 In0)), ?_⟩
              refine Ao 7 Z ?_
              have bt : RowR Ty.i64 aG [[(Vi s)]] [s] := RowR.cons Z (RowR.nil)
              refine N8 (T := Ty.i64) (rows := [[(Vi s)]]) (l := [s]) Z Z Z bt Z Z Z Z Z Z Z Z (fun dj => ⟨(Ic Mb2 (Ic Mb4 In0)), ?_⟩)
              refine Ao 8 Z ?_
              have cq := av.mono aa
              refine N7 (T := Ty.i64) (bytes := 8) Z Z Z Mb5 cq (SrcT.row Mb0 bt Z) aN Z Z Z Z Z Z Z Z (fun be cJ b0 => ⟨_, (.there (.there (.there (.there (.there .here))))), ⟨(Ic Mb2 (Ic Mb4 In0)), ?_⟩⟩)
              refine Aw.shift (Re0 (Sd ⟨(Ic Mb1 (Ic Mb3 In0)), ?_⟩))
              refine JF 9 6 Z ?_
              refine Ao 10 Z ?_
              refine So [(sv be)] (NL (Op.mk p1.kind p1.mode p1.channel p1.value p1.deadline C Y) A be) Z (.there (.there .here)) Z ⟨(Ic Mb1 (Ic Mb3 In0)), ?_⟩
              exact Ad<|Pu4<|Pu4<|Pu4<|Pu4<|Pu4<|Sd<|⟨_, by exact R3, _, Nat.lt_succ_self _, ac, ((NG.mk p0.list Q ((NG.mk p0.list y z).value)).value), A, C, be, Y, cJ, Z, Z, (aJ ▸ H), ae, b0⟩
             ·refine id (Jy Z ?_)
              have cr := aK.mono aa
              refine Ek Tryz.call21 Z (Oz f (NG.mk p0.list Q ((NG.mk p0.list y z).value)) g (C.length : Int) s ac a2 _ _ cr) ?_
              rintro _ _ _ - ⟨rfl, rfl, rfl⟩
              refine ⟨(Ic Mb1 (Ic Mb3 In0)), ?_⟩
              refine N6 1 7 (by kernel_rfl) ?_ ?_
              ·refine id (Jyq Z (NM (v := (sv O)) Z Z Z (Rb2 Z)) ⟨(Ic Mb1 (Ic Mb3 In0)), ?_⟩)
               refine Ao 7 Z ?_
               have bu : RowR Ty.i64 aG [[(Vi s)]] [s] := RowR.cons Z (RowR.nil)
               refine N8 (T := Ty.i64) (rows := [[(Vi s)]]) (l := [s]) Z Z Z bu Z Z Z Z Z Z Z Z (fun dk => ⟨(Ic Mb2 (Ic Mb4 In0)), ?_⟩)
               refine Ao 8 Z ?_
               have ct := av.mono aa
               refine N7 (T := Ty.i64) (bytes := 8) Z Z Z Mb5 ct (SrcT.row Mb0 bu Z) aN Z Z Z Z Z Z Z Z (fun bf cK b1 => ⟨_, (.there (.there (.there (.there (.there .here))))), ⟨(Ic Mb2 (Ic Mb4 In0)), ?_⟩⟩)
               refine Aw.shift (Re0 (Sd ⟨(Ic Mb1 (Ic Mb3 In0)), ?_⟩))
               refine JF 9 6 Z ?_
               refine Ao 10 Z ?_
               refine So [(sv bf)] (NL (Op.mk p1.kind p1.mode p1.channel p1.value p1.deadline C Y) A bf) Z (.there (.there .here)) Z ⟨(Ic Mb1 (Ic Mb3 In0)), ?_⟩
               exact Ad<|Pu4<|Pu4<|Pu4<|Pu4<|Pu4<|Sd<|⟨_, by exact R3, _, Nat.lt_succ_self _, ac, ((NG.mk p0.list Q ((NG.mk p0.list y z).value)).value), A, C, bf, Y, cK, Z, Z, (aJ ▸ H), ae, b1⟩
              ·refine id (Jy Z ?_)
               have bv : RowR Ty.i64 aG [[(Vi s)]] [s] := RowR.cons Z (RowR.nil)
               refine N8 (T := Ty.i64) (rows := [[(Vi s)]]) (l := [s]) Z Z Z bv Z Z Z Z Z Z Z Z (fun dl => ⟨(Ic Mb2 (Ic Mb4 In0)), ?_⟩)
               refine NT 1 (by kernel_rfl) (Jyq Z (NM (v := (sv O)) Z Z Z (Rb3 Z)) ⟨(Ic Mb2 (Ic Mb4 In0)), ?_⟩)
               refine Ao 8 Z ?_
               have cu := av.mono aa
               refine N7 (T := Ty.i64) (bytes := 8) Z Z Z Mb5 cu (SrcT.row Mb0 bv Z) aN Z Z Z Z Z Z Z Z (fun bg cL b2 => ⟨_, (.there (.there (.there (.there (.there .here))))), ⟨(Ic Mb2 (Ic Mb4 In0)), ?_⟩⟩)
               refine Aw.shift (Re0 (Sd ⟨(Ic Mb1 (Ic Mb3 In0)), ?_⟩))
               refine JF 9 6 Z ?_
               refine Ao 10 Z ?_
               refine So [(sv bg)] (NL (Op.mk p1.kind p1.mode p1.channel p1.value p1.deadline C Y) A bg) Z (.there (.there .here)) Z ⟨(Ic Mb1 (Ic Mb3 In0)), ?_⟩
               exact Ad<|Pu4<|Pu4<|Pu4<|Pu4<|Pu4<|Sd<|⟨_, by exact R3, _, Nat.lt_succ_self _, ac, ((NG.mk p0.list Q ((NG.mk p0.list y z).value)).value), A, C, bg, Y, cL, Z, Z, (aJ ▸ H), ae, b2⟩
           ·intro au
            obtain ⟨au, H⟩ := If au H
            exact Ov<|Pu4<|Pu4<|Pu4<|Pu4<|Pu4<|Sd<|⟨_, by exact R2, Q, ((NG.mk p0.list y z).value), p1.kind, p1.mode, p1.channel, p1.value, p1.deadline, ab, ay, O, af, aP, Z, Z, H, aZ, av⟩
          ·intro ar
           obtain ⟨ar, H⟩ := If ar H
           exact N2<|Pu1<|Pu2<|Pu4<|Pu4<|Pu4<|Sd<|⟨_, by exact R2, a, p0.value, p1.kind, p1.mode, p1.channel, p1.value, p1.deadline, i, n, b, e, t, Z, Z, H, r, d⟩
 rintro _ cS _ c1 ⟨a3, a4, S, U, V, W, X, E, L, N, M, aO, rfl, rfl, H, cc, bQ⟩
 unfold SB at H
 refine NK<|NH<|EL 7 (NL (Op.mk S U V W X L M) E N) Z (Rb2 Z)<|?_
 refine NP Z (Sa (NL (Op.mk S U V W X L M) E N) Z (.there .here) Z ?_)
 refine NI<|N5<|?_
 obtain ⟨cT, cU, cV⟩ := P6 H
 subst y0 aE aF
 refine ⟨(.inl Z), [(.agg (NL (Op.mk S U V W X L M) E N).toArray)], ⟨(.agg (NL (Op.mk S U V W X L M) E N).toArray), _, Z, ⟨_, 7, (NL (Op.mk S U V W X L M) E N), Z, Z, Z, Z, ⟨Z, Rb1 Z⟩, Z⟩, Z⟩, ?_⟩
 exact Pu4<|Pu4<|Pu2<|Re3<|Re3<|Sd<|⟨E, N, aO, Z, Z, cc, bQ⟩
end Go.Hx
