
import Derived.Test.YtcopfjjpiobclaaGreatDoorXSM
import Derived.Test.YtcopfjjpiobclaaGreatDoorXSWDraw
import Derived.Test.YtcopfjjpiobclaaGreatDoorXSWLaw20
import Derived.Test.YtcopfjjpiobclaaGreatDoorXSWLaw201
import Derived.Test.YtcopfjjpiobclaaGreatDoorXSWScript2
set_option linter.unusedVariables false
set_option linter.unusedSimpArgs false
namespace Go.Hx
open Go Go.Proofs
set_option maxRecDepth 10000
set_option maxHeartbeats 1000000
theorem ZT (p0 : Int) (b : Bool) (H : Wz p0 = some b) (K : Kp) (G : List Ent)  :
  Fc Tryz.prog 90 #[(Vi p0)] K (G) (fun v d c => v = (.bool b) ∧ K = d ∧ G = c) := by
 refine Om Tryz.func90 Z Tryz.ntmps90 Tryz.results90 Z ?_
 unfold Wz at H
 refine NK<|NH<|Ea Z<|NI<|NK<|NH<|Em Z<|Ec Z<|Em Z<|?_
 refine Ee Z ?_ ?_
 ·intro a
  obtain ⟨a, H⟩ := It a H
  refine Vm Z<|Vc Z<|Et Z<|Ea Z<|NI<|N5<|?_
  obtain e := OB H
  subst b
  refine ⟨(.inl Z), [(.bool (dcd (p0 < 8)))], ⟨(.bool (dcd (p0 < 8))), _, Z, Z, Z⟩, ?_⟩
  exact Sd ⟨Z, Z, Z⟩
 ·intro a
  obtain ⟨a, H⟩ := If a H
  refine Ez Z<|Ez Z<|Ef Z<|Ea Z<|NI<|N5<|?_
  obtain e := OB H
  subst b
  refine ⟨(.inl Z), [(.bool false)], ⟨(.bool false), _, Z, Z, Z⟩, ?_⟩
  exact Sd ⟨Z, Z, Z⟩
theorem abx (p0 : Op) (e q : SV) (a : Bool) (H : UO p0 = some a) (K : Kp) (G : List Ent) (t : Slr Oa K (sv e) p0.cases) (J : Slr Ty.i64 K (sv q) p0.draws) :
  Fc Tryz.prog 74 #[(.agg (NL p0 e q).toArray)] K (G) (fun v f b => v = (.bool a) ∧ G = b) := by
 refine Om Tryz.func74 Z Tryz.ntmps74 Tryz.results74 Z ?_
 unfold UO at H
 refine NK<|NH<|?_
 refine NP Z (ON (cs := (NL p0 e q)) Z Z Z (fun r => ?_))
 refine Ea Z<|NI<|NK<|?_
 refine Ob (fun g f b => ∃ (u : Bool) (l m : Int) (n o p : Int), [(1, (Vp r)), (17, (.bool u))] = g ∧ K = f ∧ (.blk r 70 (NL (Op.mk l m n o p p0.cases p0.draws) e q)) :: G = b ∧ Vz p0 u l m n o p = some a) ?_ ?_
 ·refine NH<|EF 2 Z<|El (Vi p0.channel) Z (Rb0 Z)<|?_
  obtain ⟨E, C, H⟩ := bnd H
  refine NP Z (Ek Tryz.call90 Z (ZT p0.channel E C _ _ ) ?_)
  rintro _ _ _ - ⟨rfl, rfl, rfl⟩
  refine Eq Z (PI Z)<|Em Z<|?_
  refine Ee Z ?_ ?_
  ·intro d
   have d := Py d
   have H := OF (btf d) H
   exact Ez Z<|Ez Z<|Ez Z<|Et Z<|Em Z<|Ez Z<|Ez Z<|Ez Z<|Et Z<|NI<|Sd<|⟨_, by exact R2, true, p0.kind, p0.mode, p0.channel, p0.value, p0.deadline, Z, Z, Z, H⟩
  ·intro d
   have d := Px d
   have H := ift d H
   refine VF 4 Z<|Vl (Vi p0.deadline) Z (Rb0 Z)<|Vc Z<|Ef Z<|Em Z<|?_
   refine Ee Z ?_ ?_
   ·intro i
    obtain ⟨i, H⟩ := It i H
    exact Ez Z<|Ez Z<|Ez Z<|Et Z<|NI<|Sd<|⟨_, by exact R2, true, p0.kind, p0.mode, p0.channel, p0.value, p0.deadline, Z, Z, Z, H⟩
   ·intro i
    obtain ⟨i, H⟩ := If i H
    exact VF 4 Z<|Vl (Vi p0.deadline) Z (Rb0 Z)<|Vc Z<|Ef Z<|NI<|Sd<|⟨_, by exact R2, (dcd (p0.deadline > 1099511627776)), p0.kind, p0.mode, p0.channel, p0.value, p0.deadline, Z, Z, Z, H⟩
 rintro _ _ _ - ⟨u, l, m, n, o, p, rfl, rfl, rfl, H⟩
 unfold Vz at H
 refine NW Z ?_ ?_
 ·intro s
  have H := ift s H
  refine NK<|NH<|Ea Z<|NI<|N5<|?_
  obtain w := OB H
  subst a
  refine ⟨(.inl Z), [(.bool false)], ⟨(.bool false), _, Z, Z, Z⟩, ?_⟩
  exact Re0<|Sd<|⟨Z, Z⟩
 ·intro s
  have H := OF (btf s) H
  refine N2 ?_
  refine Ob (fun g f b => [] = g ∧ G = b ∧ Y4 = some a) ?_ ?_
  ·refine NK<|NH<|Ea Z<|NI<|N4<|?_
   refine On (fun n120 g f b => ∃ (j : Int), [(1, (Vp r)), (3, (Vi j))] = g ∧ K = f ∧ (.blk r 70 (NL (Op.mk l m n o p p0.cases p0.draws) e q)) :: G = b ∧ lp1 (Xf l m n o p p0) n120 j = some a) BIG ?_ ?_
   ·exact Sd ⟨_, by exact R2, 0, Z, Z, Z, H⟩
   rintro n120 _ _ _ - ⟨j, rfl, rfl, rfl, H⟩
   obtain ⟨M, L, rfl, A, H⟩ := QP H
   unfold Xf at H
   refine NK<|NK<|NH<|Em Z<|EF 5 Z<|El (sv e) Z (Rb0 Z)<|Eq Z (Oo (T := Oa) t Z Z)<|Ec Z<|NI<|?_
   refine NW Z ?_ ?_
   ·intro h
    obtain ⟨h, H⟩ := It h H
    refine N2<|NK<|N4<|NK<|NH<|EF 5 Z<|El (sv e) Z (Rb0 Z)<|Em Z<|?_
    obtain ⟨y, x, H⟩ := bnd H
    obtain ⟨_, rfl, z⟩ := Slr.at t x
    refine Eq Z (Qi (T := Oa) t x Z)<|EF 1 Z<|El (Vi y.channel) Z (Rdc.k z Z)<|?_
    obtain ⟨D, B, H⟩ := bnd H
    refine NP Z (Ek Tryz.call90 Z (ZT y.channel D B _ _ ) ?_)
    rintro _ _ _ - ⟨rfl, rfl, rfl⟩
    refine Eq Z (PI Z)<|NI<|?_
    refine NW Z ?_ ?_
    ·intro c
     have c := Py c
     have H := OF (btf c) H
     refine NK<|NH<|Ea Z<|NI<|N5<|?_
     obtain w := OB H
     subst a
     refine ⟨(.inl Z), [(.bool false)], ⟨(.bool false), _, Z, Z, Z⟩, ?_⟩
     exact Re0<|Sd<|⟨Z, Z⟩
    ·intro c
     have c := Px c
     have H := ift c H
     exact N2<|NH<|Em Z<|Er (wI (j + 1)) Z<|Ea Z<|NI<|Sd<|⟨_, by exact R2, _, Nat.lt_succ_self _, (wI (j + 1)), Z, Z, Z, (A ▸ H)⟩
   ·intro h
    obtain ⟨h, H⟩ := If h H
    exact Ov<|Re0<|Sd<|⟨[], trivial, Z, Z, H⟩
  rintro _ F _ I ⟨rfl, rfl, H⟩
  unfold Y4 at H
  refine NK<|NH<|Ea Z<|NI<|N5<|?_
  obtain w := OB H
  subst a
  refine ⟨(.inl Z), [(.bool true)], ⟨(.bool true), _, Z, Z, Z⟩, ?_⟩
  exact Sd ⟨Z, Z⟩
theorem aby (p0 : Op) (e g : SV) (b : Bool) (H : UP p0 = some b) (K : Kp) (G : List Ent) (p : Slr Oa K (sv e) p0.cases) (L : Slr Ty.i64 K (sv g) p0.draws) :
  Fc Tryz.prog 75 #[(.agg (NL p0 e g).toArray)] K (G) (fun v c a => v = (.bool b) ∧ G = a) := by
 refine Om Tryz.func75 Z Tryz.ntmps75 Tryz.results75 Z ?_
 unfold UP at H
 refine NK<|NH<|?_
 refine NP Z (ON (cs := (NL p0 e g)) Z Z Z (fun f => ?_))
 refine Ea Z<|NI<|?_
 refine Ob (fun d c a => ∃ (J : Bool), [(1, (Vp f)), (3, (.bool J))] = d ∧ K = c ∧ (.blk f 70 (NL p0 e g)) :: G = a ∧ VC p0 J = some b) ?_ ?_
 ·refine NH<|EF 0 Z<|El (Vi p0.kind) Z (Rb0 Z)<|Ec Z<|Em Z<|?_
  refine Ee Z ?_ ?_
  ·intro w
   obtain ⟨w, H⟩ := It w H
   exact Ez Z<|Ez Z<|Ez Z<|Et Z<|Em Z<|Ez Z<|Ez Z<|Ez Z<|Et Z<|Ea Z<|NI<|Sd<|⟨_, by exact R2, true, Z, Z, Z, H⟩
  ·intro w
   obtain ⟨w, H⟩ := If w H
   refine VF 0 Z<|Vl (Vi p0.kind) Z (Rb0 Z)<|Vc Z<|Ef Z<|Em Z<|?_
   refine Ee Z ?_ ?_
   ·intro x
    obtain ⟨x, H⟩ := It x H
    exact Ez Z<|Ez Z<|Ez Z<|Et Z<|Ea Z<|NI<|Sd<|⟨_, by exact R2, true, Z, Z, Z, H⟩
   ·intro x
    obtain ⟨x, H⟩ := If x H
    exact VF 0 Z<|Vl (Vi p0.kind) Z (Rb0 Z)<|Vc Z<|Ef Z<|Ea Z<|NI<|Sd<|⟨_, by exact R2, (dcd (p0.kind = 6)), Z, Z, Z, H⟩
 rintro _ _ _ - ⟨J, rfl, rfl, rfl, H⟩
 unfold VC at H
 refine NK ?_
 refine Ob (fun d c a => ∃ (E : Bool), [(1, (Vp f)), (33, (.bool E))] = d ∧ K = c ∧ (.blk f 70 (NL p0 e g)) :: G = a ∧ Su p0 E = some b) ?_ ?_
 ·refine NH<|Em Z<|Em Z<|?_
  refine Ee Z ?_ ?_
  ·intro A
   have H := ift A H
   refine VF 1 Z<|Vl (Vi p0.mode) Z (Rb0 Z)<|Vc Z<|Et Z<|Em Z<|?_
   refine Ee Z ?_ ?_
   ·intro h
    have h := Pg (Py (h))
    have H := OF h H
    exact Ez Z<|Ez Z<|Ez Z<|Ez Z<|O9 Z Z Z Z rfl<|O9 Z Z Z Z rfl<|O9 Z Z Z Z rfl<|Ez Z<|Et Z<|NI<|Sd<|⟨_, by exact R2, true, Z, Z, Z, H⟩
   ·intro h
    have h := Ph (Px (h))
    have H := ift h H
    refine VF 4 Z<|Vl (Vi p0.deadline) Z (Rb0 Z)<|Vc Z<|Vm Z<|?_
    refine Ee Z ?_ ?_
    ·intro i
     have i := Pg (Py (i))
     have H := OF i H
     exact VF 1 Z<|Vl (Vi p0.mode) Z (Rb0 Z)<|Vc Z<|Vt Z<|Ef Z<|NI<|Sd<|⟨_, by exact R2, (!(dcd (p0.mode = 2))), Z, Z, Z, H⟩
    ·intro i
     have i := Ph (Px (i))
     have H := ift i H
     exact Ez Z<|Ez Z<|Ez Z<|Vf Z<|Ef Z<|NI<|Sd<|⟨_, by exact R2, false, Z, Z, Z, H⟩
  ·intro A
   have H := OF (btf A) H
   refine Ez Z<|Ez Z<|Ez Z<|Ef Z<|Em Z<|VF 4 Z<|Vl (Vi p0.deadline) Z (Rb0 Z)<|Vc Z<|Vm Z<|?_
   refine Ee Z ?_ ?_
   ·intro j
    have j := Pg (Py (j))
    have H := OF j H
    exact VF 1 Z<|Vl (Vi p0.mode) Z (Rb0 Z)<|Vc Z<|Vt Z<|Ef Z<|NI<|Sd<|⟨_, by exact R2, (!(dcd (p0.mode = 2))), Z, Z, Z, H⟩
   ·intro j
    have j := Ph (Px (j))
    have H := ift j H
    exact Ez Z<|Ez Z<|Ez Z<|Vf Z<|Ef Z<|NI<|Sd<|⟨_, by exact R2, false, Z, Z, Z, H⟩
 rintro _ _ _ - ⟨E, rfl, rfl, rfl, H⟩
 unfold Su at H
 refine NW Z ?_ ?_
 ·intro B
  have H := ift B H
  refine NK<|NH<|Ea Z<|NI<|N5<|?_
  obtain z := OB H
  subst b
  refine ⟨(.inl Z), [(.bool false)], ⟨(.bool false), _, Z, Z, Z⟩, ?_⟩
  exact Re0<|Sd<|⟨Z, Z⟩
 ·intro B
  have H := OF (btf B) H
  refine N2<|NK<|NK<|NH<|EF 0 Z<|El (Vi p0.kind) Z (Rb0 Z)<|Ec Z<|NI<|?_
  refine NW Z ?_ ?_
  ·intro l
   have l := Pg (Py (l))
   have H := OF l H
   refine Ob (fun d c a => ∃ (y : Bool), [(2, (.bool y))] = d ∧ K = c ∧ G = a ∧ VA y = some b) ?_ ?_
   ·refine NH<|EF 5 Z<|El (sv e) Z (Rb0 Z)<|Eq Z (Oo (T := Oa) p Z Z)<|Ec Z<|Em Z<|?_
    refine Ee Z ?_ ?_
    ·intro r
     obtain ⟨r, H⟩ := It r H
     refine VF 6 Z<|Vl (sv g) Z (Rb0 Z)<|Vq Z (Oo (T := Ty.i64) L Z Z)<|Vc Z<|Et Z<|Em Z<|?_
     refine Ee Z ?_ ?_
     ·intro s
      obtain ⟨s, H⟩ := It s H
      refine VF 0 Z<|Vl (Vi p0.kind) Z (Rb0 Z)<|Vc Z<|Vm Z<|?_
      refine Ee Z ?_ ?_
      ·intro t
       obtain ⟨t, H⟩ := It t H
       exact Ez Z<|Ez Z<|Ez Z<|Vt Z<|Et Z<|Ea Z<|NI<|Re0<|Sd<|⟨_, by exact R1, true, Z, Z, Z, H⟩
      ·intro t
       obtain ⟨t, H⟩ := If t H
       exact VF 3 Z<|Vl (.int .u64 p0.value) Z (Rb0 Z)<|Vc Z<|Vf Z<|Et Z<|Ea Z<|NI<|Re0<|Sd<|⟨_, by exact R1, (dcd (p0.value = 0)), Z, Z, Z, H⟩
     ·intro s
      obtain ⟨s, H⟩ := If s H
      exact Ez Z<|Ez Z<|Ez Z<|Ez Z<|O9 Z Z Z Z rfl<|O9 Z Z Z Z rfl<|O9 Z Z Z Z rfl<|Ez Z<|Ef Z<|Ea Z<|NI<|Re0<|Sd<|⟨_, by exact R1, false, Z, Z, Z, H⟩
    ·intro r
     obtain ⟨r, H⟩ := If r H
     exact Ez Z<|Ez Z<|Ez Z<|Ez Z<|Ef Z<|Em Z<|Ez Z<|Ez Z<|Ez Z<|Ez Z<|O9 Z Z Z Z rfl<|O9 Z Z Z Z rfl<|O9 Z Z Z Z rfl<|Ez Z<|Ef Z<|Ea Z<|NI<|Re0<|Sd<|⟨_, by exact R1, false, Z, Z, Z, H⟩
   rintro _ _ _ - ⟨y, rfl, rfl, rfl, H⟩
   unfold VA at H
   refine N5 ?_
   obtain z := OB H
   subst b
   refine ⟨(.inl Z), [(.bool y)], ⟨(.bool y), _, Z, Z, Z⟩, ?_⟩
   exact Sd ⟨Z, Z⟩
  ·intro l
   have l := Ph (Px (l))
   have H := ift l H
   refine N2<|NK<|?_
   refine Ob (fun d c a => ∃ (F : Bool), [(1, (Vp f)), (73, (.bool F))] = d ∧ K = c ∧ (.blk f 70 (NL p0 e g)) :: G = a ∧ VB p0 F = some b) ?_ ?_
   ·refine NH<|EF 2 Z<|El (Vi p0.channel) Z (Rb0 Z)<|Ec Z<|Em Z<|?_
    refine Ee Z ?_ ?_
    ·intro m
     have m := Pg (Py (m))
     have H := OF m H
     exact Ez Z<|Ez Z<|Ez Z<|Et Z<|Em Z<|Ez Z<|Ez Z<|Ez Z<|Ez Z<|Ez Z<|Ez Z<|Ez Z<|Et Z<|NI<|Sd<|⟨_, by exact R2, true, Z, Z, Z, H⟩
    ·intro m
     have m := Ph (Px (m))
     have H := ift m H
     refine VF 3 Z<|Vl (.int .u64 p0.value) Z (Rb0 Z)<|Vc Z<|Ef Z<|Em Z<|?_
     refine Ee Z ?_ ?_
     ·intro n
      have n := Pg (Py (n))
      have H := OF n H
      exact Ez Z<|Ez Z<|Ez Z<|Ez Z<|Ez Z<|Ez Z<|Ez Z<|Et Z<|NI<|Sd<|⟨_, by exact R2, true, Z, Z, Z, H⟩
     ·intro n
      have n := Ph (Px (n))
      have H := ift n H
      exact VF 6 Z<|Vl (sv g) Z (Rb0 Z)<|Vq Z (Oo (T := Ty.i64) L rfl rfl)<|VF 5 Z<|Vl (sv e) Z (Rb0 Z)<|Vq Z (Oo (T := Oa) p rfl rfl)<|Vc Z<|Ef Z<|NI<|Sd<|⟨_, by exact R2, (!(dcd ((p0.draws.length : Int) = (p0.cases.length : Int)))), rfl, rfl, rfl, H⟩
   rintro _ _ _ - ⟨F, rfl, rfl, rfl, H⟩
   unfold VB at H
   refine NW Z ?_ ?_
   ·intro C
    have H := ift C H
    refine NK<|NH<|Ea Z<|NI<|N5<|?_
    obtain z := OB H
    subst b
    refine ⟨(.inl Z), [(.bool false)], ⟨(.bool false), _, Z, Z, Z⟩, ?_⟩
    exact Re0<|Sd<|⟨Z, Z⟩
   ·intro C
    have H := OF (btf C) H
    refine N2 ?_
    refine Ob (fun d c a => [] = d ∧ G = a ∧ Y5 = some b) ?_ ?_
    ·refine NK<|NH<|Ea Z<|NI<|N4<|?_
     refine On (fun n206 d c a => ∃ (q : Int), [(1, (Vp f)), (4, (Vi q))] = d ∧ K = c ∧ (.blk f 70 (NL p0 e g)) :: G = a ∧ lp1 (Xg p0) n206 q = some b) BIG ?_ ?_
     ·exact Sd ⟨_, by exact R2, 0, Z, Z, Z, H⟩
     rintro n206 _ _ _ - ⟨q, rfl, rfl, rfl, H⟩
     obtain ⟨X, S, rfl, R, H⟩ := QP H
     unfold Xg at H
     refine NK<|NK<|NH<|Em Z<|EF 5 Z<|El (sv e) Z (Rb0 Z)<|Eq Z (Oo (T := Oa) p Z Z)<|Ec Z<|NI<|?_
     refine NW Z ?_ ?_
     ·intro u
      obtain ⟨u, H⟩ := It u H
      refine N2<|NK<|N4<|?_
      refine Ob (fun d c a => ∃ (I : Bool), [(1, (Vp f)), (4, (Vi q)), (96, (.bool I))] = d ∧ K = c ∧ (.blk f 70 (NL p0 e g)) :: G = a ∧ WA q p0 S I = some b) ?_ ?_
      ·refine NH<|EF 5 Z<|El (sv e) Z (Rb0 Z)<|Em Z<|?_
       obtain ⟨U, M, H⟩ := bnd H
       obtain ⟨_, rfl, P⟩ := Slr.at p M
       refine Eq Z (Qi (T := Oa) p M Z)<|EF 0 Z<|El (.bool U.send) Z (Rdc.k P Z)<|Eq Z (PI Z)<|Em Z<|?_
       refine Ee Z ?_ ?_
       ·intro o
        have o := Py o
        have H := OF (btf o) H
        refine VF 5 Z<|Vl (sv e) Z (Rb0 Z)<|Vm Z<|?_
        obtain ⟨O, N, H⟩ := bnd H
        obtain ⟨_, rfl, Q⟩ := Slr.at p N
        exact Vq Z (Qi (T := Oa) p N Z)<|VF 2 Z<|Vl (.int .u64 O.value) Z (Rdc.k Q Z)<|Vc Z<|Et Z<|NI<|Sd<|⟨_, by exact R3, (!(dcd (O.value = 0))), Z, Z, Z, H⟩
       ·intro o
        have o := Px o
        have H := ift o H
        exact Ez Z<|Ez Z<|Ez Z<|Ez Z<|Ez Z<|Ez Z<|Ez Z<|Ef Z<|NI<|Sd<|⟨_, by exact R3, false, Z, Z, Z, H⟩
      rintro _ _ _ - ⟨I, rfl, rfl, rfl, H⟩
      unfold WA at H
      refine NW Z ?_ ?_
      ·intro D
       have H := ift D H
       refine NK<|NH<|Ea Z<|NI<|N5<|?_
       obtain z := OB H
       subst b
       refine ⟨(.inl Z), [(.bool false)], ⟨(.bool false), _, Z, Z, Z⟩, ?_⟩
       exact Re0<|Sd<|⟨Z, Z⟩
      ·intro D
       have H := OF (btf D) H
       exact N2<|NH<|Em Z<|Er (wI (q + 1)) Z<|Ea Z<|NI<|Sd<|⟨_, by exact R2, _, Nat.lt_succ_self _, (wI (q + 1)), Z, Z, Z, (R ▸ H)⟩
     ·intro u
      obtain ⟨u, H⟩ := If u H
      exact Ov<|Re0<|Sd<|⟨[], trivial, Z, Z, H⟩
    rintro _ V _ W ⟨rfl, rfl, H⟩
    unfold Y5 at H
    refine NK<|NH<|Ea Z<|NI<|N5<|?_
    obtain z := OB H
    subst b
    refine ⟨(.inl Z), [(.bool true)], ⟨(.bool true), _, Z, Z, Z⟩, ?_⟩
    exact Sd ⟨Z, Z⟩
theorem abz (p0 : Op) (b a : SV) (c : Int) (H : US p0 = some c) (K : Kp) (G : List Ent) (A : Slr Oa K (sv b) p0.cases) (u : Slr Ty.i64 K (sv a) p0.draws) :
  Fc Tryz.prog 42 #[(.agg (NL p0 b a).toArray)] K (G) (fun v f d => v = (Vi c) ∧ G = d) := by
 refine Om Tryz.func42 Z Tryz.ntmps42 Tryz.results42 Z ?_
 unfold US at H
 refine NK<|NH<|?_
 refine NP Z (ON (cs := (NL p0 b a)) Z Z Z (fun e => ?_))
 refine Ea Z<|NI<|NK<|?_
 refine Ob (fun g f d => ∃ (B : Bool), [(1, (Vp e)), (21, (.bool B))] = g ∧ K = f ∧ (.blk e 70 (NL p0 b a)) :: G = d ∧ TK p0 B = some c) ?_ ?_
 ·refine NH<|EF 0 Z<|El (Vi p0.kind) Z (Rb0 Z)<|Ec Z<|Em Z<|?_
  refine Ee Z ?_ ?_
  ·intro m
   obtain ⟨m, H⟩ := It m H
   exact Ez Z<|Ez Z<|Ez Z<|Et Z<|Em Z<|Ez Z<|Ez Z<|Ez Z<|Et Z<|Em Z<|Ez Z<|Ez Z<|Ez Z<|Et Z<|NI<|Sd<|⟨_, by exact R2, true, Z, Z, Z, H⟩
  ·intro m
   obtain ⟨m, H⟩ := If m H
   refine VF 0 Z<|Vl (Vi p0.kind) Z (Rb0 Z)<|Vc Z<|Ef Z<|Em Z<|?_
   refine Ee Z ?_ ?_
   ·intro n
    obtain ⟨n, H⟩ := It n H
    exact Ez Z<|Ez Z<|Ez Z<|Et Z<|Em Z<|Ez Z<|Ez Z<|Ez Z<|Et Z<|NI<|Sd<|⟨_, by exact R2, true, Z, Z, Z, H⟩
   ·intro n
    obtain ⟨n, H⟩ := If n H
    refine VF 1 Z<|Vl (Vi p0.mode) Z (Rb0 Z)<|Vc Z<|Ef Z<|Em Z<|?_
    refine Ee Z ?_ ?_
    ·intro o
     obtain ⟨o, H⟩ := It o H
     exact Ez Z<|Ez Z<|Ez Z<|Et Z<|NI<|Sd<|⟨_, by exact R2, true, Z, Z, Z, H⟩
    ·intro o
     obtain ⟨o, H⟩ := If o H
     exact VF 1 Z<|Vl (Vi p0.mode) Z (Rb0 Z)<|Vc Z<|Ef Z<|NI<|Sd<|⟨_, by exact R2, (dcd (p0.mode > 2)), Z, Z, Z, H⟩
 rintro _ _ _ - ⟨B, rfl, rfl, rfl, H⟩
 unfold TK at H
 refine NW Z ?_ ?_
 ·intro x
  have H := ift x H
  refine NK<|NH<|Ea Z<|NI<|N5<|?_
  obtain l := OB H
  subst c
  refine ⟨(.inl Z), [(Vi 2)], ⟨(Vi 2), _, Z, Z, Z⟩, ?_⟩
  exact Re0<|Sd<|⟨Z, Z⟩
 ·intro x
  have H := OF (btf x) H
  refine N2<|NK<|NK<|NH<|EL 7 (NL p0 b a) Z (Rb0 Z)<|?_
  obtain ⟨W, S, H⟩ := bnd H
  refine NP Z (Ek Tryz.call74 Z (abx p0 b a W S _ _ A u) ?_)
  rintro _ w _ s ⟨rfl, rfl⟩
  refine Eq Z (PI Z)<|NI<|?_
  refine NW Z ?_ ?_
  ·intro i
   have i := Py i
   have H := OF (btf i) H
   refine NK<|NH<|Ea Z<|NI<|N5<|?_
   obtain l := OB H
   subst c
   refine ⟨(.inl Z), [(Vi 2)], ⟨(Vi 2), _, Z, Z, Z⟩, ?_⟩
   exact Re0<|Sd<|⟨Z, Z⟩
  ·intro i
   have i := Px i
   have H := ift i H
   refine N2<|NK<|?_
   refine Ob (fun g f d => ∃ (C : Bool), [(1, (Vp e)), (34, (.bool C))] = g ∧ w = f ∧ (.blk e 70 (NL p0 b a)) :: G = d ∧ WC p0 C = some c) ?_ ?_
   ·refine NH<|EF 5 Z<|El (sv b) Z (Rb0 Z)<|?_
    have O := A.mono s
    refine Eq Z (Oo (T := Oa) O Z Z)<|Ec Z<|Em Z<|?_
    refine Ee Z ?_ ?_
    ·intro p
     obtain ⟨p, H⟩ := It p H
     exact Ez Z<|Ez Z<|Ez Z<|Ez Z<|Et Z<|NI<|Sd<|⟨_, by exact R2, true, Z, Z, Z, H⟩
    ·intro p
     obtain ⟨p, H⟩ := If p H
     refine VF 6 Z<|Vl (sv a) Z (Rb0 Z)<|?_
     have P := u.mono s
     exact Vq Z (Oo (T := Ty.i64) P Z Z)<|Vc Z<|Ef Z<|NI<|Sd<|⟨_, by exact R2, (dcd ((p0.draws.length : Int) > 6)), Z, Z, Z, H⟩
   rintro _ _ _ - ⟨C, rfl, rfl, rfl, H⟩
   unfold WC at H
   refine NW Z ?_ ?_
   ·intro y
    have H := ift y H
    refine NK<|NH<|Ea Z<|NI<|N5<|?_
    obtain l := OB H
    subst c
    refine ⟨(.inl Z), [(Vi 3)], ⟨(Vi 3), _, Z, Z, Z⟩, ?_⟩
    exact Re0<|Sd<|⟨Z, Z⟩
   ·intro y
    have H := OF (btf y) H
    refine N2 ?_
    refine Ob (fun g f d => [(1, (Vp e))] = g ∧ (.blk e 70 (NL p0 b a)) :: G = d ∧ UQ p0 = some c) ?_ ?_
    ·refine NK<|NH<|Ea Z<|NI<|N4<|?_
     refine On (fun n202 g f d => ∃ (h : Int), [(1, (Vp e)), (3, (Vi h))] = g ∧ w = f ∧ (.blk e 70 (NL p0 b a)) :: G = d ∧ lp1 (WB p0) n202 h = some c) BIG ?_ ?_
     ·exact Sd ⟨_, by exact R2, 0, Z, Z, Z, H⟩
     rintro n202 _ _ _ - ⟨h, rfl, rfl, rfl, H⟩
     obtain ⟨ad, V, rfl, N, H⟩ := QP H
     unfold WB at H
     refine NK<|NK<|NH<|Em Z<|EF 6 Z<|El (sv a) Z (Rb0 Z)<|?_
     have t := u.mono s
     refine Eq Z (Oo (T := Ty.i64) t Z Z)<|Ec Z<|NI<|?_
     refine NW Z ?_ ?_
     ·intro q
      obtain ⟨q, H⟩ := It q H
      refine N2<|NK<|N4<|?_
      refine Ob (fun g f d => ∃ (D : Bool), [(1, (Vp e)), (3, (Vi h)), (56, (.bool D))] = g ∧ w = f ∧ (.blk e 70 (NL p0 b a)) :: G = d ∧ UR h p0 V D = some c) ?_ ?_
      ·refine NH<|EF 6 Z<|El (sv a) Z (Rb0 Z)<|Em Z<|?_
       obtain ⟨X, F, H⟩ := bnd H
       obtain ⟨_, rfl, L⟩ := Slr.at t F
       refine Eq Z (Qi (T := Ty.i64) t F Z)<|El (Vi X) Z (Rdc.k L Z)<|Ec Z<|Em Z<|?_
       refine Ee Z ?_ ?_
       ·intro r
        obtain ⟨r, H⟩ := It r H
        exact Ez Z<|Ez Z<|Ez Z<|Ez Z<|Ez Z<|Ez Z<|Ez Z<|Et Z<|NI<|Sd<|⟨_, by exact R3, true, Z, Z, Z, H⟩
       ·intro r
        obtain ⟨r, H⟩ := If r H
        refine VF 6 Z<|Vl (sv a) Z (Rb0 Z)<|Vm Z<|?_
        obtain ⟨J, I, H⟩ := bnd H
        obtain ⟨_, rfl, M⟩ := Slr.at t I
        exact Vq Z (Qi (T := Ty.i64) t I Z)<|Vl (Vi J) Z (Rdc.k M Z)<|Vm Z<|Vc Z<|Ef Z<|NI<|Sd<|⟨_, by exact R3, (dcd (J > h)), Z, Z, Z, H⟩
      rintro _ _ _ - ⟨D, rfl, rfl, rfl, H⟩
      unfold UR at H
      refine NW Z ?_ ?_
      ·intro z
       have H := ift z H
       refine NK<|NH<|Ea Z<|NI<|N5<|?_
       obtain l := OB H
       subst c
       refine ⟨(.inl Z), [(Vi 2)], ⟨(Vi 2), _, Z, Z, Z⟩, ?_⟩
       exact Re0<|Sd<|⟨Z, Z⟩
      ·intro z
       have H := OF (btf z) H
       exact N2<|NH<|Em Z<|Er (wI (h + 1)) Z<|Ea Z<|NI<|Sd<|⟨_, by exact R2, _, Nat.lt_succ_self _, (wI (h + 1)), Z, Z, Z, (N ▸ H)⟩
     ·intro q
      obtain ⟨q, H⟩ := If q H
      exact Ov<|Sd<|⟨_, by exact R1, Z, Z, H⟩
    rintro _ aa _ E ⟨rfl, rfl, H⟩
    unfold UQ at H
    refine NK<|NK<|NH<|EL 7 (NL p0 b a) Z (Rb0 Z)<|?_
    obtain ⟨Y, U, H⟩ := bnd H
    have Q := (A.mono s).mono E
    have R := (u.mono s).mono E
    refine NP Z (Ek Tryz.call75 Z (aby p0 b a Y U _ _ Q R) ?_)
    rintro _ ab _ ac ⟨rfl, rfl⟩
    refine Eq Z (PI Z)<|NI<|?_
    refine NW Z ?_ ?_
    ·intro j
     have j := Py j
     have H := OF (btf j) H
     refine NK<|NH<|Ea Z<|NI<|N5<|?_
     obtain l := OB H
     subst c
     refine ⟨(.inl Z), [(Vi 5)], ⟨(Vi 5), _, Z, Z, Z⟩, ?_⟩
     exact Re0<|Sd<|⟨Z, Z⟩
    ·intro j
     have j := Px j
     have H := ift j H
     refine N2<|NK<|NH<|Ea Z<|NI<|N5<|?_
     obtain l := OB H
     subst c
     refine ⟨(.inl Z), [(Vi 0)], ⟨(Vi 0), _, Z, Z, Z⟩, ?_⟩
     exact Re0<|Sd<|⟨Z, Z⟩
theorem abw (p0 : Config) (c e : SV) (a : Int) (H : UN p0 = some a) (K : Kp) (G : List Ent) (i : Slr Ty.i64 K (sv c) p0.capacities) (z : Slr Ty.u64 K (sv e) p0.starts) :
  Fc Tryz.prog 41 #[(.agg (NU p0 c e).toArray)] K (G) (fun v f b => v = (Vi a) ∧ G = b) := by
 refine Om Tryz.func41 Z Tryz.ntmps41 Tryz.results41 Z ?_
 unfold UN at H
 refine NK<|NH<|?_
 refine NP Z (ON (cs := (NU p0 c e)) Z Z Z (fun g => ?_))
 refine Ea Z<|NI<|NK<|NK<|NH<|EF 0 Z<|El (sv c) Z (Rb0 Z)<|Eq Z (Oo (T := Ty.i64) i Z Z)<|Ec Z<|NI<|?_
 refine NW Z ?_ ?_
 ·intro r
  obtain ⟨r, H⟩ := It r H
  refine NK<|NH<|Ea Z<|NI<|N5<|?_
  obtain l := OB H
  subst a
  refine ⟨(.inl Z), [(Vi 3)], ⟨(Vi 3), _, Z, Z, Z⟩, ?_⟩
  exact Re0<|Sd<|⟨Z, Z⟩
 ·intro r
  obtain ⟨r, H⟩ := If r H
  refine N2<|NK<|NK<|NH<|EF 1 Z<|El (sv e) Z (Rb0 Z)<|Eq Z (Oo (T := Ty.u64) z Z Z)<|EF 0 Z<|El (sv c) Z (Rb0 Z)<|Eq Z (Oo (T := Ty.i64) i Z Z)<|Ec Z<|NI<|?_
  refine NW Z ?_ ?_
  ·intro h
   have h := Pg (Py (h))
   have H := OF h H
   refine NK<|NH<|Ea Z<|NI<|N5<|?_
   obtain l := OB H
   subst a
   refine ⟨(.inl Z), [(Vi 5)], ⟨(Vi 5), _, Z, Z, Z⟩, ?_⟩
   exact Re0<|Sd<|⟨Z, Z⟩
  ·intro h
   have h := Ph (Px (h))
   have H := ift h H
   refine N2 ?_
   refine Ob (fun d f b => [(1, (Vp g))] = d ∧ (.blk g 30 (NU p0 c e)) :: G = b ∧ UL p0 = some a) ?_ ?_
   ·refine NK<|NH<|Ea Z<|NI<|N4<|?_
    refine On (fun n154 d f b => ∃ (j : Int), [(1, (Vp g)), (3, (Vi j))] = d ∧ K = f ∧ (.blk g 30 (NU p0 c e)) :: G = b ∧ lp1 (UM p0) n154 j = some a) BIG ?_ ?_
    ·exact Sd ⟨_, by exact R2, 0, Z, Z, Z, H⟩
    rintro n154 _ _ _ - ⟨j, rfl, rfl, rfl, H⟩
    obtain ⟨V, P, rfl, N, H⟩ := QP H
    unfold UM at H
    refine NK<|NK<|NH<|Em Z<|EF 0 Z<|El (sv c) Z (Rb0 Z)<|Eq Z (Oo (T := Ty.i64) i Z Z)<|Ec Z<|NI<|?_
    refine NW Z ?_ ?_
    ·intro m
     obtain ⟨m, H⟩ := It m H
     refine N2<|NK<|N4<|?_
     refine Ob (fun d f b => ∃ (x : Bool), [(1, (Vp g)), (3, (Vi j)), (36, (.bool x))] = d ∧ K = f ∧ (.blk g 30 (NU p0 c e)) :: G = b ∧ Wy j p0 P x = some a) ?_ ?_
     ·refine NH<|EF 0 Z<|El (sv c) Z (Rb0 Z)<|Em Z<|?_
      obtain ⟨Q, A, H⟩ := bnd H
      obtain ⟨_, rfl, J⟩ := Slr.at i A
      refine Eq Z (Qi (T := Ty.i64) i A Z)<|El (Vi Q) Z (Rdc.k J Z)<|Ec Z<|Em Z<|?_
      refine Ee Z ?_ ?_
      ·intro n
       obtain ⟨n, H⟩ := It n H
       exact Ez Z<|Ez Z<|Ez Z<|Ez Z<|Ez Z<|Ez Z<|Et Z<|NI<|Sd<|⟨_, by exact R3, true, Z, Z, Z, H⟩
      ·intro n
       obtain ⟨n, H⟩ := If n H
       refine VF 0 Z<|Vl (sv c) Z (Rb0 Z)<|Vm Z<|?_
       obtain ⟨D, B, H⟩ := bnd H
       obtain ⟨_, rfl, L⟩ := Slr.at i B
       exact Vq Z (Qi (T := Ty.i64) i B Z)<|Vl (Vi D) Z (Rdc.k L Z)<|Vc Z<|Ef Z<|NI<|Sd<|⟨_, by exact R3, (dcd (D > 16)), Z, Z, Z, H⟩
     rintro _ _ _ - ⟨x, rfl, rfl, rfl, H⟩
     unfold Wy at H
     refine NW Z ?_ ?_
     ·intro t
      have H := ift t H
      refine NK<|NH<|Ea Z<|NI<|N5<|?_
      obtain l := OB H
      subst a
      refine ⟨(.inl Z), [(Vi 2)], ⟨(Vi 2), _, Z, Z, Z⟩, ?_⟩
      exact Re0<|Sd<|⟨Z, Z⟩
     ·intro t
      have H := OF (btf t) H
      exact N2<|NH<|Em Z<|Er (wI (j + 1)) Z<|Ea Z<|NI<|Sd<|⟨_, by exact R2, _, Nat.lt_succ_self _, (wI (j + 1)), Z, Z, Z, (N ▸ H)⟩
    ·intro m
     obtain ⟨m, H⟩ := If m H
     exact Ov<|Sd<|⟨_, by exact R1, Z, Z, H⟩
   rintro _ E _ I ⟨rfl, rfl, H⟩
   unfold UL at H
   refine Ob (fun d f b => [(1, (Vp g))] = d ∧ (.blk g 30 (NU p0 c e)) :: G = b ∧ UJ p0 = some a) ?_ ?_
   ·refine NK<|NH<|Ea Z<|NI<|N4<|?_
    refine On (fun n243 d f b => ∃ (s : Int), [(1, (Vp g)), (4, (Vi s))] = d ∧ E = f ∧ (.blk g 30 (NU p0 c e)) :: G = b ∧ lp1 (UK p0) n243 s = some a) BIG ?_ ?_
    ·exact Sd ⟨_, by exact R2, 0, Z, Z, Z, H⟩
    rintro n243 _ _ _ - ⟨s, rfl, rfl, rfl, H⟩
    obtain ⟨W, U, rfl, O, H⟩ := QP H
    unfold UK at H
    refine NK<|NK<|NH<|Em Z<|EF 1 Z<|El (sv e) Z (Rb0 Z)<|?_
    have w := z.mono I
    refine Eq Z (Oo (T := Ty.u64) w Z Z)<|Ec Z<|NI<|?_
    refine NW Z ?_ ?_
    ·intro o
     obtain ⟨o, H⟩ := It o H
     refine N2<|NK<|N4<|NK<|NH<|EF 1 Z<|El (sv e) Z (Rb0 Z)<|Em Z<|?_
     obtain ⟨R, C, H⟩ := bnd H
     obtain ⟨_, rfl, M⟩ := Slr.at w C
     refine Eq Z (Qi (T := Ty.u64) w C Z)<|El (.int .u64 R) Z (Rdc.k M Z)<|Ec Z<|NI<|?_
     refine NW Z ?_ ?_
     ·intro p
      obtain ⟨p, H⟩ := It p H
      refine NK<|NH<|Ea Z<|NI<|N5<|?_
      obtain l := OB H
      subst a
      refine ⟨(.inl Z), [(Vi 2)], ⟨(Vi 2), _, Z, Z, Z⟩, ?_⟩
      exact Re0<|Sd<|⟨Z, Z⟩
     ·intro p
      obtain ⟨p, H⟩ := If p H
      exact N2<|NH<|Em Z<|Er (wI (s + 1)) Z<|Ea Z<|NI<|Sd<|⟨_, by exact R2, _, Nat.lt_succ_self _, (wI (s + 1)), Z, Z, Z, (O ▸ H)⟩
    ·intro o
     obtain ⟨o, H⟩ := If o H
     exact Ov<|Sd<|⟨_, by exact R1, Z, Z, H⟩
   rintro _ F _ S ⟨rfl, rfl, H⟩
   unfold UJ at H
   refine NK ?_
   refine Ob (fun d f b => ∃ (y : Bool), [(57, (.bool y))] = d ∧ F = f ∧ G = b ∧ UI y = some a) ?_ ?_
   ·refine NH<|EF 2 Z<|El (Vi p0.threads) Z (Rb0 Z)<|Ec Z<|Em Z<|?_
    refine Ee Z ?_ ?_
    ·intro q
     obtain ⟨q, H⟩ := It q H
     exact Ez Z<|Ez Z<|Ez Z<|Et Z<|NI<|Re0<|Sd<|⟨_, by exact R1, true, Z, Z, Z, H⟩
    ·intro q
     obtain ⟨q, H⟩ := If q H
     exact VF 2 Z<|Vl (Vi p0.threads) Z (Rb0 Z)<|Vc Z<|Ef Z<|NI<|Re0<|Sd<|⟨_, by exact R1, (dcd (p0.threads > 8)), Z, Z, Z, H⟩
   rintro _ _ _ - ⟨y, rfl, rfl, rfl, H⟩
   unfold UI at H
   refine NW Z ?_ ?_
   ·intro u
    have H := ift u H
    refine NK<|NH<|Ea Z<|NI<|N5<|?_
    obtain l := OB H
    subst a
    refine ⟨(.inl Z), [(Vi 2)], ⟨(Vi 2), _, Z, Z, Z⟩, ?_⟩
    exact Sd ⟨Z, Z⟩
   ·intro u
    have H := OF (btf u) H
    refine N2<|NK<|NH<|Ea Z<|NI<|N5<|?_
    obtain l := OB H
    subst a
    refine ⟨(.inl Z), [(Vi 0)], ⟨(Vi 0), _, Z, Z, Z⟩, ?_⟩
    exact Sd ⟨Z, Z⟩
theorem adj (p0 : Script) (h i : SV) (c e : SV) (a : Int) (H : Yo p0 = some a) (K : Kp) (G : List Ent) (au : Slr Ty.i64 K (sv h) p0.cnfg.capacities) (av : Slr Ty.u64 K (sv i) p0.cnfg.starts) (aw : Slr (Ty.sl NN) K (sv c) p0.ops) (ax : Slr Ty.i64 K (sv e) p0.picks) :
  Fc Tryz.prog 20 #[(.agg (NJ p0 h i c e).toArray)] K (G) (fun v j b => v = (Vi a) ∧ G = b) := by
 refine Om Tryz.func20 Z Tryz.ntmps20 Tryz.results20 Z ?_
 unfold Yo at H
 refine NK<|NH<|?_
 refine NP Z (ON (cs := (NJ p0 h i c e)) Z Z Z (fun g => ?_))
 refine Ea Z<|NI<|NK<|NK<|NH<|EF 0 Z<|EL 3 (NU p0.cnfg h i) Z (Rb0 Z)<|?_
 obtain ⟨F, aG, H⟩ := bnd H
 refine NP Z (Ek Tryz.call41 Z (abw p0.cnfg h i F aG _ _ au av) ?_)
 rintro _ aM _ M ⟨rfl, rfl⟩
 refine Ea Z<|NI<|NK<|NH<|Em Z<|Ec Z<|NI<|?_
 refine NW Z ?_ ?_
 ·intro n
  have n := Pg (Py (n))
  have H := OF n H
  refine NK<|NH<|Em Z<|Ea Z<|NI<|N5<|?_
  obtain s := OB H
  subst a
  refine ⟨(.inl Z), [(Vi F)], ⟨(Vi F), _, Z, Z, Z⟩, ?_⟩
  exact Re0<|Sd<|⟨Z, Z⟩
 ·intro n
  have n := Ph (Px (n))
  have H := ift n H
  refine N2<|NK<|NK<|NH<|EF 3 Z<|El (sv c) Z (Rb0 Z)<|?_
  have O := aw.mono M
  refine Eq Z (Oo (T := (Ty.sl NN)) O Z Z)<|EF 0 Z<|EF 2 Z<|El (Vi p0.cnfg.threads) Z (Rb0 Z)<|Ec Z<|NI<|?_
  refine NW Z ?_ ?_
  ·intro o
   have o := Pg (Py (o))
   have H := OF o H
   refine NK<|NH<|Ea Z<|NI<|N5<|?_
   obtain s := OB H
   subst a
   refine ⟨(.inl Z), [(Vi 5)], ⟨(Vi 5), _, Z, Z, Z⟩, ?_⟩
   exact Re0<|Sd<|⟨Z, Z⟩
  ·intro o
   have o := Ph (Px (o))
   have H := ift o H
   refine N2 ?_
   refine Ob (fun f j b => [(1, (Vp g))] = f ∧ (.blk g 33 (NJ p0 h i c e)) :: G = b ∧ UU p0 = some a) ?_ ?_
   ·refine NK<|NH<|Ea Z<|NI<|N4<|?_
    refine On (fun X f j b => ∃ (l : Int), [(1, (Vp g)), (4, (Vi l))] = f ∧ (.blk g 33 (NJ p0 h i c e)) :: G = b ∧ lp1 (UW p0) X l = some a) BIG ?_ ?_
    ·exact Sd ⟨_, by exact R2, 0, Z, Z, H⟩
    rintro X _ aN _ af ⟨l, rfl, rfl, H⟩
    obtain ⟨aW, W, rfl, ap, H⟩ := QP H
    unfold UW at H
    refine NK<|NK<|NH<|Em Z<|EF 3 Z<|El (sv c) Z (Rb0 Z)<|?_
    have A := O.mono af
    refine Eq Z (Oo (T := (Ty.sl NN)) A Z Z)<|Ec Z<|NI<|?_
    refine NW Z ?_ ?_
    ·intro t
     obtain ⟨t, H⟩ := It t H
     refine N2 ?_
     refine Ob (fun f j b => [(1, (Vp g)), (4, (Vi l))] = f ∧ (.blk g 33 (NJ p0 h i c e)) :: G = b ∧ Xi l p0 W = some a) ?_ ?_
     ·refine N4<|NK<|NK<|NH<|EF 3 Z<|El (sv c) Z (Rb0 Z)<|Em Z<|?_
      obtain ⟨a3, Q, H⟩ := bnd H
      obtain ⟨aZ, ay, ai⟩ := Slr.at A Q
      obtain ⟨aJ, rfl, aC⟩ := ay
      refine Eq Z (Qi (T := (Ty.sl NN)) A Q Z)<|El (sv aJ) Z (Rdc.k ai Z)<|Eq Z (Oo (T := NN) aC Z Z)<|Ec Z<|NI<|?_
      refine NW Z ?_ ?_
      ·intro u
       obtain ⟨u, H⟩ := It u H
       refine NK<|NH<|Ea Z<|NI<|N5<|?_
       obtain s := OB H
       subst a
       refine ⟨(.inl Z), [(Vi 3)], ⟨(Vi 3), _, Z, Z, Z⟩, ?_⟩
       exact Re0<|Sd<|⟨Z, Z⟩
      ·intro u
       obtain ⟨u, H⟩ := If u H
       refine N2<|NK<|NH<|Ea Z<|NI<|N4<|?_
       refine On (fun Y f j b => ∃ (z : Int), [(1, (Vp g)), (4, (Vi l)), (5, (Vi z))] = f ∧ (.blk g 33 (NJ p0 h i c e)) :: G = b ∧ lp1 (UV l p0 W) Y z = some a) BIG ?_ ?_
       ·exact Sd ⟨_, by exact R3, 0, Z, Z, H⟩
       rintro Y _ aO _ ag ⟨z, rfl, rfl, H⟩
       obtain ⟨aX, aV, rfl, aq, H⟩ := QP H
       unfold UV at H
       refine NK<|NK<|NH<|Em Z<|EF 3 Z<|El (sv c) Z (Rb0 Z)<|Em Z<|?_
       obtain ⟨a4, R, H⟩ := bnd H
       have B := A.mono ag
       obtain ⟨a0, az, aj⟩ := Slr.at B R
       obtain ⟨aK, rfl, aD⟩ := az
       refine Eq Z (Qi (T := (Ty.sl NN)) B R Z)<|El (sv aK) Z (Rdc.k aj Z)<|Eq Z (Oo (T := NN) aD Z Z)<|Ec Z<|NI<|?_
       refine NW Z ?_ ?_
       ·intro w
        obtain ⟨w, H⟩ := It w H
        refine N2<|NK<|N4<|NK<|NH<|EF 3 Z<|El (sv c) Z (Rb0 Z)<|Em Z<|?_
        obtain ⟨a5, S, H⟩ := bnd H
        obtain ⟨a1, aA, ak⟩ := Slr.at B S
        obtain ⟨aL, rfl, P⟩ := aA
        refine Eq Z (Qi (T := (Ty.sl NN)) B S Z)<|El (sv aL) Z (Rdc.k ak Z)<|Em Z<|?_
        obtain ⟨ad, U, H⟩ := bnd H
        obtain ⟨a2, aB, al⟩ := Slr.at P U
        obtain ⟨ab, ac, rfl, aE, aF⟩ := aB
        refine Eq Z (Qi (T := NN) P U Z)<|EL 7 (NL ad ab ac) Z (Rdc.k al Z)<|?_
        obtain ⟨I, aH, H⟩ := bnd H
        refine NP Z (Ek Tryz.call42 Z (abz ad ab ac I aH _ _ aE aF) ?_)
        rintro _ aP _ aS ⟨rfl, rfl⟩
        refine Ea Z<|NI<|NK<|NH<|Em Z<|Ec Z<|NI<|?_
        refine NW Z ?_ ?_
        ·intro p
         have p := Pg (Py (p))
         have H := OF p H
         refine NK<|NH<|Em Z<|Ea Z<|NI<|N5<|?_
         obtain s := OB H
         subst a
         refine ⟨(.inl Z), [(Vi I)], ⟨(Vi I), _, Z, Z, Z⟩, ?_⟩
         exact Re0<|Sd<|⟨Z, Z⟩
        ·intro p
         have p := Ph (Px (p))
         have H := ift p H
         exact N2<|NH<|Em Z<|Er (wI (z + 1)) Z<|Ea Z<|NI<|Sd<|⟨_, by exact R3, _, Nat.lt_succ_self _, (wI (z + 1)), Z, Z, (aq ▸ H)⟩
       ·intro w
        obtain ⟨w, H⟩ := If w H
        exact Ov<|Sd<|⟨_, by exact R2, Z, Z, H⟩
     rintro _ aQ _ aT ⟨rfl, rfl, H⟩
     unfold Xi at H
     exact NH<|Em Z<|Er (wI (l + 1)) Z<|Ea Z<|NI<|Sd<|⟨_, by exact R2, _, Nat.lt_succ_self _, (wI (l + 1)), Z, Z, (ap ▸ H)⟩
    ·intro t
     obtain ⟨t, H⟩ := If t H
     exact Ov<|Sd<|⟨_, by exact R1, Z, Z, H⟩
   rintro _ L _ ah ⟨rfl, rfl, H⟩
   unfold UU at H
   refine NK<|NK<|NH<|EF 4 Z<|El (sv e) Z (Rb0 Z)<|?_
   have m := (ax.mono M).mono ah
   refine Eq Z (Oo (T := Ty.i64) m Z Z)<|Ec Z<|NI<|?_
   refine NW Z ?_ ?_
   ·intro x
    obtain ⟨x, H⟩ := It x H
    refine NK<|NH<|Ea Z<|NI<|N5<|?_
    obtain s := OB H
    subst a
    refine ⟨(.inl Z), [(Vi 3)], ⟨(Vi 3), _, Z, Z, Z⟩, ?_⟩
    exact Re0<|Sd<|⟨Z, Z⟩
   ·intro x
    obtain ⟨x, H⟩ := If x H
    refine N2 ?_
    refine Ob (fun f j b => [] = f ∧ G = b ∧ Xh = some a) ?_ ?_
    ·refine NK<|NH<|Ea Z<|NI<|N4<|?_
     refine On (fun aa f j b => ∃ (r : Int), [(1, (Vp g)), (7, (Vi r))] = f ∧ L = j ∧ (.blk g 33 (NJ p0 h i c e)) :: G = b ∧ lp1 (UT p0) aa r = some a) BIG ?_ ?_
     ·exact Sd ⟨_, by exact R2, 0, Z, Z, Z, H⟩
     rintro aa _ _ _ - ⟨r, rfl, rfl, rfl, H⟩
     obtain ⟨aY, aI, rfl, ar, H⟩ := QP H
     unfold UT at H
     refine NK<|NK<|NH<|Em Z<|EF 4 Z<|El (sv e) Z (Rb0 Z)<|Eq Z (Oo (T := Ty.i64) m Z Z)<|Ec Z<|NI<|?_
     refine NW Z ?_ ?_
     ·intro y
      obtain ⟨y, H⟩ := It y H
      refine N2<|NK<|N4<|?_
      refine Ob (fun f j b => ∃ (E : Bool), [(1, (Vp g)), (7, (Vi r)), (84, (.bool E))] = f ∧ L = j ∧ (.blk g 33 (NJ p0 h i c e)) :: G = b ∧ WE r p0 aI E = some a) ?_ ?_
      ·obtain ⟨J, C, H⟩ := bnd H
       rcases adh (dcd (J < (-1099511627776))) with N | N <;> revert N
       ·intro q
        obtain ⟨q, H⟩ := It q H
        refine Oi _ Z (Ic Mb0 In0)<|JF 0 4 Z<|Jl 1 (sv e) Z (Rb0 Z)<|Jm 2 Z<|?_
        obtain ⟨_, rfl, am⟩ := Slr.at m C
        exact Jq 3 Z (Qi (T := Ty.i64) m C Z)<|Jl 4 (Vi J) Z (Rdc.k am Z)<|Jc 5 Z<|Jm 6 Z<|Aw.known (d := 74) Z (adp q)<|Jz 7 Z<|Jz 8 Z<|Jz 9 Z<|Jz 10 Z<|Jz 11 Z<|Jz 12 Z<|Jz 13 Z<|Jz 14 Z<|Jz 15 Z<|Jt 16 Z<|Ad<|Sd<|⟨_, by exact R3, true, Z, Z, Z, H⟩
       ·intro q
        obtain ⟨q, H⟩ := If q H
        obtain ⟨ae, V, H⟩ := bnd H
        refine Oi _ Z (Ic Mb0 In0)<|JF 0 4 Z<|Jl 1 (sv e) Z (Rb0 Z)<|Jm 2 Z<|?_
        obtain ⟨_, rfl, an⟩ := Slr.at m C
        refine Jq 3 Z (Qi (T := Ty.i64) m C Z)<|Jl 4 (Vi J) Z (Rdc.k an Z)<|Jc 5 Z<|Jm 6 Z<|Aw.known (d := 74) Z (ado q)<|BF 7 4 Z<|Bl 8 (sv e) Z (Rb0 Z)<|Bm 9 Z<|?_
        obtain ⟨_, rfl, ao⟩ := Slr.at m V
        exact Bq 10 Z (Qi (T := Ty.i64) m V Z)<|Bl 11 (Vi ae) Z (Rdc.k ao Z)<|BF 12 0 Z<|BF 13 2 Z<|Bl 14 (Vi p0.cnfg.threads) Z (Rb0 Z)<|Bc 15 Z<|Jf 16 Z<|Ad<|Sd<|⟨_, by exact R3, (dcd (ae ≥ p0.cnfg.threads)), Z, Z, Z, H⟩
      rintro _ _ _ - ⟨E, rfl, rfl, rfl, H⟩
      unfold WE at H
      refine NW Z ?_ ?_
      ·intro D
       have H := ift D H
       refine NK<|NH<|Ea Z<|NI<|N5<|?_
       obtain s := OB H
       subst a
       refine ⟨(.inl Z), [(Vi 2)], ⟨(Vi 2), _, Z, Z, Z⟩, ?_⟩
       exact Re0<|Sd<|⟨Z, Z⟩
      ·intro D
       have H := OF (btf D) H
       exact N2<|NH<|Em Z<|Er (wI (r + 1)) Z<|Ea Z<|NI<|Sd<|⟨_, by exact R2, _, Nat.lt_succ_self _, (wI (r + 1)), Z, Z, Z, (ar ▸ H)⟩
     ·intro y
      obtain ⟨y, H⟩ := If y H
      exact Ov<|Re0<|Sd<|⟨[], trivial, Z, Z, H⟩
    rintro _ aR _ aU ⟨rfl, rfl, H⟩
    unfold Xh at H
    refine NK<|NH<|Ea Z<|NI<|N5<|?_
    obtain s := OB H
    subst a
    refine ⟨(.inl Z), [(Vi 0)], ⟨(Vi 0), _, Z, Z, Z⟩, ?_⟩
    exact Sd ⟨Z, Z⟩
theorem SG (p0 : Int) (b : ByteArray) (H : RA p0 = some b) (K : Kp) (G : List Ent)  :
  Fc Tryz.prog 45 #[(.int .u64 p0)] K (G) (fun v i d => v = (.string b) ∧ G = d) := by
 refine Om Tryz.func45 Z Tryz.ntmps45 Tryz.results45 Z ?_
 unfold RA at H
 refine NK<|NH<|Ea Z<|NI<|NK<|NK<|NH<|Em Z<|Ec Z<|NI<|?_
 refine NW Z ?_ ?_
 ·intro e
  obtain ⟨e, H⟩ := It e H
  refine NK<|NH<|Ea Z<|NI<|N5<|?_
  obtain k := OB H
  subst b
  refine ⟨(.inl Z), [(.string (⟨#[48]⟩ : ByteArray))], ⟨(.string (⟨#[48]⟩ : ByteArray)), _, Z, Z, Z⟩, ?_⟩
  exact Sd ⟨Z, Z⟩
 ·intro e
  obtain ⟨e, H⟩ := If e H
  refine N2<|NK<|NH<|Ea Z<|NI<|?_
  refine Ob (fun j i d => ∃ (g : ByteArray), [(3, (.string g))] = j ∧ G = d ∧ Xy g = some b) ?_ ?_
  ·refine N4 ?_
   refine On (fun n50 j i d => ∃ (a : Int) (h : ByteArray), [(0, (.int .u64 a)), (3, (.string h))] = j ∧ K = i ∧ G = d ∧ lp2 (Xz) n50 a h = some b) BIG ?_ ?_
   ·exact Sd ⟨_, by exact R2, p0, (⟨#[]⟩ : ByteArray), Z, Z, Z, H⟩
   rintro n50 _ _ _ - ⟨a, h, rfl, rfl, rfl, H⟩
   obtain ⟨r, q, rfl, l, H⟩ := TV H
   unfold Xz at H
   refine NK<|NK<|NH<|Em Z<|Ec Z<|NI<|?_
   refine NW Z ?_ ?_
   ·intro f
    obtain ⟨f, H⟩ := It f H
    refine N2<|N4<|NK<|NH<|Em Z<|Eq Z (abg Z Z (by decide))<|Er (wU (48 + (Int.tmod a 10))) Z<|Eq Z (Qd (c := (IntKind.wrap .i32) (wU (48 + (Int.tmod a 10)))) Z Z Z Z)<|Eq Z (abd Z Z Z)<|Em Z<|?_
    obtain ⟨n, m, H⟩ := bnd H
    exact Eq Z (OM m Z Z)<|Ea Z<|NI<|NH<|Em Z<|Eq Z (abf Z Z (by decide))<|Ea Z<|NI<|Sd<|⟨_, by exact R2, _, Nat.lt_succ_self _, (wU (Int.tdiv a 10)), n, Z, Z, Z, (l ▸ H)⟩
   ·intro f
    obtain ⟨f, H⟩ := If f H
    exact Ov<|Sd<|⟨_, by exact R1, h, Z, Z, H⟩
  rintro _ o _ p ⟨g, rfl, rfl, H⟩
  unfold Xy at H
  refine NK<|NH<|Em Z<|Ea Z<|NI<|N5<|?_
  obtain k := OB H
  subst b
  refine ⟨(.inl Z), [(.string g)], ⟨(.string g), _, Z, Z, Z⟩, ?_⟩
  exact Sd ⟨Z, Z⟩
theorem QA (p0 : Int) (b : ByteArray) (H : SA p0 = some b) (K : Kp) (G : List Ent)  :
  Fc Tryz.prog 44 #[(Vi p0)] K (G) (fun v l f => v = (.string b) ∧ G = f) := by
 refine Om Tryz.func44 Z Tryz.ntmps44 Tryz.results44 Z ?_
 unfold SA at H
 refine NK<|NH<|Ea Z<|NI<|NK<|NK<|NH<|Em Z<|Ec Z<|NI<|?_
 refine NW Z ?_ ?_
 ·intro a
  obtain ⟨a, H⟩ := It a H
  refine NK<|NH<|Em Z<|Eq Z (Zb (c := wI (0 - p0)) Z Z)<|Eq Z (Qd (c := wU (wI (0 - p0))) Z Z Z Z)<|?_
  obtain ⟨k, h, H⟩ := bnd H
  refine NP Z (Ek Tryz.call45 Z (SG (wU (wI (0 - p0))) k h _ _ ) ?_)
  rintro _ K22 _ n ⟨rfl, rfl⟩
  obtain ⟨e, i, H⟩ := bnd H
  refine Eq Z (OM i Z Z)<|Ea Z<|NI<|N5<|?_
  obtain g := OB H
  subst b
  refine ⟨(.inl Z), [(.string e)], ⟨(.string e), _, Z, Z, Z⟩, ?_⟩
  exact Sd ⟨Z, Z⟩
 ·intro a
  obtain ⟨a, H⟩ := If a H
  refine N2<|NK<|NH<|Em Z<|Eq Z (Qd (c := wU p0) Z Z Z Z)<|?_
  obtain ⟨d, j, H⟩ := bnd H
  refine NP Z (Ek Tryz.call45 Z (SG (wU p0) d j _ _ ) ?_)
  rintro _ m _ o ⟨rfl, rfl⟩
  refine Ea Z<|NI<|N5<|?_
  obtain g := OB H
  subst b
  refine ⟨(.inl Z), [(.string d)], ⟨(.string d), _, Z, Z, Z⟩, ?_⟩
  exact Sd ⟨Z, Z⟩
theorem Ys (p0 : ByteArray) (p1 : ab2) (i : SV) (e : ByteArray) (H : S4 p0 p1 = some e) (K : Kp) (G : List Ent) (q : Slr Ty.i64 K (sv i) p1) :
  Fc Tryz.prog 48 #[(.string p0), (sv i)] K (G) (fun v j a => v = (.string e) ∧ G = a) := by
 refine Om Tryz.func48 Z Tryz.ntmps48 Tryz.results48 Z ?_
 unfold S4 at H
 refine NK<|NH<|Ea Z<|NI<|?_
 refine Ob (fun g j a => ∃ (d : ByteArray), [(0, (.string d))] = g ∧ G = a ∧ XA d = some e) ?_ ?_
 ·refine NK<|NH<|Ea Z<|NI<|N4<|?_
  refine On (fun n119 g j a => ∃ (f : ByteArray) (c : Int), [(0, (.string f)), (1, (sv i)), (5, (Vi c))] = g ∧ G = a ∧ lp2 (RB p1) n119 f c = some e) BIG ?_ ?_
  ·exact Sd ⟨_, by exact R3, p0, 0, Z, Z, H⟩
  rintro n119 _ x _ n ⟨f, c, rfl, rfl, H⟩
  obtain ⟨E, D, rfl, p, H⟩ := TV H
  unfold RB at H
  refine NK<|NK<|NH<|Em Z<|Em Z<|?_
  have h := q.mono n
  refine Eq Z (Oo (T := Ty.i64) h Z Z)<|Ec Z<|NI<|?_
  refine NW Z ?_ ?_
  ·intro b
   obtain ⟨b, H⟩ := It b H
   refine N2<|NK<|N4<|NH<|Em Z<|Em Z<|Em Z<|?_
   obtain ⟨m, l, H⟩ := bnd H
   obtain ⟨_, rfl, o⟩ := Slr.at h l
   refine Eq Z (Qi (T := Ty.i64) h l Z)<|El (Vi m) Z (Rdc.k o Z)<|?_
   obtain ⟨u, r, H⟩ := bnd H
   refine NP Z (Ek Tryz.call44 Z (QA m u r _ _ ) ?_)
   rintro _ y _ B ⟨rfl, rfl⟩
   obtain ⟨F, s, H⟩ := bnd H
   refine Eq Z (OM s Z Z) ?_
   obtain ⟨w, t, H⟩ := bnd H
   exact Eq Z (OM t Z Z)<|Ea Z<|NI<|NH<|Em Z<|Er (wI (c + 1)) Z<|Ea Z<|NI<|Sd<|⟨_, by exact R3, _, Nat.lt_succ_self _, w, (wI (c + 1)), Z, Z, (p ▸ H)⟩
  ·intro b
   obtain ⟨b, H⟩ := If b H
   exact Ov<|Sd<|⟨_, by exact R1, f, Z, Z, H⟩
 rintro _ z _ C ⟨d, rfl, rfl, H⟩
 unfold XA at H
 refine NK<|NH<|Em Z<|Ea Z<|NI<|N5<|?_
 obtain A := OB H
 subst e
 refine ⟨(.inl Z), [(.string d)], ⟨(.string d), _, Z, Z, Z⟩, ?_⟩
 exact Sd ⟨Z, Z⟩
theorem abI (p0 : Op) (a e : SV) (b : ByteArray) (H : U5 p0 = some b) (K : Kp) (G : List Ent) (z : Slr Oa K (sv a) p0.cases) (W : Slr Ty.i64 K (sv e) p0.draws) :
  Fc Tryz.prog 46 #[(.agg (NL p0 a e).toArray)] K (G) (fun v w g => v = (.string b) ∧ G = g) := by
 refine Om Tryz.func46 Z Tryz.ntmps46 Tryz.results46 Z ?_
 unfold U5 at H
 refine NK<|NH<|?_
 refine NP Z (ON (cs := (NL p0 a e)) Z Z Z (fun q => ?_))
 refine Ea Z<|NI<|NK<|NK<|NH<|EF 0 Z<|El (Vi p0.kind) Z (Rb0 Z)<|NI<|N4<|NK<|NH<|Ec Z<|Ea Z<|NI<|?_
 refine NW Z ?_ ?_
 ·intro h
  obtain ⟨h, H⟩ := It h H
  refine NK ?_
  obtain ⟨aA, aa, H⟩ := bnd H
  obtain ⟨bb, ab, H⟩ := bnd H
  obtain ⟨bc, ac, H⟩ := bnd H
  obtain ⟨aB, ad, H⟩ := bnd H
  obtain ⟨F, ae, H⟩ := bnd H
  refine Oi _ Z (Ic Mb0 In0)<|JF 0 2 Z<|Jl 1 (Vi p0.channel) Z (Rb0 Z)<|JF 5 3 Z<|Jl 6 (.int .u64 p0.value) Z (Rb0 Z)<|?_
  refine Ao 2 Z ?_
  refine Ek Tryz.call44 Z (QA p0.channel aA aa _ _ ) ?_
  rintro _ aN _ aZ ⟨rfl, rfl⟩
  refine ⟨(Ic Mb0 In0), ?_⟩
  refine Jq 3 Z (OM ab Z Z)<|Jq 4 Z (OM ac Z Z)<|?_
  refine Ao 7 Z ?_
  refine Ek Tryz.call45 Z (SG p0.value aB ad _ _ ) ?_
  rintro _ aO _ a0 ⟨rfl, rfl⟩
  refine ⟨(Ic Mb0 In0), ?_⟩
  refine Jq 8 Z (OM ae Z Z)<|Ja 9 Z<|Ad<|N5<|?_
  obtain f := OB H
  subst b
  refine ⟨(.inl Z), [(.string F)], ⟨(.string F), _, Z, Z, Z⟩, ?_⟩
  exact Re0<|Sd<|⟨Z, Z⟩
 ·intro h
  obtain ⟨h, H⟩ := If h H
  refine NK<|NH<|Ec Z<|Ea Z<|NI<|?_
  refine NW Z ?_ ?_
  ·intro i
   obtain ⟨i, H⟩ := It i H
   refine NK<|NH<|EF 2 Z<|El (Vi p0.channel) Z (Rb0 Z)<|?_
   obtain ⟨aC, af, H⟩ := bnd H
   refine NP Z (Ek Tryz.call44 Z (QA p0.channel aC af _ _ ) ?_)
   rintro _ aP _ a1 ⟨rfl, rfl⟩
   obtain ⟨I, ag, H⟩ := bnd H
   refine Eq Z (OM ag Z Z)<|Ea Z<|NI<|N5<|?_
   obtain f := OB H
   subst b
   refine ⟨(.inl Z), [(.string I)], ⟨(.string I), _, Z, Z, Z⟩, ?_⟩
   exact Re0<|Sd<|⟨Z, Z⟩
  ·intro i
   obtain ⟨i, H⟩ := If i H
   refine NK<|NH<|Ec Z<|Ea Z<|NI<|?_
   refine NW Z ?_ ?_
   ·intro j
    obtain ⟨j, H⟩ := It j H
    refine NK<|NH<|EF 2 Z<|El (Vi p0.channel) Z (Rb0 Z)<|?_
    obtain ⟨aD, ah, H⟩ := bnd H
    refine NP Z (Ek Tryz.call44 Z (QA p0.channel aD ah _ _ ) ?_)
    rintro _ aQ _ a2 ⟨rfl, rfl⟩
    obtain ⟨J, ai, H⟩ := bnd H
    refine Eq Z (OM ai Z Z)<|Ea Z<|NI<|N5<|?_
    obtain f := OB H
    subst b
    refine ⟨(.inl Z), [(.string J)], ⟨(.string J), _, Z, Z, Z⟩, ?_⟩
    exact Re0<|Sd<|⟨Z, Z⟩
   ·intro j
    obtain ⟨j, H⟩ := If j H
    refine NK<|NH<|Ec Z<|Ea Z<|NI<|?_
    refine NW Z ?_ ?_
    ·intro l
     obtain ⟨l, H⟩ := It l H
     refine NK<|NH<|EF 2 Z<|El (Vi p0.channel) Z (Rb0 Z)<|?_
     obtain ⟨aE, aj, H⟩ := bnd H
     refine NP Z (Ek Tryz.call44 Z (QA p0.channel aE aj _ _ ) ?_)
     rintro _ aR _ a3 ⟨rfl, rfl⟩
     obtain ⟨L, ak, H⟩ := bnd H
     refine Eq Z (OM ak Z Z)<|Ea Z<|NI<|N5<|?_
     obtain f := OB H
     subst b
     refine ⟨(.inl Z), [(.string L)], ⟨(.string L), _, Z, Z, Z⟩, ?_⟩
     exact Re0<|Sd<|⟨Z, Z⟩
    ·intro l
     obtain ⟨l, H⟩ := If l H
     refine NK<|NH<|Ec Z<|Ea Z<|NI<|?_
     refine NW Z ?_ ?_
     ·intro m
      obtain ⟨m, H⟩ := It m H
      refine NK<|NH<|EF 2 Z<|El (Vi p0.channel) Z (Rb0 Z)<|?_
      obtain ⟨aF, al, H⟩ := bnd H
      refine NP Z (Ek Tryz.call44 Z (QA p0.channel aF al _ _ ) ?_)
      rintro _ aS _ a4 ⟨rfl, rfl⟩
      obtain ⟨M, am, H⟩ := bnd H
      refine Eq Z (OM am Z Z)<|Ea Z<|NI<|N5<|?_
      obtain f := OB H
      subst b
      refine ⟨(.inl Z), [(.string M)], ⟨(.string M), _, Z, Z, Z⟩, ?_⟩
      exact Re0<|Sd<|⟨Z, Z⟩
     ·intro m
      obtain ⟨m, H⟩ := If m H
      refine N2<|NK<|NH<|Ea Z<|NI<|?_
      refine Ob (fun s w g => ∃ (p : ByteArray), [(1, (Vp q)), (3, (.string p))] = s ∧ (.blk q 70 (NL p0 a e)) :: G = g ∧ U4 p0 p = some b) ?_ ?_
      ·refine NK<|NH<|Ea Z<|NI<|N4<|?_
       refine On (fun E s w g => ∃ (r : ByteArray) (d : Int), [(1, (Vp q)), (3, (.string r)), (4, (Vi d))] = s ∧ (.blk q 70 (NL p0 a e)) :: G = g ∧ lp2 (RD p0) E r d = some b) BIG ?_ ?_
       ·exact Sd ⟨_, by exact R3, (⟨#[115, 101, 108, 101, 99, 116]⟩ : ByteArray), 0, Z, Z, H⟩
       rintro E _ aT _ Q ⟨r, d, rfl, rfl, H⟩
       obtain ⟨ba, a9, rfl, y, H⟩ := TV H
       unfold RD at H
       refine NK<|NK<|NH<|Em Z<|EF 5 Z<|El (sv a) Z (Rb0 Z)<|?_
       have c := z.mono Q
       refine Eq Z (Oo (T := Oa) c Z Z)<|Ec Z<|NI<|?_
       refine NW Z ?_ ?_
       ·intro n
        obtain ⟨n, H⟩ := It n H
        refine N2<|NK<|N4<|NK<|NH<|EF 5 Z<|El (sv a) Z (Rb0 Z)<|Em Z<|?_
        obtain ⟨aG, A, H⟩ := bnd H
        obtain ⟨_, rfl, R⟩ := Slr.at c A
        refine Eq Z (Qi (T := Oa) c A Z)<|EF 0 Z<|El (.bool aG.send) Z (Rdc.k R Z)<|NI<|?_
        refine NW Z ?_ ?_
        ·intro t
         have H := ift t H
         obtain ⟨N, B, H⟩ := bnd H
         obtain ⟨aH, an, H⟩ := bnd H
         obtain ⟨bd, ao, H⟩ := bnd H
         obtain ⟨be, ap, H⟩ := bnd H
         obtain ⟨O, C, H⟩ := bnd H
         obtain ⟨aI, aq, H⟩ := bnd H
         obtain ⟨bf, ar, H⟩ := bnd H
         obtain ⟨aJ, au, H⟩ := bnd H
         refine Oi _ Z (Ic Mb0 In0)<|Jm 0 Z<|JF 1 5 Z<|Jl 2 (sv a) Z (Rb0 Z)<|Jm 3 Z<|?_
         obtain ⟨_, rfl, S⟩ := Slr.at c B
         refine Jq 4 Z (Qi (T := Oa) c B Z)<|JF 5 1 Z<|Jl 6 (Vi N.channel) Z (Rdc.k S Z)<|JF 10 5 Z<|Jl 11 (sv a) Z (Rb0 Z)<|Jm 12 Z<|?_
         obtain ⟨_, rfl, U⟩ := Slr.at c C
         refine Jq 13 Z (Qi (T := Oa) c C Z)<|JF 14 2 Z<|Jl 15 (.int .u64 O.value) Z (Rdc.k U Z)<|?_
         refine Ao 7 Z ?_
         refine Ek Tryz.call44 Z (QA N.channel aH an _ _ ) ?_
         rintro _ aU _ a5 ⟨rfl, rfl⟩
         refine ⟨(Ic Mb0 In0), ?_⟩
         refine Jq 8 Z (OM ao Z Z)<|Jq 9 Z (OM ap Z Z)<|?_
         refine Ao 16 Z ?_
         refine Ek Tryz.call45 Z (SG O.value aI aq _ _ ) ?_
         rintro _ aV _ a6 ⟨rfl, rfl⟩
         refine ⟨(Ic Mb0 In0), ?_⟩
         exact Jq 17 Z (OM ar Z Z)<|Jq 18 Z (OM au Z Z)<|Ja 19 Z<|Ad<|NH<|Em Z<|Er (wI (d + 1)) Z<|Ea Z<|NI<|Sd<|⟨_, by exact R3, _, Nat.lt_succ_self _, aJ, (wI (d + 1)), Z, Z, (y ▸ H)⟩
        ·intro t
         have H := OF (btf t) H
         refine NH<|Em Z<|EF 5 Z<|El (sv a) Z (Rb0 Z)<|Em Z<|?_
         obtain ⟨P, D, H⟩ := bnd H
         obtain ⟨_, rfl, V⟩ := Slr.at c D
         refine Eq Z (Qi (T := Oa) c D Z)<|EF 1 Z<|El (Vi P.channel) Z (Rdc.k V Z)<|?_
         obtain ⟨aK, av, H⟩ := bnd H
         refine NP Z (Ek Tryz.call44 Z (QA P.channel aK av _ _ ) ?_)
         rintro _ aW _ a7 ⟨rfl, rfl⟩
         obtain ⟨bg, aw, H⟩ := bnd H
         refine Eq Z (OM aw Z Z) ?_
         obtain ⟨aL, ax, H⟩ := bnd H
         exact Eq Z (OM ax Z Z)<|Ea Z<|NI<|NH<|Em Z<|Er (wI (d + 1)) Z<|Ea Z<|NI<|Sd<|⟨_, by exact R3, _, Nat.lt_succ_self _, aL, (wI (d + 1)), Z, Z, (y ▸ H)⟩
       ·intro n
        obtain ⟨n, H⟩ := If n H
        exact Ov<|Sd<|⟨_, by exact R2, r, Z, Z, H⟩
      rintro _ aX _ x ⟨p, rfl, rfl, H⟩
      unfold U4 at H
      refine NK<|NK<|NH<|EF 5 Z<|El (sv a) Z (Rb0 Z)<|?_
      have X := z.mono x
      refine Eq Z (Oo (T := Oa) X Z Z)<|Ec Z<|NI<|?_
      refine NW Z ?_ ?_
      ·intro o
       obtain ⟨o, H⟩ := It o H
       refine NH<|Em Z<|?_
       obtain ⟨aM, ay, H⟩ := bnd H
       refine Eq Z (OM ay Z Z)<|EF 6 Z<|El (sv e) Z (Rb0 Z)<|?_
       obtain ⟨u, az, H⟩ := bnd H
       have Y := W.mono x
       refine NP Z (Ek Tryz.call48 Z (Ys aM p0.draws e u az _ _ Y) ?_)
       rintro _ aY _ a8 ⟨rfl, rfl⟩
       refine Ea Z<|NI<|NK<|NH<|Em Z<|Ea Z<|NI<|N5<|?_
       obtain f := OB H
       subst b
       refine ⟨(.inl Z), [(.string u)], ⟨(.string u), _, Z, Z, Z⟩, ?_⟩
       exact Re0<|Sd<|⟨Z, Z⟩
      ·intro o
       obtain ⟨o, H⟩ := If o H
       refine N2<|NK<|NH<|Em Z<|Ea Z<|NI<|N5<|?_
       obtain f := OB H
       subst b
       refine ⟨(.inl Z), [(.string p)], ⟨(.string p), _, Z, Z, Z⟩, ?_⟩
       exact Re0<|Sd<|⟨Z, Z⟩
theorem abJ (p0 : Op) (d e : SV) (c : ByteArray) (H : U6 p0 = some c) (K : Kp) (G : List Ent) (p : Slr Oa K (sv d) p0.cases) (q : Slr Ty.i64 K (sv e) p0.draws) :
  Fc Tryz.prog 47 #[(.agg (NL p0 d e).toArray)] K (G) (fun v l h => v = (.string c) ∧ G = h) := by
 refine Om Tryz.func47 Z Tryz.ntmps47 Tryz.results47 Z ?_
 unfold U6 at H
 refine NK<|NH<|?_
 refine NP Z (ON (cs := (NL p0 d e)) Z Z Z (fun n => ?_))
 refine Ea Z<|NI<|NK<|NK<|NH<|EF 1 Z<|El (Vi p0.mode) Z (Rb0 Z)<|NI<|N4<|NK<|NH<|Ec Z<|Ea Z<|NI<|?_
 refine NW Z ?_ ?_
 ·intro a
  obtain ⟨a, H⟩ := It a H
  refine NK<|NH<|Ea Z<|NI<|N5<|?_
  obtain f := OB H
  subst c
  refine ⟨(.inl Z), [(.string (⟨#[32, 116, 114, 121]⟩ : ByteArray))], ⟨(.string (⟨#[32, 116, 114, 121]⟩ : ByteArray)), _, Z, Z, Z⟩, ?_⟩
  exact Re0<|Sd<|⟨Z, Z⟩
 ·intro a
  obtain ⟨a, H⟩ := If a H
  refine NK<|NH<|Ec Z<|Ea Z<|NI<|?_
  refine NW Z ?_ ?_
  ·intro b
   obtain ⟨b, H⟩ := It b H
   refine NK<|NH<|EF 4 Z<|El (Vi p0.deadline) Z (Rb0 Z)<|?_
   obtain ⟨k, i, H⟩ := bnd H
   refine NP Z (Ek Tryz.call44 Z (QA p0.deadline k i _ _ ) ?_)
   rintro _ m _ o ⟨rfl, rfl⟩
   obtain ⟨g, j, H⟩ := bnd H
   refine Eq Z (OM j Z Z)<|Ea Z<|NI<|N5<|?_
   obtain f := OB H
   subst c
   refine ⟨(.inl Z), [(.string g)], ⟨(.string g), _, Z, Z, Z⟩, ?_⟩
   exact Re0<|Sd<|⟨Z, Z⟩
  ·intro b
   obtain ⟨b, H⟩ := If b H
   refine N2<|NK<|NH<|Ea Z<|NI<|N5<|?_
   obtain f := OB H
   subst c
   refine ⟨(.inl Z), [(.string (⟨#[]⟩ : ByteArray))], ⟨(.string (⟨#[]⟩ : ByteArray)), _, Z, Z, Z⟩, ?_⟩
   exact Re0<|Sd<|⟨Z, Z⟩
theorem abK (p0 : Script) (f g : SV) (b d : SV) (h : ByteArray) (H : U8 p0 = some h) (K : Kp) (G : List Ent) (ax : Slr Ty.i64 K (sv f) p0.cnfg.capacities) (ay : Slr Ty.u64 K (sv g) p0.cnfg.starts) (az : Slr (Ty.sl NN) K (sv b) p0.ops) (aA : Slr Ty.i64 K (sv d) p0.picks) :
  Fc Tryz.prog 22 #[(.agg (NJ p0 f g b d).toArray)] K (G) (fun v j a => v = (.string h) ∧ G = a) := by
 refine Om Tryz.func22 Z Tryz.ntmps22 Tryz.results22 Z ?_
 unfold U8 at H
 refine NK<|NH<|?_
 refine NP Z (ON (cs := (NJ p0 f g b d)) Z Z Z (fun c => ?_))
 refine Ea Z<|NI<|NK<|NH<|Ea Z<|NI<|?_
 refine Ob (fun e j a => ∃ (x : ByteArray), [(1, (Vp c)), (3, (.string x))] = e ∧ (.blk c 33 (NJ p0 f g b d)) :: G = a ∧ XC p0 x = some h) ?_ ?_
 ·refine NK<|NH<|Ea Z<|NI<|N4<|?_
  refine On (fun W e j a => ∃ (y : ByteArray) (r : Int), [(1, (Vp c)), (3, (.string y)), (4, (Vi r))] = e ∧ (.blk c 33 (NJ p0 f g b d)) :: G = a ∧ lp2 (RG p0) W y r = some h) BIG ?_ ?_
  ·exact Sd ⟨_, by exact R3, (⟨#[]⟩ : ByteArray), 0, Z, Z, H⟩
  rintro W _ bm _ B ⟨y, r, rfl, rfl, H⟩
  obtain ⟨bA, bw, rfl, aw, H⟩ := TV H
  unfold RG at H
  refine NK<|NK<|NH<|Em Z<|EF 0 Z<|EF 0 Z<|El (sv f) Z (Rb0 Z)<|?_
  have z := ax.mono B
  refine Eq Z (Oo (T := Ty.i64) z Z Z)<|Ec Z<|NI<|?_
  refine NW Z ?_ ?_
  ·intro p
   obtain ⟨p, H⟩ := It p H
   refine N2<|NK<|N4<|?_
   obtain ⟨af, Q, H⟩ := bnd H
   obtain ⟨bc, aX, H⟩ := bnd H
   obtain ⟨bN, aY, H⟩ := bnd H
   obtain ⟨bO, aZ, H⟩ := bnd H
   obtain ⟨ag, R, H⟩ := bnd H
   obtain ⟨bd, a0, H⟩ := bnd H
   obtain ⟨bP, a1, H⟩ := bnd H
   obtain ⟨bQ, a2, H⟩ := bnd H
   obtain ⟨be, a3, H⟩ := bnd H
   refine Oi _ Z (Ic Mb0 In0)<|Jm 0 Z<|JF 1 0 Z<|JF 2 0 Z<|Jl 3 (sv f) Z (Rb0 Z)<|Jm 4 Z<|?_
   obtain ⟨_, rfl, aq⟩ := Slr.at z Q
   refine Jq 5 Z (Qi (T := Ty.i64) z Q Z)<|Jl 6 (Vi af) Z (Rdc.k aq Z)<|JF 10 0 Z<|JF 11 1 Z<|Jl 12 (sv g) Z (Rb0 Z)<|Jm 13 Z<|?_
   have J := ay.mono B
   obtain ⟨_, rfl, ar⟩ := Slr.at J R
   refine Jq 14 Z (Qi (T := Ty.u64) J R Z)<|Jl 15 (.int .u64 ag) Z (Rdc.k ar Z)<|?_
   refine Ao 7 Z ?_
   refine Ek Tryz.call44 Z (QA af bc aX _ _ ) ?_
   rintro _ bn _ bt ⟨rfl, rfl⟩
   refine ⟨(Ic Mb0 In0), ?_⟩
   refine Jq 8 Z (OM aY Z Z)<|Jq 9 Z (OM aZ Z Z)<|?_
   refine Ao 16 Z ?_
   refine Ek Tryz.call45 Z (SG ag bd a0 _ _ ) ?_
   rintro _ bo _ bu ⟨rfl, rfl⟩
   refine ⟨(Ic Mb0 In0), ?_⟩
   exact Jq 17 Z (OM a1 Z Z)<|Jq 18 Z (OM a2 Z Z)<|Jq 19 Z (OM a3 Z Z)<|Ja 20 Z<|Ad<|NH<|Em Z<|Er (wI (r + 1)) Z<|Ea Z<|NI<|Sd<|⟨_, by exact R3, _, Nat.lt_succ_self _, be, (wI (r + 1)), Z, Z, (aw ▸ H)⟩
  ·intro p
   obtain ⟨p, H⟩ := If p H
   exact Ov<|Sd<|⟨_, by exact R2, y, Z, Z, H⟩
 rintro _ bp _ C ⟨x, rfl, rfl, H⟩
 unfold XC at H
 refine Ob (fun e j a => ∃ (s : ByteArray), [(1, (Vp c)), (3, (.string s))] = e ∧ (.blk c 33 (NJ p0 f g b d)) :: G = a ∧ U7 p0 s = some h) ?_ ?_
 ·refine NK<|NH<|Ea Z<|NI<|N4<|?_
  refine On (fun U e j a => ∃ (t : ByteArray) (i : Int), [(1, (Vp c)), (3, (.string t)), (5, (Vi i))] = e ∧ (.blk c 33 (NJ p0 f g b d)) :: G = a ∧ lp2 (RF p0) U t i = some h) BIG ?_ ?_
  ·exact Sd ⟨_, by exact R3, x, 0, Z, Z, H⟩
  rintro U _ bf _ ai ⟨t, i, rfl, rfl, H⟩
  obtain ⟨bx, S, rfl, au, H⟩ := TV H
  unfold RF at H
  refine NK<|NK<|NH<|Em Z<|EF 3 Z<|El (sv b) Z (Rb0 Z)<|?_
  have D := (az.mono C).mono ai
  refine Eq Z (Oo (T := (Ty.sl NN)) D Z Z)<|Ec Z<|NI<|?_
  refine NW Z ?_ ?_
  ·intro m
   obtain ⟨m, H⟩ := It m H
   refine N2 ?_
   refine Ob (fun e j a => ∃ (u : ByteArray), [(1, (Vp c)), (3, (.string u)), (5, (Vi i))] = e ∧ (.blk c 33 (NJ p0 f g b d)) :: G = a ∧ XB i p0 S u = some h) ?_ ?_
   ·refine N4<|NK<|NH<|Em Z<|?_
    obtain ⟨a7, aN, H⟩ := bnd H
    refine Eq Z (OM aN Z Z)<|Ea Z<|NI<|NK<|NH<|Ea Z<|NI<|N4<|?_
    refine On (fun V e j a => ∃ (w : ByteArray) (q : Int), [(1, (Vp c)), (3, (.string w)), (5, (Vi i)), (6, (Vi q))] = e ∧ (.blk c 33 (NJ p0 f g b d)) :: G = a ∧ lp2 (RE i p0 S) V w q = some h) BIG ?_ ?_
    ·exact Sd ⟨_, by exact R4, a7, 0, Z, Z, H⟩
    rintro V _ bg _ aj ⟨w, q, rfl, rfl, H⟩
    obtain ⟨bz, bv, rfl, av, H⟩ := TV H
    unfold RE at H
    refine NK<|NK<|NH<|Em Z<|EF 3 Z<|El (sv b) Z (Rb0 Z)<|Em Z<|?_
    obtain ⟨bG, L, H⟩ := bnd H
    have l := D.mono aj
    obtain ⟨bB, aB, al⟩ := Slr.at l L
    obtain ⟨a4, rfl, aG⟩ := aB
    refine Eq Z (Qi (T := (Ty.sl NN)) l L Z)<|El (sv a4) Z (Rdc.k al Z)<|Eq Z (Oo (T := NN) aG Z Z)<|Ec Z<|NI<|?_
    refine NW Z ?_ ?_
    ·intro n
     obtain ⟨n, H⟩ := It n H
     refine N2<|NK<|N4<|?_
     obtain ⟨bH, M, H⟩ := bnd H
     obtain ⟨ac, N, H⟩ := bnd H
     obtain ⟨a8, aO, H⟩ := bnd H
     obtain ⟨bI, aP, H⟩ := bnd H
     obtain ⟨bJ, O, H⟩ := bnd H
     obtain ⟨ad, P, H⟩ := bnd H
     obtain ⟨a9, aQ, H⟩ := bnd H
     obtain ⟨bK, aR, H⟩ := bnd H
     obtain ⟨bL, aS, H⟩ := bnd H
     obtain ⟨ba, aT, H⟩ := bnd H
     refine Oi _ Z (Ic Mb0 In0)<|Jm 0 Z<|JF 1 3 Z<|Jl 2 (sv b) Z (Rb0 Z)<|Jm 3 Z<|?_
     obtain ⟨bC, aC, am⟩ := Slr.at l M
     obtain ⟨a5, rfl, E⟩ := aC
     refine Jq 4 Z (Qi (T := (Ty.sl NN)) l M Z)<|Jl 5 (sv a5) Z (Rdc.k am Z)<|Jm 6 Z<|?_
     obtain ⟨bD, aD, an⟩ := Slr.at E N
     obtain ⟨X, Y, rfl, aH, aI⟩ := aD
     refine Jq 7 Z (Qi (T := NN) E N Z)<|JL 8 7 (NL ac X Y) Z (Rdc.k an Z)<|JF 11 3 Z<|Jl 12 (sv b) Z (Rb0 Z)<|Jm 13 Z<|?_
     obtain ⟨bE, aE, ao⟩ := Slr.at l O
     obtain ⟨a6, rfl, F⟩ := aE
     refine Jq 14 Z (Qi (T := (Ty.sl NN)) l O Z)<|Jl 15 (sv a6) Z (Rdc.k ao Z)<|Jm 16 Z<|?_
     obtain ⟨bF, aF, ap⟩ := Slr.at F P
     obtain ⟨aa, ab, rfl, aJ, aK⟩ := aF
     refine Jq 17 Z (Qi (T := NN) F P Z)<|JL 18 7 (NL ad aa ab) Z (Rdc.k ap Z)<|?_
     refine Ao 9 Z ?_
     refine Ek Tryz.call46 Z (abI ac X Y a8 aO _ _ aH aI) ?_
     rintro _ bh _ A ⟨rfl, rfl⟩
     refine ⟨(Ic Mb0 In0), ?_⟩
     refine Jq 10 Z (OM aP Z Z) ?_
     refine Ao 19 Z ?_
     have aL := aJ.mono A
     have aM := aK.mono A
     refine Ek Tryz.call47 Z (abJ ad aa ab a9 aQ _ _ aL aM) ?_
     rintro _ bi _ bq ⟨rfl, rfl⟩
     refine ⟨(Ic Mb0 In0), ?_⟩
     exact Jq 20 Z (OM aR Z Z)<|Jq 21 Z (OM aS Z Z)<|Jq 22 Z (OM aT Z Z)<|Ja 23 Z<|Ad<|NH<|Em Z<|Er (wI (q + 1)) Z<|Ea Z<|NI<|Sd<|⟨_, by exact R4, _, Nat.lt_succ_self _, ba, (wI (q + 1)), Z, Z, (av ▸ H)⟩
    ·intro n
     obtain ⟨n, H⟩ := If n H
     exact Ov<|Sd<|⟨_, by exact R3, w, Z, Z, H⟩
   rintro _ bj _ br ⟨u, rfl, rfl, H⟩
   unfold XB at H
   exact NH<|Em Z<|Er (wI (i + 1)) Z<|Ea Z<|NI<|Sd<|⟨_, by exact R3, _, Nat.lt_succ_self _, u, (wI (i + 1)), Z, Z, (au ▸ H)⟩
  ·intro m
   obtain ⟨m, H⟩ := If m H
   exact Ov<|Sd<|⟨_, by exact R2, t, Z, Z, H⟩
 rintro _ bk _ ak ⟨s, rfl, rfl, H⟩
 unfold U7 at H
 refine NK<|NK<|NH<|EF 4 Z<|El (sv d) Z (Rb0 Z)<|?_
 have I := (aA.mono C).mono ak
 refine Eq Z (Oo (T := Ty.i64) I Z Z)<|Ec Z<|NI<|?_
 refine NW Z ?_ ?_
 ·intro o
  obtain ⟨o, H⟩ := It o H
  refine NH<|Em Z<|EF 4 Z<|El (sv d) Z (Rb0 Z)<|?_
  obtain ⟨bb, aU, H⟩ := bnd H
  refine NP Z (Ek Tryz.call48 Z (Ys (⟨#[112, 105, 99, 107, 115]⟩ : ByteArray) p0.picks d bb aU _ _ I) ?_)
  rintro _ bl _ bs ⟨rfl, rfl⟩
  obtain ⟨bM, aV, H⟩ := bnd H
  refine Eq Z (OM aV Z Z) ?_
  obtain ⟨ae, aW, H⟩ := bnd H
  refine Eq Z (OM aW Z Z)<|Ea Z<|NI<|NK<|NH<|Em Z<|Ea Z<|NI<|N5<|?_
  obtain ah := OB H
  subst h
  refine ⟨(.inl Z), [(.string ae)], ⟨(.string ae), _, Z, Z, Z⟩, ?_⟩
  exact Re0<|Sd<|⟨Z, Z⟩
 ·intro o
  obtain ⟨o, H⟩ := If o H
  refine N2<|NK<|NH<|Em Z<|Ea Z<|NI<|N5<|?_
  obtain ah := OB H
  subst h
  refine ⟨(.inl Z), [(.string s)], ⟨(.string s), _, Z, Z, Z⟩, ?_⟩
  exact Re0<|Sd<|⟨Z, Z⟩
theorem abM (p0 : Script) (b c : SV) (d e : SV) (g : ByteArray) (h : Int) (H : U9 p0 = some (g, h)) (K : Kp) (G : List Ent) (n : Slr Ty.i64 K (sv b) p0.cnfg.capacities) (o : Slr Ty.u64 K (sv c) p0.cnfg.starts) (p : Slr (Ty.sl NN) K (sv d) p0.ops) (q : Slr Ty.i64 K (sv e) p0.picks) :
  Fc Tryz.prog 9 #[(.agg (NJ p0 b c d e).toArray)] K (G) (fun v z r => v = (.tuple #[(.string g), (Vi h)]) ∧ G = r) := by
 refine Om Tryz.func9 Z Tryz.ntmps9 Tryz.results9 Z ?_
 unfold U9 at H
 refine NK<|NH<|?_
 refine NP Z (ON (cs := (NJ p0 b c d e)) Z Z Z (fun C => ?_))
 refine Ea Z<|Ea Z<|NI<|NK<|NK<|NH<|EL 5 (NJ p0 b c d e) Z (Rb0 Z)<|?_
 obtain ⟨j, x, H⟩ := bnd H
 refine NP Z (Ek Tryz.call20 Z (adj p0 b c d e j x _ _ n o p q) ?_)
 rintro _ A _ i ⟨rfl, rfl⟩
 refine Ea Z<|NI<|NK<|NH<|Em Z<|Ec Z<|NI<|?_
 refine NW Z ?_ ?_
 ·intro a
  have a := Pg (Py (a))
  have H := OF a H
  refine NK<|NH<|Em Z<|Ea Z<|Ea Z<|NI<|N5<|?_
  obtain ⟨l, m⟩ := TU H
  subst g h
  refine ⟨(.inl Z), [(.string (⟨#[]⟩ : ByteArray)), (Vi j)], ⟨(.string (⟨#[]⟩ : ByteArray)), _, Z, Z, ⟨(Vi j), _, Z, Z, Z⟩⟩, ?_⟩
  exact Re0<|Sd<|⟨Z, Z⟩
 ·intro a
  have a := Ph (Px (a))
  have H := ift a H
  refine N2<|NK<|NH<|EL 5 (NJ p0 b c d e) Z (Rb0 Z)<|?_
  obtain ⟨k, y, H⟩ := bnd H
  have s := n.mono i
  have t := o.mono i
  have u := p.mono i
  have w := q.mono i
  refine NP Z (Ek Tryz.call22 Z (abK p0 b c d e k y _ _ s t u w) ?_)
  rintro _ B _ D ⟨rfl, rfl⟩
  refine Ea Z<|NI<|NK<|NK<|NH<|Em Z<|Eq Z (XN Z Z)<|Ec Z<|NI<|?_
  refine NW Z ?_ ?_
  ·intro f
   obtain ⟨f, H⟩ := It f H
   refine NK<|NH<|Ea Z<|Ea Z<|NI<|N5<|?_
   obtain ⟨l, m⟩ := TU H
   subst g h
   refine ⟨(.inl Z), [(.string (⟨#[]⟩ : ByteArray)), (Vi 4)], ⟨(.string (⟨#[]⟩ : ByteArray)), _, Z, Z, ⟨(Vi 4), _, Z, Z, Z⟩⟩, ?_⟩
   exact Re0<|Sd<|⟨Z, Z⟩
  ·intro f
   obtain ⟨f, H⟩ := If f H
   refine N2<|NK<|NH<|Em Z<|Ea Z<|Ea Z<|NI<|N5<|?_
   obtain ⟨l, m⟩ := TU H
   subst g h
   refine ⟨(.inl Z), [(.string k), (Vi 0)], ⟨(.string k), _, Z, Z, ⟨(Vi 0), _, Z, Z, Z⟩⟩, ?_⟩
   exact Re0<|Sd<|⟨Z, Z⟩
theorem abU (p0 : Script) (n o : SV) (p q : SV) (p1 : ab2) (aB : SV) (p2 w : Bool) (H : XL p0 p1 p2 = some w) (K : Kp) (G : List Ent) (bc : Slr Ty.i64 K (sv n) p0.cnfg.capacities) (bd : Slr Ty.u64 K (sv o) p0.cnfg.starts) (be : Slr (Ty.sl NN) K (sv p) p0.ops) (bf : Slr Ty.i64 K (sv q) p0.picks) (bg : Slr Ty.u8 K (sv aB) p1) (hT : TabK K) :
  Fc Tryz.prog 6 #[(.agg (NJ p0 n o p q).toArray), (sv aB), (.bool p2)] K (G) (fun v x t => v = (.bool w) ∧ G = t) := by
 refine Om Tryz.func6 Z Tryz.ntmps6 Tryz.results6 Z ?_
 unfold XL at H
 refine NK<|NH<|?_
 refine NP Z (ON (cs := (NJ p0 n o p q)) Z Z Z (fun af => ?_))
 refine Ea Z<|NI<|NK<|NK<|NH<|?_
 obtain ⟨bZ, bP, H⟩ := bnd H
 refine NP Z (Ek Tryz.call8 Z (abv  bZ bP _ _ hT) ?_)
 rintro _ b3 _ R ⟨rfl, rfl⟩
 refine Eq Z (PI Z)<|NI<|?_
 refine NW Z ?_ ?_
 ·intro L
  have L := Py L
  have H := OF (btf L) H
  refine NK<|NH<|Ea Z<|NI<|N5<|?_
  obtain ao := OB H
  subst w
  refine ⟨(.inl Z), [(.bool false)], ⟨(.bool false), _, Z, Z, Z⟩, ?_⟩
  exact Re0<|Sd<|⟨Z, Z⟩
 ·intro L
  have L := Px L
  have H := ift L H
  refine N2<|NK<|NK<|NH<|EL 5 (NJ p0 n o p q) Z (Rb0 Z)<|?_
  obtain ⟨b0, bQ, H⟩ := bnd H
  have aG := bc.mono R
  have aH := bd.mono R
  have aI := be.mono R
  have aJ := bf.mono R
  refine NP Z (Ek Tryz.call17 Z (abN p0 n o p q b0 bQ _ _ aG aH aI aJ) ?_)
  rintro _ b4 _ S ⟨rfl, rfl⟩
  refine NI ?_
  refine NW Z ?_ ?_
  ·intro ap
   have H := ift ap H
   refine NK<|NH<|Ea Z<|NI<|N5<|?_
   obtain ao := OB H
   subst w
   refine ⟨(.inl Z), [(.bool true)], ⟨(.bool true), _, Z, Z, Z⟩, ?_⟩
   exact Re0<|Sd<|⟨Z, Z⟩
  ·intro ap
   have H := OF (btf ap) H
   refine N2<|NK<|NH<|Em Z<|?_
   obtain ⟨I, bR, H⟩ := bnd H
   have bk := (bg.mono R).mono S
   refine NP Z (Ek Tryz.call10 Z (abA p1 aB 200 I bR _ _ bk) ?_)
   rintro _ _ _ - ⟨Q, ae, rfl, rfl, rfl, aK⟩
   refine Ea Z<|NI<|NK<|NH<|Em Z<|?_
   obtain ⟨a, a0, a1, bS, H⟩ := PP H
   refine NP Z (Ek Tryz.call11 Z (abH Q I ae 8 a a0 a1 bS _ _ aK) ?_)
   rintro _ b5 _ U ⟨b, d, e, cp, g, rfl, rfl, bl, bm, bn, bo⟩
   refine NP Z (Ox (cs := (NJ (Script.mk (Config.mk [] [] 0) [] []) NY NY NY NY)) Z Z Z Z (fun ag => ?_))
   refine NP Z (Sa (NJ a b d e g) Z .here Z ?_)
   refine NI<|NK<|NH<|Em Z<|EL 5 (NJ a b d e g) Z (Rb0 Z)<|?_
   refine Ow.shift (Shift.settle (T := (Ty.sl NN)) (.there (.there (.there (.there .here)))) bn Z (fun b6 z aL => Sd ?_))
   obtain ⟨f, a2, a3, bT, H⟩ := PP H
   refine Ow.shift (Pu1 (Sd ?_))
   have ax := (aK.mono U).mono z
   have aM := bl.mono z
   have aN := bm.mono z
   have ay := bo.mono z
   refine NP Z (Ek Tryz.call19 Z (abO Q (NG.mk I.list a0 a1) ae a b d e g f a2 a3 bT _ _ ax aM aN aL ay) ?_)
   rintro _ a6 _ s ⟨C, D, u, aZ, E, rfl, rfl, bp, bq, br, bs⟩
   refine NP Z (Ox (cs := (NJ (Script.mk (Config.mk [] [] 0) [] []) NY NY NY NY)) Z Z Z Z (fun ah => ?_))
   refine NP Z (Sa (NJ f C D u E) Z .here Z ?_)
   refine NI<|NK<|NH<|EL 5 (NJ a b d e g) Z (Rb3 Z)<|?_
   refine NP Z (Ox (cs := (NJ (Script.mk (Config.mk [] [] 0) [] []) NY NY NY NY)) Z Z Z Z (fun ai => ?_))
   refine NP Z (Sa (NJ a b d e g) Z .here Z ?_)
   refine NI ?_
   refine Ob (fun y x t => ∃ (F : SV) (j : ab2), [(3, (Vp af)), (8, (Vp ag)), (9, (Vp ah)), (10, (Vp ai))] = y ∧ (.blk ai 33 (NJ (Script.mk a.cnfg a.ops j) b d e F)) :: (.blk ah 33 (NJ f C D u E)) :: (.blk ag 33 (NJ a b d e g)) :: (.blk af 33 (NJ p0 n o p q)) :: (.row (sv u) 51 1 aZ.flatten) :: (.tok 3 1 [(sv b)]) :: (.tok 53 1 [(sv d)]) :: (.tok 51 1 [(sv e)]) :: (.tok 3 1 [(sv g)]) :: G = t ∧ S8 a f p0 j = some w ∧ Slr Ty.i64 x (sv F) j) ?_ ?_
   ·refine NK<|NH<|Em Z<|NI<|?_
    refine NW Z ?_ ?_
    ·intro aq
     have H := ift aq H
     refine NK<|NH<|?_
     obtain ⟨am, bU, H⟩ := bnd H
     refine NP Z (aaX (T := Ty.i64) (r := [(Vi 0)]) Z Z Z bU Z Z Z Z Z Z Z Z Z Z (fun J bY aD ci => ?_))
     refine EF 4 Z ?_
     refine NP Z (So [(sv J)] (NJ (Script.mk a.cnfg a.ops am) b d e J) Z (.there .here) Z ?_)
     refine NI<|NK<|NH<|EF 4 Z<|El (sv J) Z (Rb1 Z)<|Eq Z (PO (T := Ty.i64) Mb0 aD Z Z Z)<|Em Z<|NI<|N4<|?_
     refine On (fun aX y x t => ∃ (i : Int) (B : ab2) (ad : List (List Value)) (N O : Int), [(3, (Vp af)), (7, (Vp Q)), (8, (Vp ag)), (9, (Vp ah)), (10, (Vp ai)), (35, (Vi (am.length : Int))), (36, (Vi i))] = y ∧ a6 = x ∧ (.blk ai 33 (NJ (Script.mk a.cnfg a.ops B) b d e J)) :: (.blk ah 33 (NJ f C D u E)) :: (.blk ag 33 (NJ a b d e g)) :: (.blk Q 55 (NX (NG.mk I.list N O) ae)) :: (.blk af 33 (NJ p0 n o p q)) :: (.row (sv J) 3 1 ad.flatten) :: (.row (sv u) 51 1 aZ.flatten) :: (.tok 3 1 [(sv b)]) :: (.tok 53 1 [(sv d)]) :: (.tok 51 1 [(sv e)]) :: (.tok 3 1 [(sv g)]) :: G = t ∧ lp4 (XK am a f I p0) aX i B N O = some w ∧ RowR Ty.i64 x ad B) BIG ?_ ?_
     ·exact Pu9<|Pu9<|Pu9<|Pu9<|Pu8<|Pu5<|O3<|Pu9<|O3<|O3<|O3<|Sd<|⟨_, by exact R7, 0, am, bY, a2, a3, Z, Z, Z, H, aD⟩
     rintro aX _ _ _ - ⟨i, B, ad, N, O, rfl, rfl, rfl, H, A⟩
     obtain ⟨ck, cj, rfl, aE, H⟩ := acn H
     unfold XK at H
     refine NK<|NH<|Ec Z<|NI<|NK<|?_
     refine NW Z ?_ ?_
     ·intro ab
      obtain ⟨ab, H⟩ := It ab H
      refine N2<|NK<|N4<|NK<|NH<|Em Z<|Ea Z<|NI<|?_
      obtain ⟨h, an, aV, H⟩ := O4 H
      obtain ⟨cq, ak, H⟩ := bnd H
      refine Oi _ Z (Ic Mb1 (Ic Mb2 (Ic Mb4 (Ic Mb6 (Ic Mb7 (Ic Mb8 (Ic Mb9 (Ic Mb10 In0))))))))<|JF 0 4 Z<|Jm 2 Z<|Jm 3 Z<|?_
      refine N6 1 4 (by kernel_rfl) ?_ ?_
      ·refine id (Jyq Z (NM (v := (sv J)) Z Z Z (Rb0 Z)) ⟨(Ic Mb1 (Ic Mb2 (Ic Mb4 (Ic Mb6 (Ic Mb7 (Ic Mb8 (Ic Mb9 (Ic Mb10 In0)))))))), ?_⟩)
       refine Ao 4 Z ?_
       refine OpW.shift (Pu3 (Sd ?_))
       have bu := ax.mono s
       refine Ek Tryz.call21 Z (Oz Q (NG.mk I.list N O) ae 200 h an aV _ _ bu) ?_
       rintro _ _ _ - ⟨rfl, rfl, rfl⟩
       refine ⟨(Ic Mb2 (Ic Mb3 (Ic Mb4 (Ic Mb6 (Ic Mb7 (Ic Mb8 (Ic Mb9 (Ic Mb10 In0)))))))), ?_⟩
       refine Jq 5 Z (Zb (c := wI (0 - h)) Z Z) ?_
       obtain ⟨cm, av, bh⟩ := RowR.at A ak
       obtain rfl := bh
       refine NT 6 (by kernel_rfl) (Jyq Z (Oe (T := Ty.i64) Mb5 A av (NV ak).1 Z Z Z Z Z) ⟨(Ic Mb2 (Ic Mb3 (Ic Mb4 (Ic Mb6 (Ic Mb7 (Ic Mb8 (Ic Mb9 (Ic Mb10 In0)))))))), ?_⟩)
       refine Ao 7 Z ?_
       refine N1 (T := Ty.i64) (vs := [(Vi (wI (0 - h)))]) (r' := [(Vi (wI (0 - h)))]) (l' := (Oc B i (wI (0 - h)))) Z Z Z Z Z (.there (.there (.there (.there (.there .here))))) A av Z Z Z (RowR.set i A Z) (fun a9 => ⟨(Ic Mb2 (Ic Mb3 (Ic Mb4 (Ic Mb6 (Ic Mb7 (Ic Mb8 (Ic Mb9 (Ic Mb10 In0)))))))), ?_⟩)
       have cd := Oh av (v := [(Vi (wI (0 - h)))])
       exact Ad<|NH<|Er (wI (i + 1)) Z<|Em Z<|NI<|O3<|O3<|O3<|O3<|O3<|O3<|O3<|Pu7<|O3<|O3<|O3<|Sd<|⟨_, by exact R7, _, Nat.lt_succ_self _, (wI (i + 1)), (Oc B i (wI (0 - h))), (ad.set i.toNat [(Vi (wI (0 - h)))]), an, ((NG.mk I.list N O).value), Z, Z, Z, (aE ▸ H), a9⟩
      ·refine id (Jy Z ?_)
       refine OpW.shift (Pu3 (Sd ?_))
       have bv := ax.mono s
       refine Ek Tryz.call21 Z (Oz Q (NG.mk I.list N O) ae 200 h an aV _ _ bv) ?_
       rintro _ _ _ - ⟨rfl, rfl, rfl⟩
       refine ⟨(Ic Mb2 (Ic Mb3 (Ic Mb4 (Ic Mb6 (Ic Mb7 (Ic Mb8 (Ic Mb9 (Ic Mb10 In0)))))))), ?_⟩
       refine Jq 5 Z (Zb (c := wI (0 - h)) Z Z) ?_
       refine NT 1 (by kernel_rfl) (Jyq Z (NM (v := (sv J)) Z Z Z (Rb1 Z)) ⟨(Ic Mb2 (Ic Mb3 (Ic Mb4 (Ic Mb6 (Ic Mb7 (Ic Mb8 (Ic Mb9 (Ic Mb10 In0)))))))), ?_⟩)
       obtain ⟨cn, aw, bi⟩ := RowR.at A ak
       obtain rfl := bi
       refine NT 6 (by kernel_rfl) (Jyq Z (Oe (T := Ty.i64) Mb5 A aw (NV ak).1 Z Z Z Z Z) ⟨(Ic Mb2 (Ic Mb3 (Ic Mb4 (Ic Mb6 (Ic Mb7 (Ic Mb8 (Ic Mb9 (Ic Mb10 In0)))))))), ?_⟩)
       refine Ao 7 Z ?_
       refine N1 (T := Ty.i64) (vs := [(Vi (wI (0 - h)))]) (r' := [(Vi (wI (0 - h)))]) (l' := (Oc B i (wI (0 - h)))) Z Z Z Z Z (.there (.there (.there (.there (.there .here))))) A aw Z Z Z (RowR.set i A Z) (fun ba => ⟨(Ic Mb2 (Ic Mb3 (Ic Mb4 (Ic Mb6 (Ic Mb7 (Ic Mb8 (Ic Mb9 (Ic Mb10 In0)))))))), ?_⟩)
       have ce := Oh aw (v := [(Vi (wI (0 - h)))])
       exact Ad<|NH<|Er (wI (i + 1)) Z<|Em Z<|NI<|O3<|O3<|O3<|O3<|O3<|O3<|O3<|Pu7<|O3<|O3<|O3<|Sd<|⟨_, by exact R7, _, Nat.lt_succ_self _, (wI (i + 1)), (Oc B i (wI (0 - h))), (ad.set i.toNat [(Vi (wI (0 - h)))]), an, ((NG.mk I.list N O).value), Z, Z, Z, (aE ▸ H), ba⟩
     ·intro ab
      obtain ⟨ab, H⟩ := If ab H
      refine Ov<|Shift.settle (T := Ty.i64) (.there (.there (.there (.there (.there .here))))) A rfl<|?_
      intro b7 cf bw
      exact O3<|O3<|O3<|O3<|O3<|Pu9<|Pu8<|Pu8<|Pu8<|Re9<|Re9<|Sd<|⟨_, by exact R4, J, B, Z, Z, H, bw⟩
    ·intro aq
     have H := OF (btf aq) H
     refine N2<|Pu8<|Pu8<|Pu8<|Pu8<|Pu7<|Pu9<|Pu9<|Pu8<|Pu8<|Re9<|?_
     have bx := ay.mono s
     exact Sd ⟨_, by exact R4, g, a.picks, Z, Z, H, bx⟩
   rintro _ b8 _ k ⟨F, j, rfl, rfl, H, bt⟩
   unfold S8 at H
   refine Ob (fun y x t => [] = y ∧ G = t ∧ Y8 = some w) ?_ ?_
   ·refine NK<|NH<|EL 5 (NJ a b d e g) Z (Rb2 Z)<|EL 5 (NJ f C D u E) Z (Rb1 Z)<|EL 5 (NJ (Script.mk a.cnfg a.ops j) b d e F) Z (Rb0 Z)<|EL 5 (NJ p0 n o p q) Z (Rb3 Z)<|?_
    have bA := br.mono k
    refine Ow.shift (Shift.settle (T := (Ty.sl NN)) (.there (.there (.there (.there .here)))) bA Z (fun a7 m bz => Sd ?_))
    have bB := (((((aG.mono S).mono U).mono z).mono s).mono k).mono m
    have bC := (((((aH.mono S).mono U).mono z).mono s).mono k).mono m
    have bD := (((((aI.mono S).mono U).mono z).mono s).mono k).mono m
    have bE := (((((aJ.mono S).mono U).mono z).mono s).mono k).mono m
    have aO := ((aM.mono s).mono k).mono m
    have aP := ((aN.mono s).mono k).mono m
    have aQ := ((aL.mono s).mono k).mono m
    have bF := bt.mono m
    have bG := (bp.mono k).mono m
    have bH := (bq.mono k).mono m
    have bI := (bs.mono k).mono m
    have bJ := ((ay.mono s).mono k).mono m
    have au : RowR QF a7 [(NJ a b d e g), (NJ f C D u E), (NJ (Script.mk a.cnfg a.ops j) b d e F), (NJ p0 n o p q)] [a, f, (Script.mk a.cnfg a.ops j), p0] := RowR.cons ⟨b, d, e, g, Z, aO, aP, aQ, bJ⟩ (RowR.cons ⟨C, D, u, E, Z, bG, bH, bz, bI⟩ (RowR.cons ⟨b, d, e, F, Z, aO, aP, aQ, bF⟩ (RowR.cons ⟨n, o, p, q, Z, bB, bC, bD, bE⟩ (RowR.nil))))
    refine NP Z (N8 (T := QF) (rows := [(NJ a b d e g), (NJ f C D u E), (NJ (Script.mk a.cnfg a.ops j) b d e F), (NJ p0 n o p q)]) (l := [a, f, (Script.mk a.cnfg a.ops j), p0]) Z Z Z au Z Z Z Z Z Z Z Z (fun al => ?_))
    refine Eq Z (PO (T := QF) Mb0 au Z Z Z)<|Em Z<|NI<|N4<|?_
    refine On (fun aY y x t => ∃ (P : Int), [(51, (sv al)), (52, (Vi ([a, f, (Script.mk a.cnfg a.ops j), p0].length : Int))), (53, (Vi P))] = y ∧ (.row (sv al) 33 5 [(NJ a b d e g), (NJ f C D u E), (NJ (Script.mk a.cnfg a.ops j) b d e F), (NJ p0 n o p q)].flatten) :: G = t ∧ lp1 (XJ a f j p0) aY P = some w) BIG ?_ ?_
    ·exact Re1<|Re1<|Re1<|Re1<|Re1<|Re1<|Re1<|Re1<|Re1<|Sd<|⟨_, by exact R3, 0, Z, Z, H⟩
    rintro aY _ b9 _ aC ⟨P, rfl, rfl, H⟩
    obtain ⟨cl, bX, rfl, bb, H⟩ := QP H
    unfold XJ at H
    refine NK<|NH<|Ec Z<|NI<|NK<|?_
    refine NW Z ?_ ?_
    ·intro ac
     obtain ⟨ac, H⟩ := It ac H
     refine N2<|NK<|N4<|NK<|NH<|?_
     obtain ⟨aa, aW, H⟩ := bnd H
     have az := au.mono aC
     obtain ⟨co, aF, bj⟩ := RowR.at az aW
     obtain ⟨V, W, X, Y, rfl, aR, aS, aT, aU⟩ := bj
     refine Eq Z (Oe (T := QF) Mb0 az aF (NV aW).1 Z Z Z Z Z)<|EL 5 (NJ aa V W X Y) Z (Oj (T := QF) Mb0 az aF Z Z)<|?_
     refine NP Z (Ox (cs := (NJ (Script.mk (Config.mk [] [] 0) [] []) NY NY NY NY)) Z Z Z Z (fun cc => ?_))
     refine NP Z (Sa (NJ aa V W X Y) Z .here Z ?_)
     refine NI<|NK<|NH<|EL 5 (NJ aa V W X Y) Z (Rb0 Z)<|?_
     obtain ⟨b1, a4, bV, H⟩ := O4 H
     have bK := (((((((hT.mono R).mono S).mono U).mono z).mono s).mono k).mono m).mono aC
     refine NP Z (Ek Tryz.call16 Z (ZR aa V W X Y b1 a4 bV _ _ aR aS aT aU bK) ?_)
     rintro _ ca _ aj ⟨rfl, rfl⟩
     refine Em Z<|Ex Z<|Ex Z<|Ea Z<|Ea Z<|NI<|NK<|NH<|EL 5 (NJ aa V W X Y) Z (Rb0 Z)<|?_
     obtain ⟨b2, a5, bW, H⟩ := O4 H
     have bL := aR.mono aj
     have bM := aS.mono aj
     have bN := aT.mono aj
     have bO := aU.mono aj
     refine NP Z (Ek Tryz.call9 Z (abM aa V W X Y b2 a5 bW _ _ bL bM bN bO) ?_)
     rintro _ a8 _ cg ⟨rfl, rfl⟩
     refine Em Z<|Ex Z<|Ex Z<|Ea Z<|Ea Z<|NI<|?_
     refine Ob (fun y x t => ∃ (aA : Bool), [(51, (sv al)), (52, (Vi ([a, f, (Script.mk a.cnfg a.ops j), p0].length : Int))), (53, (Vi P)), (74, (.bool aA))] = y ∧ a8 = x ∧ (.row (sv al) 33 5 [(NJ a b d e g), (NJ f C D u E), (NJ (Script.mk a.cnfg a.ops j) b d e F), (NJ p0 n o p q)].flatten) :: G = t ∧ S7 a f j p0 P bX aA = some w) ?_ ?_
     ·refine NH<|Em Z<|Em Z<|Eq Z (Q2 Z Z)<|Em Z<|?_
      refine Ee Z ?_ ?_
      ·intro M
       have M := Pg (Py (M))
       have H := OF M H
       exact Ez Z<|Ez Z<|Ez Z<|Et Z<|NI<|Pu1<|Re1<|Sd<|⟨_, by exact R4, true, Z, Z, Z, H⟩
      ·intro M
       have M := Ph (Px (M))
       have H := ift M H
       exact Vm Z<|Vm Z<|Vc Z<|Ef Z<|NI<|Pu1<|Re1<|Sd<|⟨_, by exact R4, (!(dcd (a4 = a5))), Z, Z, Z, H⟩
     rintro _ _ _ - ⟨aA, rfl, rfl, rfl, H⟩
     unfold S7 at H
     refine NW Z ?_ ?_
     ·intro ar
      have H := ift ar H
      refine NK<|NH<|Ea Z<|NI<|N5<|?_
      obtain ao := OB H
      subst w
      refine ⟨(.inl Z), [(.bool false)], ⟨(.bool false), _, Z, Z, Z⟩, ?_⟩
      exact Re0<|Sd<|⟨Z, Z⟩
     ·intro ar
      have H := OF (btf ar) H
      exact N2<|NH<|Er (wI (P + 1)) Z<|Em Z<|NI<|Sd<|⟨_, by exact R3, _, Nat.lt_succ_self _, (wI (P + 1)), Z, Z, (bb ▸ H)⟩
    ·intro ac
     obtain ⟨ac, H⟩ := If ac H
     exact Ov<|Re0<|Sd<|⟨[], trivial, Z, Z, H⟩
   rintro _ cb _ ch ⟨rfl, rfl, H⟩
   unfold Y8 at H
   refine NK<|NH<|Ea Z<|NI<|N5<|?_
   obtain ao := OB H
   subst w
   refine ⟨(.inl Z), [(.bool true)], ⟨(.bool true), _, Z, Z, Z⟩, ?_⟩
   exact Sd ⟨Z, Z⟩
end Go.Hx
