
import Derived.Test.YtcopfjjpiobclaaGreatDoorXSM
import Derived.Test.YtcopfjjpiobclaaGreatDoorXSWDraw
import Derived.Test.YtcopfjjpiobclaaGreatDoorXSWLaw20
import Derived.Test.YtcopfjjpiobclaaGreatDoorXSWLaw201
import Derived.Test.YtcopfjjpiobclaaGreatDoorXSWScript2
set_option linter.unusedVariables false
set_option linter.unusedSimpArgs false
namespace Go.Hx
open Go Go.Proofs
set_option maxRecDepth 10000
set_option maxHeartbeats 1000000
theorem ahE (p0 : Int) (b : Bool) (H : aeo p0 = some b) (K : Kp) (G : List Ent)  :
  Fc Tryz.prog 90 #[(Vi p0)] K (G) (fun v d c => v = (.bool b) ∧ K = d ∧ G = c) := by
 refine XM Tryz.func90 Z Tryz.ntmps90 Tryz.results90 Z ?_
 unfold aeo at H
 refine Xd<|W9<|Ea Z<|Xa<|Xd<|W9<|Em Z<|Ec Z<|Em Z<|?_
 refine Ee Z ?_ ?_
 ·intro a
  obtain ⟨a, H⟩ := It a H
  refine Vm Z<|Vc Z<|Et Z<|Ea Z<|Xa<|Xy<|?_
  obtain e := X0 H
  subst b
  refine ⟨(.inl Z), [(.bool (dcd (p0 < 8)))], ⟨(.bool (dcd (p0 < 8))), _, Z, Z, Z⟩, ?_⟩
  exact Sd ⟨Z, Z, Z⟩
 ·intro a
  obtain ⟨a, H⟩ := If a H
  refine Ez Z<|Ez Z<|Ef Z<|Ea Z<|Xa<|Xy<|?_
  obtain e := X0 H
  subst b
  refine ⟨(.inl Z), [(.bool false)], ⟨(.bool false), _, Z, Z, Z⟩, ?_⟩
  exact Sd ⟨Z, Z, Z⟩
theorem ai2 (p0 : Op) (e q : SV) (a : Bool) (H : acG p0 = some a) (K : Kp) (G : List Ent) (t : Slr XC K (sv e) p0.cases) (J : Slr Ty.i64 K (sv q) p0.draws) :
  Fc Tryz.prog 74 #[(.agg (Xb p0 e q).toArray)] K (G) (fun v f b => v = (.bool a) ∧ G = b) := by
 refine XM Tryz.func74 Z Tryz.ntmps74 Tryz.results74 Z ?_
 unfold acG at H
 refine Xd<|W9<|?_
 refine Xh Z (X6 (cs := (Xb p0 e q)) Z Z Z (fun r => ?_))
 refine Ea Z<|Xa<|Xd<|?_
 refine XD (fun g f b => ∃ (u : Bool) (l m : Int) (n o p : Int), [(1, (Vp r)), (17, (.bool u))] = g ∧ K = f ∧ (.blk r 70 (Xb (Op.mk l m n o p p0.cases p0.draws) e q)) :: G = b ∧ adl p0 u l m n o p = some a) ?_ ?_
 ·refine W9<|EF 2 Z<|El (Vi p0.channel) Z (Rb0 Z)<|?_
  obtain ⟨E, C, H⟩ := bnd H
  refine Xh Z (Ek Tryz.call90 Z (ahE p0.channel E C _ _ ) ?_)
  rintro _ _ _ - ⟨rfl, rfl, rfl⟩
  refine Eq Z (YC Z)<|Em Z<|?_
  refine Ee Z ?_ ?_
  ·intro d
   have d := Yw d
   have H := XX (btf d) H
   exact Ez Z<|Ez Z<|Ez Z<|Et Z<|Em Z<|Ez Z<|Ez Z<|Ez Z<|Et Z<|Xa<|Sd<|⟨_, by exact R2, true, p0.kind, p0.mode, p0.channel, p0.value, p0.deadline, Z, Z, Z, H⟩
  ·intro d
   have d := Yv d
   have H := ift d H
   refine VF 4 Z<|Vl (Vi p0.deadline) Z (Rb0 Z)<|Vc Z<|Ef Z<|Em Z<|?_
   refine Ee Z ?_ ?_
   ·intro i
    obtain ⟨i, H⟩ := It i H
    exact Ez Z<|Ez Z<|Ez Z<|Et Z<|Xa<|Sd<|⟨_, by exact R2, true, p0.kind, p0.mode, p0.channel, p0.value, p0.deadline, Z, Z, Z, H⟩
   ·intro i
    obtain ⟨i, H⟩ := If i H
    exact VF 4 Z<|Vl (Vi p0.deadline) Z (Rb0 Z)<|Vc Z<|Ef Z<|Xa<|Sd<|⟨_, by exact R2, (dcd (p0.deadline > 1099511627776)), p0.kind, p0.mode, p0.channel, p0.value, p0.deadline, Z, Z, Z, H⟩
 rintro _ _ _ - ⟨u, l, m, n, o, p, rfl, rfl, rfl, H⟩
 unfold adl at H
 refine Xp Z ?_ ?_
 ·intro s
  have H := ift s H
  refine Xd<|W9<|Ea Z<|Xa<|Xy<|?_
  obtain w := X0 H
  subst a
  refine ⟨(.inl Z), [(.bool false)], ⟨(.bool false), _, Z, Z, Z⟩, ?_⟩
  exact Re0<|Sd<|⟨Z, Z⟩
 ·intro s
  have H := XX (btf s) H
  refine Xt ?_
  refine XD (fun g f b => [] = g ∧ G = b ∧ agS = some a) ?_ ?_
  ·refine Xd<|W9<|Ea Z<|Xa<|XA<|?_
   refine XO (fun n120 g f b => ∃ (j : Int), [(1, (Vp r)), (3, (Vi j))] = g ∧ K = f ∧ (.blk r 70 (Xb (Op.mk l m n o p p0.cases p0.draws) e q)) :: G = b ∧ lp1 (afc l m n o p p0) n120 j = some a) BIG ?_ ?_
   ·exact Sd ⟨_, by exact R2, 0, Z, Z, Z, H⟩
   rintro n120 _ _ _ - ⟨j, rfl, rfl, rfl, H⟩
   obtain ⟨M, L, rfl, A, H⟩ := ZL H
   unfold afc at H
   refine Xd<|Xd<|W9<|Em Z<|EF 5 Z<|El (sv e) Z (Rb0 Z)<|Eq Z (XN (T := XC) t Z Z)<|Ec Z<|Xa<|?_
   refine Xp Z ?_ ?_
   ·intro h
    obtain ⟨h, H⟩ := It h H
    refine Xt<|Xd<|XA<|Xd<|W9<|EF 5 Z<|El (sv e) Z (Rb0 Z)<|Em Z<|?_
    obtain ⟨y, x, H⟩ := bnd H
    obtain ⟨_, rfl, z⟩ := Slr.at t x
    refine Eq Z (Qi (T := XC) t x Z)<|EF 1 Z<|El (Vi y.channel) Z (Rdc.k z Z)<|?_
    obtain ⟨D, B, H⟩ := bnd H
    refine Xh Z (Ek Tryz.call90 Z (ahE y.channel D B _ _ ) ?_)
    rintro _ _ _ - ⟨rfl, rfl, rfl⟩
    refine Eq Z (YC Z)<|Xa<|?_
    refine Xp Z ?_ ?_
    ·intro c
     have c := Yw c
     have H := XX (btf c) H
     refine Xd<|W9<|Ea Z<|Xa<|Xy<|?_
     obtain w := X0 H
     subst a
     refine ⟨(.inl Z), [(.bool false)], ⟨(.bool false), _, Z, Z, Z⟩, ?_⟩
     exact Re0<|Sd<|⟨Z, Z⟩
    ·intro c
     have c := Yv c
     have H := ift c H
     exact Xt<|W9<|Em Z<|Er (wI (j + 1)) Z<|Ea Z<|Xa<|Sd<|⟨_, by exact R2, _, Nat.lt_succ_self _, (wI (j + 1)), Z, Z, Z, (A ▸ H)⟩
   ·intro h
    obtain ⟨h, H⟩ := If h H
    exact XS<|Re0<|Sd<|⟨[], trivial, Z, Z, H⟩
  rintro _ F _ I ⟨rfl, rfl, H⟩
  unfold agS at H
  refine Xd<|W9<|Ea Z<|Xa<|Xy<|?_
  obtain w := X0 H
  subst a
  refine ⟨(.inl Z), [(.bool true)], ⟨(.bool true), _, Z, Z, Z⟩, ?_⟩
  exact Sd ⟨Z, Z⟩
theorem ai3 (p0 : Op) (e g : SV) (b : Bool) (H : acH p0 = some b) (K : Kp) (G : List Ent) (p : Slr XC K (sv e) p0.cases) (L : Slr Ty.i64 K (sv g) p0.draws) :
  Fc Tryz.prog 75 #[(.agg (Xb p0 e g).toArray)] K (G) (fun v c a => v = (.bool b) ∧ G = a) := by
 refine XM Tryz.func75 Z Tryz.ntmps75 Tryz.results75 Z ?_
 unfold acH at H
 refine Xd<|W9<|?_
 refine Xh Z (X6 (cs := (Xb p0 e g)) Z Z Z (fun f => ?_))
 refine Ea Z<|Xa<|?_
 refine XD (fun d c a => ∃ (J : Bool), [(1, (Vp f)), (3, (.bool J))] = d ∧ K = c ∧ (.blk f 70 (Xb p0 e g)) :: G = a ∧ ado p0 J = some b) ?_ ?_
 ·refine W9<|EF 0 Z<|El (Vi p0.kind) Z (Rb0 Z)<|Ec Z<|Em Z<|?_
  refine Ee Z ?_ ?_
  ·intro w
   obtain ⟨w, H⟩ := It w H
   exact Ez Z<|Ez Z<|Ez Z<|Et Z<|Em Z<|Ez Z<|Ez Z<|Ez Z<|Et Z<|Ea Z<|Xa<|Sd<|⟨_, by exact R2, true, Z, Z, Z, H⟩
  ·intro w
   obtain ⟨w, H⟩ := If w H
   refine VF 0 Z<|Vl (Vi p0.kind) Z (Rb0 Z)<|Vc Z<|Ef Z<|Em Z<|?_
   refine Ee Z ?_ ?_
   ·intro x
    obtain ⟨x, H⟩ := It x H
    exact Ez Z<|Ez Z<|Ez Z<|Et Z<|Ea Z<|Xa<|Sd<|⟨_, by exact R2, true, Z, Z, Z, H⟩
   ·intro x
    obtain ⟨x, H⟩ := If x H
    exact VF 0 Z<|Vl (Vi p0.kind) Z (Rb0 Z)<|Vc Z<|Ef Z<|Ea Z<|Xa<|Sd<|⟨_, by exact R2, (dcd (p0.kind = 6)), Z, Z, Z, H⟩
 rintro _ _ _ - ⟨J, rfl, rfl, rfl, H⟩
 unfold ado at H
 refine Xd ?_
 refine XD (fun d c a => ∃ (E : Bool), [(1, (Vp f)), (33, (.bool E))] = d ∧ K = c ∧ (.blk f 70 (Xb p0 e g)) :: G = a ∧ aaA p0 E = some b) ?_ ?_
 ·refine W9<|Em Z<|Em Z<|?_
  refine Ee Z ?_ ?_
  ·intro A
   have H := ift A H
   refine VF 1 Z<|Vl (Vi p0.mode) Z (Rb0 Z)<|Vc Z<|Et Z<|Em Z<|?_
   refine Ee Z ?_ ?_
   ·intro h
    have h := Yn (Yw (h))
    have H := XX h H
    exact Ez Z<|Ez Z<|Ez Z<|Ez Z<|Yi Z Z Z Z rfl<|Yi Z Z Z Z rfl<|Yi Z Z Z Z rfl<|Ez Z<|Et Z<|Xa<|Sd<|⟨_, by exact R2, true, Z, Z, Z, H⟩
   ·intro h
    have h := Yo (Yv (h))
    have H := ift h H
    refine VF 4 Z<|Vl (Vi p0.deadline) Z (Rb0 Z)<|Vc Z<|Vm Z<|?_
    refine Ee Z ?_ ?_
    ·intro i
     have i := Yn (Yw (i))
     have H := XX i H
     exact VF 1 Z<|Vl (Vi p0.mode) Z (Rb0 Z)<|Vc Z<|Vt Z<|Ef Z<|Xa<|Sd<|⟨_, by exact R2, (!(dcd (p0.mode = 2))), Z, Z, Z, H⟩
    ·intro i
     have i := Yo (Yv (i))
     have H := ift i H
     exact Ez Z<|Ez Z<|Ez Z<|Vf Z<|Ef Z<|Xa<|Sd<|⟨_, by exact R2, false, Z, Z, Z, H⟩
  ·intro A
   have H := XX (btf A) H
   refine Ez Z<|Ez Z<|Ez Z<|Ef Z<|Em Z<|VF 4 Z<|Vl (Vi p0.deadline) Z (Rb0 Z)<|Vc Z<|Vm Z<|?_
   refine Ee Z ?_ ?_
   ·intro j
    have j := Yn (Yw (j))
    have H := XX j H
    exact VF 1 Z<|Vl (Vi p0.mode) Z (Rb0 Z)<|Vc Z<|Vt Z<|Ef Z<|Xa<|Sd<|⟨_, by exact R2, (!(dcd (p0.mode = 2))), Z, Z, Z, H⟩
   ·intro j
    have j := Yo (Yv (j))
    have H := ift j H
    exact Ez Z<|Ez Z<|Ez Z<|Vf Z<|Ef Z<|Xa<|Sd<|⟨_, by exact R2, false, Z, Z, Z, H⟩
 rintro _ _ _ - ⟨E, rfl, rfl, rfl, H⟩
 unfold aaA at H
 refine Xp Z ?_ ?_
 ·intro B
  have H := ift B H
  refine Xd<|W9<|Ea Z<|Xa<|Xy<|?_
  obtain z := X0 H
  subst b
  refine ⟨(.inl Z), [(.bool false)], ⟨(.bool false), _, Z, Z, Z⟩, ?_⟩
  exact Re0<|Sd<|⟨Z, Z⟩
 ·intro B
  have H := XX (btf B) H
  refine Xt<|Xd<|Xd<|W9<|EF 0 Z<|El (Vi p0.kind) Z (Rb0 Z)<|Ec Z<|Xa<|?_
  refine Xp Z ?_ ?_
  ·intro l
   have l := Yn (Yw (l))
   have H := XX l H
   refine XD (fun d c a => ∃ (y : Bool), [(2, (.bool y))] = d ∧ K = c ∧ G = a ∧ adm y = some b) ?_ ?_
   ·refine W9<|EF 5 Z<|El (sv e) Z (Rb0 Z)<|Eq Z (XN (T := XC) p Z Z)<|Ec Z<|Em Z<|?_
    refine Ee Z ?_ ?_
    ·intro r
     obtain ⟨r, H⟩ := It r H
     refine VF 6 Z<|Vl (sv g) Z (Rb0 Z)<|Vq Z (XN (T := Ty.i64) L Z Z)<|Vc Z<|Et Z<|Em Z<|?_
     refine Ee Z ?_ ?_
     ·intro s
      obtain ⟨s, H⟩ := It s H
      refine VF 0 Z<|Vl (Vi p0.kind) Z (Rb0 Z)<|Vc Z<|Vm Z<|?_
      refine Ee Z ?_ ?_
      ·intro t
       obtain ⟨t, H⟩ := It t H
       exact Ez Z<|Ez Z<|Ez Z<|Vt Z<|Et Z<|Ea Z<|Xa<|Re0<|Sd<|⟨_, by exact R1, true, Z, Z, Z, H⟩
      ·intro t
       obtain ⟨t, H⟩ := If t H
       exact VF 3 Z<|Vl (.int .u64 p0.value) Z (Rb0 Z)<|Vc Z<|Vf Z<|Et Z<|Ea Z<|Xa<|Re0<|Sd<|⟨_, by exact R1, (dcd (p0.value = 0)), Z, Z, Z, H⟩
     ·intro s
      obtain ⟨s, H⟩ := If s H
      exact Ez Z<|Ez Z<|Ez Z<|Ez Z<|Yi Z Z Z Z rfl<|Yi Z Z Z Z rfl<|Yi Z Z Z Z rfl<|Ez Z<|Ef Z<|Ea Z<|Xa<|Re0<|Sd<|⟨_, by exact R1, false, Z, Z, Z, H⟩
    ·intro r
     obtain ⟨r, H⟩ := If r H
     exact Ez Z<|Ez Z<|Ez Z<|Ez Z<|Ef Z<|Em Z<|Ez Z<|Ez Z<|Ez Z<|Ez Z<|Yi Z Z Z Z rfl<|Yi Z Z Z Z rfl<|Yi Z Z Z Z rfl<|Ez Z<|Ef Z<|Ea Z<|Xa<|Re0<|Sd<|⟨_, by exact R1, false, Z, Z, Z, H⟩
   rintro _ _ _ - ⟨y, rfl, rfl, rfl, H⟩
   unfold adm at H
   refine Xy ?_
   obtain z := X0 H
   subst b
   refine ⟨(.inl Z), [(.bool y)], ⟨(.bool y), _, Z, Z, Z⟩, ?_⟩
   exact Sd ⟨Z, Z⟩
  ·intro l
   have l := Yo (Yv (l))
   have H := ift l H
   refine Xt<|Xd<|?_
   refine XD (fun d c a => ∃ (F : Bool), [(1, (Vp f)), (73, (.bool F))] = d ∧ K = c ∧ (.blk f 70 (Xb p0 e g)) :: G = a ∧ adn p0 F = some b) ?_ ?_
   ·refine W9<|EF 2 Z<|El (Vi p0.channel) Z (Rb0 Z)<|Ec Z<|Em Z<|?_
    refine Ee Z ?_ ?_
    ·intro m
     have m := Yn (Yw (m))
     have H := XX m H
     exact Ez Z<|Ez Z<|Ez Z<|Et Z<|Em Z<|Ez Z<|Ez Z<|Ez Z<|Ez Z<|Ez Z<|Ez Z<|Ez Z<|Et Z<|Xa<|Sd<|⟨_, by exact R2, true, Z, Z, Z, H⟩
    ·intro m
     have m := Yo (Yv (m))
     have H := ift m H
     refine VF 3 Z<|Vl (.int .u64 p0.value) Z (Rb0 Z)<|Vc Z<|Ef Z<|Em Z<|?_
     refine Ee Z ?_ ?_
     ·intro n
      have n := Yn (Yw (n))
      have H := XX n H
      exact Ez Z<|Ez Z<|Ez Z<|Ez Z<|Ez Z<|Ez Z<|Ez Z<|Et Z<|Xa<|Sd<|⟨_, by exact R2, true, Z, Z, Z, H⟩
     ·intro n
      have n := Yo (Yv (n))
      have H := ift n H
      exact VF 6 Z<|Vl (sv g) Z (Rb0 Z)<|Vq Z (XN (T := Ty.i64) L rfl rfl)<|VF 5 Z<|Vl (sv e) Z (Rb0 Z)<|Vq Z (XN (T := XC) p rfl rfl)<|Vc Z<|Ef Z<|Xa<|Sd<|⟨_, by exact R2, (!(dcd ((p0.draws.length : Int) = (p0.cases.length : Int)))), rfl, rfl, rfl, H⟩
   rintro _ _ _ - ⟨F, rfl, rfl, rfl, H⟩
   unfold adn at H
   refine Xp Z ?_ ?_
   ·intro C
    have H := ift C H
    refine Xd<|W9<|Ea Z<|Xa<|Xy<|?_
    obtain z := X0 H
    subst b
    refine ⟨(.inl Z), [(.bool false)], ⟨(.bool false), _, Z, Z, Z⟩, ?_⟩
    exact Re0<|Sd<|⟨Z, Z⟩
   ·intro C
    have H := XX (btf C) H
    refine Xt ?_
    refine XD (fun d c a => [] = d ∧ G = a ∧ agT = some b) ?_ ?_
    ·refine Xd<|W9<|Ea Z<|Xa<|XA<|?_
     refine XO (fun n206 d c a => ∃ (q : Int), [(1, (Vp f)), (4, (Vi q))] = d ∧ K = c ∧ (.blk f 70 (Xb p0 e g)) :: G = a ∧ lp1 (afd p0) n206 q = some b) BIG ?_ ?_
     ·exact Sd ⟨_, by exact R2, 0, Z, Z, Z, H⟩
     rintro n206 _ _ _ - ⟨q, rfl, rfl, rfl, H⟩
     obtain ⟨X, S, rfl, R, H⟩ := ZL H
     unfold afd at H
     refine Xd<|Xd<|W9<|Em Z<|EF 5 Z<|El (sv e) Z (Rb0 Z)<|Eq Z (XN (T := XC) p Z Z)<|Ec Z<|Xa<|?_
     refine Xp Z ?_ ?_
     ·intro u
      obtain ⟨u, H⟩ := It u H
      refine Xt<|Xd<|XA<|?_
      refine XD (fun d c a => ∃ (I : Bool), [(1, (Vp f)), (4, (Vi q)), (96, (.bool I))] = d ∧ K = c ∧ (.blk f 70 (Xb p0 e g)) :: G = a ∧ aep q p0 S I = some b) ?_ ?_
      ·refine W9<|EF 5 Z<|El (sv e) Z (Rb0 Z)<|Em Z<|?_
       obtain ⟨U, M, H⟩ := bnd H
       obtain ⟨_, rfl, P⟩ := Slr.at p M
       refine Eq Z (Qi (T := XC) p M Z)<|EF 0 Z<|El (.bool U.send) Z (Rdc.k P Z)<|Eq Z (YC Z)<|Em Z<|?_
       refine Ee Z ?_ ?_
       ·intro o
        have o := Yw o
        have H := XX (btf o) H
        refine VF 5 Z<|Vl (sv e) Z (Rb0 Z)<|Vm Z<|?_
        obtain ⟨O, N, H⟩ := bnd H
        obtain ⟨_, rfl, Q⟩ := Slr.at p N
        exact Vq Z (Qi (T := XC) p N Z)<|VF 2 Z<|Vl (.int .u64 O.value) Z (Rdc.k Q Z)<|Vc Z<|Et Z<|Xa<|Sd<|⟨_, by exact R3, (!(dcd (O.value = 0))), Z, Z, Z, H⟩
       ·intro o
        have o := Yv o
        have H := ift o H
        exact Ez Z<|Ez Z<|Ez Z<|Ez Z<|Ez Z<|Ez Z<|Ez Z<|Ef Z<|Xa<|Sd<|⟨_, by exact R3, false, Z, Z, Z, H⟩
      rintro _ _ _ - ⟨I, rfl, rfl, rfl, H⟩
      unfold aep at H
      refine Xp Z ?_ ?_
      ·intro D
       have H := ift D H
       refine Xd<|W9<|Ea Z<|Xa<|Xy<|?_
       obtain z := X0 H
       subst b
       refine ⟨(.inl Z), [(.bool false)], ⟨(.bool false), _, Z, Z, Z⟩, ?_⟩
       exact Re0<|Sd<|⟨Z, Z⟩
      ·intro D
       have H := XX (btf D) H
       exact Xt<|W9<|Em Z<|Er (wI (q + 1)) Z<|Ea Z<|Xa<|Sd<|⟨_, by exact R2, _, Nat.lt_succ_self _, (wI (q + 1)), Z, Z, Z, (R ▸ H)⟩
     ·intro u
      obtain ⟨u, H⟩ := If u H
      exact XS<|Re0<|Sd<|⟨[], trivial, Z, Z, H⟩
    rintro _ V _ W ⟨rfl, rfl, H⟩
    unfold agT at H
    refine Xd<|W9<|Ea Z<|Xa<|Xy<|?_
    obtain z := X0 H
    subst b
    refine ⟨(.inl Z), [(.bool true)], ⟨(.bool true), _, Z, Z, Z⟩, ?_⟩
    exact Sd ⟨Z, Z⟩
theorem ai4 (p0 : Op) (b a : SV) (c : Int) (H : acK p0 = some c) (K : Kp) (G : List Ent) (A : Slr XC K (sv b) p0.cases) (u : Slr Ty.i64 K (sv a) p0.draws) :
  Fc Tryz.prog 42 #[(.agg (Xb p0 b a).toArray)] K (G) (fun v f d => v = (Vi c) ∧ G = d) := by
 refine XM Tryz.func42 Z Tryz.ntmps42 Tryz.results42 Z ?_
 unfold acK at H
 refine Xd<|W9<|?_
 refine Xh Z (X6 (cs := (Xb p0 b a)) Z Z Z (fun e => ?_))
 refine Ea Z<|Xa<|Xd<|?_
 refine XD (fun g f d => ∃ (B : Bool), [(1, (Vp e)), (21, (.bool B))] = g ∧ K = f ∧ (.blk e 70 (Xb p0 b a)) :: G = d ∧ abz p0 B = some c) ?_ ?_
 ·refine W9<|EF 0 Z<|El (Vi p0.kind) Z (Rb0 Z)<|Ec Z<|Em Z<|?_
  refine Ee Z ?_ ?_
  ·intro m
   obtain ⟨m, H⟩ := It m H
   exact Ez Z<|Ez Z<|Ez Z<|Et Z<|Em Z<|Ez Z<|Ez Z<|Ez Z<|Et Z<|Em Z<|Ez Z<|Ez Z<|Ez Z<|Et Z<|Xa<|Sd<|⟨_, by exact R2, true, Z, Z, Z, H⟩
  ·intro m
   obtain ⟨m, H⟩ := If m H
   refine VF 0 Z<|Vl (Vi p0.kind) Z (Rb0 Z)<|Vc Z<|Ef Z<|Em Z<|?_
   refine Ee Z ?_ ?_
   ·intro n
    obtain ⟨n, H⟩ := It n H
    exact Ez Z<|Ez Z<|Ez Z<|Et Z<|Em Z<|Ez Z<|Ez Z<|Ez Z<|Et Z<|Xa<|Sd<|⟨_, by exact R2, true, Z, Z, Z, H⟩
   ·intro n
    obtain ⟨n, H⟩ := If n H
    refine VF 1 Z<|Vl (Vi p0.mode) Z (Rb0 Z)<|Vc Z<|Ef Z<|Em Z<|?_
    refine Ee Z ?_ ?_
    ·intro o
     obtain ⟨o, H⟩ := It o H
     exact Ez Z<|Ez Z<|Ez Z<|Et Z<|Xa<|Sd<|⟨_, by exact R2, true, Z, Z, Z, H⟩
    ·intro o
     obtain ⟨o, H⟩ := If o H
     exact VF 1 Z<|Vl (Vi p0.mode) Z (Rb0 Z)<|Vc Z<|Ef Z<|Xa<|Sd<|⟨_, by exact R2, (dcd (p0.mode > 2)), Z, Z, Z, H⟩
 rintro _ _ _ - ⟨B, rfl, rfl, rfl, H⟩
 unfold abz at H
 refine Xp Z ?_ ?_
 ·intro x
  have H := ift x H
  refine Xd<|W9<|Ea Z<|Xa<|Xy<|?_
  obtain l := X0 H
  subst c
  refine ⟨(.inl Z), [(Vi 2)], ⟨(Vi 2), _, Z, Z, Z⟩, ?_⟩
  exact Re0<|Sd<|⟨Z, Z⟩
 ·intro x
  have H := XX (btf x) H
  refine Xt<|Xd<|Xd<|W9<|EL 7 (Xb p0 b a) Z (Rb0 Z)<|?_
  obtain ⟨W, S, H⟩ := bnd H
  refine Xh Z (Ek Tryz.call74 Z (ai2 p0 b a W S _ _ A u) ?_)
  rintro _ w _ s ⟨rfl, rfl⟩
  refine Eq Z (YC Z)<|Xa<|?_
  refine Xp Z ?_ ?_
  ·intro i
   have i := Yw i
   have H := XX (btf i) H
   refine Xd<|W9<|Ea Z<|Xa<|Xy<|?_
   obtain l := X0 H
   subst c
   refine ⟨(.inl Z), [(Vi 2)], ⟨(Vi 2), _, Z, Z, Z⟩, ?_⟩
   exact Re0<|Sd<|⟨Z, Z⟩
  ·intro i
   have i := Yv i
   have H := ift i H
   refine Xt<|Xd<|?_
   refine XD (fun g f d => ∃ (C : Bool), [(1, (Vp e)), (34, (.bool C))] = g ∧ w = f ∧ (.blk e 70 (Xb p0 b a)) :: G = d ∧ aer p0 C = some c) ?_ ?_
   ·refine W9<|EF 5 Z<|El (sv b) Z (Rb0 Z)<|?_
    have O := A.mono s
    refine Eq Z (XN (T := XC) O Z Z)<|Ec Z<|Em Z<|?_
    refine Ee Z ?_ ?_
    ·intro p
     obtain ⟨p, H⟩ := It p H
     exact Ez Z<|Ez Z<|Ez Z<|Ez Z<|Et Z<|Xa<|Sd<|⟨_, by exact R2, true, Z, Z, Z, H⟩
    ·intro p
     obtain ⟨p, H⟩ := If p H
     refine VF 6 Z<|Vl (sv a) Z (Rb0 Z)<|?_
     have P := u.mono s
     exact Vq Z (XN (T := Ty.i64) P Z Z)<|Vc Z<|Ef Z<|Xa<|Sd<|⟨_, by exact R2, (dcd ((p0.draws.length : Int) > 6)), Z, Z, Z, H⟩
   rintro _ _ _ - ⟨C, rfl, rfl, rfl, H⟩
   unfold aer at H
   refine Xp Z ?_ ?_
   ·intro y
    have H := ift y H
    refine Xd<|W9<|Ea Z<|Xa<|Xy<|?_
    obtain l := X0 H
    subst c
    refine ⟨(.inl Z), [(Vi 3)], ⟨(Vi 3), _, Z, Z, Z⟩, ?_⟩
    exact Re0<|Sd<|⟨Z, Z⟩
   ·intro y
    have H := XX (btf y) H
    refine Xt ?_
    refine XD (fun g f d => [(1, (Vp e))] = g ∧ (.blk e 70 (Xb p0 b a)) :: G = d ∧ acI p0 = some c) ?_ ?_
    ·refine Xd<|W9<|Ea Z<|Xa<|XA<|?_
     refine XO (fun n202 g f d => ∃ (h : Int), [(1, (Vp e)), (3, (Vi h))] = g ∧ w = f ∧ (.blk e 70 (Xb p0 b a)) :: G = d ∧ lp1 (aeq p0) n202 h = some c) BIG ?_ ?_
     ·exact Sd ⟨_, by exact R2, 0, Z, Z, Z, H⟩
     rintro n202 _ _ _ - ⟨h, rfl, rfl, rfl, H⟩
     obtain ⟨ad, V, rfl, N, H⟩ := ZL H
     unfold aeq at H
     refine Xd<|Xd<|W9<|Em Z<|EF 6 Z<|El (sv a) Z (Rb0 Z)<|?_
     have t := u.mono s
     refine Eq Z (XN (T := Ty.i64) t Z Z)<|Ec Z<|Xa<|?_
     refine Xp Z ?_ ?_
     ·intro q
      obtain ⟨q, H⟩ := It q H
      refine Xt<|Xd<|XA<|?_
      refine XD (fun g f d => ∃ (D : Bool), [(1, (Vp e)), (3, (Vi h)), (56, (.bool D))] = g ∧ w = f ∧ (.blk e 70 (Xb p0 b a)) :: G = d ∧ acJ h p0 V D = some c) ?_ ?_
      ·refine W9<|EF 6 Z<|El (sv a) Z (Rb0 Z)<|Em Z<|?_
       obtain ⟨X, F, H⟩ := bnd H
       obtain ⟨_, rfl, L⟩ := Slr.at t F
       refine Eq Z (Qi (T := Ty.i64) t F Z)<|El (Vi X) Z (Rdc.k L Z)<|Ec Z<|Em Z<|?_
       refine Ee Z ?_ ?_
       ·intro r
        obtain ⟨r, H⟩ := It r H
        exact Ez Z<|Ez Z<|Ez Z<|Ez Z<|Ez Z<|Ez Z<|Ez Z<|Et Z<|Xa<|Sd<|⟨_, by exact R3, true, Z, Z, Z, H⟩
       ·intro r
        obtain ⟨r, H⟩ := If r H
        refine VF 6 Z<|Vl (sv a) Z (Rb0 Z)<|Vm Z<|?_
        obtain ⟨J, I, H⟩ := bnd H
        obtain ⟨_, rfl, M⟩ := Slr.at t I
        exact Vq Z (Qi (T := Ty.i64) t I Z)<|Vl (Vi J) Z (Rdc.k M Z)<|Vm Z<|Vc Z<|Ef Z<|Xa<|Sd<|⟨_, by exact R3, (dcd (J > h)), Z, Z, Z, H⟩
      rintro _ _ _ - ⟨D, rfl, rfl, rfl, H⟩
      unfold acJ at H
      refine Xp Z ?_ ?_
      ·intro z
       have H := ift z H
       refine Xd<|W9<|Ea Z<|Xa<|Xy<|?_
       obtain l := X0 H
       subst c
       refine ⟨(.inl Z), [(Vi 2)], ⟨(Vi 2), _, Z, Z, Z⟩, ?_⟩
       exact Re0<|Sd<|⟨Z, Z⟩
      ·intro z
       have H := XX (btf z) H
       exact Xt<|W9<|Em Z<|Er (wI (h + 1)) Z<|Ea Z<|Xa<|Sd<|⟨_, by exact R2, _, Nat.lt_succ_self _, (wI (h + 1)), Z, Z, Z, (N ▸ H)⟩
     ·intro q
      obtain ⟨q, H⟩ := If q H
      exact XS<|Sd<|⟨_, by exact R1, Z, Z, H⟩
    rintro _ aa _ E ⟨rfl, rfl, H⟩
    unfold acI at H
    refine Xd<|Xd<|W9<|EL 7 (Xb p0 b a) Z (Rb0 Z)<|?_
    obtain ⟨Y, U, H⟩ := bnd H
    have Q := (A.mono s).mono E
    have R := (u.mono s).mono E
    refine Xh Z (Ek Tryz.call75 Z (ai3 p0 b a Y U _ _ Q R) ?_)
    rintro _ ab _ ac ⟨rfl, rfl⟩
    refine Eq Z (YC Z)<|Xa<|?_
    refine Xp Z ?_ ?_
    ·intro j
     have j := Yw j
     have H := XX (btf j) H
     refine Xd<|W9<|Ea Z<|Xa<|Xy<|?_
     obtain l := X0 H
     subst c
     refine ⟨(.inl Z), [(Vi 5)], ⟨(Vi 5), _, Z, Z, Z⟩, ?_⟩
     exact Re0<|Sd<|⟨Z, Z⟩
    ·intro j
     have j := Yv j
     have H := ift j H
     refine Xt<|Xd<|W9<|Ea Z<|Xa<|Xy<|?_
     obtain l := X0 H
     subst c
     refine ⟨(.inl Z), [(Vi 0)], ⟨(Vi 0), _, Z, Z, Z⟩, ?_⟩
     exact Re0<|Sd<|⟨Z, Z⟩
theorem ai1 (p0 : Config) (c e : SV) (a : Int) (H : acF p0 = some a) (K : Kp) (G : List Ent) (i : Slr Ty.i64 K (sv c) p0.capacities) (z : Slr Ty.u64 K (sv e) p0.starts) :
  Fc Tryz.prog 41 #[(.agg (Xl p0 c e).toArray)] K (G) (fun v f b => v = (Vi a) ∧ G = b) := by
 refine XM Tryz.func41 Z Tryz.ntmps41 Tryz.results41 Z ?_
 unfold acF at H
 refine Xd<|W9<|?_
 refine Xh Z (X6 (cs := (Xl p0 c e)) Z Z Z (fun g => ?_))
 refine Ea Z<|Xa<|Xd<|Xd<|W9<|EF 0 Z<|El (sv c) Z (Rb0 Z)<|Eq Z (XN (T := Ty.i64) i Z Z)<|Ec Z<|Xa<|?_
 refine Xp Z ?_ ?_
 ·intro r
  obtain ⟨r, H⟩ := It r H
  refine Xd<|W9<|Ea Z<|Xa<|Xy<|?_
  obtain l := X0 H
  subst a
  refine ⟨(.inl Z), [(Vi 3)], ⟨(Vi 3), _, Z, Z, Z⟩, ?_⟩
  exact Re0<|Sd<|⟨Z, Z⟩
 ·intro r
  obtain ⟨r, H⟩ := If r H
  refine Xt<|Xd<|Xd<|W9<|EF 1 Z<|El (sv e) Z (Rb0 Z)<|Eq Z (XN (T := Ty.u64) z Z Z)<|EF 0 Z<|El (sv c) Z (Rb0 Z)<|Eq Z (XN (T := Ty.i64) i Z Z)<|Ec Z<|Xa<|?_
  refine Xp Z ?_ ?_
  ·intro h
   have h := Yn (Yw (h))
   have H := XX h H
   refine Xd<|W9<|Ea Z<|Xa<|Xy<|?_
   obtain l := X0 H
   subst a
   refine ⟨(.inl Z), [(Vi 5)], ⟨(Vi 5), _, Z, Z, Z⟩, ?_⟩
   exact Re0<|Sd<|⟨Z, Z⟩
  ·intro h
   have h := Yo (Yv (h))
   have H := ift h H
   refine Xt ?_
   refine XD (fun d f b => [(1, (Vp g))] = d ∧ (.blk g 30 (Xl p0 c e)) :: G = b ∧ acD p0 = some a) ?_ ?_
   ·refine Xd<|W9<|Ea Z<|Xa<|XA<|?_
    refine XO (fun n154 d f b => ∃ (j : Int), [(1, (Vp g)), (3, (Vi j))] = d ∧ K = f ∧ (.blk g 30 (Xl p0 c e)) :: G = b ∧ lp1 (acE p0) n154 j = some a) BIG ?_ ?_
    ·exact Sd ⟨_, by exact R2, 0, Z, Z, Z, H⟩
    rintro n154 _ _ _ - ⟨j, rfl, rfl, rfl, H⟩
    obtain ⟨V, P, rfl, N, H⟩ := ZL H
    unfold acE at H
    refine Xd<|Xd<|W9<|Em Z<|EF 0 Z<|El (sv c) Z (Rb0 Z)<|Eq Z (XN (T := Ty.i64) i Z Z)<|Ec Z<|Xa<|?_
    refine Xp Z ?_ ?_
    ·intro m
     obtain ⟨m, H⟩ := It m H
     refine Xt<|Xd<|XA<|?_
     refine XD (fun d f b => ∃ (x : Bool), [(1, (Vp g)), (3, (Vi j)), (36, (.bool x))] = d ∧ K = f ∧ (.blk g 30 (Xl p0 c e)) :: G = b ∧ aen j p0 P x = some a) ?_ ?_
     ·refine W9<|EF 0 Z<|El (sv c) Z (Rb0 Z)<|Em Z<|?_
      obtain ⟨Q, A, H⟩ := bnd H
      obtain ⟨_, rfl, J⟩ := Slr.at i A
      refine Eq Z (Qi (T := Ty.i64) i A Z)<|El (Vi Q) Z (Rdc.k J Z)<|Ec Z<|Em Z<|?_
      refine Ee Z ?_ ?_
      ·intro n
       obtain ⟨n, H⟩ := It n H
       exact Ez Z<|Ez Z<|Ez Z<|Ez Z<|Ez Z<|Ez Z<|Et Z<|Xa<|Sd<|⟨_, by exact R3, true, Z, Z, Z, H⟩
      ·intro n
       obtain ⟨n, H⟩ := If n H
       refine VF 0 Z<|Vl (sv c) Z (Rb0 Z)<|Vm Z<|?_
       obtain ⟨D, B, H⟩ := bnd H
       obtain ⟨_, rfl, L⟩ := Slr.at i B
       exact Vq Z (Qi (T := Ty.i64) i B Z)<|Vl (Vi D) Z (Rdc.k L Z)<|Vc Z<|Ef Z<|Xa<|Sd<|⟨_, by exact R3, (dcd (D > 16)), Z, Z, Z, H⟩
     rintro _ _ _ - ⟨x, rfl, rfl, rfl, H⟩
     unfold aen at H
     refine Xp Z ?_ ?_
     ·intro t
      have H := ift t H
      refine Xd<|W9<|Ea Z<|Xa<|Xy<|?_
      obtain l := X0 H
      subst a
      refine ⟨(.inl Z), [(Vi 2)], ⟨(Vi 2), _, Z, Z, Z⟩, ?_⟩
      exact Re0<|Sd<|⟨Z, Z⟩
     ·intro t
      have H := XX (btf t) H
      exact Xt<|W9<|Em Z<|Er (wI (j + 1)) Z<|Ea Z<|Xa<|Sd<|⟨_, by exact R2, _, Nat.lt_succ_self _, (wI (j + 1)), Z, Z, Z, (N ▸ H)⟩
    ·intro m
     obtain ⟨m, H⟩ := If m H
     exact XS<|Sd<|⟨_, by exact R1, Z, Z, H⟩
   rintro _ E _ I ⟨rfl, rfl, H⟩
   unfold acD at H
   refine XD (fun d f b => [(1, (Vp g))] = d ∧ (.blk g 30 (Xl p0 c e)) :: G = b ∧ acB p0 = some a) ?_ ?_
   ·refine Xd<|W9<|Ea Z<|Xa<|XA<|?_
    refine XO (fun n243 d f b => ∃ (s : Int), [(1, (Vp g)), (4, (Vi s))] = d ∧ E = f ∧ (.blk g 30 (Xl p0 c e)) :: G = b ∧ lp1 (acC p0) n243 s = some a) BIG ?_ ?_
    ·exact Sd ⟨_, by exact R2, 0, Z, Z, Z, H⟩
    rintro n243 _ _ _ - ⟨s, rfl, rfl, rfl, H⟩
    obtain ⟨W, U, rfl, O, H⟩ := ZL H
    unfold acC at H
    refine Xd<|Xd<|W9<|Em Z<|EF 1 Z<|El (sv e) Z (Rb0 Z)<|?_
    have w := z.mono I
    refine Eq Z (XN (T := Ty.u64) w Z Z)<|Ec Z<|Xa<|?_
    refine Xp Z ?_ ?_
    ·intro o
     obtain ⟨o, H⟩ := It o H
     refine Xt<|Xd<|XA<|Xd<|W9<|EF 1 Z<|El (sv e) Z (Rb0 Z)<|Em Z<|?_
     obtain ⟨R, C, H⟩ := bnd H
     obtain ⟨_, rfl, M⟩ := Slr.at w C
     refine Eq Z (Qi (T := Ty.u64) w C Z)<|El (.int .u64 R) Z (Rdc.k M Z)<|Ec Z<|Xa<|?_
     refine Xp Z ?_ ?_
     ·intro p
      obtain ⟨p, H⟩ := It p H
      refine Xd<|W9<|Ea Z<|Xa<|Xy<|?_
      obtain l := X0 H
      subst a
      refine ⟨(.inl Z), [(Vi 2)], ⟨(Vi 2), _, Z, Z, Z⟩, ?_⟩
      exact Re0<|Sd<|⟨Z, Z⟩
     ·intro p
      obtain ⟨p, H⟩ := If p H
      exact Xt<|W9<|Em Z<|Er (wI (s + 1)) Z<|Ea Z<|Xa<|Sd<|⟨_, by exact R2, _, Nat.lt_succ_self _, (wI (s + 1)), Z, Z, Z, (O ▸ H)⟩
    ·intro o
     obtain ⟨o, H⟩ := If o H
     exact XS<|Sd<|⟨_, by exact R1, Z, Z, H⟩
   rintro _ F _ S ⟨rfl, rfl, H⟩
   unfold acB at H
   refine Xd ?_
   refine XD (fun d f b => ∃ (y : Bool), [(57, (.bool y))] = d ∧ F = f ∧ G = b ∧ acA y = some a) ?_ ?_
   ·refine W9<|EF 2 Z<|El (Vi p0.threads) Z (Rb0 Z)<|Ec Z<|Em Z<|?_
    refine Ee Z ?_ ?_
    ·intro q
     obtain ⟨q, H⟩ := It q H
     exact Ez Z<|Ez Z<|Ez Z<|Et Z<|Xa<|Re0<|Sd<|⟨_, by exact R1, true, Z, Z, Z, H⟩
    ·intro q
     obtain ⟨q, H⟩ := If q H
     exact VF 2 Z<|Vl (Vi p0.threads) Z (Rb0 Z)<|Vc Z<|Ef Z<|Xa<|Re0<|Sd<|⟨_, by exact R1, (dcd (p0.threads > 8)), Z, Z, Z, H⟩
   rintro _ _ _ - ⟨y, rfl, rfl, rfl, H⟩
   unfold acA at H
   refine Xp Z ?_ ?_
   ·intro u
    have H := ift u H
    refine Xd<|W9<|Ea Z<|Xa<|Xy<|?_
    obtain l := X0 H
    subst a
    refine ⟨(.inl Z), [(Vi 2)], ⟨(Vi 2), _, Z, Z, Z⟩, ?_⟩
    exact Sd ⟨Z, Z⟩
   ·intro u
    have H := XX (btf u) H
    refine Xt<|Xd<|W9<|Ea Z<|Xa<|Xy<|?_
    obtain l := X0 H
    subst a
    refine ⟨(.inl Z), [(Vi 0)], ⟨(Vi 0), _, Z, Z, Z⟩, ?_⟩
    exact Sd ⟨Z, Z⟩
theorem afG (p0 : Script) (h i : SV) (c e : SV) (a : Int) (H : adW p0 = some a) (K : Kp) (G : List Ent) (au : Slr Ty.i64 K (sv h) p0.cnfg.capacities) (av : Slr Ty.u64 K (sv i) p0.cnfg.starts) (aw : Slr (Ty.sl Xf) K (sv c) p0.ops) (ax : Slr Ty.i64 K (sv e) p0.picks) :
  Fc Tryz.prog 20 #[(.agg (Xc p0 h i c e).toArray)] K (G) (fun v j b => v = (Vi a) ∧ G = b) := by
 refine XM Tryz.func20 Z Tryz.ntmps20 Tryz.results20 Z ?_
 unfold adW at H
 refine Xd<|W9<|?_
 refine Xh Z (X6 (cs := (Xc p0 h i c e)) Z Z Z (fun g => ?_))
 refine Ea Z<|Xa<|Xd<|Xd<|W9<|EF 0 Z<|EL 3 (Xl p0.cnfg h i) Z (Rb0 Z)<|?_
 obtain ⟨F, aG, H⟩ := bnd H
 refine Xh Z (Ek Tryz.call41 Z (ai1 p0.cnfg h i F aG _ _ au av) ?_)
 rintro _ aM _ M ⟨rfl, rfl⟩
 refine Ea Z<|Xa<|Xd<|W9<|Em Z<|Ec Z<|Xa<|?_
 refine Xp Z ?_ ?_
 ·intro n
  have n := Yn (Yw (n))
  have H := XX n H
  refine Xd<|W9<|Em Z<|Ea Z<|Xa<|Xy<|?_
  obtain s := X0 H
  subst a
  refine ⟨(.inl Z), [(Vi F)], ⟨(Vi F), _, Z, Z, Z⟩, ?_⟩
  exact Re0<|Sd<|⟨Z, Z⟩
 ·intro n
  have n := Yo (Yv (n))
  have H := ift n H
  refine Xt<|Xd<|Xd<|W9<|EF 3 Z<|El (sv c) Z (Rb0 Z)<|?_
  have O := aw.mono M
  refine Eq Z (XN (T := (Ty.sl Xf)) O Z Z)<|EF 0 Z<|EF 2 Z<|El (Vi p0.cnfg.threads) Z (Rb0 Z)<|Ec Z<|Xa<|?_
  refine Xp Z ?_ ?_
  ·intro o
   have o := Yn (Yw (o))
   have H := XX o H
   refine Xd<|W9<|Ea Z<|Xa<|Xy<|?_
   obtain s := X0 H
   subst a
   refine ⟨(.inl Z), [(Vi 5)], ⟨(Vi 5), _, Z, Z, Z⟩, ?_⟩
   exact Re0<|Sd<|⟨Z, Z⟩
  ·intro o
   have o := Yo (Yv (o))
   have H := ift o H
   refine Xt ?_
   refine XD (fun f j b => [(1, (Vp g))] = f ∧ (.blk g 33 (Xc p0 h i c e)) :: G = b ∧ acM p0 = some a) ?_ ?_
   ·refine Xd<|W9<|Ea Z<|Xa<|XA<|?_
    refine XO (fun X f j b => ∃ (l : Int), [(1, (Vp g)), (4, (Vi l))] = f ∧ (.blk g 33 (Xc p0 h i c e)) :: G = b ∧ lp1 (acO p0) X l = some a) BIG ?_ ?_
    ·exact Sd ⟨_, by exact R2, 0, Z, Z, H⟩
    rintro X _ aN _ af ⟨l, rfl, rfl, H⟩
    obtain ⟨aW, W, rfl, ap, H⟩ := ZL H
    unfold acO at H
    refine Xd<|Xd<|W9<|Em Z<|EF 3 Z<|El (sv c) Z (Rb0 Z)<|?_
    have A := O.mono af
    refine Eq Z (XN (T := (Ty.sl Xf)) A Z Z)<|Ec Z<|Xa<|?_
    refine Xp Z ?_ ?_
    ·intro t
     obtain ⟨t, H⟩ := It t H
     refine Xt ?_
     refine XD (fun f j b => [(1, (Vp g)), (4, (Vi l))] = f ∧ (.blk g 33 (Xc p0 h i c e)) :: G = b ∧ aff l p0 W = some a) ?_ ?_
     ·refine XA<|Xd<|Xd<|W9<|EF 3 Z<|El (sv c) Z (Rb0 Z)<|Em Z<|?_
      obtain ⟨a3, Q, H⟩ := bnd H
      obtain ⟨aZ, ay, ai⟩ := Slr.at A Q
      obtain ⟨aJ, rfl, aC⟩ := ay
      refine Eq Z (Qi (T := (Ty.sl Xf)) A Q Z)<|El (sv aJ) Z (Rdc.k ai Z)<|Eq Z (XN (T := Xf) aC Z Z)<|Ec Z<|Xa<|?_
      refine Xp Z ?_ ?_
      ·intro u
       obtain ⟨u, H⟩ := It u H
       refine Xd<|W9<|Ea Z<|Xa<|Xy<|?_
       obtain s := X0 H
       subst a
       refine ⟨(.inl Z), [(Vi 3)], ⟨(Vi 3), _, Z, Z, Z⟩, ?_⟩
       exact Re0<|Sd<|⟨Z, Z⟩
      ·intro u
       obtain ⟨u, H⟩ := If u H
       refine Xt<|Xd<|W9<|Ea Z<|Xa<|XA<|?_
       refine XO (fun Y f j b => ∃ (z : Int), [(1, (Vp g)), (4, (Vi l)), (5, (Vi z))] = f ∧ (.blk g 33 (Xc p0 h i c e)) :: G = b ∧ lp1 (acN l p0 W) Y z = some a) BIG ?_ ?_
       ·exact Sd ⟨_, by exact R3, 0, Z, Z, H⟩
       rintro Y _ aO _ ag ⟨z, rfl, rfl, H⟩
       obtain ⟨aX, aV, rfl, aq, H⟩ := ZL H
       unfold acN at H
       refine Xd<|Xd<|W9<|Em Z<|EF 3 Z<|El (sv c) Z (Rb0 Z)<|Em Z<|?_
       obtain ⟨a4, R, H⟩ := bnd H
       have B := A.mono ag
       obtain ⟨a0, az, aj⟩ := Slr.at B R
       obtain ⟨aK, rfl, aD⟩ := az
       refine Eq Z (Qi (T := (Ty.sl Xf)) B R Z)<|El (sv aK) Z (Rdc.k aj Z)<|Eq Z (XN (T := Xf) aD Z Z)<|Ec Z<|Xa<|?_
       refine Xp Z ?_ ?_
       ·intro w
        obtain ⟨w, H⟩ := It w H
        refine Xt<|Xd<|XA<|Xd<|W9<|EF 3 Z<|El (sv c) Z (Rb0 Z)<|Em Z<|?_
        obtain ⟨a5, S, H⟩ := bnd H
        obtain ⟨a1, aA, ak⟩ := Slr.at B S
        obtain ⟨aL, rfl, P⟩ := aA
        refine Eq Z (Qi (T := (Ty.sl Xf)) B S Z)<|El (sv aL) Z (Rdc.k ak Z)<|Em Z<|?_
        obtain ⟨ad, U, H⟩ := bnd H
        obtain ⟨a2, aB, al⟩ := Slr.at P U
        obtain ⟨ab, ac, rfl, aE, aF⟩ := aB
        refine Eq Z (Qi (T := Xf) P U Z)<|EL 7 (Xb ad ab ac) Z (Rdc.k al Z)<|?_
        obtain ⟨I, aH, H⟩ := bnd H
        refine Xh Z (Ek Tryz.call42 Z (ai4 ad ab ac I aH _ _ aE aF) ?_)
        rintro _ aP _ aS ⟨rfl, rfl⟩
        refine Ea Z<|Xa<|Xd<|W9<|Em Z<|Ec Z<|Xa<|?_
        refine Xp Z ?_ ?_
        ·intro p
         have p := Yn (Yw (p))
         have H := XX p H
         refine Xd<|W9<|Em Z<|Ea Z<|Xa<|Xy<|?_
         obtain s := X0 H
         subst a
         refine ⟨(.inl Z), [(Vi I)], ⟨(Vi I), _, Z, Z, Z⟩, ?_⟩
         exact Re0<|Sd<|⟨Z, Z⟩
        ·intro p
         have p := Yo (Yv (p))
         have H := ift p H
         exact Xt<|W9<|Em Z<|Er (wI (z + 1)) Z<|Ea Z<|Xa<|Sd<|⟨_, by exact R3, _, Nat.lt_succ_self _, (wI (z + 1)), Z, Z, (aq ▸ H)⟩
       ·intro w
        obtain ⟨w, H⟩ := If w H
        exact XS<|Sd<|⟨_, by exact R2, Z, Z, H⟩
     rintro _ aQ _ aT ⟨rfl, rfl, H⟩
     unfold aff at H
     exact W9<|Em Z<|Er (wI (l + 1)) Z<|Ea Z<|Xa<|Sd<|⟨_, by exact R2, _, Nat.lt_succ_self _, (wI (l + 1)), Z, Z, (ap ▸ H)⟩
    ·intro t
     obtain ⟨t, H⟩ := If t H
     exact XS<|Sd<|⟨_, by exact R1, Z, Z, H⟩
   rintro _ L _ ah ⟨rfl, rfl, H⟩
   unfold acM at H
   refine Xd<|Xd<|W9<|EF 4 Z<|El (sv e) Z (Rb0 Z)<|?_
   have m := (ax.mono M).mono ah
   refine Eq Z (XN (T := Ty.i64) m Z Z)<|Ec Z<|Xa<|?_
   refine Xp Z ?_ ?_
   ·intro x
    obtain ⟨x, H⟩ := It x H
    refine Xd<|W9<|Ea Z<|Xa<|Xy<|?_
    obtain s := X0 H
    subst a
    refine ⟨(.inl Z), [(Vi 3)], ⟨(Vi 3), _, Z, Z, Z⟩, ?_⟩
    exact Re0<|Sd<|⟨Z, Z⟩
   ·intro x
    obtain ⟨x, H⟩ := If x H
    refine Xt ?_
    refine XD (fun f j b => [] = f ∧ G = b ∧ afe = some a) ?_ ?_
    ·refine Xd<|W9<|Ea Z<|Xa<|XA<|?_
     refine XO (fun aa f j b => ∃ (r : Int), [(1, (Vp g)), (7, (Vi r))] = f ∧ L = j ∧ (.blk g 33 (Xc p0 h i c e)) :: G = b ∧ lp1 (acL p0) aa r = some a) BIG ?_ ?_
     ·exact Sd ⟨_, by exact R2, 0, Z, Z, Z, H⟩
     rintro aa _ _ _ - ⟨r, rfl, rfl, rfl, H⟩
     obtain ⟨aY, aI, rfl, ar, H⟩ := ZL H
     unfold acL at H
     refine Xd<|Xd<|W9<|Em Z<|EF 4 Z<|El (sv e) Z (Rb0 Z)<|Eq Z (XN (T := Ty.i64) m Z Z)<|Ec Z<|Xa<|?_
     refine Xp Z ?_ ?_
     ·intro y
      obtain ⟨y, H⟩ := It y H
      refine Xt<|Xd<|XA<|?_
      refine XD (fun f j b => ∃ (E : Bool), [(1, (Vp g)), (7, (Vi r)), (84, (.bool E))] = f ∧ L = j ∧ (.blk g 33 (Xc p0 h i c e)) :: G = b ∧ aes r p0 aI E = some a) ?_ ?_
      ·obtain ⟨J, C, H⟩ := bnd H
       rcases ahC (dcd (J < (-1099511627776))) with N | N <;> revert N
       ·intro q
        obtain ⟨q, H⟩ := It q H
        refine XH _ Z (Ic Mb0 In0)<|JF 0 4 Z<|Jl 1 (sv e) Z (Rb0 Z)<|Jm 2 Z<|?_
        obtain ⟨_, rfl, am⟩ := Slr.at m C
        exact Jq 3 Z (Qi (T := Ty.i64) m C Z)<|Jl 4 (Vi J) Z (Rdc.k am Z)<|Jc 5 Z<|Jm 6 Z<|Aw.known (d := 74) Z (ahH q)<|Jz 7 Z<|Jz 8 Z<|Jz 9 Z<|Jz 10 Z<|Jz 11 Z<|Jz 12 Z<|Jz 13 Z<|Jz 14 Z<|Jz 15 Z<|Jt 16 Z<|Ad<|Sd<|⟨_, by exact R3, true, Z, Z, Z, H⟩
       ·intro q
        obtain ⟨q, H⟩ := If q H
        obtain ⟨ae, V, H⟩ := bnd H
        refine XH _ Z (Ic Mb0 In0)<|JF 0 4 Z<|Jl 1 (sv e) Z (Rb0 Z)<|Jm 2 Z<|?_
        obtain ⟨_, rfl, an⟩ := Slr.at m C
        refine Jq 3 Z (Qi (T := Ty.i64) m C Z)<|Jl 4 (Vi J) Z (Rdc.k an Z)<|Jc 5 Z<|Jm 6 Z<|Aw.known (d := 74) Z (ahG q)<|BF 7 4 Z<|Bl 8 (sv e) Z (Rb0 Z)<|Bm 9 Z<|?_
        obtain ⟨_, rfl, ao⟩ := Slr.at m V
        exact Bq 10 Z (Qi (T := Ty.i64) m V Z)<|Bl 11 (Vi ae) Z (Rdc.k ao Z)<|BF 12 0 Z<|BF 13 2 Z<|Bl 14 (Vi p0.cnfg.threads) Z (Rb0 Z)<|Bc 15 Z<|Jf 16 Z<|Ad<|Sd<|⟨_, by exact R3, (dcd (ae ≥ p0.cnfg.threads)), Z, Z, Z, H⟩
      rintro _ _ _ - ⟨E, rfl, rfl, rfl, H⟩
      unfold aes at H
      refine Xp Z ?_ ?_
      ·intro D
       have H := ift D H
       refine Xd<|W9<|Ea Z<|Xa<|Xy<|?_
       obtain s := X0 H
       subst a
       refine ⟨(.inl Z), [(Vi 2)], ⟨(Vi 2), _, Z, Z, Z⟩, ?_⟩
       exact Re0<|Sd<|⟨Z, Z⟩
      ·intro D
       have H := XX (btf D) H
       exact Xt<|W9<|Em Z<|Er (wI (r + 1)) Z<|Ea Z<|Xa<|Sd<|⟨_, by exact R2, _, Nat.lt_succ_self _, (wI (r + 1)), Z, Z, Z, (ar ▸ H)⟩
     ·intro y
      obtain ⟨y, H⟩ := If y H
      exact XS<|Re0<|Sd<|⟨[], trivial, Z, Z, H⟩
    rintro _ aR _ aU ⟨rfl, rfl, H⟩
    unfold afe at H
    refine Xd<|W9<|Ea Z<|Xa<|Xy<|?_
    obtain s := X0 H
    subst a
    refine ⟨(.inl Z), [(Vi 0)], ⟨(Vi 0), _, Z, Z, Z⟩, ?_⟩
    exact Sd ⟨Z, Z⟩
theorem ajh (p0 : Script) (h i : SV) (j k : SV) (p1 : ab3) (L : SV) (r : Bool) (H : afB p0 p1 = some r) (K : Kp) (G : List Ent) (aC : Slr Ty.i64 K (sv h) p0.cnfg.capacities) (aD : Slr Ty.u64 K (sv i) p0.cnfg.starts) (aE : Slr (Ty.sl Xf) K (sv j) p0.ops) (aF : Slr Ty.i64 K (sv k) p0.picks) (aG : Slr Ty.u8 K (sv L) p1) (hT : TabK K) :
  Fc Tryz.prog 5 #[(.agg (Xc p0 h i j k).toArray), (sv L)] K (G) (fun v K' G' => v = (.bool r) ∧ G = G') := by
 refine XM Tryz.func5 Z Tryz.ntmps5 Tryz.results5 Z ?_
 unfold afB at H
 refine Xd<|W9<|?_
 refine Xh Z (X6 (cs := (Xc p0 h i j k)) Z Z Z (fun bv => ?_))
 refine Ea Z<|Xa<|Xd<|Xd<|W9<|?_
 obtain ⟨bb, a3, H⟩ := bnd H
 refine Xh Z (Ek Tryz.call8 Z (ai0  bb a3 _ _ hT) ?_)
 rintro _ bh _ t ⟨rfl, rfl⟩
 refine Eq Z (YC Z)<|Xa<|?_
 refine Xp Z ?_ ?_
 ·intro n
  have n := Yw n
  have H := XX (btf n) H
  refine Xd<|W9<|Ea Z<|Xa<|Xy<|?_
  obtain B := X0 H
  subst r
  refine ⟨(.inl Z), [(.bool false)], ⟨(.bool false), _, Z, Z, Z⟩, ?_⟩
  exact Re0<|Sd<|⟨Z, Z⟩
 ·intro n
  have n := Yv n
  have H := ift n H
  refine Xt<|Xd<|Xd<|W9<|EL 5 (Xc p0 h i j k) Z (Rb0 Z)<|?_
  obtain ⟨bc, a4, H⟩ := bnd H
  have U := aC.mono t
  have V := aD.mono t
  have W := aE.mono t
  have X := aF.mono t
  refine Xh Z (Ek Tryz.call17 Z (aja p0 h i j k bc a4 _ _ U V W X) ?_)
  rintro _ bi _ u ⟨rfl, rfl⟩
  refine Xa ?_
  refine Xp Z ?_ ?_
  ·intro I
   have H := ift I H
   refine Xd<|W9<|Ea Z<|Xa<|Xy<|?_
   obtain B := X0 H
   subst r
   refine ⟨(.inl Z), [(.bool true)], ⟨(.bool true), _, Z, Z, Z⟩, ?_⟩
   exact Re0<|Sd<|⟨Z, Z⟩
  ·intro I
   have H := XX (btf I) H
   refine Xt<|Xd<|W9<|Em Z<|?_
   obtain ⟨M, a5, H⟩ := bnd H
   have aH := (aG.mono t).mono u
   refine Xh Z (Ek Tryz.call10 Z (ai5 p1 L 200 M a5 _ _ aH) ?_)
   rintro _ _ _ - ⟨R, ay, rfl, rfl, rfl, Y⟩
   refine Ea Z<|Xa<|Xd<|W9<|Em Z<|?_
   obtain ⟨s, az, aA, a6, H⟩ := YD H
   refine Xh Z (Ek Tryz.call11 Z (ai9 R M ay 8 s az aA a6 _ _ Y) ?_)
   rintro _ bj _ w ⟨x, y, z, bB, A, rfl, rfl, aI, aJ, aK, aL⟩
   refine Xh Z (XP (cs := (Xc (Script.mk (Config.mk [] [] 0) [] []) Xo Xo Xo Xo)) Z Z Z Z (fun bw => ?_))
   refine Xh Z (Sa (Xc s x y z A) Z .here Z ?_)
   refine Xa<|Xd<|Xd<|W9<|EL 5 (Xc s x y z A) Z (Rb0 Z)<|?_
   refine Ow.shift (Shift.settle (T := (Ty.sl Xf)) (.there (.there (.there (.there .here)))) aK Z (fun bk l aa => Sd ?_))
   obtain ⟨bd, a7, H⟩ := bnd H
   have ab := aI.mono l
   have ac := aJ.mono l
   have ad := aL.mono l
   refine Xh Z (Ek Tryz.call18 Z (abc s x y z A bd a7 _ _ ab ac aa ad) ?_)
   rintro _ bl _ b ⟨rfl, rfl⟩
   refine Ec Z<|Xa<|?_
   refine Xp Z ?_ ?_
   ·intro o
    have o := Yn (Yw (o))
    have H := XX o H
    refine Xd<|W9<|Ea Z<|Xa<|Xy<|?_
    obtain B := X0 H
    subst r
    refine ⟨(.inl Z), [(.bool false)], ⟨(.bool false), _, Z, Z, Z⟩, ?_⟩
    exact Re0<|Re0<|Re0<|Re0<|Re0<|Re0<|Re0<|Sd<|⟨Z, Z⟩
   ·intro o
    have o := Yo (Yv (o))
    have H := ift o H
    refine Xt<|Xd<|W9<|Em Z<|EL 5 (Xc s x y z A) Z (Rb0 Z)<|?_
    obtain ⟨a, be, bf, a8, H⟩ := YD H
    refine Ow.shift (Pu1 (Sd ?_))
    have aM := ((Y.mono w).mono l).mono b
    have aN := ab.mono b
    have aO := ac.mono b
    have aP := aa.mono b
    have aQ := ad.mono b
    refine Xh Z (Ek Tryz.call19 Z (ajb R (W8.mk M.list az aA) ay s x y z A a be bf a8 _ _ aM aN aO aP aQ) ?_)
    rintro _ bm _ C ⟨c, e, f, bC, g, rfl, rfl, ae, af, ag, ah⟩
    refine Xh Z (XP (cs := (Xc (Script.mk (Config.mk [] [] 0) [] []) Xo Xo Xo Xo)) Z Z Z Z (fun bx => ?_))
    refine Xh Z (Sa (Xc a c e f g) Z .here Z ?_)
    refine Xa<|Xd<|?_
    obtain ⟨N, aw, H⟩ := bnd H
    obtain ⟨O, ax, H⟩ := bnd H
    rcases ahC (dcd (N = O)) with S | S <;> revert S
    ·intro p
     obtain ⟨p, H⟩ := It p H
     obtain ⟨P, a9, H⟩ := bnd H
     obtain ⟨Q, ba, H⟩ := bnd H
     refine XH _ Z (Ic Mb0 (Ic Mb1 (Ic Mb3 (Ic Mb4 (Ic Mb5 (Ic Mb6 (Ic Mb7 (Ic Mb8 In0))))))))<|JL 0 5 (Xc a c e f g) Z (Rb0 Z)<|JL 2 5 (Xc a c e f g) Z (Rb0 Z)<|?_
     refine Ao 1 Z ?_
     refine OpW.shift (Shift.settle (T := (Ty.sl Xf)) (.there (.there .here)) ag Z (fun bn q ai => Sd ?_))
     have aj := ae.mono q
     have ak := af.mono q
     have al := ah.mono q
     refine Ek Tryz.call18 Z (abc a c e f g N aw _ _ aj ak ai al) ?_
     rintro _ bo _ m ⟨rfl, rfl⟩
     refine ⟨(Ic Mb0 (Ic Mb1 (Ic Mb3 (Ic Mb4 (Ic Mb5 (Ic Mb6 (Ic Mb7 (Ic Mb8 In0)))))))), ?_⟩
     refine Ao 3 Z ?_
     have aR := aj.mono m
     have aS := ak.mono m
     have aT := ai.mono m
     have aU := al.mono m
     refine Ek Tryz.call20 Z (afG a c e f g O ax _ _ aR aS aT aU) ?_
     rintro _ bp _ D ⟨rfl, rfl⟩
     refine ⟨(Ic Mb0 (Ic Mb1 (Ic Mb3 (Ic Mb4 (Ic Mb5 (Ic Mb6 (Ic Mb7 (Ic Mb8 In0)))))))), ?_⟩
     refine Jc 4 Z<|Jm 5 Z<|Aw.known (d := 27) Z (ahH p)<|BL 6 5 (Xc p0 h i j k) Z (Rb7 Z)<|BL 8 5 (Xc p0 h i j k) Z (Rb7 Z)<|?_
     refine Xk 7 (by kernel_rfl) (aiE Z Z Z Z Z ?_)
     have am := (((((((U.mono u).mono w).mono l).mono b).mono C).mono q).mono m).mono D
     have an := (((((((V.mono u).mono w).mono l).mono b).mono C).mono q).mono m).mono D
     have ao := (((((((W.mono u).mono w).mono l).mono b).mono C).mono q).mono m).mono D
     have ap := (((((((X.mono u).mono w).mono l).mono b).mono C).mono q).mono m).mono D
     refine Ek Tryz.call18 Z (abc p0 h i j k P a9 _ _ am an ao ap) ?_
     rintro _ bq _ E ⟨rfl, rfl⟩
     refine ⟨(Ic Mb0 (Ic Mb1 (Ic Mb3 (Ic Mb4 (Ic Mb5 (Ic Mb6 (Ic Mb7 (Ic Mb8 In0)))))))), ?_⟩
     refine Xk 9 (by kernel_rfl) (aiE Z Z Z Z Z ?_)
     have aV := am.mono E
     have aW := an.mono E
     have aX := ao.mono E
     have aY := ap.mono E
     refine Ek Tryz.call20 Z (afG p0 h i j k Q ba _ _ aV aW aX aY) ?_
     rintro _ br _ bz ⟨rfl, rfl⟩
     refine ⟨(Ic Mb0 (Ic Mb1 (Ic Mb3 (Ic Mb4 (Ic Mb5 (Ic Mb6 (Ic Mb7 (Ic Mb8 In0)))))))), ?_⟩
     refine Bc 10 Z<|Jt 11 Z<|Ja 12 Z<|Ad<|Xy<|?_
     obtain B := X0 H
     subst r
     refine ⟨(.inl Z), [(.bool (dcd (P = Q)))], ⟨(.bool (dcd (P = Q))), _, Z, Z, Z⟩, ?_⟩
     exact Re0<|Re0<|Re0<|Re0<|Re0<|Re0<|Re0<|Re0<|Re0<|Sd<|⟨Z, Z⟩
    ·intro p
     obtain ⟨p, H⟩ := If p H
     refine XH _ Z (Ic Mb0 (Ic Mb1 (Ic Mb3 (Ic Mb4 (Ic Mb5 (Ic Mb6 (Ic Mb7 (Ic Mb8 In0))))))))<|JL 0 5 (Xc a c e f g) Z (Rb0 Z)<|JL 2 5 (Xc a c e f g) Z (Rb0 Z)<|?_
     refine Ao 1 Z ?_
     refine OpW.shift (Shift.settle (T := (Ty.sl Xf)) (.there (.there .here)) ag Z (fun bs J aq => Sd ?_))
     have ar := ae.mono J
     have au := af.mono J
     have av := ah.mono J
     refine Ek Tryz.call18 Z (abc a c e f g N aw _ _ ar au aq av) ?_
     rintro _ bt _ F ⟨rfl, rfl⟩
     refine ⟨(Ic Mb0 (Ic Mb1 (Ic Mb3 (Ic Mb4 (Ic Mb5 (Ic Mb6 (Ic Mb7 (Ic Mb8 In0)))))))), ?_⟩
     refine Ao 3 Z ?_
     have aZ := ar.mono F
     have a0 := au.mono F
     have a1 := aq.mono F
     have a2 := av.mono F
     refine Ek Tryz.call20 Z (afG a c e f g O ax _ _ aZ a0 a1 a2) ?_
     rintro _ bu _ bA ⟨rfl, rfl⟩
     refine ⟨(Ic Mb0 (Ic Mb1 (Ic Mb3 (Ic Mb4 (Ic Mb5 (Ic Mb6 (Ic Mb7 (Ic Mb8 In0)))))))), ?_⟩
     refine Jc 4 Z<|Jm 5 Z<|Aw.known (d := 27) Z (ahG p)<|Jz 6 Z<|Jz 7 Z<|Jz 8 Z<|Jz 9 Z<|Jz 10 Z<|Jf 11 Z<|Ja 12 Z<|Ad<|Xy<|?_
     obtain B := X0 H
     subst r
     refine ⟨(.inl Z), [(.bool false)], ⟨(.bool false), _, Z, Z, Z⟩, ?_⟩
     exact Re0<|Re0<|Re0<|Re0<|Re0<|Re0<|Re0<|Re0<|Re0<|Sd<|⟨Z, Z⟩
end Go.Hx
