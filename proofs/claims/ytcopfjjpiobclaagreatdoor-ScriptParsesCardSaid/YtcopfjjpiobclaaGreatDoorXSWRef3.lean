
import Derived.Test.YtcopfjjpiobclaaGreatDoorXSM
import Derived.Test.YtcopfjjpiobclaaGreatDoorXSWRef203
import Derived.Test.YtcopfjjpiobclaaGreatDoorXSWDraw
import Derived.Test.YtcopfjjpiobclaaGreatDoorXSWScript2
set_option linter.unusedVariables false
set_option linter.unusedSimpArgs false
namespace Go.Hx
open Go Go.Proofs
set_option maxRecDepth 10000
set_option maxHeartbeats 1000000
theorem ajb (p0 : Int) (b : Bool) (H : afj p0 = some b) (K : Kp) (G : List Ent)  :
  Fc Tryz.prog 90 #[(Vi p0)] K (G) (fun v d c => v = (.bool b) ∧ K = d ∧ G = c) := by
 refine Ey Tryz.func90 Z Tryz.ntmps90 Tryz.results90 Z ?_
 unfold afj at H
 refine DF<|Dz<|Ea Z<|DC<|DF<|Dz<|Em Z<|Ec Z<|Em Z<|?_
 refine Ee Z ?_ ?_
 ·intro a
  obtain ⟨a, H⟩ := It a H
  refine Vm Z<|Vc Z<|Et Z<|Ea Z<|DC<|D7<|?_
  obtain e := EJ H
  subst b
  refine ⟨(.inl Z), [(.bool (dcd (p0 < 8)))], ⟨(.bool (dcd (p0 < 8))), _, Z, Z, Z⟩, ?_⟩
  exact Sd ⟨Z, Z, Z⟩
 ·intro a
  obtain ⟨a, H⟩ := If a H
  refine Ez Z<|Ez Z<|Ef Z<|Ea Z<|DC<|D7<|?_
  obtain e := EJ H
  subst b
  refine ⟨(.inl Z), [(.bool false)], ⟨(.bool false), _, Z, Z, Z⟩, ?_⟩
  exact Sd ⟨Z, Z, Z⟩
theorem akO (p0 : Op) (e q : SV) (a : Bool) (H : MI p0 = some a) (K : Kp) (G : List Ent) (t : Slr Eu K (sv e) p0.cases) (J : Slr Ty.i64 K (sv q) p0.draws) :
  Fc Tryz.prog 74 #[(.agg (DG p0 e q).toArray)] K (G) (fun v f b => v = (.bool a) ∧ G = b) := by
 refine Ey Tryz.func74 Z Tryz.ntmps74 Tryz.results74 Z ?_
 unfold MI at H
 refine DF<|Dz<|?_
 refine DN Z (EU (cs := (DG p0 e q)) Z Z Z (fun r => ?_))
 refine Ea Z<|DC<|DF<|?_
 refine Ei (fun g f b => ∃ (u : Bool) (l m : Int) (n o p : Int), [(1, (Vp r)), (17, (.bool u))] = g ∧ K = f ∧ (.blk r 70 (DG (Op.mk l m n o p p0.cases p0.draws) e q)) :: G = b ∧ NC p0 u l m n o p = some a) ?_ ?_
 ·refine Dz<|EF 2 Z<|El (Vi p0.channel) Z (Rb0 Z)<|?_
  obtain ⟨E, C, H⟩ := bnd H
  refine DN Z (Ek Tryz.call90 Z (ajb p0.channel E C _ _ ) ?_)
  rintro _ _ _ - ⟨rfl, rfl, rfl⟩
  refine Eq Z (Fe Z)<|Em Z<|?_
  refine Ee Z ?_ ?_
  ·intro d
   have d := E5 d
   have H := ED (btf d) H
   exact Ez Z<|Ez Z<|Ez Z<|Et Z<|Em Z<|Ez Z<|Ez Z<|Ez Z<|Et Z<|DC<|Sd<|⟨_, by exact R2, true, p0.kind, p0.mode, p0.channel, p0.value, p0.deadline, Z, Z, Z, H⟩
  ·intro d
   have d := E4 d
   have H := ift d H
   refine VF 4 Z<|Vl (Vi p0.deadline) Z (Rb0 Z)<|Vc Z<|Ef Z<|Em Z<|?_
   refine Ee Z ?_ ?_
   ·intro i
    obtain ⟨i, H⟩ := It i H
    exact Ez Z<|Ez Z<|Ez Z<|Et Z<|DC<|Sd<|⟨_, by exact R2, true, p0.kind, p0.mode, p0.channel, p0.value, p0.deadline, Z, Z, Z, H⟩
   ·intro i
    obtain ⟨i, H⟩ := If i H
    exact VF 4 Z<|Vl (Vi p0.deadline) Z (Rb0 Z)<|Vc Z<|Ef Z<|DC<|Sd<|⟨_, by exact R2, (dcd (p0.deadline > 1099511627776)), p0.kind, p0.mode, p0.channel, p0.value, p0.deadline, Z, Z, Z, H⟩
 rintro _ _ _ - ⟨u, l, m, n, o, p, rfl, rfl, rfl, H⟩
 unfold NC at H
 refine DX Z ?_ ?_
 ·intro s
  have H := ift s H
  refine DF<|Dz<|Ea Z<|DC<|D7<|?_
  obtain w := EJ H
  subst a
  refine ⟨(.inl Z), [(.bool false)], ⟨(.bool false), _, Z, Z, Z⟩, ?_⟩
  exact Re0<|Sd<|⟨Z, Z⟩
 ·intro s
  have H := ED (btf s) H
  refine D1 ?_
  refine Ei (fun g f b => [] = g ∧ G = b ∧ aid = some a) ?_ ?_
  ·refine DF<|Dz<|Ea Z<|DC<|D8<|?_
   refine EB (fun n120 g f b => ∃ (j : Int), [(1, (Vp r)), (3, (Vi j))] = g ∧ K = f ∧ (.blk r 70 (DG (Op.mk l m n o p p0.cases p0.draws) e q)) :: G = b ∧ lp1 (afZ l m n o p p0) n120 j = some a) BIG ?_ ?_
   ·exact Sd ⟨_, by exact R2, 0, Z, Z, Z, H⟩
   rintro n120 _ _ _ - ⟨j, rfl, rfl, rfl, H⟩
   obtain ⟨M, L, rfl, A, H⟩ := G6 H
   unfold afZ at H
   refine DF<|DF<|Dz<|Em Z<|EF 5 Z<|El (sv e) Z (Rb0 Z)<|Eq Z (EA (T := Eu) t Z Z)<|Ec Z<|DC<|?_
   refine DX Z ?_ ?_
   ·intro h
    obtain ⟨h, H⟩ := It h H
    refine D1<|DF<|D8<|DF<|Dz<|EF 5 Z<|El (sv e) Z (Rb0 Z)<|Em Z<|?_
    obtain ⟨y, x, H⟩ := bnd H
    obtain ⟨_, rfl, z⟩ := Slr.at t x
    refine Eq Z (Qi (T := Eu) t x Z)<|EF 1 Z<|El (Vi y.channel) Z (Rdc.k z Z)<|?_
    obtain ⟨D, B, H⟩ := bnd H
    refine DN Z (Ek Tryz.call90 Z (ajb y.channel D B _ _ ) ?_)
    rintro _ _ _ - ⟨rfl, rfl, rfl⟩
    refine Eq Z (Fe Z)<|DC<|?_
    refine DX Z ?_ ?_
    ·intro c
     have c := E5 c
     have H := ED (btf c) H
     refine DF<|Dz<|Ea Z<|DC<|D7<|?_
     obtain w := EJ H
     subst a
     refine ⟨(.inl Z), [(.bool false)], ⟨(.bool false), _, Z, Z, Z⟩, ?_⟩
     exact Re0<|Sd<|⟨Z, Z⟩
    ·intro c
     have c := E4 c
     have H := ift c H
     exact D1<|Dz<|Em Z<|Er (wI (j + 1)) Z<|Ea Z<|DC<|Sd<|⟨_, by exact R2, _, Nat.lt_succ_self _, (wI (j + 1)), Z, Z, Z, (A ▸ H)⟩
   ·intro h
    obtain ⟨h, H⟩ := If h H
    exact EE<|Re0<|Sd<|⟨[], trivial, Z, Z, H⟩
  rintro _ F _ I ⟨rfl, rfl, H⟩
  unfold aid at H
  refine DF<|Dz<|Ea Z<|DC<|D7<|?_
  obtain w := EJ H
  subst a
  refine ⟨(.inl Z), [(.bool true)], ⟨(.bool true), _, Z, Z, Z⟩, ?_⟩
  exact Sd ⟨Z, Z⟩
theorem akP (p0 : Op) (e g : SV) (b : Bool) (H : MJ p0 = some b) (K : Kp) (G : List Ent) (p : Slr Eu K (sv e) p0.cases) (L : Slr Ty.i64 K (sv g) p0.draws) :
  Fc Tryz.prog 75 #[(.agg (DG p0 e g).toArray)] K (G) (fun v c a => v = (.bool b) ∧ G = a) := by
 refine Ey Tryz.func75 Z Tryz.ntmps75 Tryz.results75 Z ?_
 unfold MJ at H
 refine DF<|Dz<|?_
 refine DN Z (EU (cs := (DG p0 e g)) Z Z Z (fun f => ?_))
 refine Ea Z<|DC<|?_
 refine Ei (fun d c a => ∃ (J : Bool), [(1, (Vp f)), (3, (.bool J))] = d ∧ K = c ∧ (.blk f 70 (DG p0 e g)) :: G = a ∧ NF p0 J = some b) ?_ ?_
 ·refine Dz<|EF 0 Z<|El (Vi p0.kind) Z (Rb0 Z)<|Ec Z<|Em Z<|?_
  refine Ee Z ?_ ?_
  ·intro w
   obtain ⟨w, H⟩ := It w H
   exact Ez Z<|Ez Z<|Ez Z<|Et Z<|Em Z<|Ez Z<|Ez Z<|Ez Z<|Et Z<|Ea Z<|DC<|Sd<|⟨_, by exact R2, true, Z, Z, Z, H⟩
  ·intro w
   obtain ⟨w, H⟩ := If w H
   refine VF 0 Z<|Vl (Vi p0.kind) Z (Rb0 Z)<|Vc Z<|Ef Z<|Em Z<|?_
   refine Ee Z ?_ ?_
   ·intro x
    obtain ⟨x, H⟩ := It x H
    exact Ez Z<|Ez Z<|Ez Z<|Et Z<|Ea Z<|DC<|Sd<|⟨_, by exact R2, true, Z, Z, Z, H⟩
   ·intro x
    obtain ⟨x, H⟩ := If x H
    exact VF 0 Z<|Vl (Vi p0.kind) Z (Rb0 Z)<|Vc Z<|Ef Z<|Ea Z<|DC<|Sd<|⟨_, by exact R2, (dcd (p0.kind = 6)), Z, Z, Z, H⟩
 rintro _ _ _ - ⟨J, rfl, rfl, rfl, H⟩
 unfold NF at H
 refine DF ?_
 refine Ei (fun d c a => ∃ (E : Bool), [(1, (Vp f)), (33, (.bool E))] = d ∧ K = c ∧ (.blk f 70 (DG p0 e g)) :: G = a ∧ I3 p0 E = some b) ?_ ?_
 ·refine Dz<|Em Z<|Em Z<|?_
  refine Ee Z ?_ ?_
  ·intro A
   have H := ift A H
   refine VF 1 Z<|Vl (Vi p0.mode) Z (Rb0 Z)<|Vc Z<|Et Z<|Em Z<|?_
   refine Ee Z ?_ ?_
   ·intro h
    have h := EY (E5 (h))
    have H := ED h H
    exact Ez Z<|Ez Z<|Ez Z<|Ez Z<|Fo Z Z Z Z rfl<|Fo Z Z Z Z rfl<|Fo Z Z Z Z rfl<|Ez Z<|Et Z<|DC<|Sd<|⟨_, by exact R2, true, Z, Z, Z, H⟩
   ·intro h
    have h := EZ (E4 (h))
    have H := ift h H
    refine VF 4 Z<|Vl (Vi p0.deadline) Z (Rb0 Z)<|Vc Z<|Vm Z<|?_
    refine Ee Z ?_ ?_
    ·intro i
     have i := EY (E5 (i))
     have H := ED i H
     exact VF 1 Z<|Vl (Vi p0.mode) Z (Rb0 Z)<|Vc Z<|Vt Z<|Ef Z<|DC<|Sd<|⟨_, by exact R2, (!(dcd (p0.mode = 2))), Z, Z, Z, H⟩
    ·intro i
     have i := EZ (E4 (i))
     have H := ift i H
     exact Ez Z<|Ez Z<|Ez Z<|Vf Z<|Ef Z<|DC<|Sd<|⟨_, by exact R2, false, Z, Z, Z, H⟩
  ·intro A
   have H := ED (btf A) H
   refine Ez Z<|Ez Z<|Ez Z<|Ef Z<|Em Z<|VF 4 Z<|Vl (Vi p0.deadline) Z (Rb0 Z)<|Vc Z<|Vm Z<|?_
   refine Ee Z ?_ ?_
   ·intro j
    have j := EY (E5 (j))
    have H := ED j H
    exact VF 1 Z<|Vl (Vi p0.mode) Z (Rb0 Z)<|Vc Z<|Vt Z<|Ef Z<|DC<|Sd<|⟨_, by exact R2, (!(dcd (p0.mode = 2))), Z, Z, Z, H⟩
   ·intro j
    have j := EZ (E4 (j))
    have H := ift j H
    exact Ez Z<|Ez Z<|Ez Z<|Vf Z<|Ef Z<|DC<|Sd<|⟨_, by exact R2, false, Z, Z, Z, H⟩
 rintro _ _ _ - ⟨E, rfl, rfl, rfl, H⟩
 unfold I3 at H
 refine DX Z ?_ ?_
 ·intro B
  have H := ift B H
  refine DF<|Dz<|Ea Z<|DC<|D7<|?_
  obtain z := EJ H
  subst b
  refine ⟨(.inl Z), [(.bool false)], ⟨(.bool false), _, Z, Z, Z⟩, ?_⟩
  exact Re0<|Sd<|⟨Z, Z⟩
 ·intro B
  have H := ED (btf B) H
  refine D1<|DF<|DF<|Dz<|EF 0 Z<|El (Vi p0.kind) Z (Rb0 Z)<|Ec Z<|DC<|?_
  refine DX Z ?_ ?_
  ·intro l
   have l := EY (E5 (l))
   have H := ED l H
   refine Ei (fun d c a => ∃ (y : Bool), [(2, (.bool y))] = d ∧ K = c ∧ G = a ∧ ND y = some b) ?_ ?_
   ·refine Dz<|EF 5 Z<|El (sv e) Z (Rb0 Z)<|Eq Z (EA (T := Eu) p Z Z)<|Ec Z<|Em Z<|?_
    refine Ee Z ?_ ?_
    ·intro r
     obtain ⟨r, H⟩ := It r H
     refine VF 6 Z<|Vl (sv g) Z (Rb0 Z)<|Vq Z (EA (T := Ty.i64) L Z Z)<|Vc Z<|Et Z<|Em Z<|?_
     refine Ee Z ?_ ?_
     ·intro s
      obtain ⟨s, H⟩ := It s H
      refine VF 0 Z<|Vl (Vi p0.kind) Z (Rb0 Z)<|Vc Z<|Vm Z<|?_
      refine Ee Z ?_ ?_
      ·intro t
       obtain ⟨t, H⟩ := It t H
       exact Ez Z<|Ez Z<|Ez Z<|Vt Z<|Et Z<|Ea Z<|DC<|Re0<|Sd<|⟨_, by exact R1, true, Z, Z, Z, H⟩
      ·intro t
       obtain ⟨t, H⟩ := If t H
       exact VF 3 Z<|Vl (.int .u64 p0.value) Z (Rb0 Z)<|Vc Z<|Vf Z<|Et Z<|Ea Z<|DC<|Re0<|Sd<|⟨_, by exact R1, (dcd (p0.value = 0)), Z, Z, Z, H⟩
     ·intro s
      obtain ⟨s, H⟩ := If s H
      exact Ez Z<|Ez Z<|Ez Z<|Ez Z<|Fo Z Z Z Z rfl<|Fo Z Z Z Z rfl<|Fo Z Z Z Z rfl<|Ez Z<|Ef Z<|Ea Z<|DC<|Re0<|Sd<|⟨_, by exact R1, false, Z, Z, Z, H⟩
    ·intro r
     obtain ⟨r, H⟩ := If r H
     exact Ez Z<|Ez Z<|Ez Z<|Ez Z<|Ef Z<|Em Z<|Ez Z<|Ez Z<|Ez Z<|Ez Z<|Fo Z Z Z Z rfl<|Fo Z Z Z Z rfl<|Fo Z Z Z Z rfl<|Ez Z<|Ef Z<|Ea Z<|DC<|Re0<|Sd<|⟨_, by exact R1, false, Z, Z, Z, H⟩
   rintro _ _ _ - ⟨y, rfl, rfl, rfl, H⟩
   unfold ND at H
   refine D7 ?_
   obtain z := EJ H
   subst b
   refine ⟨(.inl Z), [(.bool y)], ⟨(.bool y), _, Z, Z, Z⟩, ?_⟩
   exact Sd ⟨Z, Z⟩
  ·intro l
   have l := EZ (E4 (l))
   have H := ift l H
   refine D1<|DF<|?_
   refine Ei (fun d c a => ∃ (F : Bool), [(1, (Vp f)), (73, (.bool F))] = d ∧ K = c ∧ (.blk f 70 (DG p0 e g)) :: G = a ∧ NE p0 F = some b) ?_ ?_
   ·refine Dz<|EF 2 Z<|El (Vi p0.channel) Z (Rb0 Z)<|Ec Z<|Em Z<|?_
    refine Ee Z ?_ ?_
    ·intro m
     have m := EY (E5 (m))
     have H := ED m H
     exact Ez Z<|Ez Z<|Ez Z<|Et Z<|Em Z<|Ez Z<|Ez Z<|Ez Z<|Ez Z<|Ez Z<|Ez Z<|Ez Z<|Et Z<|DC<|Sd<|⟨_, by exact R2, true, Z, Z, Z, H⟩
    ·intro m
     have m := EZ (E4 (m))
     have H := ift m H
     refine VF 3 Z<|Vl (.int .u64 p0.value) Z (Rb0 Z)<|Vc Z<|Ef Z<|Em Z<|?_
     refine Ee Z ?_ ?_
     ·intro n
      have n := EY (E5 (n))
      have H := ED n H
      exact Ez Z<|Ez Z<|Ez Z<|Ez Z<|Ez Z<|Ez Z<|Ez Z<|Et Z<|DC<|Sd<|⟨_, by exact R2, true, Z, Z, Z, H⟩
     ·intro n
      have n := EZ (E4 (n))
      have H := ift n H
      exact VF 6 Z<|Vl (sv g) Z (Rb0 Z)<|Vq Z (EA (T := Ty.i64) L rfl rfl)<|VF 5 Z<|Vl (sv e) Z (Rb0 Z)<|Vq Z (EA (T := Eu) p rfl rfl)<|Vc Z<|Ef Z<|DC<|Sd<|⟨_, by exact R2, (!(dcd ((p0.draws.length : Int) = (p0.cases.length : Int)))), rfl, rfl, rfl, H⟩
   rintro _ _ _ - ⟨F, rfl, rfl, rfl, H⟩
   unfold NE at H
   refine DX Z ?_ ?_
   ·intro C
    have H := ift C H
    refine DF<|Dz<|Ea Z<|DC<|D7<|?_
    obtain z := EJ H
    subst b
    refine ⟨(.inl Z), [(.bool false)], ⟨(.bool false), _, Z, Z, Z⟩, ?_⟩
    exact Re0<|Sd<|⟨Z, Z⟩
   ·intro C
    have H := ED (btf C) H
    refine D1 ?_
    refine Ei (fun d c a => [] = d ∧ G = a ∧ aie = some b) ?_ ?_
    ·refine DF<|Dz<|Ea Z<|DC<|D8<|?_
     refine EB (fun n206 d c a => ∃ (q : Int), [(1, (Vp f)), (4, (Vi q))] = d ∧ K = c ∧ (.blk f 70 (DG p0 e g)) :: G = a ∧ lp1 (aga p0) n206 q = some b) BIG ?_ ?_
     ·exact Sd ⟨_, by exact R2, 0, Z, Z, Z, H⟩
     rintro n206 _ _ _ - ⟨q, rfl, rfl, rfl, H⟩
     obtain ⟨X, S, rfl, R, H⟩ := G6 H
     unfold aga at H
     refine DF<|DF<|Dz<|Em Z<|EF 5 Z<|El (sv e) Z (Rb0 Z)<|Eq Z (EA (T := Eu) p Z Z)<|Ec Z<|DC<|?_
     refine DX Z ?_ ?_
     ·intro u
      obtain ⟨u, H⟩ := It u H
      refine D1<|DF<|D8<|?_
      refine Ei (fun d c a => ∃ (I : Bool), [(1, (Vp f)), (4, (Vi q)), (96, (.bool I))] = d ∧ K = c ∧ (.blk f 70 (DG p0 e g)) :: G = a ∧ JM q p0 S I = some b) ?_ ?_
      ·refine Dz<|EF 5 Z<|El (sv e) Z (Rb0 Z)<|Em Z<|?_
       obtain ⟨U, M, H⟩ := bnd H
       obtain ⟨_, rfl, P⟩ := Slr.at p M
       refine Eq Z (Qi (T := Eu) p M Z)<|EF 0 Z<|El (.bool U.send) Z (Rdc.k P Z)<|Eq Z (Fe Z)<|Em Z<|?_
       refine Ee Z ?_ ?_
       ·intro o
        have o := E5 o
        have H := ED (btf o) H
        refine VF 5 Z<|Vl (sv e) Z (Rb0 Z)<|Vm Z<|?_
        obtain ⟨O, N, H⟩ := bnd H
        obtain ⟨_, rfl, Q⟩ := Slr.at p N
        exact Vq Z (Qi (T := Eu) p N Z)<|VF 2 Z<|Vl (.int .u64 O.value) Z (Rdc.k Q Z)<|Vc Z<|Et Z<|DC<|Sd<|⟨_, by exact R3, (!(dcd (O.value = 0))), Z, Z, Z, H⟩
       ·intro o
        have o := E4 o
        have H := ift o H
        exact Ez Z<|Ez Z<|Ez Z<|Ez Z<|Ez Z<|Ez Z<|Ez Z<|Ef Z<|DC<|Sd<|⟨_, by exact R3, false, Z, Z, Z, H⟩
      rintro _ _ _ - ⟨I, rfl, rfl, rfl, H⟩
      unfold JM at H
      refine DX Z ?_ ?_
      ·intro D
       have H := ift D H
       refine DF<|Dz<|Ea Z<|DC<|D7<|?_
       obtain z := EJ H
       subst b
       refine ⟨(.inl Z), [(.bool false)], ⟨(.bool false), _, Z, Z, Z⟩, ?_⟩
       exact Re0<|Sd<|⟨Z, Z⟩
      ·intro D
       have H := ED (btf D) H
       exact D1<|Dz<|Em Z<|Er (wI (q + 1)) Z<|Ea Z<|DC<|Sd<|⟨_, by exact R2, _, Nat.lt_succ_self _, (wI (q + 1)), Z, Z, Z, (R ▸ H)⟩
     ·intro u
      obtain ⟨u, H⟩ := If u H
      exact EE<|Re0<|Sd<|⟨[], trivial, Z, Z, H⟩
    rintro _ V _ W ⟨rfl, rfl, H⟩
    unfold aie at H
    refine DF<|Dz<|Ea Z<|DC<|D7<|?_
    obtain z := EJ H
    subst b
    refine ⟨(.inl Z), [(.bool true)], ⟨(.bool true), _, Z, Z, Z⟩, ?_⟩
    exact Sd ⟨Z, Z⟩
theorem akQ (p0 : Op) (b a : SV) (c : Int) (H : MM p0 = some c) (K : Kp) (G : List Ent) (A : Slr Eu K (sv b) p0.cases) (u : Slr Ty.i64 K (sv a) p0.draws) :
  Fc Tryz.prog 42 #[(.agg (DG p0 b a).toArray)] K (G) (fun v f d => v = (Vi c) ∧ G = d) := by
 refine Ey Tryz.func42 Z Tryz.ntmps42 Tryz.results42 Z ?_
 unfold MM at H
 refine DF<|Dz<|?_
 refine DN Z (EU (cs := (DG p0 b a)) Z Z Z (fun e => ?_))
 refine Ea Z<|DC<|DF<|?_
 refine Ei (fun g f d => ∃ (B : Bool), [(1, (Vp e)), (21, (.bool B))] = g ∧ K = f ∧ (.blk e 70 (DG p0 b a)) :: G = d ∧ KQ p0 B = some c) ?_ ?_
 ·refine Dz<|EF 0 Z<|El (Vi p0.kind) Z (Rb0 Z)<|Ec Z<|Em Z<|?_
  refine Ee Z ?_ ?_
  ·intro m
   obtain ⟨m, H⟩ := It m H
   exact Ez Z<|Ez Z<|Ez Z<|Et Z<|Em Z<|Ez Z<|Ez Z<|Ez Z<|Et Z<|Em Z<|Ez Z<|Ez Z<|Ez Z<|Et Z<|DC<|Sd<|⟨_, by exact R2, true, Z, Z, Z, H⟩
  ·intro m
   obtain ⟨m, H⟩ := If m H
   refine VF 0 Z<|Vl (Vi p0.kind) Z (Rb0 Z)<|Vc Z<|Ef Z<|Em Z<|?_
   refine Ee Z ?_ ?_
   ·intro n
    obtain ⟨n, H⟩ := It n H
    exact Ez Z<|Ez Z<|Ez Z<|Et Z<|Em Z<|Ez Z<|Ez Z<|Ez Z<|Et Z<|DC<|Sd<|⟨_, by exact R2, true, Z, Z, Z, H⟩
   ·intro n
    obtain ⟨n, H⟩ := If n H
    refine VF 1 Z<|Vl (Vi p0.mode) Z (Rb0 Z)<|Vc Z<|Ef Z<|Em Z<|?_
    refine Ee Z ?_ ?_
    ·intro o
     obtain ⟨o, H⟩ := It o H
     exact Ez Z<|Ez Z<|Ez Z<|Et Z<|DC<|Sd<|⟨_, by exact R2, true, Z, Z, Z, H⟩
    ·intro o
     obtain ⟨o, H⟩ := If o H
     exact VF 1 Z<|Vl (Vi p0.mode) Z (Rb0 Z)<|Vc Z<|Ef Z<|DC<|Sd<|⟨_, by exact R2, (dcd (p0.mode > 2)), Z, Z, Z, H⟩
 rintro _ _ _ - ⟨B, rfl, rfl, rfl, H⟩
 unfold KQ at H
 refine DX Z ?_ ?_
 ·intro x
  have H := ift x H
  refine DF<|Dz<|Ea Z<|DC<|D7<|?_
  obtain l := EJ H
  subst c
  refine ⟨(.inl Z), [(Vi 2)], ⟨(Vi 2), _, Z, Z, Z⟩, ?_⟩
  exact Re0<|Sd<|⟨Z, Z⟩
 ·intro x
  have H := ED (btf x) H
  refine D1<|DF<|DF<|Dz<|EL 7 (DG p0 b a) Z (Rb0 Z)<|?_
  obtain ⟨W, S, H⟩ := bnd H
  refine DN Z (Ek Tryz.call74 Z (akO p0 b a W S _ _ A u) ?_)
  rintro _ w _ s ⟨rfl, rfl⟩
  refine Eq Z (Fe Z)<|DC<|?_
  refine DX Z ?_ ?_
  ·intro i
   have i := E5 i
   have H := ED (btf i) H
   refine DF<|Dz<|Ea Z<|DC<|D7<|?_
   obtain l := EJ H
   subst c
   refine ⟨(.inl Z), [(Vi 2)], ⟨(Vi 2), _, Z, Z, Z⟩, ?_⟩
   exact Re0<|Sd<|⟨Z, Z⟩
  ·intro i
   have i := E4 i
   have H := ift i H
   refine D1<|DF<|?_
   refine Ei (fun g f d => ∃ (C : Bool), [(1, (Vp e)), (34, (.bool C))] = g ∧ w = f ∧ (.blk e 70 (DG p0 b a)) :: G = d ∧ JP p0 C = some c) ?_ ?_
   ·refine Dz<|EF 5 Z<|El (sv b) Z (Rb0 Z)<|?_
    have O := A.mono s
    refine Eq Z (EA (T := Eu) O Z Z)<|Ec Z<|Em Z<|?_
    refine Ee Z ?_ ?_
    ·intro p
     obtain ⟨p, H⟩ := It p H
     exact Ez Z<|Ez Z<|Ez Z<|Ez Z<|Et Z<|DC<|Sd<|⟨_, by exact R2, true, Z, Z, Z, H⟩
    ·intro p
     obtain ⟨p, H⟩ := If p H
     refine VF 6 Z<|Vl (sv a) Z (Rb0 Z)<|?_
     have P := u.mono s
     exact Vq Z (EA (T := Ty.i64) P Z Z)<|Vc Z<|Ef Z<|DC<|Sd<|⟨_, by exact R2, (dcd ((p0.draws.length : Int) > 6)), Z, Z, Z, H⟩
   rintro _ _ _ - ⟨C, rfl, rfl, rfl, H⟩
   unfold JP at H
   refine DX Z ?_ ?_
   ·intro y
    have H := ift y H
    refine DF<|Dz<|Ea Z<|DC<|D7<|?_
    obtain l := EJ H
    subst c
    refine ⟨(.inl Z), [(Vi 3)], ⟨(Vi 3), _, Z, Z, Z⟩, ?_⟩
    exact Re0<|Sd<|⟨Z, Z⟩
   ·intro y
    have H := ED (btf y) H
    refine D1 ?_
    refine Ei (fun g f d => [(1, (Vp e))] = g ∧ (.blk e 70 (DG p0 b a)) :: G = d ∧ MK p0 = some c) ?_ ?_
    ·refine DF<|Dz<|Ea Z<|DC<|D8<|?_
     refine EB (fun n202 g f d => ∃ (h : Int), [(1, (Vp e)), (3, (Vi h))] = g ∧ w = f ∧ (.blk e 70 (DG p0 b a)) :: G = d ∧ lp1 (JO p0) n202 h = some c) BIG ?_ ?_
     ·exact Sd ⟨_, by exact R2, 0, Z, Z, Z, H⟩
     rintro n202 _ _ _ - ⟨h, rfl, rfl, rfl, H⟩
     obtain ⟨ad, V, rfl, N, H⟩ := G6 H
     unfold JO at H
     refine DF<|DF<|Dz<|Em Z<|EF 6 Z<|El (sv a) Z (Rb0 Z)<|?_
     have t := u.mono s
     refine Eq Z (EA (T := Ty.i64) t Z Z)<|Ec Z<|DC<|?_
     refine DX Z ?_ ?_
     ·intro q
      obtain ⟨q, H⟩ := It q H
      refine D1<|DF<|D8<|?_
      refine Ei (fun g f d => ∃ (D : Bool), [(1, (Vp e)), (3, (Vi h)), (56, (.bool D))] = g ∧ w = f ∧ (.blk e 70 (DG p0 b a)) :: G = d ∧ ML h p0 V D = some c) ?_ ?_
      ·refine Dz<|EF 6 Z<|El (sv a) Z (Rb0 Z)<|Em Z<|?_
       obtain ⟨X, F, H⟩ := bnd H
       obtain ⟨_, rfl, L⟩ := Slr.at t F
       refine Eq Z (Qi (T := Ty.i64) t F Z)<|El (Vi X) Z (Rdc.k L Z)<|Ec Z<|Em Z<|?_
       refine Ee Z ?_ ?_
       ·intro r
        obtain ⟨r, H⟩ := It r H
        exact Ez Z<|Ez Z<|Ez Z<|Ez Z<|Ez Z<|Ez Z<|Ez Z<|Et Z<|DC<|Sd<|⟨_, by exact R3, true, Z, Z, Z, H⟩
       ·intro r
        obtain ⟨r, H⟩ := If r H
        refine VF 6 Z<|Vl (sv a) Z (Rb0 Z)<|Vm Z<|?_
        obtain ⟨J, I, H⟩ := bnd H
        obtain ⟨_, rfl, M⟩ := Slr.at t I
        exact Vq Z (Qi (T := Ty.i64) t I Z)<|Vl (Vi J) Z (Rdc.k M Z)<|Vm Z<|Vc Z<|Ef Z<|DC<|Sd<|⟨_, by exact R3, (dcd (J > h)), Z, Z, Z, H⟩
      rintro _ _ _ - ⟨D, rfl, rfl, rfl, H⟩
      unfold ML at H
      refine DX Z ?_ ?_
      ·intro z
       have H := ift z H
       refine DF<|Dz<|Ea Z<|DC<|D7<|?_
       obtain l := EJ H
       subst c
       refine ⟨(.inl Z), [(Vi 2)], ⟨(Vi 2), _, Z, Z, Z⟩, ?_⟩
       exact Re0<|Sd<|⟨Z, Z⟩
      ·intro z
       have H := ED (btf z) H
       exact D1<|Dz<|Em Z<|Er (wI (h + 1)) Z<|Ea Z<|DC<|Sd<|⟨_, by exact R2, _, Nat.lt_succ_self _, (wI (h + 1)), Z, Z, Z, (N ▸ H)⟩
     ·intro q
      obtain ⟨q, H⟩ := If q H
      exact EE<|Sd<|⟨_, by exact R1, Z, Z, H⟩
    rintro _ aa _ E ⟨rfl, rfl, H⟩
    unfold MK at H
    refine DF<|DF<|Dz<|EL 7 (DG p0 b a) Z (Rb0 Z)<|?_
    obtain ⟨Y, U, H⟩ := bnd H
    have Q := (A.mono s).mono E
    have R := (u.mono s).mono E
    refine DN Z (Ek Tryz.call75 Z (akP p0 b a Y U _ _ Q R) ?_)
    rintro _ ab _ ac ⟨rfl, rfl⟩
    refine Eq Z (Fe Z)<|DC<|?_
    refine DX Z ?_ ?_
    ·intro j
     have j := E5 j
     have H := ED (btf j) H
     refine DF<|Dz<|Ea Z<|DC<|D7<|?_
     obtain l := EJ H
     subst c
     refine ⟨(.inl Z), [(Vi 5)], ⟨(Vi 5), _, Z, Z, Z⟩, ?_⟩
     exact Re0<|Sd<|⟨Z, Z⟩
    ·intro j
     have j := E4 j
     have H := ift j H
     refine D1<|DF<|Dz<|Ea Z<|DC<|D7<|?_
     obtain l := EJ H
     subst c
     refine ⟨(.inl Z), [(Vi 0)], ⟨(Vi 0), _, Z, Z, Z⟩, ?_⟩
     exact Re0<|Sd<|⟨Z, Z⟩
theorem akN (p0 : Config) (c e : SV) (a : Int) (H : MH p0 = some a) (K : Kp) (G : List Ent) (i : Slr Ty.i64 K (sv c) p0.capacities) (z : Slr Ty.u64 K (sv e) p0.starts) :
  Fc Tryz.prog 41 #[(.agg (D9 p0 c e).toArray)] K (G) (fun v f b => v = (Vi a) ∧ G = b) := by
 refine Ey Tryz.func41 Z Tryz.ntmps41 Tryz.results41 Z ?_
 unfold MH at H
 refine DF<|Dz<|?_
 refine DN Z (EU (cs := (D9 p0 c e)) Z Z Z (fun g => ?_))
 refine Ea Z<|DC<|DF<|DF<|Dz<|EF 0 Z<|El (sv c) Z (Rb0 Z)<|Eq Z (EA (T := Ty.i64) i Z Z)<|Ec Z<|DC<|?_
 refine DX Z ?_ ?_
 ·intro r
  obtain ⟨r, H⟩ := It r H
  refine DF<|Dz<|Ea Z<|DC<|D7<|?_
  obtain l := EJ H
  subst a
  refine ⟨(.inl Z), [(Vi 3)], ⟨(Vi 3), _, Z, Z, Z⟩, ?_⟩
  exact Re0<|Sd<|⟨Z, Z⟩
 ·intro r
  obtain ⟨r, H⟩ := If r H
  refine D1<|DF<|DF<|Dz<|EF 1 Z<|El (sv e) Z (Rb0 Z)<|Eq Z (EA (T := Ty.u64) z Z Z)<|EF 0 Z<|El (sv c) Z (Rb0 Z)<|Eq Z (EA (T := Ty.i64) i Z Z)<|Ec Z<|DC<|?_
  refine DX Z ?_ ?_
  ·intro h
   have h := EY (E5 (h))
   have H := ED h H
   refine DF<|Dz<|Ea Z<|DC<|D7<|?_
   obtain l := EJ H
   subst a
   refine ⟨(.inl Z), [(Vi 5)], ⟨(Vi 5), _, Z, Z, Z⟩, ?_⟩
   exact Re0<|Sd<|⟨Z, Z⟩
  ·intro h
   have h := EZ (E4 (h))
   have H := ift h H
   refine D1 ?_
   refine Ei (fun d f b => [(1, (Vp g))] = d ∧ (.blk g 30 (D9 p0 c e)) :: G = b ∧ MF p0 = some a) ?_ ?_
   ·refine DF<|Dz<|Ea Z<|DC<|D8<|?_
    refine EB (fun n154 d f b => ∃ (j : Int), [(1, (Vp g)), (3, (Vi j))] = d ∧ K = f ∧ (.blk g 30 (D9 p0 c e)) :: G = b ∧ lp1 (MG p0) n154 j = some a) BIG ?_ ?_
    ·exact Sd ⟨_, by exact R2, 0, Z, Z, Z, H⟩
    rintro n154 _ _ _ - ⟨j, rfl, rfl, rfl, H⟩
    obtain ⟨V, P, rfl, N, H⟩ := G6 H
    unfold MG at H
    refine DF<|DF<|Dz<|Em Z<|EF 0 Z<|El (sv c) Z (Rb0 Z)<|Eq Z (EA (T := Ty.i64) i Z Z)<|Ec Z<|DC<|?_
    refine DX Z ?_ ?_
    ·intro m
     obtain ⟨m, H⟩ := It m H
     refine D1<|DF<|D8<|?_
     refine Ei (fun d f b => ∃ (x : Bool), [(1, (Vp g)), (3, (Vi j)), (36, (.bool x))] = d ∧ K = f ∧ (.blk g 30 (D9 p0 c e)) :: G = b ∧ afi j p0 P x = some a) ?_ ?_
     ·refine Dz<|EF 0 Z<|El (sv c) Z (Rb0 Z)<|Em Z<|?_
      obtain ⟨Q, A, H⟩ := bnd H
      obtain ⟨_, rfl, J⟩ := Slr.at i A
      refine Eq Z (Qi (T := Ty.i64) i A Z)<|El (Vi Q) Z (Rdc.k J Z)<|Ec Z<|Em Z<|?_
      refine Ee Z ?_ ?_
      ·intro n
       obtain ⟨n, H⟩ := It n H
       exact Ez Z<|Ez Z<|Ez Z<|Ez Z<|Ez Z<|Ez Z<|Et Z<|DC<|Sd<|⟨_, by exact R3, true, Z, Z, Z, H⟩
      ·intro n
       obtain ⟨n, H⟩ := If n H
       refine VF 0 Z<|Vl (sv c) Z (Rb0 Z)<|Vm Z<|?_
       obtain ⟨D, B, H⟩ := bnd H
       obtain ⟨_, rfl, L⟩ := Slr.at i B
       exact Vq Z (Qi (T := Ty.i64) i B Z)<|Vl (Vi D) Z (Rdc.k L Z)<|Vc Z<|Ef Z<|DC<|Sd<|⟨_, by exact R3, (dcd (D > 16)), Z, Z, Z, H⟩
     rintro _ _ _ - ⟨x, rfl, rfl, rfl, H⟩
     unfold afi at H
     refine DX Z ?_ ?_
     ·intro t
      have H := ift t H
      refine DF<|Dz<|Ea Z<|DC<|D7<|?_
      obtain l := EJ H
      subst a
      refine ⟨(.inl Z), [(Vi 2)], ⟨(Vi 2), _, Z, Z, Z⟩, ?_⟩
      exact Re0<|Sd<|⟨Z, Z⟩
     ·intro t
      have H := ED (btf t) H
      exact D1<|Dz<|Em Z<|Er (wI (j + 1)) Z<|Ea Z<|DC<|Sd<|⟨_, by exact R2, _, Nat.lt_succ_self _, (wI (j + 1)), Z, Z, Z, (N ▸ H)⟩
    ·intro m
     obtain ⟨m, H⟩ := If m H
     exact EE<|Sd<|⟨_, by exact R1, Z, Z, H⟩
   rintro _ E _ I ⟨rfl, rfl, H⟩
   unfold MF at H
   refine Ei (fun d f b => [(1, (Vp g))] = d ∧ (.blk g 30 (D9 p0 c e)) :: G = b ∧ MD p0 = some a) ?_ ?_
   ·refine DF<|Dz<|Ea Z<|DC<|D8<|?_
    refine EB (fun n243 d f b => ∃ (s : Int), [(1, (Vp g)), (4, (Vi s))] = d ∧ E = f ∧ (.blk g 30 (D9 p0 c e)) :: G = b ∧ lp1 (ME p0) n243 s = some a) BIG ?_ ?_
    ·exact Sd ⟨_, by exact R2, 0, Z, Z, Z, H⟩
    rintro n243 _ _ _ - ⟨s, rfl, rfl, rfl, H⟩
    obtain ⟨W, U, rfl, O, H⟩ := G6 H
    unfold ME at H
    refine DF<|DF<|Dz<|Em Z<|EF 1 Z<|El (sv e) Z (Rb0 Z)<|?_
    have w := z.mono I
    refine Eq Z (EA (T := Ty.u64) w Z Z)<|Ec Z<|DC<|?_
    refine DX Z ?_ ?_
    ·intro o
     obtain ⟨o, H⟩ := It o H
     refine D1<|DF<|D8<|DF<|Dz<|EF 1 Z<|El (sv e) Z (Rb0 Z)<|Em Z<|?_
     obtain ⟨R, C, H⟩ := bnd H
     obtain ⟨_, rfl, M⟩ := Slr.at w C
     refine Eq Z (Qi (T := Ty.u64) w C Z)<|El (.int .u64 R) Z (Rdc.k M Z)<|Ec Z<|DC<|?_
     refine DX Z ?_ ?_
     ·intro p
      obtain ⟨p, H⟩ := It p H
      refine DF<|Dz<|Ea Z<|DC<|D7<|?_
      obtain l := EJ H
      subst a
      refine ⟨(.inl Z), [(Vi 2)], ⟨(Vi 2), _, Z, Z, Z⟩, ?_⟩
      exact Re0<|Sd<|⟨Z, Z⟩
     ·intro p
      obtain ⟨p, H⟩ := If p H
      exact D1<|Dz<|Em Z<|Er (wI (s + 1)) Z<|Ea Z<|DC<|Sd<|⟨_, by exact R2, _, Nat.lt_succ_self _, (wI (s + 1)), Z, Z, Z, (O ▸ H)⟩
    ·intro o
     obtain ⟨o, H⟩ := If o H
     exact EE<|Sd<|⟨_, by exact R1, Z, Z, H⟩
   rintro _ F _ S ⟨rfl, rfl, H⟩
   unfold MD at H
   refine DF ?_
   refine Ei (fun d f b => ∃ (y : Bool), [(57, (.bool y))] = d ∧ F = f ∧ G = b ∧ MC y = some a) ?_ ?_
   ·refine Dz<|EF 2 Z<|El (Vi p0.threads) Z (Rb0 Z)<|Ec Z<|Em Z<|?_
    refine Ee Z ?_ ?_
    ·intro q
     obtain ⟨q, H⟩ := It q H
     exact Ez Z<|Ez Z<|Ez Z<|Et Z<|DC<|Re0<|Sd<|⟨_, by exact R1, true, Z, Z, Z, H⟩
    ·intro q
     obtain ⟨q, H⟩ := If q H
     exact VF 2 Z<|Vl (Vi p0.threads) Z (Rb0 Z)<|Vc Z<|Ef Z<|DC<|Re0<|Sd<|⟨_, by exact R1, (dcd (p0.threads > 8)), Z, Z, Z, H⟩
   rintro _ _ _ - ⟨y, rfl, rfl, rfl, H⟩
   unfold MC at H
   refine DX Z ?_ ?_
   ·intro u
    have H := ift u H
    refine DF<|Dz<|Ea Z<|DC<|D7<|?_
    obtain l := EJ H
    subst a
    refine ⟨(.inl Z), [(Vi 2)], ⟨(Vi 2), _, Z, Z, Z⟩, ?_⟩
    exact Sd ⟨Z, Z⟩
   ·intro u
    have H := ED (btf u) H
    refine D1<|DF<|Dz<|Ea Z<|DC<|D7<|?_
    obtain l := EJ H
    subst a
    refine ⟨(.inl Z), [(Vi 0)], ⟨(Vi 0), _, Z, Z, Z⟩, ?_⟩
    exact Sd ⟨Z, Z⟩
theorem akR (p0 : ae9) (l : SV) (p1 : ae9) (m : SV) (c : Bool) (H : MU p0 p1 = some c) (K : Kp) (G : List Ent) (g : Slr Ty.u64 K (sv l) p0) (j : Slr Ty.u64 K (sv m) p1) :
  Fc Tryz.prog 30 #[(sv l), (sv m)] K (G) (fun v h d => v = (.bool c) ∧ G = d) := by
 refine Ey Tryz.func30 Z Tryz.ntmps30 Tryz.results30 Z ?_
 unfold MU at H
 refine DF<|Dz<|Ea Z<|DC<|DF<|DF<|Dz<|Em Z<|Eq Z (EA (T := Ty.u64) g Z Z)<|Em Z<|Eq Z (EA (T := Ty.u64) j Z Z)<|Ec Z<|DC<|?_
 refine DX Z ?_ ?_
 ·intro b
  have b := EY (E5 (b))
  have H := ED b H
  refine DF<|Dz<|Ea Z<|DC<|D7<|?_
  obtain n := EJ H
  subst c
  refine ⟨(.inl Z), [(.bool false)], ⟨(.bool false), _, Z, Z, Z⟩, ?_⟩
  exact Sd ⟨Z, Z⟩
 ·intro b
  have b := EZ (E4 (b))
  have H := ift b H
  refine D1 ?_
  refine Ei (fun i h d => [] = i ∧ G = d ∧ aig = some c) ?_ ?_
  ·refine DF<|Dz<|Ea Z<|DC<|D8<|?_
   refine EB (fun n150 i h d => ∃ (f : Int), [(0, (sv l)), (1, (sv m)), (5, (Vi f))] = i ∧ K = h ∧ G = d ∧ lp1 (MS p0 p1) n150 f = some c) BIG ?_ ?_
   ·exact Sd ⟨_, by exact R3, 0, Z, Z, Z, H⟩
   rintro n150 _ _ _ - ⟨f, rfl, rfl, rfl, H⟩
   obtain ⟨z, y, rfl, s, H⟩ := G6 H
   unfold MS at H
   refine DF<|DF<|Dz<|Em Z<|Em Z<|Eq Z (EA (T := Ty.u64) g Z Z)<|Ec Z<|DC<|?_
   refine DX Z ?_ ?_
   ·intro e
    obtain ⟨e, H⟩ := It e H
    refine D1<|DF<|D8<|DF<|?_
    obtain ⟨t, o, H⟩ := bnd H
    obtain ⟨u, p, H⟩ := bnd H
    refine En _ Z In0<|Jm 0 Z<|Jm 1 Z<|?_
    obtain ⟨_, rfl, q⟩ := Slr.at g o
    refine Jq 2 Z (Qi (T := Ty.u64) g o Z)<|Jl 3 (.int .u64 t) Z (Rdc.k q Z)<|Jm 4 Z<|Jm 5 Z<|?_
    obtain ⟨_, rfl, r⟩ := Slr.at j p
    refine Jq 6 Z (Qi (T := Ty.u64) j p Z)<|Jl 7 (.int .u64 u) Z (Rdc.k r Z)<|Jc 8 Z<|Ad<|?_
    refine DX Z ?_ ?_
    ·intro a
     have a := EY (E5 (a))
     have H := ED a H
     refine DF<|Dz<|Ea Z<|DC<|D7<|?_
     obtain n := EJ H
     subst c
     refine ⟨(.inl Z), [(.bool false)], ⟨(.bool false), _, Z, Z, Z⟩, ?_⟩
     exact Sd ⟨Z, Z⟩
    ·intro a
     have a := EZ (E4 (a))
     have H := ift a H
     exact D1<|Dz<|Em Z<|Er (wI (f + 1)) Z<|Ea Z<|DC<|Sd<|⟨_, by exact R3, _, Nat.lt_succ_self _, (wI (f + 1)), Z, Z, Z, (s ▸ H)⟩
   ·intro e
    obtain ⟨e, H⟩ := If e H
    exact EE<|Sd<|⟨[], trivial, Z, Z, H⟩
  rintro _ w _ x ⟨rfl, rfl, H⟩
  unfold aig at H
  refine DF<|Dz<|Ea Z<|DC<|D7<|?_
  obtain n := EJ H
  subst c
  refine ⟨(.inl Z), [(.bool true)], ⟨(.bool true), _, Z, Z, Z⟩, ?_⟩
  exact Sd ⟨Z, Z⟩
theorem ai8 (p0 : Script) (h i : SV) (c e : SV) (a : Int) (H : Ot p0 = some a) (K : Kp) (G : List Ent) (au : Slr Ty.i64 K (sv h) p0.cnfg.capacities) (av : Slr Ty.u64 K (sv i) p0.cnfg.starts) (aw : Slr (Ty.sl DT) K (sv c) p0.ops) (ax : Slr Ty.i64 K (sv e) p0.picks) :
  Fc Tryz.prog 20 #[(.agg (DD p0 h i c e).toArray)] K (G) (fun v j b => v = (Vi a) ∧ G = b) := by
 refine Ey Tryz.func20 Z Tryz.ntmps20 Tryz.results20 Z ?_
 unfold Ot at H
 refine DF<|Dz<|?_
 refine DN Z (EU (cs := (DD p0 h i c e)) Z Z Z (fun g => ?_))
 refine Ea Z<|DC<|DF<|DF<|Dz<|EF 0 Z<|EL 3 (D9 p0.cnfg h i) Z (Rb0 Z)<|?_
 obtain ⟨F, aG, H⟩ := bnd H
 refine DN Z (Ek Tryz.call41 Z (akN p0.cnfg h i F aG _ _ au av) ?_)
 rintro _ aM _ M ⟨rfl, rfl⟩
 refine Ea Z<|DC<|DF<|Dz<|Em Z<|Ec Z<|DC<|?_
 refine DX Z ?_ ?_
 ·intro n
  have n := EY (E5 (n))
  have H := ED n H
  refine DF<|Dz<|Em Z<|Ea Z<|DC<|D7<|?_
  obtain s := EJ H
  subst a
  refine ⟨(.inl Z), [(Vi F)], ⟨(Vi F), _, Z, Z, Z⟩, ?_⟩
  exact Re0<|Sd<|⟨Z, Z⟩
 ·intro n
  have n := EZ (E4 (n))
  have H := ift n H
  refine D1<|DF<|DF<|Dz<|EF 3 Z<|El (sv c) Z (Rb0 Z)<|?_
  have O := aw.mono M
  refine Eq Z (EA (T := (Ty.sl DT)) O Z Z)<|EF 0 Z<|EF 2 Z<|El (Vi p0.cnfg.threads) Z (Rb0 Z)<|Ec Z<|DC<|?_
  refine DX Z ?_ ?_
  ·intro o
   have o := EY (E5 (o))
   have H := ED o H
   refine DF<|Dz<|Ea Z<|DC<|D7<|?_
   obtain s := EJ H
   subst a
   refine ⟨(.inl Z), [(Vi 5)], ⟨(Vi 5), _, Z, Z, Z⟩, ?_⟩
   exact Re0<|Sd<|⟨Z, Z⟩
  ·intro o
   have o := EZ (E4 (o))
   have H := ift o H
   refine D1 ?_
   refine Ei (fun f j b => [(1, (Vp g))] = f ∧ (.blk g 33 (DD p0 h i c e)) :: G = b ∧ MO p0 = some a) ?_ ?_
   ·refine DF<|Dz<|Ea Z<|DC<|D8<|?_
    refine EB (fun X f j b => ∃ (l : Int), [(1, (Vp g)), (4, (Vi l))] = f ∧ (.blk g 33 (DD p0 h i c e)) :: G = b ∧ lp1 (MQ p0) X l = some a) BIG ?_ ?_
    ·exact Sd ⟨_, by exact R2, 0, Z, Z, H⟩
    rintro X _ aN _ af ⟨l, rfl, rfl, H⟩
    obtain ⟨aW, W, rfl, ap, H⟩ := G6 H
    unfold MQ at H
    refine DF<|DF<|Dz<|Em Z<|EF 3 Z<|El (sv c) Z (Rb0 Z)<|?_
    have A := O.mono af
    refine Eq Z (EA (T := (Ty.sl DT)) A Z Z)<|Ec Z<|DC<|?_
    refine DX Z ?_ ?_
    ·intro t
     obtain ⟨t, H⟩ := It t H
     refine D1 ?_
     refine Ei (fun f j b => [(1, (Vp g)), (4, (Vi l))] = f ∧ (.blk g 33 (DD p0 h i c e)) :: G = b ∧ agc l p0 W = some a) ?_ ?_
     ·refine D8<|DF<|DF<|Dz<|EF 3 Z<|El (sv c) Z (Rb0 Z)<|Em Z<|?_
      obtain ⟨a3, Q, H⟩ := bnd H
      obtain ⟨aZ, ay, ai⟩ := Slr.at A Q
      obtain ⟨aJ, rfl, aC⟩ := ay
      refine Eq Z (Qi (T := (Ty.sl DT)) A Q Z)<|El (sv aJ) Z (Rdc.k ai Z)<|Eq Z (EA (T := DT) aC Z Z)<|Ec Z<|DC<|?_
      refine DX Z ?_ ?_
      ·intro u
       obtain ⟨u, H⟩ := It u H
       refine DF<|Dz<|Ea Z<|DC<|D7<|?_
       obtain s := EJ H
       subst a
       refine ⟨(.inl Z), [(Vi 3)], ⟨(Vi 3), _, Z, Z, Z⟩, ?_⟩
       exact Re0<|Sd<|⟨Z, Z⟩
      ·intro u
       obtain ⟨u, H⟩ := If u H
       refine D1<|DF<|Dz<|Ea Z<|DC<|D8<|?_
       refine EB (fun Y f j b => ∃ (z : Int), [(1, (Vp g)), (4, (Vi l)), (5, (Vi z))] = f ∧ (.blk g 33 (DD p0 h i c e)) :: G = b ∧ lp1 (MP l p0 W) Y z = some a) BIG ?_ ?_
       ·exact Sd ⟨_, by exact R3, 0, Z, Z, H⟩
       rintro Y _ aO _ ag ⟨z, rfl, rfl, H⟩
       obtain ⟨aX, aV, rfl, aq, H⟩ := G6 H
       unfold MP at H
       refine DF<|DF<|Dz<|Em Z<|EF 3 Z<|El (sv c) Z (Rb0 Z)<|Em Z<|?_
       obtain ⟨a4, R, H⟩ := bnd H
       have B := A.mono ag
       obtain ⟨a0, az, aj⟩ := Slr.at B R
       obtain ⟨aK, rfl, aD⟩ := az
       refine Eq Z (Qi (T := (Ty.sl DT)) B R Z)<|El (sv aK) Z (Rdc.k aj Z)<|Eq Z (EA (T := DT) aD Z Z)<|Ec Z<|DC<|?_
       refine DX Z ?_ ?_
       ·intro w
        obtain ⟨w, H⟩ := It w H
        refine D1<|DF<|D8<|DF<|Dz<|EF 3 Z<|El (sv c) Z (Rb0 Z)<|Em Z<|?_
        obtain ⟨a5, S, H⟩ := bnd H
        obtain ⟨a1, aA, ak⟩ := Slr.at B S
        obtain ⟨aL, rfl, P⟩ := aA
        refine Eq Z (Qi (T := (Ty.sl DT)) B S Z)<|El (sv aL) Z (Rdc.k ak Z)<|Em Z<|?_
        obtain ⟨ad, U, H⟩ := bnd H
        obtain ⟨a2, aB, al⟩ := Slr.at P U
        obtain ⟨ab, ac, rfl, aE, aF⟩ := aB
        refine Eq Z (Qi (T := DT) P U Z)<|EL 7 (DG ad ab ac) Z (Rdc.k al Z)<|?_
        obtain ⟨I, aH, H⟩ := bnd H
        refine DN Z (Ek Tryz.call42 Z (akQ ad ab ac I aH _ _ aE aF) ?_)
        rintro _ aP _ aS ⟨rfl, rfl⟩
        refine Ea Z<|DC<|DF<|Dz<|Em Z<|Ec Z<|DC<|?_
        refine DX Z ?_ ?_
        ·intro p
         have p := EY (E5 (p))
         have H := ED p H
         refine DF<|Dz<|Em Z<|Ea Z<|DC<|D7<|?_
         obtain s := EJ H
         subst a
         refine ⟨(.inl Z), [(Vi I)], ⟨(Vi I), _, Z, Z, Z⟩, ?_⟩
         exact Re0<|Sd<|⟨Z, Z⟩
        ·intro p
         have p := EZ (E4 (p))
         have H := ift p H
         exact D1<|Dz<|Em Z<|Er (wI (z + 1)) Z<|Ea Z<|DC<|Sd<|⟨_, by exact R3, _, Nat.lt_succ_self _, (wI (z + 1)), Z, Z, (aq ▸ H)⟩
       ·intro w
        obtain ⟨w, H⟩ := If w H
        exact EE<|Sd<|⟨_, by exact R2, Z, Z, H⟩
     rintro _ aQ _ aT ⟨rfl, rfl, H⟩
     unfold agc at H
     exact Dz<|Em Z<|Er (wI (l + 1)) Z<|Ea Z<|DC<|Sd<|⟨_, by exact R2, _, Nat.lt_succ_self _, (wI (l + 1)), Z, Z, (ap ▸ H)⟩
    ·intro t
     obtain ⟨t, H⟩ := If t H
     exact EE<|Sd<|⟨_, by exact R1, Z, Z, H⟩
   rintro _ L _ ah ⟨rfl, rfl, H⟩
   unfold MO at H
   refine DF<|DF<|Dz<|EF 4 Z<|El (sv e) Z (Rb0 Z)<|?_
   have m := (ax.mono M).mono ah
   refine Eq Z (EA (T := Ty.i64) m Z Z)<|Ec Z<|DC<|?_
   refine DX Z ?_ ?_
   ·intro x
    obtain ⟨x, H⟩ := It x H
    refine DF<|Dz<|Ea Z<|DC<|D7<|?_
    obtain s := EJ H
    subst a
    refine ⟨(.inl Z), [(Vi 3)], ⟨(Vi 3), _, Z, Z, Z⟩, ?_⟩
    exact Re0<|Sd<|⟨Z, Z⟩
   ·intro x
    obtain ⟨x, H⟩ := If x H
    refine D1 ?_
    refine Ei (fun f j b => [] = f ∧ G = b ∧ agb = some a) ?_ ?_
    ·refine DF<|Dz<|Ea Z<|DC<|D8<|?_
     refine EB (fun aa f j b => ∃ (r : Int), [(1, (Vp g)), (7, (Vi r))] = f ∧ L = j ∧ (.blk g 33 (DD p0 h i c e)) :: G = b ∧ lp1 (MN p0) aa r = some a) BIG ?_ ?_
     ·exact Sd ⟨_, by exact R2, 0, Z, Z, Z, H⟩
     rintro aa _ _ _ - ⟨r, rfl, rfl, rfl, H⟩
     obtain ⟨aY, aI, rfl, ar, H⟩ := G6 H
     unfold MN at H
     refine DF<|DF<|Dz<|Em Z<|EF 4 Z<|El (sv e) Z (Rb0 Z)<|Eq Z (EA (T := Ty.i64) m Z Z)<|Ec Z<|DC<|?_
     refine DX Z ?_ ?_
     ·intro y
      obtain ⟨y, H⟩ := It y H
      refine D1<|DF<|D8<|?_
      refine Ei (fun f j b => ∃ (E : Bool), [(1, (Vp g)), (7, (Vi r)), (84, (.bool E))] = f ∧ L = j ∧ (.blk g 33 (DD p0 h i c e)) :: G = b ∧ JQ r p0 aI E = some a) ?_ ?_
      ·obtain ⟨J, C, H⟩ := bnd H
       rcases GT (dcd (J < (-1099511627776))) with N | N <;> revert N
       ·intro q
        obtain ⟨q, H⟩ := It q H
        refine En _ Z (Ic Mb0 In0)<|JF 0 4 Z<|Jl 1 (sv e) Z (Rb0 Z)<|Jm 2 Z<|?_
        obtain ⟨_, rfl, am⟩ := Slr.at m C
        exact Jq 3 Z (Qi (T := Ty.i64) m C Z)<|Jl 4 (Vi J) Z (Rdc.k am Z)<|Jc 5 Z<|Jm 6 Z<|Aw.known (d := 74) Z (Gi q)<|Jz 7 Z<|Jz 8 Z<|Jz 9 Z<|Jz 10 Z<|Jz 11 Z<|Jz 12 Z<|Jz 13 Z<|Jz 14 Z<|Jz 15 Z<|Jt 16 Z<|Ad<|Sd<|⟨_, by exact R3, true, Z, Z, Z, H⟩
       ·intro q
        obtain ⟨q, H⟩ := If q H
        obtain ⟨ae, V, H⟩ := bnd H
        refine En _ Z (Ic Mb0 In0)<|JF 0 4 Z<|Jl 1 (sv e) Z (Rb0 Z)<|Jm 2 Z<|?_
        obtain ⟨_, rfl, an⟩ := Slr.at m C
        refine Jq 3 Z (Qi (T := Ty.i64) m C Z)<|Jl 4 (Vi J) Z (Rdc.k an Z)<|Jc 5 Z<|Jm 6 Z<|Aw.known (d := 74) Z (GU q)<|BF 7 4 Z<|Bl 8 (sv e) Z (Rb0 Z)<|Bm 9 Z<|?_
        obtain ⟨_, rfl, ao⟩ := Slr.at m V
        exact Bq 10 Z (Qi (T := Ty.i64) m V Z)<|Bl 11 (Vi ae) Z (Rdc.k ao Z)<|BF 12 0 Z<|BF 13 2 Z<|Bl 14 (Vi p0.cnfg.threads) Z (Rb0 Z)<|Bc 15 Z<|Jf 16 Z<|Ad<|Sd<|⟨_, by exact R3, (dcd (ae ≥ p0.cnfg.threads)), Z, Z, Z, H⟩
      rintro _ _ _ - ⟨E, rfl, rfl, rfl, H⟩
      unfold JQ at H
      refine DX Z ?_ ?_
      ·intro D
       have H := ift D H
       refine DF<|Dz<|Ea Z<|DC<|D7<|?_
       obtain s := EJ H
       subst a
       refine ⟨(.inl Z), [(Vi 2)], ⟨(Vi 2), _, Z, Z, Z⟩, ?_⟩
       exact Re0<|Sd<|⟨Z, Z⟩
      ·intro D
       have H := ED (btf D) H
       exact D1<|Dz<|Em Z<|Er (wI (r + 1)) Z<|Ea Z<|DC<|Sd<|⟨_, by exact R2, _, Nat.lt_succ_self _, (wI (r + 1)), Z, Z, Z, (ar ▸ H)⟩
     ·intro y
      obtain ⟨y, H⟩ := If y H
      exact EE<|Re0<|Sd<|⟨[], trivial, Z, Z, H⟩
    rintro _ aR _ aU ⟨rfl, rfl, H⟩
    unfold agb at H
    refine DF<|Dz<|Ea Z<|DC<|D7<|?_
    obtain s := EJ H
    subst a
    refine ⟨(.inl Z), [(Vi 0)], ⟨(Vi 0), _, Z, Z, Z⟩, ?_⟩
    exact Sd ⟨Z, Z⟩
theorem akw (p0 : ByteArray) (h : Script) (s t : Int) (H : Lr p0 = some (h, s, t)) (K : Kp) (G : List Ent)  :
  Fc Tryz.prog 14 #[(.string p0)] K (G) (fun v a i => ∃ (aO aP : SV) (aQ aR : SV), v = (.tuple #[(.agg (DD h aO aP aQ aR).toArray), (Vi s), (Vi t)]) ∧ (.tok 3 1 [(sv aO)]) :: (.tok 53 1 [(sv aP)]) :: (.tok 51 1 [(sv aQ)]) :: (.tok 3 1 [(sv aR)]) :: G = i ∧ Slr Ty.i64 a (sv aO) h.cnfg.capacities ∧ Slr Ty.u64 a (sv aP) h.cnfg.starts ∧ Slr (Ty.sl DT) a (sv aQ) h.ops ∧ Slr Ty.i64 a (sv aR) h.picks) := by
 refine Ey Tryz.func14 Z Tryz.ntmps14 Tryz.results14 Z ?_
 unfold Lr at H
 refine DF<|Dz<|?_
 refine DN Z (EG (cs := (DD (Script.mk (Config.mk [] [] 0) [] []) DW DW DW DW)) Z Z Z Z (fun o => ?_))
 refine Ea Z<|Ea Z<|DC<|DF<|DF<|Dz<|Em Z<|Eq Z (FC Z Z)<|Ec Z<|DC<|?_
 refine DX Z ?_ ?_
 ·intro ae
  obtain ⟨ae, H⟩ := It ae H
  refine DF<|Dz<|Eq Z (EI (cs := (DD (Script.mk (Config.mk [] [] 0) [] []) DW DW DW DW)) Z Z Z Z Z Z)<|?_
  refine DN Z (Sa (DD (Script.mk (Config.mk [] [] 0) [] []) DW DW DW DW) Z .here Z ?_)
  refine Ea Z<|Ea Z<|DC<|D7<|?_
  obtain ⟨ap, aq, ar⟩ := Gn H
  subst h s t
  refine ⟨(.inl Z), [(.agg (DD (Script.mk (Config.mk [] [] 0) [] []) DW DW DW DW).toArray), (Vi 0), (Vi 4)], ⟨(.agg (DD (Script.mk (Config.mk [] [] 0) [] []) DW DW DW DW).toArray), _, Z, ⟨_, 5, (DD (Script.mk (Config.mk [] [] 0) [] []) DW DW DW DW), Z, Z, Z, Z, ⟨Z, Rb0 Z⟩, Z⟩, ⟨(Vi 0), _, Z, Z, ⟨(Vi 4), _, Z, Z, Z⟩⟩⟩, ?_⟩
  exact Shift.nilTok1 3 1<|Shift.nilTok1 53 1<|Shift.nilTok1 51 1<|Shift.nilTok1 3 1<|Pu1<|Pu2<|Pu3<|Re4<|Sd<|⟨DW, DW, DW, DW, Z, Z, (Slr.nil Ty.i64 _), (Slr.nil Ty.u64 _), (Slr.nil (Ty.sl DT) _), (Slr.nil Ty.i64 _)⟩
 ·intro ae
  obtain ⟨ae, H⟩ := If ae H
  refine D1<|DF<|Dz<|?_
  refine DN Z (EG (cs := (DD (Script.mk (Config.mk [] [] 0) [] []) DW DW DW DW)) Z Z Z Z (fun p => ?_))
  refine DC<|DF<|Dz<|Ea Z<|Ea Z<|Ea Z<|DC<|?_
  refine Ei (fun q a i => ∃ (A : SV) (u : ae9) (aE : List (List Value)) (B : SV) (w : ae9) (aF : List (List Value)) (E : Int) (C : SV) (x : af9) (an : List Value) (D : SV) (y : ae9) (aG : List (List Value)), [(2, (Vp o)), (5, (Vp p))] = q ∧ (.blk p 33 (DD (Script.mk (Config.mk u w E) x y) A B C D)) :: (.blk o 33 (DD (Script.mk (Config.mk [] [] 0) [] []) DW DW DW DW)) :: (.row (sv A) 3 1 aE.flatten) :: (.row (sv B) 53 1 aF.flatten) :: (.row (sv C) 51 1 (an.map one).flatten) :: (.tok 70 7 an) :: (.row (sv D) 3 1 aG.flatten) :: G = i ∧ agd u w E x y = some (h, s, t) ∧ RowR Ty.i64 a aE u ∧ RowR Ty.u64 a aF w ∧ RowR (Ty.sl DT) a (an.map one) x ∧ RowR Ty.i64 a aG y) ?_ ?_
  ·refine D8 ?_
   refine EB (fun a0 q a i => ∃ (F f : Int) (z : Bool) (j : SV) (b : ae9) (O : List (List Value)) (k : SV) (c : ae9) (P : List (List Value)) (g : Int) (l : SV) (d : af9) (r : List Value) (m : SV) (e : ae9) (Q : List (List Value)), [(0, (.string p0)), (2, (Vp o)), (5, (Vp p)), (6, (Vi F)), (7, (Vi f)), (8, (.bool z))] = q ∧ (.blk p 33 (DD (Script.mk (Config.mk b c g) d e) j k l m)) :: (.blk o 33 (DD (Script.mk (Config.mk [] [] 0) [] []) DW DW DW DW)) :: (.row (sv j) 3 1 O.flatten) :: (.row (sv k) 53 1 P.flatten) :: (.row (sv l) 51 1 (r.map one).flatten) :: (.tok 70 7 r) :: (.row (sv m) 3 1 Q.flatten) :: G = i ∧ lp8 (KT p0) a0 F f z b c g d e = some (h, s, t) ∧ RowR Ty.i64 a O b ∧ RowR Ty.u64 a P c ∧ RowR (Ty.sl DT) a (r.map one) d ∧ RowR Ty.i64 a Q e) BIG ?_ ?_
   ·have am : RowR Ty.i64 K [] [] := RowR.nil
    refine Shift.nilRow 3 1 ?_
    have cb : RowR Ty.u64 K [] [] := RowR.nil
    refine Shift.nilRow 53 1 ?_
    have cc : RowR (Ty.sl DT) K (([] : List Value).map one) [] := RowR.nil
    refine Shift.nilTok 70 7 0<|Shift.nilRow 51 1<|?_
    have cd : RowR Ty.i64 K [] [] := RowR.nil
    exact Shift.nilRow 3 1<|Pu2<|Pu2<|Pu3<|Pu4<|Pu6<|Pu6<|Sd<|⟨_, by exact R6, 0, 0, false, DW, ([] : ae9), ([] : List (List Value)), DW, ([] : ae9), ([] : List (List Value)), 0, DW, ([] : af9), ([] : List Value), DW, ([] : ae9), ([] : List (List Value)), Z, Z, H, am, am, am, am⟩
   rintro a0 _ aT _ ca ⟨F, f, z, j, b, O, k, c, P, g, l, d, r, m, e, Q, rfl, rfl, H, aA, aB, aC, aD⟩
   obtain ⟨ce, ah, rfl, bh, H⟩ := lps8 H
   unfold KT at H
   refine DF<|DF<|Dz<|Em Z<|Em Z<|Eq Z (FC Z Z)<|Ec Z<|DC<|?_
   refine DX Z ?_ ?_
   ·intro af
    obtain ⟨af, H⟩ := It af H
    refine D1<|D8<|DF<|Dz<|Em Z<|Er (wI (f + 1)) Z<|Ea Z<|DC<|DF<|Dz<|Em Z<|Ea Z<|DC<|?_
    refine Ei (fun q a i => ∃ (I : Int), [(0, (.string p0)), (2, (Vp o)), (5, (Vp p)), (6, (Vi F)), (7, (Vi (wI (f + 1)))), (8, (.bool z)), (9, (Vi I))] = q ∧ (.blk p 33 (DD (Script.mk (Config.mk b c g) d e) j k l m)) :: (.blk o 33 (DD (Script.mk (Config.mk [] [] 0) [] []) DW DW DW DW)) :: (.row (sv j) 3 1 O.flatten) :: (.row (sv k) 53 1 P.flatten) :: (.row (sv l) 51 1 (r.map one).flatten) :: (.tok 70 7 r) :: (.row (sv m) 3 1 Q.flatten) :: G = i ∧ JR p0 F f z b c g d e ah I = some (h, s, t)) ?_ ?_
    ·refine D8 ?_
     refine EB (fun a1 q a i => ∃ (U : Int), [(0, (.string p0)), (2, (Vp o)), (5, (Vp p)), (6, (Vi F)), (7, (Vi (wI (f + 1)))), (8, (.bool z)), (9, (Vi U))] = q ∧ aT = a ∧ (.blk p 33 (DD (Script.mk (Config.mk b c g) d e) j k l m)) :: (.blk o 33 (DD (Script.mk (Config.mk [] [] 0) [] []) DW DW DW DW)) :: (.row (sv j) 3 1 O.flatten) :: (.row (sv k) 53 1 P.flatten) :: (.row (sv l) 51 1 (r.map one).flatten) :: (.tok 70 7 r) :: (.row (sv m) 3 1 Q.flatten) :: G = i ∧ lp1 (I4 p0 F f z b c g d e ah) a1 U = some (h, s, t)) BIG ?_ ?_
     ·exact Pu6<|Pu6<|Pu6<|Pu6<|Pu6<|Pu6<|Pu6<|Sd<|⟨_, by exact R7, F, Z, Z, Z, H⟩
     rintro a1 _ _ _ - ⟨U, rfl, rfl, rfl, H⟩
     obtain ⟨cf, bN, rfl, bi, H⟩ := G6 H
     unfold I4 at H
     refine DF ?_
     refine Ei (fun q a i => ∃ (aI : Bool), [(0, (.string p0)), (2, (Vp o)), (5, (Vp p)), (6, (Vi F)), (7, (Vi (wI (f + 1)))), (8, (.bool z)), (9, (Vi U)), (33, (.bool aI))] = q ∧ aT = a ∧ (.blk p 33 (DD (Script.mk (Config.mk b c g) d e) j k l m)) :: (.blk o 33 (DD (Script.mk (Config.mk [] [] 0) [] []) DW DW DW DW)) :: (.row (sv j) 3 1 O.flatten) :: (.row (sv k) 53 1 P.flatten) :: (.row (sv l) 51 1 (r.map one).flatten) :: (.tok 70 7 r) :: (.row (sv m) 3 1 Q.flatten) :: G = i ∧ JS p0 F f z U b c g d e ah bN aI = some (h, s, t)) ?_ ?_
     ·refine Dz<|Em Z<|Em Z<|Eq Z (FC Z Z)<|Ec Z<|Em Z<|?_
      refine Ee Z ?_ ?_
      ·intro ag
       obtain ⟨ag, H⟩ := It ag H
       refine Vm Z<|Vm Z<|?_
       obtain ⟨bW, bL, H⟩ := bnd H
       exact Vq Z (KW bL Z Z Z)<|Vc Z<|Et Z<|DC<|Pu6<|Pu6<|Pu6<|Pu6<|Pu6<|Pu6<|Pu6<|Sd<|⟨_, by exact R8, (!(dcd (bW = 10))), Z, Z, Z, H⟩
      ·intro ag
       obtain ⟨ag, H⟩ := If ag H
       exact Ez Z<|Ez Z<|Ez Z<|Ez Z<|Ef Z<|DC<|Pu6<|Pu6<|Pu6<|Pu6<|Pu6<|Pu6<|Pu6<|Sd<|⟨_, by exact R8, false, Z, Z, Z, H⟩
     rintro _ _ _ - ⟨aI, rfl, rfl, rfl, H⟩
     unfold JS at H
     refine DX Z ?_ ?_
     ·intro av
      have H := ift av H
      exact D1<|D8<|Dz<|Em Z<|Er (wI (U + 1)) Z<|Ea Z<|DC<|Pu6<|Pu6<|Pu6<|Pu6<|Pu6<|Pu6<|Pu6<|Sd<|⟨_, by exact R7, _, Nat.lt_succ_self _, (wI (U + 1)), Z, Z, Z, (bi ▸ H)⟩
     ·intro av
      have H := ED (btf av) H
      exact EE<|Pu6<|Pu6<|Pu6<|Pu6<|Pu6<|Pu6<|Pu6<|Sd<|⟨_, by exact R7, U, Z, Z, H⟩
    rintro _ b5 _ S ⟨I, rfl, rfl, H⟩
    unfold JR at H
    refine Ei (fun q a i => ∃ (ad : Nat) (aJ : Bool) (W : SV) (L : ae9) (ai : List (List Value)) (X : SV) (M : ae9) (aj : List (List Value)) (V : Int) (Y : SV) (N : af9) (ac : List Value) (R : SV) (J : ae9) (ak : List (List Value)), [(0, (.string p0)), (2, (Vp o)), (5, (Vp p)), (7, (Vi (wI (f + 1)))), (9, (Vi I)), (10, (Vp ad)), (11, (.bool aJ))] = q ∧ (.blk ad 33 (DD (Script.mk (Config.mk L M V) N J) W X Y R)) :: (.blk p 33 (DD (Script.mk (Config.mk b c g) d e) j k l m)) :: (.blk o 33 (DD (Script.mk (Config.mk [] [] 0) [] []) DW DW DW DW)) :: (.row (sv W) 3 1 ai.flatten) :: (.row (sv X) 53 1 aj.flatten) :: (.row (sv Y) 51 1 (ac.map one).flatten) :: (.tok 70 7 ac) :: (.row (sv R) 3 1 ak.flatten) :: G = i ∧ KR p0 f I b c g d e ah aJ L M V N J = some (h, s, t) ∧ RowR Ty.i64 a ai L ∧ RowR Ty.u64 a aj M ∧ RowR (Ty.sl DT) a (ac.map one) N ∧ RowR Ty.i64 a ak J) ?_ ?_
    ·obtain ⟨a6, bM, H⟩ := bnd H
     obtain ⟨n, ao, aZ, H⟩ := FA H
     refine En _ Z (Ic Mb0 (Ic Mb1 In0))<|JL 0 5 (DD (Script.mk (Config.mk b c g) d e) j k l m) Z (Rb0 Z)<|Jm 1 Z<|Jm 2 Z<|Jm 3 Z<|Jq 4 Z (akr bM Z Z Z Z)<|Jm 5 Z<|?_
     refine Eh 6 10 (by kernel_rfl) ?_ ?_
     ·refine id (Jy Z ?_)
      refine OpW.shift (Pu6 (Sd ?_))
      refine OpW.shift (Pu6 (Sd ?_))
      refine OpW.shift (Pu6 (Sd ?_))
      refine OpW.shift (Pu6 (Sd ?_))
      refine OpW.shift (Pu6 (Sd ?_))
      have bG := aA.mono S
      have bH := aB.mono S
      have bI := aC.mono S
      have bJ := aD.mono S
      refine Ek Tryz.call28 Z (aja (Script.mk (Config.mk b c g) d e) j O k P l r m Q a6 z n ao aZ _ _ bG bH bI bJ) ?_
      rintro _ bX _ b6 ⟨a2, bS, a3, bT, a4, bU, a5, bV, rfl, rfl, bj, bk, bl, bm⟩
      refine ⟨(Ic Mb5 (Ic Mb6 In0)), ?_⟩
      refine Jm 7 Z<|Jx 8 Z<|Jx 9 Z<|?_
      refine Ao 10 Z ?_
      refine EG (cs := (DD (Script.mk (Config.mk [] [] 0) [] []) DW DW DW DW)) Z Z Z Z (fun a8 => ⟨(Ic Mb6 (Ic Mb7 In0)), ?_⟩)
      refine Ao 11 Z ?_
      refine Sa (DD n a2 a3 a4 a5) Z .here Z ⟨(Ic Mb6 (Ic Mb7 In0)), ?_⟩
      exact Ja 12 Z<|Ad<|Pu5<|Pu5<|Pu5<|Pu5<|Pu5<|Pu7<|Pu7<|Pu7<|Sd<|⟨_, by exact R7, a8, ao, a2, n.cnfg.capacities, bS, a3, n.cnfg.starts, bT, n.cnfg.threads, a4, n.ops, bU, a5, n.picks, bV, Z, Z, H, bj, bk, bl, bm⟩
     ·refine id (Jy Z ?_)
      refine EG (cs := (DD (Script.mk (Config.mk [] [] 0) [] []) DW DW DW DW)) Z Z Z Z (fun a9 => ⟨(Ic Mb1 (Ic Mb2 In0)), ?_⟩)
      refine Ao 6 Z ?_
      refine OpW.shift (Pu7 (Sd ?_))
      refine OpW.shift (Pu7 (Sd ?_))
      refine OpW.shift (Pu7 (Sd ?_))
      refine OpW.shift (Pu7 (Sd ?_))
      refine OpW.shift (Pu7 (Sd ?_))
      have bn := aA.mono S
      have bo := aB.mono S
      have bp := aC.mono S
      have bq := aD.mono S
      refine Ek Tryz.call28 Z (aja (Script.mk (Config.mk b c g) d e) j O k P l r m Q a6 z n ao aZ _ _ bn bo bp bq) ?_
      rintro _ bY _ b7 ⟨aK, bO, aL, bP, aM, bQ, aN, bR, rfl, rfl, br, bs, bt, bu⟩
      refine ⟨(Ic Mb6 (Ic Mb7 In0)), ?_⟩
      refine Jm 7 Z<|Jx 8 Z<|Jx 9 Z<|?_
      refine Ao 11 Z ?_
      refine J6 (vs := (DD n aK aL aM aN)) (all' := (DD n aK aL aM aN)) Z Z Z Z Z (.there (.there (.there (.there (.there .here))))) Z Z Z ⟨(Ic Mb6 (Ic Mb7 In0)), ?_⟩
      exact Ja 12 Z<|Ad<|Pu4<|Pu4<|Pu4<|Pu4<|Pu4<|Pu7<|Pu7<|Pu7<|Sd<|⟨_, by exact R7, a9, ao, aK, n.cnfg.capacities, bO, aL, n.cnfg.starts, bP, n.cnfg.threads, aM, n.ops, bQ, aN, n.picks, bR, Z, Z, H, br, bs, bt, bu⟩
    rintro _ a7 _ b8 ⟨ad, aJ, W, L, ai, X, M, aj, V, Y, N, ac, R, J, ak, rfl, rfl, H, be, bf, bg, aU⟩
    unfold KR at H
    refine DF ?_
    refine Ei (fun q a i => ∃ (aH : Bool), [(0, (.string p0)), (2, (Vp o)), (5, (Vp p)), (7, (Vi (wI (f + 1)))), (9, (Vi I)), (10, (Vp ad)), (53, (.bool aH))] = q ∧ a7 = a ∧ (.blk ad 33 (DD (Script.mk (Config.mk L M V) N J) W X Y R)) :: (.blk p 33 (DD (Script.mk (Config.mk b c g) d e) j k l m)) :: (.blk o 33 (DD (Script.mk (Config.mk [] [] 0) [] []) DW DW DW DW)) :: (.row (sv W) 3 1 ai.flatten) :: (.row (sv X) 53 1 aj.flatten) :: (.row (sv Y) 51 1 (ac.map one).flatten) :: (.tok 70 7 ac) :: (.row (sv R) 3 1 ak.flatten) :: G = i ∧ SX p0 f I L M V N J b c g d e ah aH = some (h, s, t)) ?_ ?_
    ·refine Dz<|Em Z<|Eq Z (Fe Z)<|Em Z<|?_
     refine Ee Z ?_ ?_
     ·intro aa
      have aa := E5 aa
      have H := ED (btf aa) H
      exact Ez Z<|Ez Z<|Ez Z<|Ez Z<|Et Z<|DC<|Pu7<|Pu7<|Pu7<|Pu7<|Pu7<|Pu7<|Pu7<|Pu7<|Sd<|⟨_, by exact R7, true, Z, Z, Z, H⟩
     ·intro aa
      have aa := E4 aa
      have H := ift aa H
      exact Vm Z<|Vm Z<|Vq Z (FC Z Z)<|Vc Z<|Ef Z<|DC<|Pu7<|Pu7<|Pu7<|Pu7<|Pu7<|Pu7<|Pu7<|Pu7<|Sd<|⟨_, by exact R7, (dcd (I = (p0.size : Int))), Z, Z, Z, H⟩
    rintro _ _ _ - ⟨aH, rfl, rfl, rfl, H⟩
    unfold SX at H
    refine DX Z ?_ ?_
    ·intro au
     have H := ift au H
     refine DF<|Dz<|Eq Z (EI (cs := (DD (Script.mk (Config.mk [] [] 0) [] []) DW DW DW DW)) Z Z Z Z Z Z)<|Em Z<|?_
     refine DN Z (Sa (DD (Script.mk (Config.mk [] [] 0) [] []) DW DW DW DW) Z (.there (.there .here)) Z ?_)
     refine Ea Z<|Ea Z<|DC<|D7<|?_
     obtain ⟨ap, aq, ar⟩ := Gn H
     subst h s t
     refine ⟨(.inl Z), [(.agg (DD (Script.mk (Config.mk [] [] 0) [] []) DW DW DW DW).toArray), (Vi (wI (f + 1))), (Vi 1)], ⟨(.agg (DD (Script.mk (Config.mk [] [] 0) [] []) DW DW DW DW).toArray), _, Z, ⟨_, 5, (DD (Script.mk (Config.mk [] [] 0) [] []) DW DW DW DW), Z, Z, Z, Z, ⟨Z, Rb2 Z⟩, Z⟩, ⟨(Vi (wI (f + 1))), _, Z, Z, ⟨(Vi 1), _, Z, Z, Z⟩⟩⟩, ?_⟩
     exact Shift.nilTok1 3 1<|Shift.nilTok1 53 1<|Shift.nilTok1 51 1<|Shift.nilTok1 3 1<|Pu1<|Pu2<|Pu3<|Re4<|Re4<|Re4<|Re4<|Re4<|Re4<|Re4<|Re4<|Sd<|⟨DW, DW, DW, DW, Z, Z, (Slr.nil Ty.i64 _), (Slr.nil Ty.u64 _), (Slr.nil (Ty.sl DT) _), (Slr.nil Ty.i64 _)⟩
    ·intro au
     have H := ED (btf au) H
     refine D1<|DF<|Dz<|EL 5 (DD (Script.mk (Config.mk L M V) N J) W X Y R) Z (Rb0 Z)<|?_
     refine DN Z (Sa (DD (Script.mk (Config.mk L M V) N J) W X Y R) Z (.there .here) Z ?_)
     exact DC<|DF<|Dz<|EF 4 Z<|El (sv R) Z (Rb1 Z)<|Eq Z (GG (T := Ty.i64) Mb7 aU Z Z Z)<|Ec Z<|Ea Z<|DC<|Dz<|Em Z<|Er (wI (I + 1)) Z<|Ea Z<|DC<|Pu7<|Pu7<|Pu7<|Pu7<|Pu7<|Pu7<|Pu7<|Re7<|Sd ⟨_, by exact R6, _, Nat.lt_succ_self _, (wI (I + 1)), (wI (f + 1)), (dcd ((J.length : Int) > 0)), W, L, ai, X, M, aj, V, Y, N, ac, R, J, ak, Z, Z, (bh ▸ H), be, bf, bg, aU⟩
   ·intro af
    obtain ⟨af, H⟩ := If af H
    exact EE<|Pu6<|Pu6<|Pu6<|Pu6<|Pu6<|Pu6<|Pu6<|Sd<|⟨_, by exact R2, j, b, O, k, c, P, g, l, d, r, m, e, Q, Z, Z, H, aA, aB, aC, aD⟩
  rintro _ bZ _ b9 ⟨A, u, aE, B, w, aF, E, C, x, an, D, y, aG, rfl, rfl, H, ba, bb, bc, bd⟩
  unfold agd at H
  refine DF<|DF<|Dz<|EL 5 (DD (Script.mk (Config.mk u w E) x y) A B C D) Z (Rb0 Z)<|?_
  refine Ow.shift (Shift.settle (T := Ty.i64) (.there (.there .here)) ba Z (fun b0 aw bv => Sd ?_))
  have bx := bb.mono aw
  refine Ow.shift (Shift.settle (T := Ty.u64) (.there (.there (.there .here))) bx Z (fun b1 ax bw => Sd ?_))
  have bA := (bc.mono aw).mono ax
  refine Ow.shift (Shift.settle (T := (Ty.sl DT)) (.there (.there (.there (.there .here)))) bA Z (fun b2 ay bz => Sd ?_))
  have bB := ((bd.mono aw).mono ax).mono ay
  refine Ow.shift (Shift.settle (T := Ty.i64) (.there (.there (.there (.there (.there (.there .here)))))) bB Z (fun b3 az aV => Sd ?_))
  obtain ⟨aS, bK, H⟩ := bnd H
  have aW := ((bv.mono ax).mono ay).mono az
  have aX := (bw.mono ay).mono az
  have aY := bz.mono az
  refine DN Z (Ek Tryz.call20 Z (ai8 (Script.mk (Config.mk u w E) x y) A B C D aS bK _ _ aW aX aY aV) ?_)
  rintro _ b4 _ al ⟨rfl, rfl⟩
  refine Ea Z<|DC<|DF<|Dz<|Em Z<|Ec Z<|DC<|?_
  refine DX Z ?_ ?_
  ·intro ab
   have ab := EY (E5 (ab))
   have H := ED ab H
   refine DF<|Dz<|Eq Z (EI (cs := (DD (Script.mk (Config.mk [] [] 0) [] []) DW DW DW DW)) Z Z Z Z Z Z)<|Em Z<|?_
   refine DN Z (Sa (DD (Script.mk (Config.mk [] [] 0) [] []) DW DW DW DW) Z (.there .here) Z ?_)
   refine Ea Z<|Ea Z<|DC<|D7<|?_
   obtain ⟨ap, aq, ar⟩ := Gn H
   subst h s t
   refine ⟨(.inl Z), [(.agg (DD (Script.mk (Config.mk [] [] 0) [] []) DW DW DW DW).toArray), (Vi 0), (Vi aS)], ⟨(.agg (DD (Script.mk (Config.mk [] [] 0) [] []) DW DW DW DW).toArray), _, Z, ⟨_, 5, (DD (Script.mk (Config.mk [] [] 0) [] []) DW DW DW DW), Z, Z, Z, Z, ⟨Z, Rb1 Z⟩, Z⟩, ⟨(Vi 0), _, Z, Z, ⟨(Vi aS), _, Z, Z, Z⟩⟩⟩, ?_⟩
   exact Shift.nilTok1 3 1<|Shift.nilTok1 53 1<|Shift.nilTok1 51 1<|Shift.nilTok1 3 1<|Pu1<|Pu2<|Pu3<|Re4<|Re4<|Re4<|Re4<|Re4<|Re4<|Re4<|Sd<|⟨DW, DW, DW, DW, Z, Z, (Slr.nil Ty.i64 _), (Slr.nil Ty.u64 _), (Slr.nil (Ty.sl DT) _), (Slr.nil Ty.i64 _)⟩
  ·intro ab
   have ab := EZ (E4 (ab))
   have H := ift ab H
   refine D1<|DF<|Dz<|EL 5 (DD (Script.mk (Config.mk u w E) x y) A B C D) Z (Rb0 Z)<|?_
   refine DN Z (Sa (DD (Script.mk (Config.mk u w E) x y) A B C D) Z (.there .here) Z ?_)
   refine Ea Z<|Ea Z<|DC<|D7<|?_
   obtain ⟨ap, aq, ar⟩ := Gn H
   subst h s t
   refine ⟨(.inl Z), [(.agg (DD (Script.mk (Config.mk u w E) x y) A B C D).toArray), (Vi 0), (Vi 0)], ⟨(.agg (DD (Script.mk (Config.mk u w E) x y) A B C D).toArray), _, Z, ⟨_, 5, (DD (Script.mk (Config.mk u w E) x y) A B C D), Z, Z, Z, Z, ⟨Z, Rb1 Z⟩, Z⟩, ⟨(Vi 0), _, Z, Z, ⟨(Vi 0), _, Z, Z, Z⟩⟩⟩, ?_⟩
   refine Pu6<|Pu5<|Pu5<|Pu5<|Re4<|Re4<|Re4<|?_
   have bC := aW.mono al
   have bD := aX.mono al
   have bE := aY.mono al
   have bF := aV.mono al
   exact Sd ⟨A, B, C, D, Z, Z, bC, bD, bE, bF⟩
theorem akS (p0 : Op) (c d : SV) (p1 : Op) (f g : SV) (b : Bool) (H : MX p0 p1 = some b) (K : Kp) (G : List Ent) (z : Slr Eu K (sv c) p0.cases) (I : Slr Ty.i64 K (sv d) p0.draws) (C : Slr Eu K (sv f) p1.cases) (J : Slr Ty.i64 K (sv g) p1.draws) :
  Fc Tryz.prog 31 #[(.agg (DG p0 c d).toArray), (.agg (DG p1 f g).toArray)] K (G) (fun v h a => v = (.bool b) ∧ G = a) := by
 refine Ey Tryz.func31 Z Tryz.ntmps31 Tryz.results31 Z ?_
 unfold MX at H
 refine DF<|Dz<|?_
 refine DN Z (EU (cs := (DG p0 c d)) Z Z Z (fun i => ?_))
 refine DN Z (EU (cs := (DG p1 f g)) Z Z Z (fun j => ?_))
 refine Ea Z<|DC<|DF<|?_
 refine Ei (fun e h a => ∃ (E : Bool), [(2, (Vp i)), (3, (Vp j)), (57, (.bool E))] = e ∧ K = h ∧ (.blk j 70 (DG p1 f g)) :: (.blk i 70 (DG p0 c d)) :: G = a ∧ Ix p1 p0 E = some b) ?_ ?_
 ·refine Dz<|EF 0 Z<|El (Vi p0.kind) Z (Rb1 Z)<|EF 0 Z<|El (Vi p1.kind) Z (Rb0 Z)<|Ec Z<|Em Z<|?_
  refine Ee Z ?_ ?_
  ·intro l
   have l := EY (E5 (l))
   have H := ED l H
   refine Ez Z<|Ez Z<|Ez Z<|Ez Z<|Ez Z<|Et Z<|Em Z<|Ez Z<|Ez Z<|Ez Z<|Ez Z<|Ez Z<|Et Z<|Em Z<|Ez Z<|Ez Z<|Ez Z<|Ez Z<|Ez Z<|Et Z<|Em Z<|Ez Z<|?_
   refine Ez Z<|Ez Z<|Ez Z<|Ez Z<|Et Z<|Em Z<|Ez Z<|Ez Z<|Ez Z<|Ez Z<|Ez Z<|Ez Z<|Ez Z<|Et Z<|Em Z<|Ez Z<|Ez Z<|Ez Z<|Ez Z<|Ez Z<|Ez Z<|Ez Z<|?_
   exact Et Z<|DC<|Pu1<|Pu1<|Sd<|⟨_, by exact R3, true, Z, Z, Z, H⟩
  ·intro l
   have l := EZ (E4 (l))
   have H := ift l H
   refine VF 1 Z<|Vl (Vi p0.mode) Z (Rb1 Z)<|VF 1 Z<|Vl (Vi p1.mode) Z (Rb0 Z)<|Vc Z<|Ef Z<|Em Z<|?_
   refine Ee Z ?_ ?_
   ·intro m
    have m := EY (E5 (m))
    have H := ED m H
    refine Ez Z<|Ez Z<|Ez Z<|Ez Z<|Ez Z<|Et Z<|Em Z<|Ez Z<|Ez Z<|Ez Z<|Ez Z<|Ez Z<|Et Z<|Em Z<|Ez Z<|Ez Z<|Ez Z<|Ez Z<|Ez Z<|Et Z<|Em Z<|Ez Z<|?_
    exact Ez Z<|Ez Z<|Ez Z<|Ez Z<|Ez Z<|Ez Z<|Et Z<|Em Z<|Ez Z<|Ez Z<|Ez Z<|Ez Z<|Ez Z<|Ez Z<|Ez Z<|Et Z<|DC<|Pu1<|Pu1<|Sd<|⟨_, by exact R3, true, Z, Z, Z, H⟩
   ·intro m
    have m := EZ (E4 (m))
    have H := ift m H
    refine VF 2 Z<|Vl (Vi p0.channel) Z (Rb1 Z)<|VF 2 Z<|Vl (Vi p1.channel) Z (Rb0 Z)<|Vc Z<|Ef Z<|Em Z<|?_
    refine Ee Z ?_ ?_
    ·intro n
     have n := EY (E5 (n))
     have H := ED n H
     refine Ez Z<|Ez Z<|Ez Z<|Ez Z<|Ez Z<|Et Z<|Em Z<|Ez Z<|Ez Z<|Ez Z<|Ez Z<|Ez Z<|Et Z<|Em Z<|Ez Z<|Ez Z<|Ez Z<|Ez Z<|Ez Z<|Ez Z<|Ez Z<|Et Z<|?_
     exact Em Z<|Ez Z<|Ez Z<|Ez Z<|Ez Z<|Ez Z<|Ez Z<|Ez Z<|Et Z<|DC<|Pu1<|Pu1<|Sd<|⟨_, by exact R3, true, Z, Z, Z, H⟩
    ·intro n
     have n := EZ (E4 (n))
     have H := ift n H
     refine VF 3 Z<|Vl (.int .u64 p0.value) Z (Rb1 Z)<|VF 3 Z<|Vl (.int .u64 p1.value) Z (Rb0 Z)<|Vc Z<|Ef Z<|Em Z<|?_
     refine Ee Z ?_ ?_
     ·intro o
      have o := EY (E5 (o))
      have H := ED o H
      refine Ez Z<|Ez Z<|Ez Z<|Ez Z<|Ez Z<|Et Z<|Em Z<|Ez Z<|Ez Z<|Ez Z<|Ez Z<|Ez Z<|Ez Z<|Ez Z<|Et Z<|Em Z<|Ez Z<|Ez Z<|Ez Z<|Ez Z<|Ez Z<|Ez Z<|?_
      exact Ez Z<|Et Z<|DC<|Pu1<|Pu1<|Sd<|⟨_, by exact R3, true, Z, Z, Z, H⟩
     ·intro o
      have o := EZ (E4 (o))
      have H := ift o H
      refine VF 4 Z<|Vl (Vi p0.deadline) Z (Rb1 Z)<|VF 4 Z<|Vl (Vi p1.deadline) Z (Rb0 Z)<|Vc Z<|Ef Z<|Em Z<|?_
      refine Ee Z ?_ ?_
      ·intro p
       have p := EY (E5 (p))
       have H := ED p H
       exact Ez Z<|Ez Z<|Ez Z<|Ez Z<|Ez Z<|Ez Z<|Ez Z<|Et Z<|Em Z<|Ez Z<|Ez Z<|Ez Z<|Ez Z<|Ez Z<|Ez Z<|Ez Z<|Et Z<|DC<|Pu1<|Pu1<|Sd<|⟨_, by exact R3, true, Z, Z, Z, H⟩
      ·intro p
       have p := EZ (E4 (p))
       have H := ift p H
       refine VF 5 Z<|Vl (sv c) Z (Rb1 Z)<|Vq Z (EA (T := Eu) z Z Z)<|VF 5 Z<|Vl (sv f) Z (Rb0 Z)<|Vq Z (EA (T := Eu) C Z Z)<|Vc Z<|Ef Z<|Em Z<|?_
       refine Ee Z ?_ ?_
       ·intro q
        have q := EY (E5 (q))
        have H := ED q H
        exact Ez Z<|Ez Z<|Ez Z<|Ez Z<|Ez Z<|Ez Z<|Ez Z<|Et Z<|DC<|Pu1<|Pu1<|Sd<|⟨_, by exact R3, true, Z, Z, Z, H⟩
       ·intro q
        have q := EZ (E4 (q))
        have H := ift q H
        exact VF 6 Z<|Vl (sv d) Z (Rb1 Z)<|Vq Z (EA (T := Ty.i64) I Z Z)<|VF 6 Z<|Vl (sv g) Z (Rb0 Z)<|Vq Z (EA (T := Ty.i64) J Z Z)<|Vc Z<|Ef Z<|DC<|Pu1<|Pu1<|Sd<|⟨_, by exact R3, (!(dcd ((p0.draws.length : Int) = (p1.draws.length : Int)))), Z, Z, Z, H⟩
 rintro _ _ _ - ⟨E, rfl, rfl, rfl, H⟩
 unfold Ix at H
 refine DX Z ?_ ?_
 ·intro B
  have H := ift B H
  refine DF<|Dz<|Ea Z<|DC<|D7<|?_
  obtain A := EJ H
  subst b
  refine ⟨(.inl Z), [(.bool false)], ⟨(.bool false), _, Z, Z, Z⟩, ?_⟩
  exact Re0<|Re0<|Sd<|⟨Z, Z⟩
 ·intro B
  have H := ED (btf B) H
  refine D1 ?_
  refine Ei (fun e h a => [(2, (Vp i)), (3, (Vp j))] = e ∧ (.blk j 70 (DG p1 f g)) :: (.blk i 70 (DG p0 c d)) :: G = a ∧ age p1 p0 = some b) ?_ ?_
  ·refine DF<|Dz<|Ea Z<|DC<|D8<|?_
   refine EB (fun n251 e h a => ∃ (x : Int), [(2, (Vp i)), (3, (Vp j)), (5, (Vi x))] = e ∧ K = h ∧ (.blk j 70 (DG p1 f g)) :: (.blk i 70 (DG p0 c d)) :: G = a ∧ lp1 (MW p1 p0) n251 x = some b) BIG ?_ ?_
   ·exact Pu1<|Pu1<|Sd<|⟨_, by exact R3, 0, Z, Z, Z, H⟩
   rintro n251 _ _ _ - ⟨x, rfl, rfl, rfl, H⟩
   obtain ⟨ai, ag, rfl, aa, H⟩ := G6 H
   unfold MW at H
   refine DF<|DF<|Dz<|Em Z<|EF 5 Z<|El (sv c) Z (Rb1 Z)<|Eq Z (EA (T := Eu) z Z Z)<|Ec Z<|DC<|?_
   refine DX Z ?_ ?_
   ·intro t
    obtain ⟨t, H⟩ := It t H
    refine D1<|DF<|D8<|DF<|?_
    obtain ⟨R, M, H⟩ := bnd H
    obtain ⟨S, N, H⟩ := bnd H
    refine En _ Z (Ic Mb0 (Ic Mb1 In0))<|JF 0 5 Z<|Jl 1 (sv c) Z (Rb1 Z)<|Jm 2 Z<|?_
    obtain ⟨_, rfl, V⟩ := Slr.at z M
    refine Jq 3 Z (Qi (T := Eu) z M Z)<|JL 4 3 (Ep R) Z (Rdc.k V Z)<|JF 5 5 Z<|Jl 6 (sv f) Z (Rb0 Z)<|Jm 7 Z<|?_
    obtain ⟨_, rfl, W⟩ := Slr.at C N
    refine Jq 8 Z (Qi (T := Eu) C N Z)<|JL 9 3 (Ep S) Z (Rdc.k W Z)<|Jq 10 Z (am2 Z Z (fun w => Case.eqrun R S w) (by kernel_rfl))<|Ad<|?_
    refine DX Z ?_ ?_
    ·intro r
     have r := EY (E5 (r))
     have H := ED r H
     refine DF<|Dz<|Ea Z<|DC<|D7<|?_
     obtain A := EJ H
     subst b
     refine ⟨(.inl Z), [(.bool false)], ⟨(.bool false), _, Z, Z, Z⟩, ?_⟩
     exact Re0<|Re0<|Sd<|⟨Z, Z⟩
    ·intro r
     have r := EZ (E4 (r))
     have H := ift r H
     exact D1<|Dz<|Em Z<|Er (wI (x + 1)) Z<|Ea Z<|DC<|Pu1<|Pu1<|Sd<|⟨_, by exact R3, _, Nat.lt_succ_self _, (wI (x + 1)), Z, Z, Z, (aa ▸ H)⟩
   ·intro t
    obtain ⟨t, H⟩ := If t H
    exact EE<|Pu1<|Pu1<|Sd<|⟨_, by exact R2, Z, Z, H⟩
  rintro _ U _ F ⟨rfl, rfl, H⟩
  unfold age at H
  refine Ei (fun e h a => [] = e ∧ G = a ∧ aih = some b) ?_ ?_
  ·refine DF<|Dz<|Ea Z<|DC<|D8<|?_
   refine EB (fun Q e h a => ∃ (y : Int), [(2, (Vp i)), (3, (Vp j)), (6, (Vi y))] = e ∧ U = h ∧ (.blk j 70 (DG p1 f g)) :: (.blk i 70 (DG p0 c d)) :: G = a ∧ lp1 (MV p1 p0) Q y = some b) BIG ?_ ?_
   ·exact Pu1<|Pu1<|Sd<|⟨_, by exact R3, 0, Z, Z, Z, H⟩
   rintro Q _ _ _ - ⟨y, rfl, rfl, rfl, H⟩
   obtain ⟨aj, ah, rfl, ab, H⟩ := G6 H
   unfold MV at H
   refine DF<|DF<|Dz<|Em Z<|EF 6 Z<|El (sv d) Z (Rb1 Z)<|?_
   have D := I.mono F
   refine Eq Z (EA (T := Ty.i64) D Z Z)<|Ec Z<|DC<|?_
   refine DX Z ?_ ?_
   ·intro u
    obtain ⟨u, H⟩ := It u H
    refine D1<|DF<|D8<|DF<|?_
    obtain ⟨ac, O, H⟩ := bnd H
    obtain ⟨ad, P, H⟩ := bnd H
    refine En _ Z (Ic Mb0 (Ic Mb1 In0))<|JF 0 6 Z<|Jl 1 (sv d) Z (Rb1 Z)<|Jm 2 Z<|?_
    obtain ⟨_, rfl, X⟩ := Slr.at D O
    refine Jq 3 Z (Qi (T := Ty.i64) D O Z)<|Jl 4 (Vi ac) Z (Rdc.k X Z)<|JF 5 6 Z<|Jl 6 (sv g) Z (Rb0 Z)<|Jm 7 Z<|?_
    have L := J.mono F
    obtain ⟨_, rfl, Y⟩ := Slr.at L P
    refine Jq 8 Z (Qi (T := Ty.i64) L P Z)<|Jl 9 (Vi ad) Z (Rdc.k Y Z)<|Jc 10 Z<|Ad<|?_
    refine DX Z ?_ ?_
    ·intro s
     have s := EY (E5 (s))
     have H := ED s H
     refine DF<|Dz<|Ea Z<|DC<|D7<|?_
     obtain A := EJ H
     subst b
     refine ⟨(.inl Z), [(.bool false)], ⟨(.bool false), _, Z, Z, Z⟩, ?_⟩
     exact Re0<|Re0<|Sd<|⟨Z, Z⟩
    ·intro s
     have s := EZ (E4 (s))
     have H := ift s H
     exact D1<|Dz<|Em Z<|Er (wI (y + 1)) Z<|Ea Z<|DC<|Pu1<|Pu1<|Sd<|⟨_, by exact R3, _, Nat.lt_succ_self _, (wI (y + 1)), Z, Z, Z, (ab ▸ H)⟩
   ·intro u
    obtain ⟨u, H⟩ := If u H
    exact EE<|Re0<|Re0<|Sd<|⟨[], trivial, Z, Z, H⟩
  rintro _ ae _ af ⟨rfl, rfl, H⟩
  unfold aih at H
  refine DF<|Dz<|Ea Z<|DC<|D7<|?_
  obtain A := EJ H
  subst b
  refine ⟨(.inl Z), [(.bool true)], ⟨(.bool true), _, Z, Z, Z⟩, ?_⟩
  exact Sd ⟨Z, Z⟩
theorem ahm (p0 : ae9) (l : SV) (p1 : ae9) (m : SV) (c : Bool) (H : JU p0 p1 = some c) (K : Kp) (G : List Ent) (g : Slr Ty.i64 K (sv l) p0) (j : Slr Ty.i64 K (sv m) p1) :
  Fc Tryz.prog 29 #[(sv l), (sv m)] K (G) (fun v h d => v = (.bool c) ∧ G = d) := by
 refine Ey Tryz.func29 Z Tryz.ntmps29 Tryz.results29 Z ?_
 unfold JU at H
 refine DF<|Dz<|Ea Z<|DC<|DF<|DF<|Dz<|Em Z<|Eq Z (EA (T := Ty.i64) g Z Z)<|Em Z<|Eq Z (EA (T := Ty.i64) j Z Z)<|Ec Z<|DC<|?_
 refine DX Z ?_ ?_
 ·intro b
  have b := EY (E5 (b))
  have H := ED b H
  refine DF<|Dz<|Ea Z<|DC<|D7<|?_
  obtain n := EJ H
  subst c
  refine ⟨(.inl Z), [(.bool false)], ⟨(.bool false), _, Z, Z, Z⟩, ?_⟩
  exact Sd ⟨Z, Z⟩
 ·intro b
  have b := EZ (E4 (b))
  have H := ift b H
  refine D1 ?_
  refine Ei (fun i h d => [] = i ∧ G = d ∧ aif = some c) ?_ ?_
  ·refine DF<|Dz<|Ea Z<|DC<|D8<|?_
   refine EB (fun n150 i h d => ∃ (f : Int), [(0, (sv l)), (1, (sv m)), (5, (Vi f))] = i ∧ K = h ∧ G = d ∧ lp1 (MR p0 p1) n150 f = some c) BIG ?_ ?_
   ·exact Sd ⟨_, by exact R3, 0, Z, Z, Z, H⟩
   rintro n150 _ _ _ - ⟨f, rfl, rfl, rfl, H⟩
   obtain ⟨z, y, rfl, s, H⟩ := G6 H
   unfold MR at H
   refine DF<|DF<|Dz<|Em Z<|Em Z<|Eq Z (EA (T := Ty.i64) g Z Z)<|Ec Z<|DC<|?_
   refine DX Z ?_ ?_
   ·intro e
    obtain ⟨e, H⟩ := It e H
    refine D1<|DF<|D8<|DF<|?_
    obtain ⟨t, o, H⟩ := bnd H
    obtain ⟨u, p, H⟩ := bnd H
    refine En _ Z In0<|Jm 0 Z<|Jm 1 Z<|?_
    obtain ⟨_, rfl, q⟩ := Slr.at g o
    refine Jq 2 Z (Qi (T := Ty.i64) g o Z)<|Jl 3 (Vi t) Z (Rdc.k q Z)<|Jm 4 Z<|Jm 5 Z<|?_
    obtain ⟨_, rfl, r⟩ := Slr.at j p
    refine Jq 6 Z (Qi (T := Ty.i64) j p Z)<|Jl 7 (Vi u) Z (Rdc.k r Z)<|Jc 8 Z<|Ad<|?_
    refine DX Z ?_ ?_
    ·intro a
     have a := EY (E5 (a))
     have H := ED a H
     refine DF<|Dz<|Ea Z<|DC<|D7<|?_
     obtain n := EJ H
     subst c
     refine ⟨(.inl Z), [(.bool false)], ⟨(.bool false), _, Z, Z, Z⟩, ?_⟩
     exact Sd ⟨Z, Z⟩
    ·intro a
     have a := EZ (E4 (a))
     have H := ift a H
     exact D1<|Dz<|Em Z<|Er (wI (f + 1)) Z<|Ea Z<|DC<|Sd<|⟨_, by exact R3, _, Nat.lt_succ_self _, (wI (f + 1)), Z, Z, Z, (s ▸ H)⟩
   ·intro e
    obtain ⟨e, H⟩ := If e H
    exact EE<|Sd<|⟨[], trivial, Z, Z, H⟩
  rintro _ w _ x ⟨rfl, rfl, H⟩
  unfold aif at H
  refine DF<|Dz<|Ea Z<|DC<|D7<|?_
  obtain n := EJ H
  subst c
  refine ⟨(.inl Z), [(.bool true)], ⟨(.bool true), _, Z, Z, Z⟩, ?_⟩
  exact Sd ⟨Z, Z⟩
theorem amc (p0 : Script) (g h : SV) (a i : SV) (p1 : Script) (j l : SV) (d m : SV) (c : Bool) (H : aeM p0 p1 = some c) (K : Kp) (G : List Ent) (ax : Slr Ty.i64 K (sv g) p0.cnfg.capacities) (ay : Slr Ty.u64 K (sv h) p0.cnfg.starts) (O : Slr (Ty.sl DT) K (sv a) p0.ops) (az : Slr Ty.i64 K (sv i) p0.picks) (aA : Slr Ty.i64 K (sv j) p1.cnfg.capacities) (aB : Slr Ty.u64 K (sv l) p1.cnfg.starts) (P : Slr (Ty.sl DT) K (sv d) p1.ops) (aC : Slr Ty.i64 K (sv m) p1.picks) :
  Fc Tryz.prog 15 #[(.agg (DD p0 g h a i).toArray), (.agg (DD p1 j l d m).toArray)] K (G) (fun v x b => v = (.bool c) ∧ G = b) := by
 refine Ey Tryz.func15 Z Tryz.ntmps15 Tryz.results15 Z ?_
 unfold aeM at H
 refine DF<|Dz<|?_
 refine DN Z (EU (cs := (DD p0 g h a i)) Z Z Z (fun n => ?_))
 refine DN Z (EU (cs := (DD p1 j l d m)) Z Z Z (fun o => ?_))
 refine Ea Z<|DC<|DF<|?_
 refine Ei (fun e x b => ∃ (J : Bool), [(2, (Vp n)), (3, (Vp o)), (50, (.bool J))] = e ∧ (.blk o 33 (DD p1 j l d m)) :: (.blk n 33 (DD p0 g h a i)) :: G = b ∧ KU p1 p0 J = some c) ?_ ?_
 ·refine Dz<|EF 0 Z<|EF 2 Z<|El (Vi p0.cnfg.threads) Z (Rb1 Z)<|EF 0 Z<|EF 2 Z<|El (Vi p1.cnfg.threads) Z (Rb0 Z)<|Ec Z<|Em Z<|?_
  refine Ee Z ?_ ?_
  ·intro r
   have r := EY (E5 (r))
   have H := ED r H
   refine Ez Z<|Ez Z<|Ez Z<|Ez Z<|Ez Z<|Ez Z<|Ez Z<|Ez Z<|Et Z<|Em Z<|Ez Z<|Ez Z<|Ez Z<|Ez Z<|Ez Z<|Ez Z<|Ez Z<|Ez Z<|Et Z<|Em Z<|Ez Z<|Ez Z<|?_
   exact Ez Z<|Ez Z<|Ez Z<|Ez Z<|Ez Z<|Et Z<|Em Z<|Ez Z<|Ez Z<|Ez Z<|Ez Z<|Ez Z<|Ez Z<|Et Z<|DC<|Pu1<|Pu1<|Sd<|⟨_, by exact R3, true, Z, Z, H⟩
  ·intro r
   have r := EZ (E4 (r))
   have H := ift r H
   refine VF 0 Z<|VF 0 Z<|Vl (sv g) Z (Rb1 Z)<|VF 0 Z<|VF 0 Z<|Vl (sv j) Z (Rb0 Z)<|?_
   obtain ⟨a7, aY, H⟩ := bnd H
   refine GF Z Z Z Z (Ek Tryz.call29 Z (ahm p0.cnfg.capacities g p1.cnfg.capacities j a7 aY _ _ ax aA) ?_)
   rintro _ be _ w ⟨rfl, rfl⟩
   refine Vq Z (Fe Z)<|Ef Z<|Em Z<|?_
   refine Ee Z ?_ ?_
   ·intro s
    have s := E5 s
    have H := ED (btf s) H
    refine Ez Z<|Ez Z<|Ez Z<|Ez Z<|Ez Z<|Ez Z<|Ez Z<|Ez Z<|Et Z<|Em Z<|Ez Z<|Ez Z<|Ez Z<|Ez Z<|Ez Z<|Ez Z<|Ez Z<|Et Z<|Em Z<|Ez Z<|Ez Z<|Ez Z<|?_
    exact Ez Z<|Ez Z<|Ez Z<|Et Z<|DC<|Pu1<|Pu1<|Sd<|⟨_, by exact R3, true, Z, Z, H⟩
   ·intro s
    have s := E4 s
    have H := ift s H
    refine VF 0 Z<|VF 1 Z<|Vl (sv h) Z (Rb1 Z)<|VF 0 Z<|VF 1 Z<|Vl (sv l) Z (Rb0 Z)<|?_
    obtain ⟨a8, aZ, H⟩ := bnd H
    have aR := ay.mono w
    have aS := aB.mono w
    refine GF Z Z Z Z (Ek Tryz.call30 Z (akR p0.cnfg.starts h p1.cnfg.starts l a8 aZ _ _ aR aS) ?_)
    rintro _ bf _ B ⟨rfl, rfl⟩
    refine Vq Z (Fe Z)<|Ef Z<|Em Z<|?_
    refine Ee Z ?_ ?_
    ·intro t
     have t := E5 t
     have H := ED (btf t) H
     exact Ez Z<|Ez Z<|Ez Z<|Ez Z<|Ez Z<|Ez Z<|Ez Z<|Et Z<|Em Z<|Ez Z<|Ez Z<|Ez Z<|Ez Z<|Ez Z<|Ez Z<|Et Z<|DC<|Pu1<|Pu1<|Sd<|⟨_, by exact R3, true, Z, Z, H⟩
    ·intro t
     have t := E4 t
     have H := ift t H
     refine VF 3 Z<|Vl (sv a) Z (Rb1 Z)<|?_
     have aT := (O.mono w).mono B
     refine Vq Z (EA (T := (Ty.sl DT)) aT Z Z)<|VF 3 Z<|Vl (sv d) Z (Rb0 Z)<|?_
     have aU := (P.mono w).mono B
     refine Vq Z (EA (T := (Ty.sl DT)) aU Z Z)<|Vc Z<|Ef Z<|Em Z<|?_
     refine Ee Z ?_ ?_
     ·intro u
      have u := EY (E5 (u))
      have H := ED u H
      exact Ez Z<|Ez Z<|Ez Z<|Ez Z<|Ez Z<|Ez Z<|Et Z<|DC<|Pu1<|Pu1<|Sd<|⟨_, by exact R3, true, Z, Z, H⟩
     ·intro u
      have u := EZ (E4 (u))
      have H := ift u H
      refine VF 4 Z<|Vl (sv i) Z (Rb1 Z)<|VF 4 Z<|Vl (sv m) Z (Rb0 Z)<|?_
      obtain ⟨al, a0, H⟩ := bnd H
      have aV := (az.mono w).mono B
      have aW := (aC.mono w).mono B
      refine GF Z Z Z Z (Ek Tryz.call29 Z (ahm p0.picks i p1.picks m al a0 _ _ aV aW) ?_)
      rintro _ bg _ bl ⟨rfl, rfl⟩
      exact Vq Z (Fe Z)<|Ef Z<|DC<|Pu1<|Pu1<|Sd<|⟨_, by exact R3, (!(al)), Z, Z, H⟩
 rintro _ bh _ N ⟨J, rfl, rfl, H⟩
 unfold KU at H
 refine DX Z ?_ ?_
 ·intro F
  have H := ift F H
  refine DF<|Dz<|Ea Z<|DC<|D7<|?_
  obtain E := EJ H
  subst c
  refine ⟨(.inl Z), [(.bool false)], ⟨(.bool false), _, Z, Z, Z⟩, ?_⟩
  exact Re0<|Re0<|Sd<|⟨Z, Z⟩
 ·intro F
  have H := ED (btf F) H
  refine D1 ?_
  refine Ei (fun e x b => [] = e ∧ G = b ∧ aii = some c) ?_ ?_
  ·refine DF<|Dz<|Ea Z<|DC<|D8<|?_
   refine EB (fun ad e x b => ∃ (f : Int), [(2, (Vp n)), (3, (Vp o)), (5, (Vi f))] = e ∧ (.blk o 33 (DD p1 j l d m)) :: (.blk n 33 (DD p0 g h a i)) :: G = b ∧ lp1 (MZ p1 p0) ad f = some c) BIG ?_ ?_
   ·exact Pu1<|Pu1<|Sd<|⟨_, by exact R3, 0, Z, Z, H⟩
   rintro ad _ a9 _ L ⟨f, rfl, rfl, H⟩
   obtain ⟨bn, ac, rfl, av, H⟩ := G6 H
   unfold MZ at H
   refine DF<|DF<|Dz<|Em Z<|EF 3 Z<|El (sv a) Z (Rb1 Z)<|?_
   have C := (O.mono N).mono L
   refine Eq Z (EA (T := (Ty.sl DT)) C Z Z)<|Ec Z<|DC<|?_
   refine DX Z ?_ ?_
   ·intro y
    obtain ⟨y, H⟩ := It y H
    refine D1 ?_
    refine Ei (fun e x b => [(2, (Vp n)), (3, (Vp o)), (5, (Vi f))] = e ∧ (.blk o 33 (DD p1 j l d m)) :: (.blk n 33 (DD p0 g h a i)) :: G = b ∧ agf f p1 p0 ac = some c) ?_ ?_
    ·refine D8<|DF<|DF<|?_
     obtain ⟨bw, U, H⟩ := bnd H
     obtain ⟨bx, V, H⟩ := bnd H
     refine En _ Z (Ic Mb0 (Ic Mb1 In0))<|JF 0 3 Z<|Jl 1 (sv a) Z (Rb1 Z)<|Jm 2 Z<|?_
     obtain ⟨bp, aD, am⟩ := Slr.at C U
     obtain ⟨a1, rfl, aK⟩ := aD
     refine Jq 3 Z (Qi (T := (Ty.sl DT)) C U Z)<|Jl 4 (sv a1) Z (Rdc.k am Z)<|Jq 5 Z (EA (T := DT) aK Z Z)<|JF 6 3 Z<|Jl 7 (sv d) Z (Rb0 Z)<|Jm 8 Z<|?_
     have I := (P.mono N).mono L
     obtain ⟨bq, aE, an⟩ := Slr.at I V
     obtain ⟨a2, rfl, aL⟩ := aE
     refine Jq 9 Z (Qi (T := (Ty.sl DT)) I V Z)<|Jl 10 (sv a2) Z (Rdc.k an Z)<|Jq 11 Z (EA (T := DT) aL Z Z)<|Jc 12 Z<|Ad<|?_
     refine DX Z ?_ ?_
     ·intro p
      have p := EY (E5 (p))
      have H := ED p H
      refine DF<|Dz<|Ea Z<|DC<|D7<|?_
      obtain E := EJ H
      subst c
      refine ⟨(.inl Z), [(.bool false)], ⟨(.bool false), _, Z, Z, Z⟩, ?_⟩
      exact Re0<|Re0<|Sd<|⟨Z, Z⟩
     ·intro p
      have p := EZ (E4 (p))
      have H := ift p H
      refine D1<|DF<|Dz<|Ea Z<|DC<|D8<|?_
      refine EB (fun ae e x b => ∃ (A : Int), [(2, (Vp n)), (3, (Vp o)), (5, (Vi f)), (6, (Vi A))] = e ∧ (.blk o 33 (DD p1 j l d m)) :: (.blk n 33 (DD p0 g h a i)) :: G = b ∧ lp1 (MY f p1 p0 ac) ae A = some c) BIG ?_ ?_
      ·exact Pu1<|Pu1<|Sd<|⟨_, by exact R4, 0, Z, Z, H⟩
      rintro ae _ ba _ M ⟨A, rfl, rfl, H⟩
      obtain ⟨bo, bm, rfl, aw, H⟩ := G6 H
      unfold MY at H
      refine DF<|DF<|Dz<|Em Z<|EF 3 Z<|El (sv a) Z (Rb1 Z)<|Em Z<|?_
      obtain ⟨bz, W, H⟩ := bnd H
      have D := C.mono M
      obtain ⟨br, aF, ao⟩ := Slr.at D W
      obtain ⟨a3, rfl, aM⟩ := aF
      refine Eq Z (Qi (T := (Ty.sl DT)) D W Z)<|El (sv a3) Z (Rdc.k ao Z)<|Eq Z (EA (T := DT) aM Z Z)<|Ec Z<|DC<|?_
      refine DX Z ?_ ?_
      ·intro z
       obtain ⟨z, H⟩ := It z H
       refine D1<|DF<|D8<|DF<|?_
       obtain ⟨bA, X, H⟩ := bnd H
       obtain ⟨aj, Y, H⟩ := bnd H
       obtain ⟨bB, aa, H⟩ := bnd H
       obtain ⟨ak, ab, H⟩ := bnd H
       obtain ⟨a6, aX, H⟩ := bnd H
       refine En _ Z (Ic Mb0 (Ic Mb1 In0))<|JF 0 3 Z<|Jl 1 (sv a) Z (Rb1 Z)<|Jm 2 Z<|?_
       obtain ⟨bs, aG, ap⟩ := Slr.at D X
       obtain ⟨a4, rfl, Q⟩ := aG
       refine Jq 3 Z (Qi (T := (Ty.sl DT)) D X Z)<|Jl 4 (sv a4) Z (Rdc.k ap Z)<|Jm 5 Z<|?_
       obtain ⟨bt, aH, aq⟩ := Slr.at Q Y
       obtain ⟨af, ag, rfl, aN, aO⟩ := aH
       refine Jq 6 Z (Qi (T := DT) Q Y Z)<|JL 7 7 (DG aj af ag) Z (Rdc.k aq Z)<|JF 8 3 Z<|Jl 9 (sv d) Z (Rb0 Z)<|Jm 10 Z<|?_
       have R := I.mono M
       obtain ⟨bu, aI, ar⟩ := Slr.at R aa
       obtain ⟨a5, rfl, S⟩ := aI
       refine Jq 11 Z (Qi (T := (Ty.sl DT)) R aa Z)<|Jl 12 (sv a5) Z (Rdc.k ar Z)<|Jm 13 Z<|?_
       obtain ⟨bv, aJ, au⟩ := Slr.at S ab
       obtain ⟨ah, ai, rfl, aP, aQ⟩ := aJ
       refine Jq 14 Z (Qi (T := DT) S ab Z)<|JL 15 7 (DG ak ah ai) Z (Rdc.k au Z)<|?_
       refine Ao 16 Z ?_
       refine Ek Tryz.call31 Z (akS aj af ag ak ah ai a6 aX _ _ aN aO aP aQ) ?_
       rintro _ bb _ bi ⟨rfl, rfl⟩
       refine ⟨(Ic Mb0 (Ic Mb1 In0)), ?_⟩
       refine Jq 17 Z (Fe Z)<|Ad<|?_
       refine DX Z ?_ ?_
       ·intro q
        have q := E5 q
        have H := ED (btf q) H
        refine DF<|Dz<|Ea Z<|DC<|D7<|?_
        obtain E := EJ H
        subst c
        refine ⟨(.inl Z), [(.bool false)], ⟨(.bool false), _, Z, Z, Z⟩, ?_⟩
        exact Re0<|Re0<|Sd<|⟨Z, Z⟩
       ·intro q
        have q := E4 q
        have H := ift q H
        exact D1<|Dz<|Em Z<|Er (wI (A + 1)) Z<|Ea Z<|DC<|Pu1<|Pu1<|Sd<|⟨_, by exact R4, _, Nat.lt_succ_self _, (wI (A + 1)), Z, Z, (aw ▸ H)⟩
      ·intro z
       obtain ⟨z, H⟩ := If z H
       exact EE<|Pu1<|Pu1<|Sd<|⟨_, by exact R3, Z, Z, H⟩
    rintro _ bc _ bj ⟨rfl, rfl, H⟩
    unfold agf at H
    exact Dz<|Em Z<|Er (wI (f + 1)) Z<|Ea Z<|DC<|Pu1<|Pu1<|Sd<|⟨_, by exact R3, _, Nat.lt_succ_self _, (wI (f + 1)), Z, Z, (av ▸ H)⟩
   ·intro y
    obtain ⟨y, H⟩ := If y H
    exact EE<|Re0<|Re0<|Sd<|⟨[], trivial, Z, Z, H⟩
  rintro _ bd _ bk ⟨rfl, rfl, H⟩
  unfold aii at H
  refine DF<|Dz<|Ea Z<|DC<|D7<|?_
  obtain E := EJ H
  subst c
  refine ⟨(.inl Z), [(.bool true)], ⟨(.bool true), _, Z, Z, Z⟩, ?_⟩
  exact Sd ⟨Z, Z⟩
theorem Jg (p0 : Int) (b : ByteArray) (H : Iz p0 = some b) (K : Kp) (G : List Ent)  :
  Fc Tryz.prog 45 #[(.int .u64 p0)] K (G) (fun v i d => v = (.string b) ∧ G = d) := by
 refine Ey Tryz.func45 Z Tryz.ntmps45 Tryz.results45 Z ?_
 unfold Iz at H
 refine DF<|Dz<|Ea Z<|DC<|DF<|DF<|Dz<|Em Z<|Ec Z<|DC<|?_
 refine DX Z ?_ ?_
 ·intro e
  obtain ⟨e, H⟩ := It e H
  refine DF<|Dz<|Ea Z<|DC<|D7<|?_
  obtain k := EJ H
  subst b
  refine ⟨(.inl Z), [(.string (⟨#[48]⟩ : ByteArray))], ⟨(.string (⟨#[48]⟩ : ByteArray)), _, Z, Z, Z⟩, ?_⟩
  exact Sd ⟨Z, Z⟩
 ·intro e
  obtain ⟨e, H⟩ := If e H
  refine D1<|DF<|Dz<|Ea Z<|DC<|?_
  refine Ei (fun j i d => ∃ (g : ByteArray), [(3, (.string g))] = j ∧ G = d ∧ agw g = some b) ?_ ?_
  ·refine D8 ?_
   refine EB (fun n50 j i d => ∃ (a : Int) (h : ByteArray), [(0, (.int .u64 a)), (3, (.string h))] = j ∧ K = i ∧ G = d ∧ lp2 (agx) n50 a h = some b) BIG ?_ ?_
   ·exact Sd ⟨_, by exact R2, p0, (⟨#[]⟩ : ByteArray), Z, Z, Z, H⟩
   rintro n50 _ _ _ - ⟨a, h, rfl, rfl, rfl, H⟩
   obtain ⟨r, q, rfl, l, H⟩ := Kw H
   unfold agx at H
   refine DF<|DF<|Dz<|Em Z<|Ec Z<|DC<|?_
   refine DX Z ?_ ?_
   ·intro f
    obtain ⟨f, H⟩ := It f H
    refine D1<|D8<|DF<|Dz<|Em Z<|Eq Z (akv Z Z (by decide))<|Er (wU (48 + (Int.tmod a 10))) Z<|Eq Z (GZ (c := (IntKind.wrap .i32) (wU (48 + (Int.tmod a 10)))) Z Z Z Z)<|Eq Z (aks Z Z Z)<|Em Z<|?_
    obtain ⟨n, m, H⟩ := bnd H
    exact Eq Z (ES m Z Z)<|Ea Z<|DC<|Dz<|Em Z<|Eq Z (agD Z Z (by decide))<|Ea Z<|DC<|Sd<|⟨_, by exact R2, _, Nat.lt_succ_self _, (wU (Int.tdiv a 10)), n, Z, Z, Z, (l ▸ H)⟩
   ·intro f
    obtain ⟨f, H⟩ := If f H
    exact EE<|Sd<|⟨_, by exact R1, h, Z, Z, H⟩
  rintro _ o _ p ⟨g, rfl, rfl, H⟩
  unfold agw at H
  refine DF<|Dz<|Em Z<|Ea Z<|DC<|D7<|?_
  obtain k := EJ H
  subst b
  refine ⟨(.inl Z), [(.string g)], ⟨(.string g), _, Z, Z, Z⟩, ?_⟩
  exact Sd ⟨Z, Z⟩
theorem Hu (p0 : Int) (b : ByteArray) (H : I6 p0 = some b) (K : Kp) (G : List Ent)  :
  Fc Tryz.prog 44 #[(Vi p0)] K (G) (fun v l f => v = (.string b) ∧ G = f) := by
 refine Ey Tryz.func44 Z Tryz.ntmps44 Tryz.results44 Z ?_
 unfold I6 at H
 refine DF<|Dz<|Ea Z<|DC<|DF<|DF<|Dz<|Em Z<|Ec Z<|DC<|?_
 refine DX Z ?_ ?_
 ·intro a
  obtain ⟨a, H⟩ := It a H
  refine DF<|Dz<|Em Z<|Eq Z (aku (c := wI (0 - p0)) Z Z)<|Eq Z (GZ (c := wU (wI (0 - p0))) Z Z Z Z)<|?_
  obtain ⟨k, h, H⟩ := bnd H
  refine DN Z (Ek Tryz.call45 Z (Jg (wU (wI (0 - p0))) k h _ _ ) ?_)
  rintro _ K22 _ n ⟨rfl, rfl⟩
  obtain ⟨e, i, H⟩ := bnd H
  refine Eq Z (ES i Z Z)<|Ea Z<|DC<|D7<|?_
  obtain g := EJ H
  subst b
  refine ⟨(.inl Z), [(.string e)], ⟨(.string e), _, Z, Z, Z⟩, ?_⟩
  exact Sd ⟨Z, Z⟩
 ·intro a
  obtain ⟨a, H⟩ := If a H
  refine D1<|DF<|Dz<|Em Z<|Eq Z (GZ (c := wU p0) Z Z Z Z)<|?_
  obtain ⟨d, j, H⟩ := bnd H
  refine DN Z (Ek Tryz.call45 Z (Jg (wU p0) d j _ _ ) ?_)
  rintro _ m _ o ⟨rfl, rfl⟩
  refine Ea Z<|DC<|D7<|?_
  obtain g := EJ H
  subst b
  refine ⟨(.inl Z), [(.string d)], ⟨(.string d), _, Z, Z, Z⟩, ?_⟩
  exact Sd ⟨Z, Z⟩
theorem ahn (p0 : ByteArray) (p1 : ae9) (i : SV) (e : ByteArray) (H : J0 p0 p1 = some e) (K : Kp) (G : List Ent) (q : Slr Ty.i64 K (sv i) p1) :
  Fc Tryz.prog 48 #[(.string p0), (sv i)] K (G) (fun v j a => v = (.string e) ∧ G = a) := by
 refine Ey Tryz.func48 Z Tryz.ntmps48 Tryz.results48 Z ?_
 unfold J0 at H
 refine DF<|Dz<|Ea Z<|DC<|?_
 refine Ei (fun g j a => ∃ (d : ByteArray), [(0, (.string d))] = g ∧ G = a ∧ agy d = some e) ?_ ?_
 ·refine DF<|Dz<|Ea Z<|DC<|D8<|?_
  refine EB (fun n119 g j a => ∃ (f : ByteArray) (c : Int), [(0, (.string f)), (1, (sv i)), (5, (Vi c))] = g ∧ G = a ∧ lp2 (IA p1) n119 f c = some e) BIG ?_ ?_
  ·exact Sd ⟨_, by exact R3, p0, 0, Z, Z, H⟩
  rintro n119 _ x _ n ⟨f, c, rfl, rfl, H⟩
  obtain ⟨E, D, rfl, p, H⟩ := Kw H
  unfold IA at H
  refine DF<|DF<|Dz<|Em Z<|Em Z<|?_
  have h := q.mono n
  refine Eq Z (EA (T := Ty.i64) h Z Z)<|Ec Z<|DC<|?_
  refine DX Z ?_ ?_
  ·intro b
   obtain ⟨b, H⟩ := It b H
   refine D1<|DF<|D8<|Dz<|Em Z<|Em Z<|Em Z<|?_
   obtain ⟨m, l, H⟩ := bnd H
   obtain ⟨_, rfl, o⟩ := Slr.at h l
   refine Eq Z (Qi (T := Ty.i64) h l Z)<|El (Vi m) Z (Rdc.k o Z)<|?_
   obtain ⟨u, r, H⟩ := bnd H
   refine DN Z (Ek Tryz.call44 Z (Hu m u r _ _ ) ?_)
   rintro _ y _ B ⟨rfl, rfl⟩
   obtain ⟨F, s, H⟩ := bnd H
   refine Eq Z (ES s Z Z) ?_
   obtain ⟨w, t, H⟩ := bnd H
   exact Eq Z (ES t Z Z)<|Ea Z<|DC<|Dz<|Em Z<|Er (wI (c + 1)) Z<|Ea Z<|DC<|Sd<|⟨_, by exact R3, _, Nat.lt_succ_self _, w, (wI (c + 1)), Z, Z, (p ▸ H)⟩
  ·intro b
   obtain ⟨b, H⟩ := If b H
   exact EE<|Sd<|⟨_, by exact R1, f, Z, Z, H⟩
 rintro _ z _ C ⟨d, rfl, rfl, H⟩
 unfold agy at H
 refine DF<|Dz<|Em Z<|Ea Z<|DC<|D7<|?_
 obtain A := EJ H
 subst e
 refine ⟨(.inl Z), [(.string d)], ⟨(.string d), _, Z, Z, Z⟩, ?_⟩
 exact Sd ⟨Z, Z⟩
theorem akY (p0 : Op) (a e : SV) (b : ByteArray) (H : Na p0 = some b) (K : Kp) (G : List Ent) (z : Slr Eu K (sv a) p0.cases) (W : Slr Ty.i64 K (sv e) p0.draws) :
  Fc Tryz.prog 46 #[(.agg (DG p0 a e).toArray)] K (G) (fun v w g => v = (.string b) ∧ G = g) := by
 refine Ey Tryz.func46 Z Tryz.ntmps46 Tryz.results46 Z ?_
 unfold Na at H
 refine DF<|Dz<|?_
 refine DN Z (EU (cs := (DG p0 a e)) Z Z Z (fun q => ?_))
 refine Ea Z<|DC<|DF<|DF<|Dz<|EF 0 Z<|El (Vi p0.kind) Z (Rb0 Z)<|DC<|D8<|DF<|Dz<|Ec Z<|Ea Z<|DC<|?_
 refine DX Z ?_ ?_
 ·intro h
  obtain ⟨h, H⟩ := It h H
  refine DF ?_
  obtain ⟨aA, aa, H⟩ := bnd H
  obtain ⟨bb, ab, H⟩ := bnd H
  obtain ⟨bc, ac, H⟩ := bnd H
  obtain ⟨aB, ad, H⟩ := bnd H
  obtain ⟨F, ae, H⟩ := bnd H
  refine En _ Z (Ic Mb0 In0)<|JF 0 2 Z<|Jl 1 (Vi p0.channel) Z (Rb0 Z)<|JF 5 3 Z<|Jl 6 (.int .u64 p0.value) Z (Rb0 Z)<|?_
  refine Ao 2 Z ?_
  refine Ek Tryz.call44 Z (Hu p0.channel aA aa _ _ ) ?_
  rintro _ aN _ aZ ⟨rfl, rfl⟩
  refine ⟨(Ic Mb0 In0), ?_⟩
  refine Jq 3 Z (ES ab Z Z)<|Jq 4 Z (ES ac Z Z)<|?_
  refine Ao 7 Z ?_
  refine Ek Tryz.call45 Z (Jg p0.value aB ad _ _ ) ?_
  rintro _ aO _ a0 ⟨rfl, rfl⟩
  refine ⟨(Ic Mb0 In0), ?_⟩
  refine Jq 8 Z (ES ae Z Z)<|Ja 9 Z<|Ad<|D7<|?_
  obtain f := EJ H
  subst b
  refine ⟨(.inl Z), [(.string F)], ⟨(.string F), _, Z, Z, Z⟩, ?_⟩
  exact Re0<|Sd<|⟨Z, Z⟩
 ·intro h
  obtain ⟨h, H⟩ := If h H
  refine DF<|Dz<|Ec Z<|Ea Z<|DC<|?_
  refine DX Z ?_ ?_
  ·intro i
   obtain ⟨i, H⟩ := It i H
   refine DF<|Dz<|EF 2 Z<|El (Vi p0.channel) Z (Rb0 Z)<|?_
   obtain ⟨aC, af, H⟩ := bnd H
   refine DN Z (Ek Tryz.call44 Z (Hu p0.channel aC af _ _ ) ?_)
   rintro _ aP _ a1 ⟨rfl, rfl⟩
   obtain ⟨I, ag, H⟩ := bnd H
   refine Eq Z (ES ag Z Z)<|Ea Z<|DC<|D7<|?_
   obtain f := EJ H
   subst b
   refine ⟨(.inl Z), [(.string I)], ⟨(.string I), _, Z, Z, Z⟩, ?_⟩
   exact Re0<|Sd<|⟨Z, Z⟩
  ·intro i
   obtain ⟨i, H⟩ := If i H
   refine DF<|Dz<|Ec Z<|Ea Z<|DC<|?_
   refine DX Z ?_ ?_
   ·intro j
    obtain ⟨j, H⟩ := It j H
    refine DF<|Dz<|EF 2 Z<|El (Vi p0.channel) Z (Rb0 Z)<|?_
    obtain ⟨aD, ah, H⟩ := bnd H
    refine DN Z (Ek Tryz.call44 Z (Hu p0.channel aD ah _ _ ) ?_)
    rintro _ aQ _ a2 ⟨rfl, rfl⟩
    obtain ⟨J, ai, H⟩ := bnd H
    refine Eq Z (ES ai Z Z)<|Ea Z<|DC<|D7<|?_
    obtain f := EJ H
    subst b
    refine ⟨(.inl Z), [(.string J)], ⟨(.string J), _, Z, Z, Z⟩, ?_⟩
    exact Re0<|Sd<|⟨Z, Z⟩
   ·intro j
    obtain ⟨j, H⟩ := If j H
    refine DF<|Dz<|Ec Z<|Ea Z<|DC<|?_
    refine DX Z ?_ ?_
    ·intro l
     obtain ⟨l, H⟩ := It l H
     refine DF<|Dz<|EF 2 Z<|El (Vi p0.channel) Z (Rb0 Z)<|?_
     obtain ⟨aE, aj, H⟩ := bnd H
     refine DN Z (Ek Tryz.call44 Z (Hu p0.channel aE aj _ _ ) ?_)
     rintro _ aR _ a3 ⟨rfl, rfl⟩
     obtain ⟨L, ak, H⟩ := bnd H
     refine Eq Z (ES ak Z Z)<|Ea Z<|DC<|D7<|?_
     obtain f := EJ H
     subst b
     refine ⟨(.inl Z), [(.string L)], ⟨(.string L), _, Z, Z, Z⟩, ?_⟩
     exact Re0<|Sd<|⟨Z, Z⟩
    ·intro l
     obtain ⟨l, H⟩ := If l H
     refine DF<|Dz<|Ec Z<|Ea Z<|DC<|?_
     refine DX Z ?_ ?_
     ·intro m
      obtain ⟨m, H⟩ := It m H
      refine DF<|Dz<|EF 2 Z<|El (Vi p0.channel) Z (Rb0 Z)<|?_
      obtain ⟨aF, al, H⟩ := bnd H
      refine DN Z (Ek Tryz.call44 Z (Hu p0.channel aF al _ _ ) ?_)
      rintro _ aS _ a4 ⟨rfl, rfl⟩
      obtain ⟨M, am, H⟩ := bnd H
      refine Eq Z (ES am Z Z)<|Ea Z<|DC<|D7<|?_
      obtain f := EJ H
      subst b
      refine ⟨(.inl Z), [(.string M)], ⟨(.string M), _, Z, Z, Z⟩, ?_⟩
      exact Re0<|Sd<|⟨Z, Z⟩
     ·intro m
      obtain ⟨m, H⟩ := If m H
      refine D1<|DF<|Dz<|Ea Z<|DC<|?_
      refine Ei (fun s w g => ∃ (p : ByteArray), [(1, (Vp q)), (3, (.string p))] = s ∧ (.blk q 70 (DG p0 a e)) :: G = g ∧ M9 p0 p = some b) ?_ ?_
      ·refine DF<|Dz<|Ea Z<|DC<|D8<|?_
       refine EB (fun E s w g => ∃ (r : ByteArray) (d : Int), [(1, (Vp q)), (3, (.string r)), (4, (Vi d))] = s ∧ (.blk q 70 (DG p0 a e)) :: G = g ∧ lp2 (IB p0) E r d = some b) BIG ?_ ?_
       ·exact Sd ⟨_, by exact R3, (⟨#[115, 101, 108, 101, 99, 116]⟩ : ByteArray), 0, Z, Z, H⟩
       rintro E _ aT _ Q ⟨r, d, rfl, rfl, H⟩
       obtain ⟨ba, a9, rfl, y, H⟩ := Kw H
       unfold IB at H
       refine DF<|DF<|Dz<|Em Z<|EF 5 Z<|El (sv a) Z (Rb0 Z)<|?_
       have c := z.mono Q
       refine Eq Z (EA (T := Eu) c Z Z)<|Ec Z<|DC<|?_
       refine DX Z ?_ ?_
       ·intro n
        obtain ⟨n, H⟩ := It n H
        refine D1<|DF<|D8<|DF<|Dz<|EF 5 Z<|El (sv a) Z (Rb0 Z)<|Em Z<|?_
        obtain ⟨aG, A, H⟩ := bnd H
        obtain ⟨_, rfl, R⟩ := Slr.at c A
        refine Eq Z (Qi (T := Eu) c A Z)<|EF 0 Z<|El (.bool aG.send) Z (Rdc.k R Z)<|DC<|?_
        refine DX Z ?_ ?_
        ·intro t
         have H := ift t H
         obtain ⟨N, B, H⟩ := bnd H
         obtain ⟨aH, an, H⟩ := bnd H
         obtain ⟨bd, ao, H⟩ := bnd H
         obtain ⟨be, ap, H⟩ := bnd H
         obtain ⟨O, C, H⟩ := bnd H
         obtain ⟨aI, aq, H⟩ := bnd H
         obtain ⟨bf, ar, H⟩ := bnd H
         obtain ⟨aJ, au, H⟩ := bnd H
         refine En _ Z (Ic Mb0 In0)<|Jm 0 Z<|JF 1 5 Z<|Jl 2 (sv a) Z (Rb0 Z)<|Jm 3 Z<|?_
         obtain ⟨_, rfl, S⟩ := Slr.at c B
         refine Jq 4 Z (Qi (T := Eu) c B Z)<|JF 5 1 Z<|Jl 6 (Vi N.channel) Z (Rdc.k S Z)<|JF 10 5 Z<|Jl 11 (sv a) Z (Rb0 Z)<|Jm 12 Z<|?_
         obtain ⟨_, rfl, U⟩ := Slr.at c C
         refine Jq 13 Z (Qi (T := Eu) c C Z)<|JF 14 2 Z<|Jl 15 (.int .u64 O.value) Z (Rdc.k U Z)<|?_
         refine Ao 7 Z ?_
         refine Ek Tryz.call44 Z (Hu N.channel aH an _ _ ) ?_
         rintro _ aU _ a5 ⟨rfl, rfl⟩
         refine ⟨(Ic Mb0 In0), ?_⟩
         refine Jq 8 Z (ES ao Z Z)<|Jq 9 Z (ES ap Z Z)<|?_
         refine Ao 16 Z ?_
         refine Ek Tryz.call45 Z (Jg O.value aI aq _ _ ) ?_
         rintro _ aV _ a6 ⟨rfl, rfl⟩
         refine ⟨(Ic Mb0 In0), ?_⟩
         exact Jq 17 Z (ES ar Z Z)<|Jq 18 Z (ES au Z Z)<|Ja 19 Z<|Ad<|Dz<|Em Z<|Er (wI (d + 1)) Z<|Ea Z<|DC<|Sd<|⟨_, by exact R3, _, Nat.lt_succ_self _, aJ, (wI (d + 1)), Z, Z, (y ▸ H)⟩
        ·intro t
         have H := ED (btf t) H
         refine Dz<|Em Z<|EF 5 Z<|El (sv a) Z (Rb0 Z)<|Em Z<|?_
         obtain ⟨P, D, H⟩ := bnd H
         obtain ⟨_, rfl, V⟩ := Slr.at c D
         refine Eq Z (Qi (T := Eu) c D Z)<|EF 1 Z<|El (Vi P.channel) Z (Rdc.k V Z)<|?_
         obtain ⟨aK, av, H⟩ := bnd H
         refine DN Z (Ek Tryz.call44 Z (Hu P.channel aK av _ _ ) ?_)
         rintro _ aW _ a7 ⟨rfl, rfl⟩
         obtain ⟨bg, aw, H⟩ := bnd H
         refine Eq Z (ES aw Z Z) ?_
         obtain ⟨aL, ax, H⟩ := bnd H
         exact Eq Z (ES ax Z Z)<|Ea Z<|DC<|Dz<|Em Z<|Er (wI (d + 1)) Z<|Ea Z<|DC<|Sd<|⟨_, by exact R3, _, Nat.lt_succ_self _, aL, (wI (d + 1)), Z, Z, (y ▸ H)⟩
       ·intro n
        obtain ⟨n, H⟩ := If n H
        exact EE<|Sd<|⟨_, by exact R2, r, Z, Z, H⟩
      rintro _ aX _ x ⟨p, rfl, rfl, H⟩
      unfold M9 at H
      refine DF<|DF<|Dz<|EF 5 Z<|El (sv a) Z (Rb0 Z)<|?_
      have X := z.mono x
      refine Eq Z (EA (T := Eu) X Z Z)<|Ec Z<|DC<|?_
      refine DX Z ?_ ?_
      ·intro o
       obtain ⟨o, H⟩ := It o H
       refine Dz<|Em Z<|?_
       obtain ⟨aM, ay, H⟩ := bnd H
       refine Eq Z (ES ay Z Z)<|EF 6 Z<|El (sv e) Z (Rb0 Z)<|?_
       obtain ⟨u, az, H⟩ := bnd H
       have Y := W.mono x
       refine DN Z (Ek Tryz.call48 Z (ahn aM p0.draws e u az _ _ Y) ?_)
       rintro _ aY _ a8 ⟨rfl, rfl⟩
       refine Ea Z<|DC<|DF<|Dz<|Em Z<|Ea Z<|DC<|D7<|?_
       obtain f := EJ H
       subst b
       refine ⟨(.inl Z), [(.string u)], ⟨(.string u), _, Z, Z, Z⟩, ?_⟩
       exact Re0<|Sd<|⟨Z, Z⟩
      ·intro o
       obtain ⟨o, H⟩ := If o H
       refine D1<|DF<|Dz<|Em Z<|Ea Z<|DC<|D7<|?_
       obtain f := EJ H
       subst b
       refine ⟨(.inl Z), [(.string p)], ⟨(.string p), _, Z, Z, Z⟩, ?_⟩
       exact Re0<|Sd<|⟨Z, Z⟩
theorem ak0 (p0 : Op) (d e : SV) (c : ByteArray) (H : Nb p0 = some c) (K : Kp) (G : List Ent) (p : Slr Eu K (sv d) p0.cases) (q : Slr Ty.i64 K (sv e) p0.draws) :
  Fc Tryz.prog 47 #[(.agg (DG p0 d e).toArray)] K (G) (fun v l h => v = (.string c) ∧ G = h) := by
 refine Ey Tryz.func47 Z Tryz.ntmps47 Tryz.results47 Z ?_
 unfold Nb at H
 refine DF<|Dz<|?_
 refine DN Z (EU (cs := (DG p0 d e)) Z Z Z (fun n => ?_))
 refine Ea Z<|DC<|DF<|DF<|Dz<|EF 1 Z<|El (Vi p0.mode) Z (Rb0 Z)<|DC<|D8<|DF<|Dz<|Ec Z<|Ea Z<|DC<|?_
 refine DX Z ?_ ?_
 ·intro a
  obtain ⟨a, H⟩ := It a H
  refine DF<|Dz<|Ea Z<|DC<|D7<|?_
  obtain f := EJ H
  subst c
  refine ⟨(.inl Z), [(.string (⟨#[32, 116, 114, 121]⟩ : ByteArray))], ⟨(.string (⟨#[32, 116, 114, 121]⟩ : ByteArray)), _, Z, Z, Z⟩, ?_⟩
  exact Re0<|Sd<|⟨Z, Z⟩
 ·intro a
  obtain ⟨a, H⟩ := If a H
  refine DF<|Dz<|Ec Z<|Ea Z<|DC<|?_
  refine DX Z ?_ ?_
  ·intro b
   obtain ⟨b, H⟩ := It b H
   refine DF<|Dz<|EF 4 Z<|El (Vi p0.deadline) Z (Rb0 Z)<|?_
   obtain ⟨k, i, H⟩ := bnd H
   refine DN Z (Ek Tryz.call44 Z (Hu p0.deadline k i _ _ ) ?_)
   rintro _ m _ o ⟨rfl, rfl⟩
   obtain ⟨g, j, H⟩ := bnd H
   refine Eq Z (ES j Z Z)<|Ea Z<|DC<|D7<|?_
   obtain f := EJ H
   subst c
   refine ⟨(.inl Z), [(.string g)], ⟨(.string g), _, Z, Z, Z⟩, ?_⟩
   exact Re0<|Sd<|⟨Z, Z⟩
  ·intro b
   obtain ⟨b, H⟩ := If b H
   refine D1<|DF<|Dz<|Ea Z<|DC<|D7<|?_
   obtain f := EJ H
   subst c
   refine ⟨(.inl Z), [(.string (⟨#[]⟩ : ByteArray))], ⟨(.string (⟨#[]⟩ : ByteArray)), _, Z, Z, Z⟩, ?_⟩
   exact Re0<|Sd<|⟨Z, Z⟩
theorem ak1 (p0 : Script) (f g : SV) (b d : SV) (h : ByteArray) (H : Nh p0 = some h) (K : Kp) (G : List Ent) (ax : Slr Ty.i64 K (sv f) p0.cnfg.capacities) (ay : Slr Ty.u64 K (sv g) p0.cnfg.starts) (az : Slr (Ty.sl DT) K (sv b) p0.ops) (aA : Slr Ty.i64 K (sv d) p0.picks) :
  Fc Tryz.prog 22 #[(.agg (DD p0 f g b d).toArray)] K (G) (fun v j a => v = (.string h) ∧ G = a) := by
 refine Ey Tryz.func22 Z Tryz.ntmps22 Tryz.results22 Z ?_
 unfold Nh at H
 refine DF<|Dz<|?_
 refine DN Z (EU (cs := (DD p0 f g b d)) Z Z Z (fun c => ?_))
 refine Ea Z<|DC<|DF<|Dz<|Ea Z<|DC<|?_
 refine Ei (fun e j a => ∃ (x : ByteArray), [(1, (Vp c)), (3, (.string x))] = e ∧ (.blk c 33 (DD p0 f g b d)) :: G = a ∧ agA p0 x = some h) ?_ ?_
 ·refine DF<|Dz<|Ea Z<|DC<|D8<|?_
  refine EB (fun W e j a => ∃ (y : ByteArray) (r : Int), [(1, (Vp c)), (3, (.string y)), (4, (Vi r))] = e ∧ (.blk c 33 (DD p0 f g b d)) :: G = a ∧ lp2 (IE p0) W y r = some h) BIG ?_ ?_
  ·exact Sd ⟨_, by exact R3, (⟨#[]⟩ : ByteArray), 0, Z, Z, H⟩
  rintro W _ bm _ B ⟨y, r, rfl, rfl, H⟩
  obtain ⟨bA, bw, rfl, aw, H⟩ := Kw H
  unfold IE at H
  refine DF<|DF<|Dz<|Em Z<|EF 0 Z<|EF 0 Z<|El (sv f) Z (Rb0 Z)<|?_
  have z := ax.mono B
  refine Eq Z (EA (T := Ty.i64) z Z Z)<|Ec Z<|DC<|?_
  refine DX Z ?_ ?_
  ·intro p
   obtain ⟨p, H⟩ := It p H
   refine D1<|DF<|D8<|?_
   obtain ⟨af, Q, H⟩ := bnd H
   obtain ⟨bc, aX, H⟩ := bnd H
   obtain ⟨bN, aY, H⟩ := bnd H
   obtain ⟨bO, aZ, H⟩ := bnd H
   obtain ⟨ag, R, H⟩ := bnd H
   obtain ⟨bd, a0, H⟩ := bnd H
   obtain ⟨bP, a1, H⟩ := bnd H
   obtain ⟨bQ, a2, H⟩ := bnd H
   obtain ⟨be, a3, H⟩ := bnd H
   refine En _ Z (Ic Mb0 In0)<|Jm 0 Z<|JF 1 0 Z<|JF 2 0 Z<|Jl 3 (sv f) Z (Rb0 Z)<|Jm 4 Z<|?_
   obtain ⟨_, rfl, aq⟩ := Slr.at z Q
   refine Jq 5 Z (Qi (T := Ty.i64) z Q Z)<|Jl 6 (Vi af) Z (Rdc.k aq Z)<|JF 10 0 Z<|JF 11 1 Z<|Jl 12 (sv g) Z (Rb0 Z)<|Jm 13 Z<|?_
   have J := ay.mono B
   obtain ⟨_, rfl, ar⟩ := Slr.at J R
   refine Jq 14 Z (Qi (T := Ty.u64) J R Z)<|Jl 15 (.int .u64 ag) Z (Rdc.k ar Z)<|?_
   refine Ao 7 Z ?_
   refine Ek Tryz.call44 Z (Hu af bc aX _ _ ) ?_
   rintro _ bn _ bt ⟨rfl, rfl⟩
   refine ⟨(Ic Mb0 In0), ?_⟩
   refine Jq 8 Z (ES aY Z Z)<|Jq 9 Z (ES aZ Z Z)<|?_
   refine Ao 16 Z ?_
   refine Ek Tryz.call45 Z (Jg ag bd a0 _ _ ) ?_
   rintro _ bo _ bu ⟨rfl, rfl⟩
   refine ⟨(Ic Mb0 In0), ?_⟩
   exact Jq 17 Z (ES a1 Z Z)<|Jq 18 Z (ES a2 Z Z)<|Jq 19 Z (ES a3 Z Z)<|Ja 20 Z<|Ad<|Dz<|Em Z<|Er (wI (r + 1)) Z<|Ea Z<|DC<|Sd<|⟨_, by exact R3, _, Nat.lt_succ_self _, be, (wI (r + 1)), Z, Z, (aw ▸ H)⟩
  ·intro p
   obtain ⟨p, H⟩ := If p H
   exact EE<|Sd<|⟨_, by exact R2, y, Z, Z, H⟩
 rintro _ bp _ C ⟨x, rfl, rfl, H⟩
 unfold agA at H
 refine Ei (fun e j a => ∃ (s : ByteArray), [(1, (Vp c)), (3, (.string s))] = e ∧ (.blk c 33 (DD p0 f g b d)) :: G = a ∧ Nc p0 s = some h) ?_ ?_
 ·refine DF<|Dz<|Ea Z<|DC<|D8<|?_
  refine EB (fun U e j a => ∃ (t : ByteArray) (i : Int), [(1, (Vp c)), (3, (.string t)), (5, (Vi i))] = e ∧ (.blk c 33 (DD p0 f g b d)) :: G = a ∧ lp2 (ID p0) U t i = some h) BIG ?_ ?_
  ·exact Sd ⟨_, by exact R3, x, 0, Z, Z, H⟩
  rintro U _ bf _ ai ⟨t, i, rfl, rfl, H⟩
  obtain ⟨bx, S, rfl, au, H⟩ := Kw H
  unfold ID at H
  refine DF<|DF<|Dz<|Em Z<|EF 3 Z<|El (sv b) Z (Rb0 Z)<|?_
  have D := (az.mono C).mono ai
  refine Eq Z (EA (T := (Ty.sl DT)) D Z Z)<|Ec Z<|DC<|?_
  refine DX Z ?_ ?_
  ·intro m
   obtain ⟨m, H⟩ := It m H
   refine D1 ?_
   refine Ei (fun e j a => ∃ (u : ByteArray), [(1, (Vp c)), (3, (.string u)), (5, (Vi i))] = e ∧ (.blk c 33 (DD p0 f g b d)) :: G = a ∧ agz i p0 S u = some h) ?_ ?_
   ·refine D8<|DF<|Dz<|Em Z<|?_
    obtain ⟨a7, aN, H⟩ := bnd H
    refine Eq Z (ES aN Z Z)<|Ea Z<|DC<|DF<|Dz<|Ea Z<|DC<|D8<|?_
    refine EB (fun V e j a => ∃ (w : ByteArray) (q : Int), [(1, (Vp c)), (3, (.string w)), (5, (Vi i)), (6, (Vi q))] = e ∧ (.blk c 33 (DD p0 f g b d)) :: G = a ∧ lp2 (IC i p0 S) V w q = some h) BIG ?_ ?_
    ·exact Sd ⟨_, by exact R4, a7, 0, Z, Z, H⟩
    rintro V _ bg _ aj ⟨w, q, rfl, rfl, H⟩
    obtain ⟨bz, bv, rfl, av, H⟩ := Kw H
    unfold IC at H
    refine DF<|DF<|Dz<|Em Z<|EF 3 Z<|El (sv b) Z (Rb0 Z)<|Em Z<|?_
    obtain ⟨bG, L, H⟩ := bnd H
    have l := D.mono aj
    obtain ⟨bB, aB, al⟩ := Slr.at l L
    obtain ⟨a4, rfl, aG⟩ := aB
    refine Eq Z (Qi (T := (Ty.sl DT)) l L Z)<|El (sv a4) Z (Rdc.k al Z)<|Eq Z (EA (T := DT) aG Z Z)<|Ec Z<|DC<|?_
    refine DX Z ?_ ?_
    ·intro n
     obtain ⟨n, H⟩ := It n H
     refine D1<|DF<|D8<|?_
     obtain ⟨bH, M, H⟩ := bnd H
     obtain ⟨ac, N, H⟩ := bnd H
     obtain ⟨a8, aO, H⟩ := bnd H
     obtain ⟨bI, aP, H⟩ := bnd H
     obtain ⟨bJ, O, H⟩ := bnd H
     obtain ⟨ad, P, H⟩ := bnd H
     obtain ⟨a9, aQ, H⟩ := bnd H
     obtain ⟨bK, aR, H⟩ := bnd H
     obtain ⟨bL, aS, H⟩ := bnd H
     obtain ⟨ba, aT, H⟩ := bnd H
     refine En _ Z (Ic Mb0 In0)<|Jm 0 Z<|JF 1 3 Z<|Jl 2 (sv b) Z (Rb0 Z)<|Jm 3 Z<|?_
     obtain ⟨bC, aC, am⟩ := Slr.at l M
     obtain ⟨a5, rfl, E⟩ := aC
     refine Jq 4 Z (Qi (T := (Ty.sl DT)) l M Z)<|Jl 5 (sv a5) Z (Rdc.k am Z)<|Jm 6 Z<|?_
     obtain ⟨bD, aD, an⟩ := Slr.at E N
     obtain ⟨X, Y, rfl, aH, aI⟩ := aD
     refine Jq 7 Z (Qi (T := DT) E N Z)<|JL 8 7 (DG ac X Y) Z (Rdc.k an Z)<|JF 11 3 Z<|Jl 12 (sv b) Z (Rb0 Z)<|Jm 13 Z<|?_
     obtain ⟨bE, aE, ao⟩ := Slr.at l O
     obtain ⟨a6, rfl, F⟩ := aE
     refine Jq 14 Z (Qi (T := (Ty.sl DT)) l O Z)<|Jl 15 (sv a6) Z (Rdc.k ao Z)<|Jm 16 Z<|?_
     obtain ⟨bF, aF, ap⟩ := Slr.at F P
     obtain ⟨aa, ab, rfl, aJ, aK⟩ := aF
     refine Jq 17 Z (Qi (T := DT) F P Z)<|JL 18 7 (DG ad aa ab) Z (Rdc.k ap Z)<|?_
     refine Ao 9 Z ?_
     refine Ek Tryz.call46 Z (akY ac X Y a8 aO _ _ aH aI) ?_
     rintro _ bh _ A ⟨rfl, rfl⟩
     refine ⟨(Ic Mb0 In0), ?_⟩
     refine Jq 10 Z (ES aP Z Z) ?_
     refine Ao 19 Z ?_
     have aL := aJ.mono A
     have aM := aK.mono A
     refine Ek Tryz.call47 Z (ak0 ad aa ab a9 aQ _ _ aL aM) ?_
     rintro _ bi _ bq ⟨rfl, rfl⟩
     refine ⟨(Ic Mb0 In0), ?_⟩
     exact Jq 20 Z (ES aR Z Z)<|Jq 21 Z (ES aS Z Z)<|Jq 22 Z (ES aT Z Z)<|Ja 23 Z<|Ad<|Dz<|Em Z<|Er (wI (q + 1)) Z<|Ea Z<|DC<|Sd<|⟨_, by exact R4, _, Nat.lt_succ_self _, ba, (wI (q + 1)), Z, Z, (av ▸ H)⟩
    ·intro n
     obtain ⟨n, H⟩ := If n H
     exact EE<|Sd<|⟨_, by exact R3, w, Z, Z, H⟩
   rintro _ bj _ br ⟨u, rfl, rfl, H⟩
   unfold agz at H
   exact Dz<|Em Z<|Er (wI (i + 1)) Z<|Ea Z<|DC<|Sd<|⟨_, by exact R3, _, Nat.lt_succ_self _, u, (wI (i + 1)), Z, Z, (au ▸ H)⟩
  ·intro m
   obtain ⟨m, H⟩ := If m H
   exact EE<|Sd<|⟨_, by exact R2, t, Z, Z, H⟩
 rintro _ bk _ ak ⟨s, rfl, rfl, H⟩
 unfold Nc at H
 refine DF<|DF<|Dz<|EF 4 Z<|El (sv d) Z (Rb0 Z)<|?_
 have I := (aA.mono C).mono ak
 refine Eq Z (EA (T := Ty.i64) I Z Z)<|Ec Z<|DC<|?_
 refine DX Z ?_ ?_
 ·intro o
  obtain ⟨o, H⟩ := It o H
  refine Dz<|Em Z<|EF 4 Z<|El (sv d) Z (Rb0 Z)<|?_
  obtain ⟨bb, aU, H⟩ := bnd H
  refine DN Z (Ek Tryz.call48 Z (ahn (⟨#[112, 105, 99, 107, 115]⟩ : ByteArray) p0.picks d bb aU _ _ I) ?_)
  rintro _ bl _ bs ⟨rfl, rfl⟩
  obtain ⟨bM, aV, H⟩ := bnd H
  refine Eq Z (ES aV Z Z) ?_
  obtain ⟨ae, aW, H⟩ := bnd H
  refine Eq Z (ES aW Z Z)<|Ea Z<|DC<|DF<|Dz<|Em Z<|Ea Z<|DC<|D7<|?_
  obtain ah := EJ H
  subst h
  refine ⟨(.inl Z), [(.string ae)], ⟨(.string ae), _, Z, Z, Z⟩, ?_⟩
  exact Re0<|Sd<|⟨Z, Z⟩
 ·intro o
  obtain ⟨o, H⟩ := If o H
  refine D1<|DF<|Dz<|Em Z<|Ea Z<|DC<|D7<|?_
  obtain ah := EJ H
  subst h
  refine ⟨(.inl Z), [(.string s)], ⟨(.string s), _, Z, Z, Z⟩, ?_⟩
  exact Re0<|Sd<|⟨Z, Z⟩
theorem ak2 (p0 : Script) (b c : SV) (d e : SV) (g : ByteArray) (h : Int) (H : Ni p0 = some (g, h)) (K : Kp) (G : List Ent) (n : Slr Ty.i64 K (sv b) p0.cnfg.capacities) (o : Slr Ty.u64 K (sv c) p0.cnfg.starts) (p : Slr (Ty.sl DT) K (sv d) p0.ops) (q : Slr Ty.i64 K (sv e) p0.picks) :
  Fc Tryz.prog 9 #[(.agg (DD p0 b c d e).toArray)] K (G) (fun v z r => v = (.tuple #[(.string g), (Vi h)]) ∧ G = r) := by
 refine Ey Tryz.func9 Z Tryz.ntmps9 Tryz.results9 Z ?_
 unfold Ni at H
 refine DF<|Dz<|?_
 refine DN Z (EU (cs := (DD p0 b c d e)) Z Z Z (fun C => ?_))
 refine Ea Z<|Ea Z<|DC<|DF<|DF<|Dz<|EL 5 (DD p0 b c d e) Z (Rb0 Z)<|?_
 obtain ⟨j, x, H⟩ := bnd H
 refine DN Z (Ek Tryz.call20 Z (ai8 p0 b c d e j x _ _ n o p q) ?_)
 rintro _ A _ i ⟨rfl, rfl⟩
 refine Ea Z<|DC<|DF<|Dz<|Em Z<|Ec Z<|DC<|?_
 refine DX Z ?_ ?_
 ·intro a
  have a := EY (E5 (a))
  have H := ED a H
  refine DF<|Dz<|Em Z<|Ea Z<|Ea Z<|DC<|D7<|?_
  obtain ⟨l, m⟩ := HI H
  subst g h
  refine ⟨(.inl Z), [(.string (⟨#[]⟩ : ByteArray)), (Vi j)], ⟨(.string (⟨#[]⟩ : ByteArray)), _, Z, Z, ⟨(Vi j), _, Z, Z, Z⟩⟩, ?_⟩
  exact Re0<|Sd<|⟨Z, Z⟩
 ·intro a
  have a := EZ (E4 (a))
  have H := ift a H
  refine D1<|DF<|Dz<|EL 5 (DD p0 b c d e) Z (Rb0 Z)<|?_
  obtain ⟨k, y, H⟩ := bnd H
  have s := n.mono i
  have t := o.mono i
  have u := p.mono i
  have w := q.mono i
  refine DN Z (Ek Tryz.call22 Z (ak1 p0 b c d e k y _ _ s t u w) ?_)
  rintro _ B _ D ⟨rfl, rfl⟩
  refine Ea Z<|DC<|DF<|DF<|Dz<|Em Z<|Eq Z (FC Z Z)<|Ec Z<|DC<|?_
  refine DX Z ?_ ?_
  ·intro f
   obtain ⟨f, H⟩ := It f H
   refine DF<|Dz<|Ea Z<|Ea Z<|DC<|D7<|?_
   obtain ⟨l, m⟩ := HI H
   subst g h
   refine ⟨(.inl Z), [(.string (⟨#[]⟩ : ByteArray)), (Vi 4)], ⟨(.string (⟨#[]⟩ : ByteArray)), _, Z, Z, ⟨(Vi 4), _, Z, Z, Z⟩⟩, ?_⟩
   exact Re0<|Sd<|⟨Z, Z⟩
  ·intro f
   obtain ⟨f, H⟩ := If f H
   refine D1<|DF<|Dz<|Em Z<|Ea Z<|Ea Z<|DC<|D7<|?_
   obtain ⟨l, m⟩ := HI H
   subst g h
   refine ⟨(.inl Z), [(.string k), (Vi 0)], ⟨(.string k), _, Z, Z, ⟨(Vi 0), _, Z, Z, Z⟩⟩, ?_⟩
   exact Re0<|Sd<|⟨Z, Z⟩
theorem ak9 (p0 : ae9) (I : SV) (p1 p2 : ByteArray) (p3 p4 p5 : Int) (g : Bool) (H : agB p0 p1 p2 p3 p4 p5 = some g) (K : Kp) (G : List Ent) (aH : Slr Ty.u8 K (sv I) p0) (hT : TabK K) :
  Fc Tryz.prog 3 #[(sv I), (.string p1), (.string p2), (Vi p3), (Vi p4), (.int .u8 p5)] K (G) (fun v o h => v = (.bool g) ∧ G = h) := by
 refine Ey Tryz.func3 Z Tryz.ntmps3 Tryz.results3 Z ?_
 unfold agB at H
 refine DF<|Dz<|Ea Z<|DC<|DF<|DF<|Dz<|?_
 obtain ⟨bD, a8, H⟩ := bnd H
 refine DN Z (Ek Tryz.call8 Z (akK  bD a8 _ _ hT) ?_)
 rintro _ aB _ af ⟨rfl, rfl⟩
 refine Eq Z (Fe Z)<|DC<|?_
 refine DX Z ?_ ?_
 ·intro p
  have p := E5 p
  have H := ED (btf p) H
  refine DF<|Dz<|Ea Z<|DC<|D7<|?_
  obtain E := EJ H
  subst g
  refine ⟨(.inl Z), [(.bool false)], ⟨(.bool false), _, Z, Z, Z⟩, ?_⟩
  exact Sd ⟨Z, Z⟩
 ·intro p
  have p := E4 p
  have H := ift p H
  refine D1<|DF<|?_
  refine Ei (fun j o h => ∃ (Q : Bool), [(0, (sv I)), (1, (.string p1)), (2, (.string p2)), (3, (Vi p3)), (4, (Vi p4)), (5, (.int .u8 p5)), (38, (.bool Q))] = j ∧ aB = o ∧ G = h ∧ J3 p0 p1 p2 p3 p4 p5 Q = some g) ?_ ?_
  ·refine Dz<|Em Z<|Eq Z (FC Z Z)<|Ec Z<|Em Z<|?_
   refine Ee Z ?_ ?_
   ·intro A
    obtain ⟨A, H⟩ := It A H
    exact Ez Z<|Ez Z<|Ez Z<|Et Z<|DC<|Sd<|⟨_, by exact R7, true, Z, Z, Z, H⟩
   ·intro A
    obtain ⟨A, H⟩ := If A H
    exact Vm Z<|Vq Z (FC Z Z)<|Vc Z<|Ef Z<|DC<|Sd<|⟨_, by exact R7, (dcd ((p2.size : Int) > 20)), Z, Z, Z, H⟩
  rintro _ _ _ - ⟨Q, rfl, rfl, rfl, H⟩
  unfold J3 at H
  refine DX Z ?_ ?_
  ·intro L
   have H := ift L H
   refine DF<|Dz<|Ea Z<|DC<|D7<|?_
   obtain E := EJ H
   subst g
   refine ⟨(.inl Z), [(.bool true)], ⟨(.bool true), _, Z, Z, Z⟩, ?_⟩
   exact Sd ⟨Z, Z⟩
  ·intro L
   have H := ED (btf L) H
   refine D1<|DF<|Dz<|Em Z<|?_
   obtain ⟨ax, a9, H⟩ := bnd H
   have aL := aH.mono af
   refine DN Z (Ek Tryz.call10 Z (akT p0 I 120 ax a9 _ _ aL) ?_)
   rintro _ _ _ - ⟨aD, bx, rfl, rfl, rfl, aM⟩
   obtain ⟨ay, bE, bF, ba, H⟩ := Gf H
   refine DN Z (Ek Tryz.call11 Z (akX aD ax bx 5 ay bE bF ba _ _ aM) ?_)
   rintro _ bN _ aE ⟨bz, bA, bB, b3, bC, rfl, rfl, aN, aO, aP, aQ⟩
   refine Ow.shift (Shift.settle (T := (Ty.sl DT)) (.there (.there (.there .here))) aP Z (fun bO F aR => Sd ?_))
   obtain ⟨Y, bG, bb, H⟩ := FA H
   have aS := aN.mono F
   have aT := aO.mono F
   have aU := aQ.mono F
   refine DN Z (Ek Tryz.call9 Z (ak2 ay bz bA bB bC Y bG bb _ _ aS aT aR aU) ?_)
   rintro _ ad _ aF ⟨rfl, rfl⟩
   refine Em Z<|Ex Z<|Ex Z<|Ea Z<|Ea Z<|DC<|DF<|Dz<|?_
   have m : RowR Ty.str ad [[(.string (⟨#[32]⟩ : ByteArray))], [(.string (⟨#[10]⟩ : ByteArray))], [(.string (⟨#[32, 32]⟩ : ByteArray))], [(.string (⟨#[116, 114, 121]⟩ : ByteArray))], [(.string (⟨#[117, 110, 116, 105, 108, 32, 55]⟩ : ByteArray))], [(.string (⟨#[117, 110, 116, 105, 108]⟩ : ByteArray))], [(.string (⟨#[48]⟩ : ByteArray))], [(.string (⟨#[45, 49]⟩ : ByteArray))], [(.string (⟨#[45, 48]⟩ : ByteArray))], [(.string (⟨#[48, 48, 55]⟩ : ByteArray))], [(.string (⟨#[49, 56, 52, 52, 54, 55, 52, 52, 48, 55, 51, 55, 48, 57, 53, 53, 49, 54, 49, 53]⟩ : ByteArray))], [(.string (⟨#[49, 56, 52, 52, 54, 55, 52, 52, 48, 55, 51, 55, 48, 57, 53, 53, 49, 54, 49, 54]⟩ : ByteArray))], [(.string (⟨#[49, 48, 57, 57, 53, 49, 49, 54, 50, 55, 55, 55, 54]⟩ : ByteArray))], [(.string (⟨#[49, 48, 57, 57, 53, 49, 49, 54, 50, 55, 55, 55, 55]⟩ : ByteArray))], [(.string (⟨#[45, 49, 48, 57, 57, 53, 49, 49, 54, 50, 55, 55, 55, 54]⟩ : ByteArray))], [(.string (⟨#[45, 49, 48, 57, 57, 53, 49, 49, 54, 50, 55, 55, 55, 55]⟩ : ByteArray))], [(.string (⟨#[99, 104, 97, 110, 110, 101, 108, 32, 48, 32, 48, 10]⟩ : ByteArray))], [(.string (⟨#[116, 104, 114, 101, 97, 100, 10]⟩ : ByteArray))], [(.string (⟨#[112, 105, 99, 107, 115, 32, 48, 10]⟩ : ByteArray))], [(.string (⟨#[32, 32, 114, 101, 99, 118, 32, 48, 10]⟩ : ByteArray))], [(.string (⟨#[100, 114, 97, 119, 115]⟩ : ByteArray))], [(.string (⟨#[115, 101, 110, 100, 32, 48, 32, 53]⟩ : ByteArray))], [(.string (⟨#[32, 32, 115, 101, 108, 101, 99, 116, 10]⟩ : ByteArray))], [(.string (⟨#[32, 32, 115, 101, 108, 101, 99, 116, 32, 116, 114, 121, 10]⟩ : ByteArray))], [(.string (⟨#[120]⟩ : ByteArray))]] [(⟨#[32]⟩ : ByteArray), (⟨#[10]⟩ : ByteArray), (⟨#[32, 32]⟩ : ByteArray), (⟨#[116, 114, 121]⟩ : ByteArray), (⟨#[117, 110, 116, 105, 108, 32, 55]⟩ : ByteArray), (⟨#[117, 110, 116, 105, 108]⟩ : ByteArray), (⟨#[48]⟩ : ByteArray), (⟨#[45, 49]⟩ : ByteArray), (⟨#[45, 48]⟩ : ByteArray), (⟨#[48, 48, 55]⟩ : ByteArray), (⟨#[49, 56, 52, 52, 54, 55, 52, 52, 48, 55, 51, 55, 48, 57, 53, 53, 49, 54, 49, 53]⟩ : ByteArray), (⟨#[49, 56, 52, 52, 54, 55, 52, 52, 48, 55, 51, 55, 48, 57, 53, 53, 49, 54, 49, 54]⟩ : ByteArray), (⟨#[49, 48, 57, 57, 53, 49, 49, 54, 50, 55, 55, 55, 54]⟩ : ByteArray), (⟨#[49, 48, 57, 57, 53, 49, 49, 54, 50, 55, 55, 55, 55]⟩ : ByteArray), (⟨#[45, 49, 48, 57, 57, 53, 49, 49, 54, 50, 55, 55, 55, 54]⟩ : ByteArray), (⟨#[45, 49, 48, 57, 57, 53, 49, 49, 54, 50, 55, 55, 55, 55]⟩ : ByteArray), (⟨#[99, 104, 97, 110, 110, 101, 108, 32, 48, 32, 48, 10]⟩ : ByteArray), (⟨#[116, 104, 114, 101, 97, 100, 10]⟩ : ByteArray), (⟨#[112, 105, 99, 107, 115, 32, 48, 10]⟩ : ByteArray), (⟨#[32, 32, 114, 101, 99, 118, 32, 48, 10]⟩ : ByteArray), (⟨#[100, 114, 97, 119, 115]⟩ : ByteArray), (⟨#[115, 101, 110, 100, 32, 48, 32, 53]⟩ : ByteArray), (⟨#[32, 32, 115, 101, 108, 101, 99, 116, 10]⟩ : ByteArray), (⟨#[32, 32, 115, 101, 108, 101, 99, 116, 32, 116, 114, 121, 10]⟩ : ByteArray), (⟨#[120]⟩ : ByteArray)] := RowR.cons Z (RowR.cons Z (RowR.cons Z (RowR.cons Z (RowR.cons Z (RowR.cons Z (RowR.cons Z (RowR.cons Z (RowR.cons Z (RowR.cons Z (RowR.cons Z (RowR.cons Z (RowR.cons Z (RowR.cons Z (RowR.cons Z (RowR.cons Z (RowR.cons Z (RowR.cons Z (RowR.cons Z (RowR.cons Z (RowR.cons Z (RowR.cons Z (RowR.cons Z (RowR.cons Z (RowR.cons Z (RowR.nil)))))))))))))))))))))))))
   refine DN Z (Es (T := Ty.str) (rows := [[(.string (⟨#[32]⟩ : ByteArray))], [(.string (⟨#[10]⟩ : ByteArray))], [(.string (⟨#[32, 32]⟩ : ByteArray))], [(.string (⟨#[116, 114, 121]⟩ : ByteArray))], [(.string (⟨#[117, 110, 116, 105, 108, 32, 55]⟩ : ByteArray))], [(.string (⟨#[117, 110, 116, 105, 108]⟩ : ByteArray))], [(.string (⟨#[48]⟩ : ByteArray))], [(.string (⟨#[45, 49]⟩ : ByteArray))], [(.string (⟨#[45, 48]⟩ : ByteArray))], [(.string (⟨#[48, 48, 55]⟩ : ByteArray))], [(.string (⟨#[49, 56, 52, 52, 54, 55, 52, 52, 48, 55, 51, 55, 48, 57, 53, 53, 49, 54, 49, 53]⟩ : ByteArray))], [(.string (⟨#[49, 56, 52, 52, 54, 55, 52, 52, 48, 55, 51, 55, 48, 57, 53, 53, 49, 54, 49, 54]⟩ : ByteArray))], [(.string (⟨#[49, 48, 57, 57, 53, 49, 49, 54, 50, 55, 55, 55, 54]⟩ : ByteArray))], [(.string (⟨#[49, 48, 57, 57, 53, 49, 49, 54, 50, 55, 55, 55, 55]⟩ : ByteArray))], [(.string (⟨#[45, 49, 48, 57, 57, 53, 49, 49, 54, 50, 55, 55, 55, 54]⟩ : ByteArray))], [(.string (⟨#[45, 49, 48, 57, 57, 53, 49, 49, 54, 50, 55, 55, 55, 55]⟩ : ByteArray))], [(.string (⟨#[99, 104, 97, 110, 110, 101, 108, 32, 48, 32, 48, 10]⟩ : ByteArray))], [(.string (⟨#[116, 104, 114, 101, 97, 100, 10]⟩ : ByteArray))], [(.string (⟨#[112, 105, 99, 107, 115, 32, 48, 10]⟩ : ByteArray))], [(.string (⟨#[32, 32, 114, 101, 99, 118, 32, 48, 10]⟩ : ByteArray))], [(.string (⟨#[100, 114, 97, 119, 115]⟩ : ByteArray))], [(.string (⟨#[115, 101, 110, 100, 32, 48, 32, 53]⟩ : ByteArray))], [(.string (⟨#[32, 32, 115, 101, 108, 101, 99, 116, 10]⟩ : ByteArray))], [(.string (⟨#[32, 32, 115, 101, 108, 101, 99, 116, 32, 116, 114, 121, 10]⟩ : ByteArray))], [(.string (⟨#[120]⟩ : ByteArray))]]) (l := [(⟨#[32]⟩ : ByteArray), (⟨#[10]⟩ : ByteArray), (⟨#[32, 32]⟩ : ByteArray), (⟨#[116, 114, 121]⟩ : ByteArray), (⟨#[117, 110, 116, 105, 108, 32, 55]⟩ : ByteArray), (⟨#[117, 110, 116, 105, 108]⟩ : ByteArray), (⟨#[48]⟩ : ByteArray), (⟨#[45, 49]⟩ : ByteArray), (⟨#[45, 48]⟩ : ByteArray), (⟨#[48, 48, 55]⟩ : ByteArray), (⟨#[49, 56, 52, 52, 54, 55, 52, 52, 48, 55, 51, 55, 48, 57, 53, 53, 49, 54, 49, 53]⟩ : ByteArray), (⟨#[49, 56, 52, 52, 54, 55, 52, 52, 48, 55, 51, 55, 48, 57, 53, 53, 49, 54, 49, 54]⟩ : ByteArray), (⟨#[49, 48, 57, 57, 53, 49, 49, 54, 50, 55, 55, 55, 54]⟩ : ByteArray), (⟨#[49, 48, 57, 57, 53, 49, 49, 54, 50, 55, 55, 55, 55]⟩ : ByteArray), (⟨#[45, 49, 48, 57, 57, 53, 49, 49, 54, 50, 55, 55, 55, 54]⟩ : ByteArray), (⟨#[45, 49, 48, 57, 57, 53, 49, 49, 54, 50, 55, 55, 55, 55]⟩ : ByteArray), (⟨#[99, 104, 97, 110, 110, 101, 108, 32, 48, 32, 48, 10]⟩ : ByteArray), (⟨#[116, 104, 114, 101, 97, 100, 10]⟩ : ByteArray), (⟨#[112, 105, 99, 107, 115, 32, 48, 10]⟩ : ByteArray), (⟨#[32, 32, 114, 101, 99, 118, 32, 48, 10]⟩ : ByteArray), (⟨#[100, 114, 97, 119, 115]⟩ : ByteArray), (⟨#[115, 101, 110, 100, 32, 48, 32, 53]⟩ : ByteArray), (⟨#[32, 32, 115, 101, 108, 101, 99, 116, 10]⟩ : ByteArray), (⟨#[32, 32, 115, 101, 108, 101, 99, 116, 32, 116, 114, 121, 10]⟩ : ByteArray), (⟨#[120]⟩ : ByteArray)]) Z Z Z m Z Z Z Z Z Z Z Z (fun b4 => ?_))
   refine Ea Z<|DC<|DF<|Dz<|Em Z<|Em Z<|Eq Z (GZ (c := wI p5) Z Z Z Z)<|Em Z<|Eq Z (GG (T := Ty.str) Mb0 m Z Z Z)<|?_
   obtain ⟨b5, bc, H⟩ := bnd H
   refine Eq Z (Q_rem bc Z Z) ?_
   obtain ⟨bH, aq, H⟩ := bnd H
   obtain ⟨b0, ai, aI⟩ := RowR.at m aq
   obtain rfl := aI
   refine Eq Z (D4 (T := Ty.str) Mb0 m ai (DU aq).1 Z Z Z Z Z)<|El (.string bH) Z (Ej (T := Ty.str) Mb0 m ai Z Z)<|Ea Z<|DC<|DF<|Dz<|Em Z<|Em Z<|Eq Z (FC Z Z)<|Er (wI ((Y.size : Int) + 1)) Z<|?_
   obtain ⟨aa, bd, H⟩ := bnd H
   refine DN Z (Ek Tryz.call12 Z (aho p3 (wI ((Y.size : Int) + 1)) aa bd _ _ ) ?_)
   rintro _ _ _ - ⟨rfl, rfl, rfl⟩
   refine Em Z ?_
   obtain ⟨ab, be, H⟩ := bnd H
   refine DN Z (Ek Tryz.call12 Z (aho p4 4 ab be _ _ ) ?_)
   rintro _ _ _ - ⟨rfl, rfl, rfl⟩
   refine Ea Z<|Ea Z<|DC<|?_
   refine Ei (fun j o h => [] = j ∧ G = h ∧ aik = some g) ?_ ?_
   ·refine DF ?_
    obtain ⟨b6, bf, H⟩ := bnd H
    obtain ⟨b7, bg, H⟩ := bnd H
    obtain ⟨b8, bh, H⟩ := bnd H
    obtain ⟨a, bi, H⟩ := bnd H
    obtain ⟨b9, bj, H⟩ := bnd H
    obtain ⟨ca, bk, H⟩ := bnd H
    obtain ⟨cb, bl, H⟩ := bnd H
    obtain ⟨b, bm, H⟩ := bnd H
    obtain ⟨cc, bn, H⟩ := bnd H
    obtain ⟨cd, bo, H⟩ := bnd H
    obtain ⟨d, bp, H⟩ := bnd H
    obtain ⟨e, bq, H⟩ := bnd H
    obtain ⟨ce, br, H⟩ := bnd H
    obtain ⟨bI, ar, H⟩ := bnd H
    obtain ⟨f, bs, H⟩ := bnd H
    refine En _ Z (Ic Mb0 (Ic Mb1 (Ic Mb2 (Ic Mb3 (Ic Mb4 (Ic Mb5 In0))))))<|Jm 0 Z<|Jm 1 Z<|Jm 2 Z<|Jq 3 Z (Le bf Z Z Z)<|Jm 4 Z<|Jq 5 Z (ES bg Z Z)<|Jm 6 Z<|Jm 7 Z<|Jq 8 Z (EC bh Z Z Z)<|Jq 9 Z (ES bi Z Z)<|Jm 10 Z<|Jm 11 Z<|Jq 12 Z (Le bj Z Z Z)<|Jm 13 Z<|Jq 14 Z (ES bk Z Z)<|Jm 15 Z<|Jm 16 Z<|Jq 17 Z (FC Z Z)<|Jm 18 Z<|Jm 19 Z<|Jr 20 (wI (aa + ab)) Z<|?_
    refine Jq 21 Z (aiX Z Z)<|Jq 22 Z (EC bl Z Z Z)<|Jq 23 Z (ES bm Z Z)<|Jm 24 Z<|Jm 25 Z<|Jq 26 Z (Le bn Z Z Z)<|Jm 27 Z<|Jm 28 Z<|Jq 29 Z (FC Z Z)<|Jm 30 Z<|Jm 31 Z<|Jr 32 (wI (aa + ab)) Z<|Jq 33 Z (aiX Z Z)<|Jq 34 Z (EC bo Z Z Z)<|Jq 35 Z (ES bp Z Z)<|Jm 36 Z<|Jm 37 Z<|Jq 38 Z (Le bq Z Z Z)<|Jm 39 Z<|Jm 40 Z<|Jq 41 Z (agD Z Z (by decide))<|Jq 42 Z (GZ (c := wI (wB (Int.tdiv p5 5))) Z Z Z Z)<|?_
    refine Jm 43 Z<|Jq 44 Z (GG (T := Ty.str) Mb0 m Z Z Z)<|Jq 45 Z (Q_rem br Z Z)<|?_
    obtain ⟨b1, aj, aJ⟩ := RowR.at m ar
    obtain rfl := aJ
    refine Jq 46 Z (D4 (T := Ty.str) Mb0 m aj (DU ar).1 Z Z Z Z Z)<|Jl 47 (.string bI) Z (Ej (T := Ty.str) Mb0 m aj Z Z)<|Jm 48 Z<|Jq 49 Z (ES bs Z Z)<|Jm 52 Z<|?_
    refine Ao 50 Z ?_
    have O : RowR Ty.str ad [[(.string p1)], [(.string a)], [(.string b)], [(.string d)], [(.string e)], [(.string f)]] [p1, a, b, d, e, f] := RowR.cons Z (RowR.cons Z (RowR.cons Z (RowR.cons Z (RowR.cons Z (RowR.cons Z (RowR.nil))))))
    refine Es (T := Ty.str) (rows := [[(.string p1)], [(.string a)], [(.string b)], [(.string d)], [(.string e)], [(.string f)]]) (l := [p1, a, b, d, e, f]) Z Z Z O Z Z Z Z Z Z Z Z (fun y => ⟨(Ic Mb1 (Ic Mb2 (Ic Mb3 (Ic Mb4 (Ic Mb5 (Ic Mb6 In0)))))), ?_⟩)
    refine DO 51 (by kernel_rfl) (Jyq Z (GG (T := Ty.str) Mb0 O Z Z Z) ⟨(Ic Mb1 (Ic Mb2 (Ic Mb3 (Ic Mb4 (Ic Mb5 (Ic Mb6 In0)))))), ?_⟩)
    refine Ad<|D8<|?_
    refine EB (fun aw j o h => ∃ (i : Int), [(112, (sv y)), (113, (Vi ([p1, a, b, d, e, f].length : Int))), (114, (Vi i))] = j ∧ (.row (sv y) 9 1 [[(.string p1)], [(.string a)], [(.string b)], [(.string d)], [(.string e)], [(.string f)]].flatten) :: G = h ∧ lp1 (Nk p1 a b d e f) aw i = some g) BIG ?_ ?_
    ·exact Re1<|Re1<|Re1<|Re1<|Re1<|Re1<|Sd<|⟨_, by exact R3, 0, Z, Z, H⟩
    rintro aw _ bP _ ag ⟨i, rfl, rfl, H⟩
    obtain ⟨bZ, av, rfl, ah, H⟩ := G6 H
    unfold Nk at H
    refine DF<|Dz<|Ec Z<|DC<|DF<|?_
    refine DX Z ?_ ?_
    ·intro B
     obtain ⟨B, H⟩ := It B H
     refine D1<|DF<|D8<|DF<|Dz<|?_
     obtain ⟨z, au, H⟩ := bnd H
     have P := O.mono ag
     obtain ⟨b2, ak, aK⟩ := RowR.at P au
     obtain rfl := aK
     refine Eq Z (D4 (T := Ty.str) Mb0 P ak (DU au).1 Z Z Z Z Z)<|El (.string z) Z (Ej (T := Ty.str) Mb0 P ak Z Z)<|Ea Z<|DC<|DF<|Dz<|Em Z<|?_
     obtain ⟨n, bJ, ac, bt, H⟩ := Gf H
     have al := ((((hT.mono af).mono aE).mono F).mono aF).mono ag
     refine DN Z (Ek Tryz.call13 Z (ai4 z n bJ ac bt _ _ al) ?_)
     rintro _ bQ _ aG ⟨t, u, w, x, rfl, rfl, am, an, ao, ap⟩
     refine Em Z<|Ex Z<|Ex Z<|Ex Z<|?_
     refine DN Z (EG (cs := (DD (Script.mk (Config.mk [] [] 0) [] []) DW DW DW DW)) Z Z Z Z (fun ae => ?_))
     refine DN Z (Sa (DD n t u w x) Z .here Z ?_)
     refine Ea Z<|Ea Z<|DC<|DF<|Dz<|Em Z<|?_
     obtain ⟨J, bK, bL, bu, H⟩ := Gf H
     refine DN Z (Ek Tryz.call14 Z (akw z J bK bL bu _ _ ) ?_)
     rintro _ bR _ k ⟨U, V, W, X, rfl, rfl, aV, aW, aX, aY⟩
     refine Em Z<|Ex Z<|Ex Z<|Ex Z<|?_
     refine DN Z (EG (cs := (DD (Script.mk (Config.mk [] [] 0) [] []) DW DW DW DW)) Z Z Z Z (fun bV => ?_))
     refine DN Z (Sa (DD J U V W X) Z .here Z ?_)
     refine Ea Z<|Ea Z<|DC<|DF<|?_
     refine Ei (fun j o h => ∃ (R : Bool), [(20, (.string z)), (21, (Vp ae)), (23, (Vi ac)), (112, (sv y)), (113, (Vi ([p1, a, b, d, e, f].length : Int))), (114, (Vi i)), (143, (.bool R))] = j ∧ (.blk ae 33 (DD n t u w x)) :: (.tok 3 1 [(sv t)]) :: (.tok 53 1 [(sv u)]) :: (.tok 51 1 [(sv w)]) :: (.tok 3 1 [(sv x)]) :: (.row (sv y) 9 1 [[(.string p1)], [(.string a)], [(.string b)], [(.string d)], [(.string e)], [(.string f)]].flatten) :: G = h ∧ J2 z ac p1 a b d e f i n av R = some g) ?_ ?_
     ·refine Dz<|Em Z<|Em Z<|Ec Z<|Em Z<|?_
      refine Ee Z ?_ ?_
      ·intro q
       have q := EY (E5 (q))
       have H := ED q H
       exact Ez Z<|Ez Z<|Ez Z<|Et Z<|Em Z<|Ez Z<|Ez Z<|Ez Z<|Ez Z<|Et Z<|DC<|FX<|FX<|FX<|FX<|FX<|FX<|Re6<|Re6<|Re6<|Re6<|Re6<|Sd ⟨_, by exact R7, true, Z, Z, H⟩
      ·intro q
       have q := EZ (E4 (q))
       have H := ift q H
       refine Vm Z<|Vm Z<|Vc Z<|Ef Z<|Em Z<|?_
       refine Ee Z ?_ ?_
       ·intro r
        have r := EY (E5 (r))
        have H := ED r H
        exact Ez Z<|Ez Z<|Ez Z<|Ez Z<|Et Z<|DC<|FX<|FX<|FX<|FX<|FX<|FX<|Re6<|Re6<|Re6<|Re6<|Re6<|Sd<|⟨_, by exact R7, true, Z, Z, H⟩
       ·intro r
        have r := EZ (E4 (r))
        have H := ift r H
        refine VL 5 (DD n t u w x) Z (Rb5 Z)<|VL 5 (DD J U V W X) Z (Rb0 Z)<|?_
        obtain ⟨az, bv, H⟩ := bnd H
        have aZ := am.mono k
        have a0 := an.mono k
        have a1 := ao.mono k
        have a2 := ap.mono k
        refine GF Z Z Z Z (Ek Tryz.call15 Z (amc n t u w x J U V W X az bv _ _ aZ a0 a1 a2 aV aW aX aY) ?_)
        rintro _ bS _ bW ⟨rfl, rfl⟩
        exact Vq Z (Fe Z)<|Ef Z<|DC<|FX<|FX<|FX<|FX<|FX<|FX<|Re6<|Re6<|Re6<|Re6<|Re6<|Sd<|⟨_, by exact R7, (!(az)), Z, Z, H⟩
     rintro _ bT _ D ⟨R, rfl, rfl, H⟩
     unfold J2 at H
     refine DX Z ?_ ?_
     ·intro M
      have H := ift M H
      refine DF<|Dz<|Ea Z<|DC<|D7<|?_
      obtain E := EJ H
      subst g
      refine ⟨(.inl Z), [(.bool false)], ⟨(.bool false), _, Z, Z, Z⟩, ?_⟩
      exact Re0<|Re0<|Re0<|Re0<|Re0<|Re0<|Sd<|⟨Z, Z⟩
     ·intro M
      have H := ED (btf M) H
      refine D1<|DF<|Dz<|Em Z<|Ec Z<|DC<|?_
      refine DX Z ?_ ?_
      ·intro C
       obtain ⟨C, H⟩ := It C H
       refine DF<|Dz<|EL 5 (DD n t u w x) Z (Rb0 Z)<|?_
       obtain ⟨aA, bM, bw, H⟩ := FA H
       have a3 := (am.mono k).mono D
       have a4 := (an.mono k).mono D
       have a5 := (ao.mono k).mono D
       have a6 := (ap.mono k).mono D
       have a7 := ((al.mono aG).mono k).mono D
       refine DN Z (Ek Tryz.call16 Z (ai7 n t u w x aA bM bw _ _ a3 a4 a5 a6 a7) ?_)
       rintro _ aC _ bX ⟨rfl, rfl⟩
       refine Em Z<|Ex Z<|Ex Z<|Ea Z<|Ea Z<|DC<|?_
       refine Ei (fun j o h => ∃ (S : Bool), [(112, (sv y)), (113, (Vi ([p1, a, b, d, e, f].length : Int))), (114, (Vi i)), (157, (.bool S))] = j ∧ aC = o ∧ (.row (sv y) 9 1 [[(.string p1)], [(.string a)], [(.string b)], [(.string d)], [(.string e)], [(.string f)]].flatten) :: G = h ∧ Nj p1 a b d e f i av S = some g) ?_ ?_
       ·refine Dz<|Em Z<|Ec Z<|Em Z<|?_
        refine Ee Z ?_ ?_
        ·intro s
         have s := EY (E5 (s))
         have H := ED s H
         exact Ez Z<|Ez Z<|Ez Z<|Et Z<|DC<|Pu5<|Re1<|Re1<|Re1<|Re1<|Re1<|Sd<|⟨_, by exact R4, true, Z, Z, Z, H⟩
        ·intro s
         have s := EZ (E4 (s))
         have H := ift s H
         exact Vm Z<|Vm Z<|Vq Z (Ge Z Z)<|Ef Z<|DC<|Pu5<|Re1<|Re1<|Re1<|Re1<|Re1<|Sd<|⟨_, by exact R4, (!(dcd (aA = z))), Z, Z, Z, H⟩
       rintro _ _ _ - ⟨S, rfl, rfl, rfl, H⟩
       unfold Nj at H
       refine DX Z ?_ ?_
       ·intro N
        have H := ift N H
        refine DF<|Dz<|Ea Z<|DC<|D7<|?_
        obtain E := EJ H
        subst g
        refine ⟨(.inl Z), [(.bool false)], ⟨(.bool false), _, Z, Z, Z⟩, ?_⟩
        exact Re0<|Sd<|⟨Z, Z⟩
       ·intro N
        have H := ED (btf N) H
        exact D1<|Dz<|Er (wI (i + 1)) Z<|Em Z<|DC<|Sd<|⟨_, by exact R3, _, Nat.lt_succ_self _, (wI (i + 1)), Z, Z, (ah ▸ H)⟩
      ·intro C
       obtain ⟨C, H⟩ := If C H
       exact D1<|Dz<|Er (wI (i + 1)) Z<|Em Z<|DC<|Pu5<|Re1<|Re1<|Re1<|Re1<|Re1<|Sd<|⟨_, by exact R3, _, Nat.lt_succ_self _, (wI (i + 1)), Z, Z, (ah ▸ H)⟩
    ·intro B
     obtain ⟨B, H⟩ := If B H
     exact EE<|Re0<|Sd<|⟨[], trivial, Z, Z, H⟩
   rintro _ bU _ bY ⟨rfl, rfl, H⟩
   unfold aik at H
   refine DF<|Dz<|Ea Z<|DC<|D7<|?_
   obtain E := EJ H
   subst g
   refine ⟨(.inl Z), [(.bool true)], ⟨(.bool true), _, Z, Z, Z⟩, ?_⟩
   exact Sd ⟨Z, Z⟩
end Go.Hx
