
import Derived.Test.YtcopfjjpiobclaaGreatDoorXSM
import Derived.Test.YtcopfjjpiobclaaGreatDoorXSWRef203
import Derived.Test.YtcopfjjpiobclaaGreatDoorXSWScript2
set_option linter.unusedVariables false
set_option linter.unusedSimpArgs false
namespace Go.Hx
open Go Go.Proofs
set_option maxRecDepth 10000
set_option maxHeartbeats 1000000
theorem Td (p0 : Int) (b : Bool) (H : O3 p0 = some b) (K : Kp) (G : List Ent)  :
  Fc Tryz.prog 90 #[(Vi p0)] K (G) (fun v d c => v = (.bool b) ∧ K = d ∧ G = c) := by
 refine Gx Tryz.func90 Z Tryz.ntmps90 Tryz.results90 Z ?_
 unfold O3 at H
 refine FK<|FD<|Ea Z<|FH<|FK<|FD<|Em Z<|Ec Z<|Em Z<|?_
 refine Ee Z ?_ ?_
 ·intro a
  obtain ⟨a, H⟩ := It a H
  refine Vm Z<|Vc Z<|Et Z<|Ea Z<|FH<|Gg<|?_
  obtain e := GB H
  subst b
  refine ⟨(.inl Z), [(.bool (dcd (p0 < 8)))], ⟨(.bool (dcd (p0 < 8))), _, Z, Z, Z⟩, ?_⟩
  exact Sd ⟨Z, Z, Z⟩
 ·intro a
  obtain ⟨a, H⟩ := If a H
  refine Ez Z<|Ez Z<|Ef Z<|Ea Z<|FH<|Gg<|?_
  obtain e := GB H
  subst b
  refine ⟨(.inl Z), [(.bool false)], ⟨(.bool false), _, Z, Z, Z⟩, ?_⟩
  exact Sd ⟨Z, Z, Z⟩
theorem UO (p0 : Op) (e q : SV) (a : Bool) (H : Nb p0 = some a) (K : Kp) (G : List Ent) (t : Slr Gp K (sv e) p0.cases) (J : Slr Ty.i64 K (sv q) p0.draws) :
  Fc Tryz.prog 74 #[(.agg (FM p0 e q).toArray)] K (G) (fun v f b => v = (.bool a) ∧ G = b) := by
 refine Gx Tryz.func74 Z Tryz.ntmps74 Tryz.results74 Z ?_
 unfold Nb at H
 refine FK<|FD<|?_
 refine FT Z (GX (cs := (FM p0 e q)) Z Z Z (fun r => ?_))
 refine Ea Z<|FH<|FK<|?_
 refine Gk (fun g f b => ∃ (u : Bool) (l m : Int) (n o p : Int), [(1, (Vp r)), (17, (.bool u))] = g ∧ K = f ∧ (.blk r 70 (FM (Op.mk l m n o p p0.cases p0.draws) e q)) :: G = b ∧ NM p0 u l m n o p = some a) ?_ ?_
 ·refine FD<|EF 2 Z<|El (Vi p0.channel) Z (Rb0 Z)<|?_
  obtain ⟨E, C, H⟩ := bnd H
  refine FT Z (Ek Tryz.call90 Z (Td p0.channel E C _ _ ) ?_)
  rintro _ _ _ - ⟨rfl, rfl, rfl⟩
  refine Eq Z (GW Z)<|Em Z<|?_
  refine Ee Z ?_ ?_
  ·intro d
   have d := GR d
   have H := Gu (btf d) H
   exact Ez Z<|Ez Z<|Ez Z<|Et Z<|Em Z<|Ez Z<|Ez Z<|Ez Z<|Et Z<|FH<|Sd<|⟨_, by exact R2, true, p0.kind, p0.mode, p0.channel, p0.value, p0.deadline, Z, Z, Z, H⟩
  ·intro d
   have d := GQ d
   have H := ift d H
   refine VF 4 Z<|Vl (Vi p0.deadline) Z (Rb0 Z)<|Vc Z<|Ef Z<|Em Z<|?_
   refine Ee Z ?_ ?_
   ·intro i
    obtain ⟨i, H⟩ := It i H
    exact Ez Z<|Ez Z<|Ez Z<|Et Z<|FH<|Sd<|⟨_, by exact R2, true, p0.kind, p0.mode, p0.channel, p0.value, p0.deadline, Z, Z, Z, H⟩
   ·intro i
    obtain ⟨i, H⟩ := If i H
    exact VF 4 Z<|Vl (Vi p0.deadline) Z (Rb0 Z)<|Vc Z<|Ef Z<|FH<|Sd<|⟨_, by exact R2, (dcd (p0.deadline > 1099511627776)), p0.kind, p0.mode, p0.channel, p0.value, p0.deadline, Z, Z, Z, H⟩
 rintro _ _ _ - ⟨u, l, m, n, o, p, rfl, rfl, rfl, H⟩
 unfold NM at H
 refine F2 Z ?_ ?_
 ·intro s
  have H := ift s H
  refine FK<|FD<|Ea Z<|FH<|Gg<|?_
  obtain w := GB H
  subst a
  refine ⟨(.inl Z), [(.bool false)], ⟨(.bool false), _, Z, Z, Z⟩, ?_⟩
  exact Re0<|Sd<|⟨Z, Z⟩
 ·intro s
  have H := Gu (btf s) H
  refine F8 ?_
  refine Gk (fun g f b => [] = g ∧ G = b ∧ RJ = some a) ?_ ?_
  ·refine FK<|FD<|Ea Z<|FH<|Gh<|?_
   refine Gv (fun n120 g f b => ∃ (j : Int), [(1, (Vp r)), (3, (Vi j))] = g ∧ K = f ∧ (.blk r 70 (FM (Op.mk l m n o p p0.cases p0.draws) e q)) :: G = b ∧ lp1 (P3 l m n o p p0) n120 j = some a) BIG ?_ ?_
   ·exact Sd ⟨_, by exact R2, 0, Z, Z, Z, H⟩
   rintro n120 _ _ _ - ⟨j, rfl, rfl, rfl, H⟩
   obtain ⟨M, L, rfl, A, H⟩ := Iz H
   unfold P3 at H
   refine FK<|FK<|FD<|Em Z<|EF 5 Z<|El (sv e) Z (Rb0 Z)<|Eq Z (Gt (T := Gp) t Z Z)<|Ec Z<|FH<|?_
   refine F2 Z ?_ ?_
   ·intro h
    obtain ⟨h, H⟩ := It h H
    refine F8<|FK<|Gh<|FK<|FD<|EF 5 Z<|El (sv e) Z (Rb0 Z)<|Em Z<|?_
    obtain ⟨y, x, H⟩ := bnd H
    obtain ⟨_, rfl, z⟩ := Slr.at t x
    refine Eq Z (Qi (T := Gp) t x Z)<|EF 1 Z<|El (Vi y.channel) Z (Rdc.k z Z)<|?_
    obtain ⟨D, B, H⟩ := bnd H
    refine FT Z (Ek Tryz.call90 Z (Td y.channel D B _ _ ) ?_)
    rintro _ _ _ - ⟨rfl, rfl, rfl⟩
    refine Eq Z (GW Z)<|FH<|?_
    refine F2 Z ?_ ?_
    ·intro c
     have c := GR c
     have H := Gu (btf c) H
     refine FK<|FD<|Ea Z<|FH<|Gg<|?_
     obtain w := GB H
     subst a
     refine ⟨(.inl Z), [(.bool false)], ⟨(.bool false), _, Z, Z, Z⟩, ?_⟩
     exact Re0<|Sd<|⟨Z, Z⟩
    ·intro c
     have c := GQ c
     have H := ift c H
     exact F8<|FD<|Em Z<|Er (wI (j + 1)) Z<|Ea Z<|FH<|Sd<|⟨_, by exact R2, _, Nat.lt_succ_self _, (wI (j + 1)), Z, Z, Z, (A ▸ H)⟩
   ·intro h
    obtain ⟨h, H⟩ := If h H
    exact Gy<|Re0<|Sd<|⟨[], trivial, Z, Z, H⟩
  rintro _ F _ I ⟨rfl, rfl, H⟩
  unfold RJ at H
  refine FK<|FD<|Ea Z<|FH<|Gg<|?_
  obtain w := GB H
  subst a
  refine ⟨(.inl Z), [(.bool true)], ⟨(.bool true), _, Z, Z, Z⟩, ?_⟩
  exact Sd ⟨Z, Z⟩
theorem UP (p0 : Op) (e g : SV) (b : Bool) (H : Nc p0 = some b) (K : Kp) (G : List Ent) (p : Slr Gp K (sv e) p0.cases) (L : Slr Ty.i64 K (sv g) p0.draws) :
  Fc Tryz.prog 75 #[(.agg (FM p0 e g).toArray)] K (G) (fun v c a => v = (.bool b) ∧ G = a) := by
 refine Gx Tryz.func75 Z Tryz.ntmps75 Tryz.results75 Z ?_
 unfold Nc at H
 refine FK<|FD<|?_
 refine FT Z (GX (cs := (FM p0 e g)) Z Z Z (fun f => ?_))
 refine Ea Z<|FH<|?_
 refine Gk (fun d c a => ∃ (J : Bool), [(1, (Vp f)), (3, (.bool J))] = d ∧ K = c ∧ (.blk f 70 (FM p0 e g)) :: G = a ∧ NQ p0 J = some b) ?_ ?_
 ·refine FD<|EF 0 Z<|El (Vi p0.kind) Z (Rb0 Z)<|Ec Z<|Em Z<|?_
  refine Ee Z ?_ ?_
  ·intro w
   obtain ⟨w, H⟩ := It w H
   exact Ez Z<|Ez Z<|Ez Z<|Et Z<|Em Z<|Ez Z<|Ez Z<|Ez Z<|Et Z<|Ea Z<|FH<|Sd<|⟨_, by exact R2, true, Z, Z, Z, H⟩
  ·intro w
   obtain ⟨w, H⟩ := If w H
   refine VF 0 Z<|Vl (Vi p0.kind) Z (Rb0 Z)<|Vc Z<|Ef Z<|Em Z<|?_
   refine Ee Z ?_ ?_
   ·intro x
    obtain ⟨x, H⟩ := It x H
    exact Ez Z<|Ez Z<|Ez Z<|Et Z<|Ea Z<|FH<|Sd<|⟨_, by exact R2, true, Z, Z, Z, H⟩
   ·intro x
    obtain ⟨x, H⟩ := If x H
    exact VF 0 Z<|Vl (Vi p0.kind) Z (Rb0 Z)<|Vc Z<|Ef Z<|Ea Z<|FH<|Sd<|⟨_, by exact R2, (dcd (p0.kind = 6)), Z, Z, Z, H⟩
 rintro _ _ _ - ⟨J, rfl, rfl, rfl, H⟩
 unfold NQ at H
 refine FK ?_
 refine Gk (fun d c a => ∃ (E : Bool), [(1, (Vp f)), (33, (.bool E))] = d ∧ K = c ∧ (.blk f 70 (FM p0 e g)) :: G = a ∧ Ko p0 E = some b) ?_ ?_
 ·refine FD<|Em Z<|Em Z<|?_
  refine Ee Z ?_ ?_
  ·intro A
   have H := ift A H
   refine VF 1 Z<|Vl (Vi p0.mode) Z (Rb0 Z)<|Vc Z<|Et Z<|Em Z<|?_
   refine Ee Z ?_ ?_
   ·intro h
    have h := GL (GR (h))
    have H := Gu h H
    exact Ez Z<|Ez Z<|Ez Z<|Ez Z<|G3 Z Z Z Z rfl<|G3 Z Z Z Z rfl<|G3 Z Z Z Z rfl<|Ez Z<|Et Z<|FH<|Sd<|⟨_, by exact R2, true, Z, Z, Z, H⟩
   ·intro h
    have h := GM (GQ (h))
    have H := ift h H
    refine VF 4 Z<|Vl (Vi p0.deadline) Z (Rb0 Z)<|Vc Z<|Vm Z<|?_
    refine Ee Z ?_ ?_
    ·intro i
     have i := GL (GR (i))
     have H := Gu i H
     exact VF 1 Z<|Vl (Vi p0.mode) Z (Rb0 Z)<|Vc Z<|Vt Z<|Ef Z<|FH<|Sd<|⟨_, by exact R2, (!(dcd (p0.mode = 2))), Z, Z, Z, H⟩
    ·intro i
     have i := GM (GQ (i))
     have H := ift i H
     exact Ez Z<|Ez Z<|Ez Z<|Vf Z<|Ef Z<|FH<|Sd<|⟨_, by exact R2, false, Z, Z, Z, H⟩
  ·intro A
   have H := Gu (btf A) H
   refine Ez Z<|Ez Z<|Ez Z<|Ef Z<|Em Z<|VF 4 Z<|Vl (Vi p0.deadline) Z (Rb0 Z)<|Vc Z<|Vm Z<|?_
   refine Ee Z ?_ ?_
   ·intro j
    have j := GL (GR (j))
    have H := Gu j H
    exact VF 1 Z<|Vl (Vi p0.mode) Z (Rb0 Z)<|Vc Z<|Vt Z<|Ef Z<|FH<|Sd<|⟨_, by exact R2, (!(dcd (p0.mode = 2))), Z, Z, Z, H⟩
   ·intro j
    have j := GM (GQ (j))
    have H := ift j H
    exact Ez Z<|Ez Z<|Ez Z<|Vf Z<|Ef Z<|FH<|Sd<|⟨_, by exact R2, false, Z, Z, Z, H⟩
 rintro _ _ _ - ⟨E, rfl, rfl, rfl, H⟩
 unfold Ko at H
 refine F2 Z ?_ ?_
 ·intro B
  have H := ift B H
  refine FK<|FD<|Ea Z<|FH<|Gg<|?_
  obtain z := GB H
  subst b
  refine ⟨(.inl Z), [(.bool false)], ⟨(.bool false), _, Z, Z, Z⟩, ?_⟩
  exact Re0<|Sd<|⟨Z, Z⟩
 ·intro B
  have H := Gu (btf B) H
  refine F8<|FK<|FK<|FD<|EF 0 Z<|El (Vi p0.kind) Z (Rb0 Z)<|Ec Z<|FH<|?_
  refine F2 Z ?_ ?_
  ·intro l
   have l := GL (GR (l))
   have H := Gu l H
   refine Gk (fun d c a => ∃ (y : Bool), [(2, (.bool y))] = d ∧ K = c ∧ G = a ∧ NN y = some b) ?_ ?_
   ·refine FD<|EF 5 Z<|El (sv e) Z (Rb0 Z)<|Eq Z (Gt (T := Gp) p Z Z)<|Ec Z<|Em Z<|?_
    refine Ee Z ?_ ?_
    ·intro r
     obtain ⟨r, H⟩ := It r H
     refine VF 6 Z<|Vl (sv g) Z (Rb0 Z)<|Vq Z (Gt (T := Ty.i64) L Z Z)<|Vc Z<|Et Z<|Em Z<|?_
     refine Ee Z ?_ ?_
     ·intro s
      obtain ⟨s, H⟩ := It s H
      refine VF 0 Z<|Vl (Vi p0.kind) Z (Rb0 Z)<|Vc Z<|Vm Z<|?_
      refine Ee Z ?_ ?_
      ·intro t
       obtain ⟨t, H⟩ := It t H
       exact Ez Z<|Ez Z<|Ez Z<|Vt Z<|Et Z<|Ea Z<|FH<|Re0<|Sd<|⟨_, by exact R1, true, Z, Z, Z, H⟩
      ·intro t
       obtain ⟨t, H⟩ := If t H
       exact VF 3 Z<|Vl (.int .u64 p0.value) Z (Rb0 Z)<|Vc Z<|Vf Z<|Et Z<|Ea Z<|FH<|Re0<|Sd<|⟨_, by exact R1, (dcd (p0.value = 0)), Z, Z, Z, H⟩
     ·intro s
      obtain ⟨s, H⟩ := If s H
      exact Ez Z<|Ez Z<|Ez Z<|Ez Z<|G3 Z Z Z Z rfl<|G3 Z Z Z Z rfl<|G3 Z Z Z Z rfl<|Ez Z<|Ef Z<|Ea Z<|FH<|Re0<|Sd<|⟨_, by exact R1, false, Z, Z, Z, H⟩
    ·intro r
     obtain ⟨r, H⟩ := If r H
     exact Ez Z<|Ez Z<|Ez Z<|Ez Z<|Ef Z<|Em Z<|Ez Z<|Ez Z<|Ez Z<|Ez Z<|G3 Z Z Z Z rfl<|G3 Z Z Z Z rfl<|G3 Z Z Z Z rfl<|Ez Z<|Ef Z<|Ea Z<|FH<|Re0<|Sd<|⟨_, by exact R1, false, Z, Z, Z, H⟩
   rintro _ _ _ - ⟨y, rfl, rfl, rfl, H⟩
   unfold NN at H
   refine Gg ?_
   obtain z := GB H
   subst b
   refine ⟨(.inl Z), [(.bool y)], ⟨(.bool y), _, Z, Z, Z⟩, ?_⟩
   exact Sd ⟨Z, Z⟩
  ·intro l
   have l := GM (GQ (l))
   have H := ift l H
   refine F8<|FK<|?_
   refine Gk (fun d c a => ∃ (F : Bool), [(1, (Vp f)), (73, (.bool F))] = d ∧ K = c ∧ (.blk f 70 (FM p0 e g)) :: G = a ∧ NP p0 F = some b) ?_ ?_
   ·refine FD<|EF 2 Z<|El (Vi p0.channel) Z (Rb0 Z)<|Ec Z<|Em Z<|?_
    refine Ee Z ?_ ?_
    ·intro m
     have m := GL (GR (m))
     have H := Gu m H
     exact Ez Z<|Ez Z<|Ez Z<|Et Z<|Em Z<|Ez Z<|Ez Z<|Ez Z<|Ez Z<|Ez Z<|Ez Z<|Ez Z<|Et Z<|FH<|Sd<|⟨_, by exact R2, true, Z, Z, Z, H⟩
    ·intro m
     have m := GM (GQ (m))
     have H := ift m H
     refine VF 3 Z<|Vl (.int .u64 p0.value) Z (Rb0 Z)<|Vc Z<|Ef Z<|Em Z<|?_
     refine Ee Z ?_ ?_
     ·intro n
      have n := GL (GR (n))
      have H := Gu n H
      exact Ez Z<|Ez Z<|Ez Z<|Ez Z<|Ez Z<|Ez Z<|Ez Z<|Et Z<|FH<|Sd<|⟨_, by exact R2, true, Z, Z, Z, H⟩
     ·intro n
      have n := GM (GQ (n))
      have H := ift n H
      exact VF 6 Z<|Vl (sv g) Z (Rb0 Z)<|Vq Z (Gt (T := Ty.i64) L rfl rfl)<|VF 5 Z<|Vl (sv e) Z (Rb0 Z)<|Vq Z (Gt (T := Gp) p rfl rfl)<|Vc Z<|Ef Z<|FH<|Sd<|⟨_, by exact R2, (!(dcd ((p0.draws.length : Int) = (p0.cases.length : Int)))), rfl, rfl, rfl, H⟩
   rintro _ _ _ - ⟨F, rfl, rfl, rfl, H⟩
   unfold NP at H
   refine F2 Z ?_ ?_
   ·intro C
    have H := ift C H
    refine FK<|FD<|Ea Z<|FH<|Gg<|?_
    obtain z := GB H
    subst b
    refine ⟨(.inl Z), [(.bool false)], ⟨(.bool false), _, Z, Z, Z⟩, ?_⟩
    exact Re0<|Sd<|⟨Z, Z⟩
   ·intro C
    have H := Gu (btf C) H
    refine F8 ?_
    refine Gk (fun d c a => [] = d ∧ G = a ∧ RL = some b) ?_ ?_
    ·refine FK<|FD<|Ea Z<|FH<|Gh<|?_
     refine Gv (fun n206 d c a => ∃ (q : Int), [(1, (Vp f)), (4, (Vi q))] = d ∧ K = c ∧ (.blk f 70 (FM p0 e g)) :: G = a ∧ lp1 (P4 p0) n206 q = some b) BIG ?_ ?_
     ·exact Sd ⟨_, by exact R2, 0, Z, Z, Z, H⟩
     rintro n206 _ _ _ - ⟨q, rfl, rfl, rfl, H⟩
     obtain ⟨X, S, rfl, R, H⟩ := Iz H
     unfold P4 at H
     refine FK<|FK<|FD<|Em Z<|EF 5 Z<|El (sv e) Z (Rb0 Z)<|Eq Z (Gt (T := Gp) p Z Z)<|Ec Z<|FH<|?_
     refine F2 Z ?_ ?_
     ·intro u
      obtain ⟨u, H⟩ := It u H
      refine F8<|FK<|Gh<|?_
      refine Gk (fun d c a => ∃ (I : Bool), [(1, (Vp f)), (4, (Vi q)), (96, (.bool I))] = d ∧ K = c ∧ (.blk f 70 (FM p0 e g)) :: G = a ∧ O4 q p0 S I = some b) ?_ ?_
      ·refine FD<|EF 5 Z<|El (sv e) Z (Rb0 Z)<|Em Z<|?_
       obtain ⟨U, M, H⟩ := bnd H
       obtain ⟨_, rfl, P⟩ := Slr.at p M
       refine Eq Z (Qi (T := Gp) p M Z)<|EF 0 Z<|El (.bool U.send) Z (Rdc.k P Z)<|Eq Z (GW Z)<|Em Z<|?_
       refine Ee Z ?_ ?_
       ·intro o
        have o := GR o
        have H := Gu (btf o) H
        refine VF 5 Z<|Vl (sv e) Z (Rb0 Z)<|Vm Z<|?_
        obtain ⟨O, N, H⟩ := bnd H
        obtain ⟨_, rfl, Q⟩ := Slr.at p N
        exact Vq Z (Qi (T := Gp) p N Z)<|VF 2 Z<|Vl (.int .u64 O.value) Z (Rdc.k Q Z)<|Vc Z<|Et Z<|FH<|Sd<|⟨_, by exact R3, (!(dcd (O.value = 0))), Z, Z, Z, H⟩
       ·intro o
        have o := GQ o
        have H := ift o H
        exact Ez Z<|Ez Z<|Ez Z<|Ez Z<|Ez Z<|Ez Z<|Ez Z<|Ef Z<|FH<|Sd<|⟨_, by exact R3, false, Z, Z, Z, H⟩
      rintro _ _ _ - ⟨I, rfl, rfl, rfl, H⟩
      unfold O4 at H
      refine F2 Z ?_ ?_
      ·intro D
       have H := ift D H
       refine FK<|FD<|Ea Z<|FH<|Gg<|?_
       obtain z := GB H
       subst b
       refine ⟨(.inl Z), [(.bool false)], ⟨(.bool false), _, Z, Z, Z⟩, ?_⟩
       exact Re0<|Sd<|⟨Z, Z⟩
      ·intro D
       have H := Gu (btf D) H
       exact F8<|FD<|Em Z<|Er (wI (q + 1)) Z<|Ea Z<|FH<|Sd<|⟨_, by exact R2, _, Nat.lt_succ_self _, (wI (q + 1)), Z, Z, Z, (R ▸ H)⟩
     ·intro u
      obtain ⟨u, H⟩ := If u H
      exact Gy<|Re0<|Sd<|⟨[], trivial, Z, Z, H⟩
    rintro _ V _ W ⟨rfl, rfl, H⟩
    unfold RL at H
    refine FK<|FD<|Ea Z<|FH<|Gg<|?_
    obtain z := GB H
    subst b
    refine ⟨(.inl Z), [(.bool true)], ⟨(.bool true), _, Z, Z, Z⟩, ?_⟩
    exact Sd ⟨Z, Z⟩
theorem UQ (p0 : Op) (b a : SV) (c : Int) (H : Nj p0 = some c) (K : Kp) (G : List Ent) (A : Slr Gp K (sv b) p0.cases) (u : Slr Ty.i64 K (sv a) p0.draws) :
  Fc Tryz.prog 42 #[(.agg (FM p0 b a).toArray)] K (G) (fun v f d => v = (Vi c) ∧ G = d) := by
 refine Gx Tryz.func42 Z Tryz.ntmps42 Tryz.results42 Z ?_
 unfold Nj at H
 refine FK<|FD<|?_
 refine FT Z (GX (cs := (FM p0 b a)) Z Z Z (fun e => ?_))
 refine Ea Z<|FH<|FK<|?_
 refine Gk (fun g f d => ∃ (B : Bool), [(1, (Vp e)), (21, (.bool B))] = g ∧ K = f ∧ (.blk e 70 (FM p0 b a)) :: G = d ∧ LC p0 B = some c) ?_ ?_
 ·refine FD<|EF 0 Z<|El (Vi p0.kind) Z (Rb0 Z)<|Ec Z<|Em Z<|?_
  refine Ee Z ?_ ?_
  ·intro m
   obtain ⟨m, H⟩ := It m H
   exact Ez Z<|Ez Z<|Ez Z<|Et Z<|Em Z<|Ez Z<|Ez Z<|Ez Z<|Et Z<|Em Z<|Ez Z<|Ez Z<|Ez Z<|Et Z<|FH<|Sd<|⟨_, by exact R2, true, Z, Z, Z, H⟩
  ·intro m
   obtain ⟨m, H⟩ := If m H
   refine VF 0 Z<|Vl (Vi p0.kind) Z (Rb0 Z)<|Vc Z<|Ef Z<|Em Z<|?_
   refine Ee Z ?_ ?_
   ·intro n
    obtain ⟨n, H⟩ := It n H
    exact Ez Z<|Ez Z<|Ez Z<|Et Z<|Em Z<|Ez Z<|Ez Z<|Ez Z<|Et Z<|FH<|Sd<|⟨_, by exact R2, true, Z, Z, Z, H⟩
   ·intro n
    obtain ⟨n, H⟩ := If n H
    refine VF 1 Z<|Vl (Vi p0.mode) Z (Rb0 Z)<|Vc Z<|Ef Z<|Em Z<|?_
    refine Ee Z ?_ ?_
    ·intro o
     obtain ⟨o, H⟩ := It o H
     exact Ez Z<|Ez Z<|Ez Z<|Et Z<|FH<|Sd<|⟨_, by exact R2, true, Z, Z, Z, H⟩
    ·intro o
     obtain ⟨o, H⟩ := If o H
     exact VF 1 Z<|Vl (Vi p0.mode) Z (Rb0 Z)<|Vc Z<|Ef Z<|FH<|Sd<|⟨_, by exact R2, (dcd (p0.mode > 2)), Z, Z, Z, H⟩
 rintro _ _ _ - ⟨B, rfl, rfl, rfl, H⟩
 unfold LC at H
 refine F2 Z ?_ ?_
 ·intro x
  have H := ift x H
  refine FK<|FD<|Ea Z<|FH<|Gg<|?_
  obtain l := GB H
  subst c
  refine ⟨(.inl Z), [(Vi 2)], ⟨(Vi 2), _, Z, Z, Z⟩, ?_⟩
  exact Re0<|Sd<|⟨Z, Z⟩
 ·intro x
  have H := Gu (btf x) H
  refine F8<|FK<|FK<|FD<|EL 7 (FM p0 b a) Z (Rb0 Z)<|?_
  obtain ⟨W, S, H⟩ := bnd H
  refine FT Z (Ek Tryz.call74 Z (UO p0 b a W S _ _ A u) ?_)
  rintro _ w _ s ⟨rfl, rfl⟩
  refine Eq Z (GW Z)<|FH<|?_
  refine F2 Z ?_ ?_
  ·intro i
   have i := GR i
   have H := Gu (btf i) H
   refine FK<|FD<|Ea Z<|FH<|Gg<|?_
   obtain l := GB H
   subst c
   refine ⟨(.inl Z), [(Vi 2)], ⟨(Vi 2), _, Z, Z, Z⟩, ?_⟩
   exact Re0<|Sd<|⟨Z, Z⟩
  ·intro i
   have i := GQ i
   have H := ift i H
   refine F8<|FK<|?_
   refine Gk (fun g f d => ∃ (C : Bool), [(1, (Vp e)), (34, (.bool C))] = g ∧ w = f ∧ (.blk e 70 (FM p0 b a)) :: G = d ∧ O6 p0 C = some c) ?_ ?_
   ·refine FD<|EF 5 Z<|El (sv b) Z (Rb0 Z)<|?_
    have O := A.mono s
    refine Eq Z (Gt (T := Gp) O Z Z)<|Ec Z<|Em Z<|?_
    refine Ee Z ?_ ?_
    ·intro p
     obtain ⟨p, H⟩ := It p H
     exact Ez Z<|Ez Z<|Ez Z<|Ez Z<|Et Z<|FH<|Sd<|⟨_, by exact R2, true, Z, Z, Z, H⟩
    ·intro p
     obtain ⟨p, H⟩ := If p H
     refine VF 6 Z<|Vl (sv a) Z (Rb0 Z)<|?_
     have P := u.mono s
     exact Vq Z (Gt (T := Ty.i64) P Z Z)<|Vc Z<|Ef Z<|FH<|Sd<|⟨_, by exact R2, (dcd ((p0.draws.length : Int) > 6)), Z, Z, Z, H⟩
   rintro _ _ _ - ⟨C, rfl, rfl, rfl, H⟩
   unfold O6 at H
   refine F2 Z ?_ ?_
   ·intro y
    have H := ift y H
    refine FK<|FD<|Ea Z<|FH<|Gg<|?_
    obtain l := GB H
    subst c
    refine ⟨(.inl Z), [(Vi 3)], ⟨(Vi 3), _, Z, Z, Z⟩, ?_⟩
    exact Re0<|Sd<|⟨Z, Z⟩
   ·intro y
    have H := Gu (btf y) H
    refine F8 ?_
    refine Gk (fun g f d => [(1, (Vp e))] = g ∧ (.blk e 70 (FM p0 b a)) :: G = d ∧ Nh p0 = some c) ?_ ?_
    ·refine FK<|FD<|Ea Z<|FH<|Gh<|?_
     refine Gv (fun n202 g f d => ∃ (h : Int), [(1, (Vp e)), (3, (Vi h))] = g ∧ w = f ∧ (.blk e 70 (FM p0 b a)) :: G = d ∧ lp1 (O5 p0) n202 h = some c) BIG ?_ ?_
     ·exact Sd ⟨_, by exact R2, 0, Z, Z, Z, H⟩
     rintro n202 _ _ _ - ⟨h, rfl, rfl, rfl, H⟩
     obtain ⟨ad, V, rfl, N, H⟩ := Iz H
     unfold O5 at H
     refine FK<|FK<|FD<|Em Z<|EF 6 Z<|El (sv a) Z (Rb0 Z)<|?_
     have t := u.mono s
     refine Eq Z (Gt (T := Ty.i64) t Z Z)<|Ec Z<|FH<|?_
     refine F2 Z ?_ ?_
     ·intro q
      obtain ⟨q, H⟩ := It q H
      refine F8<|FK<|Gh<|?_
      refine Gk (fun g f d => ∃ (D : Bool), [(1, (Vp e)), (3, (Vi h)), (56, (.bool D))] = g ∧ w = f ∧ (.blk e 70 (FM p0 b a)) :: G = d ∧ Ni h p0 V D = some c) ?_ ?_
      ·refine FD<|EF 6 Z<|El (sv a) Z (Rb0 Z)<|Em Z<|?_
       obtain ⟨X, F, H⟩ := bnd H
       obtain ⟨_, rfl, L⟩ := Slr.at t F
       refine Eq Z (Qi (T := Ty.i64) t F Z)<|El (Vi X) Z (Rdc.k L Z)<|Ec Z<|Em Z<|?_
       refine Ee Z ?_ ?_
       ·intro r
        obtain ⟨r, H⟩ := It r H
        exact Ez Z<|Ez Z<|Ez Z<|Ez Z<|Ez Z<|Ez Z<|Ez Z<|Et Z<|FH<|Sd<|⟨_, by exact R3, true, Z, Z, Z, H⟩
       ·intro r
        obtain ⟨r, H⟩ := If r H
        refine VF 6 Z<|Vl (sv a) Z (Rb0 Z)<|Vm Z<|?_
        obtain ⟨J, I, H⟩ := bnd H
        obtain ⟨_, rfl, M⟩ := Slr.at t I
        exact Vq Z (Qi (T := Ty.i64) t I Z)<|Vl (Vi J) Z (Rdc.k M Z)<|Vm Z<|Vc Z<|Ef Z<|FH<|Sd<|⟨_, by exact R3, (dcd (J > h)), Z, Z, Z, H⟩
      rintro _ _ _ - ⟨D, rfl, rfl, rfl, H⟩
      unfold Ni at H
      refine F2 Z ?_ ?_
      ·intro z
       have H := ift z H
       refine FK<|FD<|Ea Z<|FH<|Gg<|?_
       obtain l := GB H
       subst c
       refine ⟨(.inl Z), [(Vi 2)], ⟨(Vi 2), _, Z, Z, Z⟩, ?_⟩
       exact Re0<|Sd<|⟨Z, Z⟩
      ·intro z
       have H := Gu (btf z) H
       exact F8<|FD<|Em Z<|Er (wI (h + 1)) Z<|Ea Z<|FH<|Sd<|⟨_, by exact R2, _, Nat.lt_succ_self _, (wI (h + 1)), Z, Z, Z, (N ▸ H)⟩
     ·intro q
      obtain ⟨q, H⟩ := If q H
      exact Gy<|Sd<|⟨_, by exact R1, Z, Z, H⟩
    rintro _ aa _ E ⟨rfl, rfl, H⟩
    unfold Nh at H
    refine FK<|FK<|FD<|EL 7 (FM p0 b a) Z (Rb0 Z)<|?_
    obtain ⟨Y, U, H⟩ := bnd H
    have Q := (A.mono s).mono E
    have R := (u.mono s).mono E
    refine FT Z (Ek Tryz.call75 Z (UP p0 b a Y U _ _ Q R) ?_)
    rintro _ ab _ ac ⟨rfl, rfl⟩
    refine Eq Z (GW Z)<|FH<|?_
    refine F2 Z ?_ ?_
    ·intro j
     have j := GR j
     have H := Gu (btf j) H
     refine FK<|FD<|Ea Z<|FH<|Gg<|?_
     obtain l := GB H
     subst c
     refine ⟨(.inl Z), [(Vi 5)], ⟨(Vi 5), _, Z, Z, Z⟩, ?_⟩
     exact Re0<|Sd<|⟨Z, Z⟩
    ·intro j
     have j := GQ j
     have H := ift j H
     refine F8<|FK<|FD<|Ea Z<|FH<|Gg<|?_
     obtain l := GB H
     subst c
     refine ⟨(.inl Z), [(Vi 0)], ⟨(Vi 0), _, Z, Z, Z⟩, ?_⟩
     exact Re0<|Sd<|⟨Z, Z⟩
theorem UN (p0 : FW) (c e : SV) (a : Int) (H : Na p0 = some a) (K : Kp) (G : List Ent) (i : Slr Ty.i64 K (sv c) p0.capacities) (z : Slr Ty.u64 K (sv e) p0.starts) :
  Fc Tryz.prog 41 #[(.agg (GF p0 c e).toArray)] K (G) (fun v f b => v = (Vi a) ∧ G = b) := by
 refine Gx Tryz.func41 Z Tryz.ntmps41 Tryz.results41 Z ?_
 unfold Na at H
 refine FK<|FD<|?_
 refine FT Z (GX (cs := (GF p0 c e)) Z Z Z (fun g => ?_))
 refine Ea Z<|FH<|FK<|FK<|FD<|EF 0 Z<|El (sv c) Z (Rb0 Z)<|Eq Z (Gt (T := Ty.i64) i Z Z)<|Ec Z<|FH<|?_
 refine F2 Z ?_ ?_
 ·intro r
  obtain ⟨r, H⟩ := It r H
  refine FK<|FD<|Ea Z<|FH<|Gg<|?_
  obtain l := GB H
  subst a
  refine ⟨(.inl Z), [(Vi 3)], ⟨(Vi 3), _, Z, Z, Z⟩, ?_⟩
  exact Re0<|Sd<|⟨Z, Z⟩
 ·intro r
  obtain ⟨r, H⟩ := If r H
  refine F8<|FK<|FK<|FD<|EF 1 Z<|El (sv e) Z (Rb0 Z)<|Eq Z (Gt (T := Ty.u64) z Z Z)<|EF 0 Z<|El (sv c) Z (Rb0 Z)<|Eq Z (Gt (T := Ty.i64) i Z Z)<|Ec Z<|FH<|?_
  refine F2 Z ?_ ?_
  ·intro h
   have h := GL (GR (h))
   have H := Gu h H
   refine FK<|FD<|Ea Z<|FH<|Gg<|?_
   obtain l := GB H
   subst a
   refine ⟨(.inl Z), [(Vi 5)], ⟨(Vi 5), _, Z, Z, Z⟩, ?_⟩
   exact Re0<|Sd<|⟨Z, Z⟩
  ·intro h
   have h := GM (GQ (h))
   have H := ift h H
   refine F8 ?_
   refine Gk (fun d f b => [(1, (Vp g))] = d ∧ (.blk g 30 (GF p0 c e)) :: G = b ∧ M8 p0 = some a) ?_ ?_
   ·refine FK<|FD<|Ea Z<|FH<|Gh<|?_
    refine Gv (fun n154 d f b => ∃ (j : Int), [(1, (Vp g)), (3, (Vi j))] = d ∧ K = f ∧ (.blk g 30 (GF p0 c e)) :: G = b ∧ lp1 (M9 p0) n154 j = some a) BIG ?_ ?_
    ·exact Sd ⟨_, by exact R2, 0, Z, Z, Z, H⟩
    rintro n154 _ _ _ - ⟨j, rfl, rfl, rfl, H⟩
    obtain ⟨V, P, rfl, N, H⟩ := Iz H
    unfold M9 at H
    refine FK<|FK<|FD<|Em Z<|EF 0 Z<|El (sv c) Z (Rb0 Z)<|Eq Z (Gt (T := Ty.i64) i Z Z)<|Ec Z<|FH<|?_
    refine F2 Z ?_ ?_
    ·intro m
     obtain ⟨m, H⟩ := It m H
     refine F8<|FK<|Gh<|?_
     refine Gk (fun d f b => ∃ (x : Bool), [(1, (Vp g)), (3, (Vi j)), (36, (.bool x))] = d ∧ K = f ∧ (.blk g 30 (GF p0 c e)) :: G = b ∧ O2 j p0 P x = some a) ?_ ?_
     ·refine FD<|EF 0 Z<|El (sv c) Z (Rb0 Z)<|Em Z<|?_
      obtain ⟨Q, A, H⟩ := bnd H
      obtain ⟨_, rfl, J⟩ := Slr.at i A
      refine Eq Z (Qi (T := Ty.i64) i A Z)<|El (Vi Q) Z (Rdc.k J Z)<|Ec Z<|Em Z<|?_
      refine Ee Z ?_ ?_
      ·intro n
       obtain ⟨n, H⟩ := It n H
       exact Ez Z<|Ez Z<|Ez Z<|Ez Z<|Ez Z<|Ez Z<|Et Z<|FH<|Sd<|⟨_, by exact R3, true, Z, Z, Z, H⟩
      ·intro n
       obtain ⟨n, H⟩ := If n H
       refine VF 0 Z<|Vl (sv c) Z (Rb0 Z)<|Vm Z<|?_
       obtain ⟨D, B, H⟩ := bnd H
       obtain ⟨_, rfl, L⟩ := Slr.at i B
       exact Vq Z (Qi (T := Ty.i64) i B Z)<|Vl (Vi D) Z (Rdc.k L Z)<|Vc Z<|Ef Z<|FH<|Sd<|⟨_, by exact R3, (dcd (D > 16)), Z, Z, Z, H⟩
     rintro _ _ _ - ⟨x, rfl, rfl, rfl, H⟩
     unfold O2 at H
     refine F2 Z ?_ ?_
     ·intro t
      have H := ift t H
      refine FK<|FD<|Ea Z<|FH<|Gg<|?_
      obtain l := GB H
      subst a
      refine ⟨(.inl Z), [(Vi 2)], ⟨(Vi 2), _, Z, Z, Z⟩, ?_⟩
      exact Re0<|Sd<|⟨Z, Z⟩
     ·intro t
      have H := Gu (btf t) H
      exact F8<|FD<|Em Z<|Er (wI (j + 1)) Z<|Ea Z<|FH<|Sd<|⟨_, by exact R2, _, Nat.lt_succ_self _, (wI (j + 1)), Z, Z, Z, (N ▸ H)⟩
    ·intro m
     obtain ⟨m, H⟩ := If m H
     exact Gy<|Sd<|⟨_, by exact R1, Z, Z, H⟩
   rintro _ E _ I ⟨rfl, rfl, H⟩
   unfold M8 at H
   refine Gk (fun d f b => [(1, (Vp g))] = d ∧ (.blk g 30 (GF p0 c e)) :: G = b ∧ M6 p0 = some a) ?_ ?_
   ·refine FK<|FD<|Ea Z<|FH<|Gh<|?_
    refine Gv (fun n243 d f b => ∃ (s : Int), [(1, (Vp g)), (4, (Vi s))] = d ∧ E = f ∧ (.blk g 30 (GF p0 c e)) :: G = b ∧ lp1 (M7 p0) n243 s = some a) BIG ?_ ?_
    ·exact Sd ⟨_, by exact R2, 0, Z, Z, Z, H⟩
    rintro n243 _ _ _ - ⟨s, rfl, rfl, rfl, H⟩
    obtain ⟨W, U, rfl, O, H⟩ := Iz H
    unfold M7 at H
    refine FK<|FK<|FD<|Em Z<|EF 1 Z<|El (sv e) Z (Rb0 Z)<|?_
    have w := z.mono I
    refine Eq Z (Gt (T := Ty.u64) w Z Z)<|Ec Z<|FH<|?_
    refine F2 Z ?_ ?_
    ·intro o
     obtain ⟨o, H⟩ := It o H
     refine F8<|FK<|Gh<|FK<|FD<|EF 1 Z<|El (sv e) Z (Rb0 Z)<|Em Z<|?_
     obtain ⟨R, C, H⟩ := bnd H
     obtain ⟨_, rfl, M⟩ := Slr.at w C
     refine Eq Z (Qi (T := Ty.u64) w C Z)<|El (.int .u64 R) Z (Rdc.k M Z)<|Ec Z<|FH<|?_
     refine F2 Z ?_ ?_
     ·intro p
      obtain ⟨p, H⟩ := It p H
      refine FK<|FD<|Ea Z<|FH<|Gg<|?_
      obtain l := GB H
      subst a
      refine ⟨(.inl Z), [(Vi 2)], ⟨(Vi 2), _, Z, Z, Z⟩, ?_⟩
      exact Re0<|Sd<|⟨Z, Z⟩
     ·intro p
      obtain ⟨p, H⟩ := If p H
      exact F8<|FD<|Em Z<|Er (wI (s + 1)) Z<|Ea Z<|FH<|Sd<|⟨_, by exact R2, _, Nat.lt_succ_self _, (wI (s + 1)), Z, Z, Z, (O ▸ H)⟩
    ·intro o
     obtain ⟨o, H⟩ := If o H
     exact Gy<|Sd<|⟨_, by exact R1, Z, Z, H⟩
   rintro _ F _ S ⟨rfl, rfl, H⟩
   unfold M6 at H
   refine FK ?_
   refine Gk (fun d f b => ∃ (y : Bool), [(57, (.bool y))] = d ∧ F = f ∧ G = b ∧ M5 y = some a) ?_ ?_
   ·refine FD<|EF 2 Z<|El (Vi p0.threads) Z (Rb0 Z)<|Ec Z<|Em Z<|?_
    refine Ee Z ?_ ?_
    ·intro q
     obtain ⟨q, H⟩ := It q H
     exact Ez Z<|Ez Z<|Ez Z<|Et Z<|FH<|Re0<|Sd<|⟨_, by exact R1, true, Z, Z, Z, H⟩
    ·intro q
     obtain ⟨q, H⟩ := If q H
     exact VF 2 Z<|Vl (Vi p0.threads) Z (Rb0 Z)<|Vc Z<|Ef Z<|FH<|Re0<|Sd<|⟨_, by exact R1, (dcd (p0.threads > 8)), Z, Z, Z, H⟩
   rintro _ _ _ - ⟨y, rfl, rfl, rfl, H⟩
   unfold M5 at H
   refine F2 Z ?_ ?_
   ·intro u
    have H := ift u H
    refine FK<|FD<|Ea Z<|FH<|Gg<|?_
    obtain l := GB H
    subst a
    refine ⟨(.inl Z), [(Vi 2)], ⟨(Vi 2), _, Z, Z, Z⟩, ?_⟩
    exact Sd ⟨Z, Z⟩
   ·intro u
    have H := Gu (btf u) H
    refine F8<|FK<|FD<|Ea Z<|FH<|Gg<|?_
    obtain l := GB H
    subst a
    refine ⟨(.inl Z), [(Vi 0)], ⟨(Vi 0), _, Z, Z, Z⟩, ?_⟩
    exact Sd ⟨Z, Z⟩
theorem UR (p0 : ad8) (l : SV) (p1 : ad8) (m : SV) (c : Bool) (H : Ns p0 p1 = some c) (K : Kp) (G : List Ent) (g : Slr Ty.u64 K (sv l) p0) (j : Slr Ty.u64 K (sv m) p1) :
  Fc Tryz.prog 30 #[(sv l), (sv m)] K (G) (fun v h d => v = (.bool c) ∧ G = d) := by
 refine Gx Tryz.func30 Z Tryz.ntmps30 Tryz.results30 Z ?_
 unfold Ns at H
 refine FK<|FD<|Ea Z<|FH<|FK<|FK<|FD<|Em Z<|Eq Z (Gt (T := Ty.u64) g Z Z)<|Em Z<|Eq Z (Gt (T := Ty.u64) j Z Z)<|Ec Z<|FH<|?_
 refine F2 Z ?_ ?_
 ·intro b
  have b := GL (GR (b))
  have H := Gu b H
  refine FK<|FD<|Ea Z<|FH<|Gg<|?_
  obtain n := GB H
  subst c
  refine ⟨(.inl Z), [(.bool false)], ⟨(.bool false), _, Z, Z, Z⟩, ?_⟩
  exact Sd ⟨Z, Z⟩
 ·intro b
  have b := GM (GQ (b))
  have H := ift b H
  refine F8 ?_
  refine Gk (fun i h d => [] = i ∧ G = d ∧ RO = some c) ?_ ?_
  ·refine FK<|FD<|Ea Z<|FH<|Gh<|?_
   refine Gv (fun n150 i h d => ∃ (f : Int), [(0, (sv l)), (1, (sv m)), (5, (Vi f))] = i ∧ K = h ∧ G = d ∧ lp1 (Nr p0 p1) n150 f = some c) BIG ?_ ?_
   ·exact Sd ⟨_, by exact R3, 0, Z, Z, Z, H⟩
   rintro n150 _ _ _ - ⟨f, rfl, rfl, rfl, H⟩
   obtain ⟨z, y, rfl, s, H⟩ := Iz H
   unfold Nr at H
   refine FK<|FK<|FD<|Em Z<|Em Z<|Eq Z (Gt (T := Ty.u64) g Z Z)<|Ec Z<|FH<|?_
   refine F2 Z ?_ ?_
   ·intro e
    obtain ⟨e, H⟩ := It e H
    refine F8<|FK<|Gh<|FK<|?_
    obtain ⟨t, o, H⟩ := bnd H
    obtain ⟨u, p, H⟩ := bnd H
    refine Gm _ Z In0<|Jm 0 Z<|Jm 1 Z<|?_
    obtain ⟨_, rfl, q⟩ := Slr.at g o
    refine Jq 2 Z (Qi (T := Ty.u64) g o Z)<|Jl 3 (.int .u64 t) Z (Rdc.k q Z)<|Jm 4 Z<|Jm 5 Z<|?_
    obtain ⟨_, rfl, r⟩ := Slr.at j p
    refine Jq 6 Z (Qi (T := Ty.u64) j p Z)<|Jl 7 (.int .u64 u) Z (Rdc.k r Z)<|Jc 8 Z<|Ad<|?_
    refine F2 Z ?_ ?_
    ·intro a
     have a := GL (GR (a))
     have H := Gu a H
     refine FK<|FD<|Ea Z<|FH<|Gg<|?_
     obtain n := GB H
     subst c
     refine ⟨(.inl Z), [(.bool false)], ⟨(.bool false), _, Z, Z, Z⟩, ?_⟩
     exact Sd ⟨Z, Z⟩
    ·intro a
     have a := GM (GQ (a))
     have H := ift a H
     exact F8<|FD<|Em Z<|Er (wI (f + 1)) Z<|Ea Z<|FH<|Sd<|⟨_, by exact R3, _, Nat.lt_succ_self _, (wI (f + 1)), Z, Z, Z, (s ▸ H)⟩
   ·intro e
    obtain ⟨e, H⟩ := If e H
    exact Gy<|Sd<|⟨[], trivial, Z, Z, H⟩
  rintro _ w _ x ⟨rfl, rfl, H⟩
  unfold RO at H
  refine FK<|FD<|Ea Z<|FH<|Gg<|?_
  obtain n := GB H
  subst c
  refine ⟨(.inl Z), [(.bool true)], ⟨(.bool true), _, Z, Z, Z⟩, ?_⟩
  exact Sd ⟨Z, Z⟩
theorem V3 (p0 : FQ) (h i : SV) (c e : SV) (a : Int) (H : OF p0 = some a) (K : Kp) (G : List Ent) (au : Slr Ty.i64 K (sv h) p0.cnfg.capacities) (av : Slr Ty.u64 K (sv i) p0.cnfg.starts) (aw : Slr (Ty.sl FU) K (sv c) p0.ops) (ax : Slr Ty.i64 K (sv e) p0.picks) :
  Fc Tryz.prog 20 #[(.agg (FG p0 h i c e).toArray)] K (G) (fun v j b => v = (Vi a) ∧ G = b) := by
 refine Gx Tryz.func20 Z Tryz.ntmps20 Tryz.results20 Z ?_
 unfold OF at H
 refine FK<|FD<|?_
 refine FT Z (GX (cs := (FG p0 h i c e)) Z Z Z (fun g => ?_))
 refine Ea Z<|FH<|FK<|FK<|FD<|EF 0 Z<|EL 3 (GF p0.cnfg h i) Z (Rb0 Z)<|?_
 obtain ⟨F, aG, H⟩ := bnd H
 refine FT Z (Ek Tryz.call41 Z (UN p0.cnfg h i F aG _ _ au av) ?_)
 rintro _ aM _ M ⟨rfl, rfl⟩
 refine Ea Z<|FH<|FK<|FD<|Em Z<|Ec Z<|FH<|?_
 refine F2 Z ?_ ?_
 ·intro n
  have n := GL (GR (n))
  have H := Gu n H
  refine FK<|FD<|Em Z<|Ea Z<|FH<|Gg<|?_
  obtain s := GB H
  subst a
  refine ⟨(.inl Z), [(Vi F)], ⟨(Vi F), _, Z, Z, Z⟩, ?_⟩
  exact Re0<|Sd<|⟨Z, Z⟩
 ·intro n
  have n := GM (GQ (n))
  have H := ift n H
  refine F8<|FK<|FK<|FD<|EF 3 Z<|El (sv c) Z (Rb0 Z)<|?_
  have O := aw.mono M
  refine Eq Z (Gt (T := (Ty.sl FU)) O Z Z)<|EF 0 Z<|EF 2 Z<|El (Vi p0.cnfg.threads) Z (Rb0 Z)<|Ec Z<|FH<|?_
  refine F2 Z ?_ ?_
  ·intro o
   have o := GL (GR (o))
   have H := Gu o H
   refine FK<|FD<|Ea Z<|FH<|Gg<|?_
   obtain s := GB H
   subst a
   refine ⟨(.inl Z), [(Vi 5)], ⟨(Vi 5), _, Z, Z, Z⟩, ?_⟩
   exact Re0<|Sd<|⟨Z, Z⟩
  ·intro o
   have o := GM (GQ (o))
   have H := ift o H
   refine F8 ?_
   refine Gk (fun f j b => [(1, (Vp g))] = f ∧ (.blk g 33 (FG p0 h i c e)) :: G = b ∧ Nl p0 = some a) ?_ ?_
   ·refine FK<|FD<|Ea Z<|FH<|Gh<|?_
    refine Gv (fun X f j b => ∃ (l : Int), [(1, (Vp g)), (4, (Vi l))] = f ∧ (.blk g 33 (FG p0 h i c e)) :: G = b ∧ lp1 (Np p0) X l = some a) BIG ?_ ?_
    ·exact Sd ⟨_, by exact R2, 0, Z, Z, H⟩
    rintro X _ aN _ af ⟨l, rfl, rfl, H⟩
    obtain ⟨aW, W, rfl, ap, H⟩ := Iz H
    unfold Np at H
    refine FK<|FK<|FD<|Em Z<|EF 3 Z<|El (sv c) Z (Rb0 Z)<|?_
    have A := O.mono af
    refine Eq Z (Gt (T := (Ty.sl FU)) A Z Z)<|Ec Z<|FH<|?_
    refine F2 Z ?_ ?_
    ·intro t
     obtain ⟨t, H⟩ := It t H
     refine F8 ?_
     refine Gk (fun f j b => [(1, (Vp g)), (4, (Vi l))] = f ∧ (.blk g 33 (FG p0 h i c e)) :: G = b ∧ P6 l p0 W = some a) ?_ ?_
     ·refine Gh<|FK<|FK<|FD<|EF 3 Z<|El (sv c) Z (Rb0 Z)<|Em Z<|?_
      obtain ⟨a3, Q, H⟩ := bnd H
      obtain ⟨aZ, ay, ai⟩ := Slr.at A Q
      obtain ⟨aJ, rfl, aC⟩ := ay
      refine Eq Z (Qi (T := (Ty.sl FU)) A Q Z)<|El (sv aJ) Z (Rdc.k ai Z)<|Eq Z (Gt (T := FU) aC Z Z)<|Ec Z<|FH<|?_
      refine F2 Z ?_ ?_
      ·intro u
       obtain ⟨u, H⟩ := It u H
       refine FK<|FD<|Ea Z<|FH<|Gg<|?_
       obtain s := GB H
       subst a
       refine ⟨(.inl Z), [(Vi 3)], ⟨(Vi 3), _, Z, Z, Z⟩, ?_⟩
       exact Re0<|Sd<|⟨Z, Z⟩
      ·intro u
       obtain ⟨u, H⟩ := If u H
       refine F8<|FK<|FD<|Ea Z<|FH<|Gh<|?_
       refine Gv (fun Y f j b => ∃ (z : Int), [(1, (Vp g)), (4, (Vi l)), (5, (Vi z))] = f ∧ (.blk g 33 (FG p0 h i c e)) :: G = b ∧ lp1 (Nn l p0 W) Y z = some a) BIG ?_ ?_
       ·exact Sd ⟨_, by exact R3, 0, Z, Z, H⟩
       rintro Y _ aO _ ag ⟨z, rfl, rfl, H⟩
       obtain ⟨aX, aV, rfl, aq, H⟩ := Iz H
       unfold Nn at H
       refine FK<|FK<|FD<|Em Z<|EF 3 Z<|El (sv c) Z (Rb0 Z)<|Em Z<|?_
       obtain ⟨a4, R, H⟩ := bnd H
       have B := A.mono ag
       obtain ⟨a0, az, aj⟩ := Slr.at B R
       obtain ⟨aK, rfl, aD⟩ := az
       refine Eq Z (Qi (T := (Ty.sl FU)) B R Z)<|El (sv aK) Z (Rdc.k aj Z)<|Eq Z (Gt (T := FU) aD Z Z)<|Ec Z<|FH<|?_
       refine F2 Z ?_ ?_
       ·intro w
        obtain ⟨w, H⟩ := It w H
        refine F8<|FK<|Gh<|FK<|FD<|EF 3 Z<|El (sv c) Z (Rb0 Z)<|Em Z<|?_
        obtain ⟨a5, S, H⟩ := bnd H
        obtain ⟨a1, aA, ak⟩ := Slr.at B S
        obtain ⟨aL, rfl, P⟩ := aA
        refine Eq Z (Qi (T := (Ty.sl FU)) B S Z)<|El (sv aL) Z (Rdc.k ak Z)<|Em Z<|?_
        obtain ⟨ad, U, H⟩ := bnd H
        obtain ⟨a2, aB, al⟩ := Slr.at P U
        obtain ⟨ab, ac, rfl, aE, aF⟩ := aB
        refine Eq Z (Qi (T := FU) P U Z)<|EL 7 (FM ad ab ac) Z (Rdc.k al Z)<|?_
        obtain ⟨I, aH, H⟩ := bnd H
        refine FT Z (Ek Tryz.call42 Z (UQ ad ab ac I aH _ _ aE aF) ?_)
        rintro _ aP _ aS ⟨rfl, rfl⟩
        refine Ea Z<|FH<|FK<|FD<|Em Z<|Ec Z<|FH<|?_
        refine F2 Z ?_ ?_
        ·intro p
         have p := GL (GR (p))
         have H := Gu p H
         refine FK<|FD<|Em Z<|Ea Z<|FH<|Gg<|?_
         obtain s := GB H
         subst a
         refine ⟨(.inl Z), [(Vi I)], ⟨(Vi I), _, Z, Z, Z⟩, ?_⟩
         exact Re0<|Sd<|⟨Z, Z⟩
        ·intro p
         have p := GM (GQ (p))
         have H := ift p H
         exact F8<|FD<|Em Z<|Er (wI (z + 1)) Z<|Ea Z<|FH<|Sd<|⟨_, by exact R3, _, Nat.lt_succ_self _, (wI (z + 1)), Z, Z, (aq ▸ H)⟩
       ·intro w
        obtain ⟨w, H⟩ := If w H
        exact Gy<|Sd<|⟨_, by exact R2, Z, Z, H⟩
     rintro _ aQ _ aT ⟨rfl, rfl, H⟩
     unfold P6 at H
     exact FD<|Em Z<|Er (wI (l + 1)) Z<|Ea Z<|FH<|Sd<|⟨_, by exact R2, _, Nat.lt_succ_self _, (wI (l + 1)), Z, Z, (ap ▸ H)⟩
    ·intro t
     obtain ⟨t, H⟩ := If t H
     exact Gy<|Sd<|⟨_, by exact R1, Z, Z, H⟩
   rintro _ L _ ah ⟨rfl, rfl, H⟩
   unfold Nl at H
   refine FK<|FK<|FD<|EF 4 Z<|El (sv e) Z (Rb0 Z)<|?_
   have m := (ax.mono M).mono ah
   refine Eq Z (Gt (T := Ty.i64) m Z Z)<|Ec Z<|FH<|?_
   refine F2 Z ?_ ?_
   ·intro x
    obtain ⟨x, H⟩ := It x H
    refine FK<|FD<|Ea Z<|FH<|Gg<|?_
    obtain s := GB H
    subst a
    refine ⟨(.inl Z), [(Vi 3)], ⟨(Vi 3), _, Z, Z, Z⟩, ?_⟩
    exact Re0<|Sd<|⟨Z, Z⟩
   ·intro x
    obtain ⟨x, H⟩ := If x H
    refine F8 ?_
    refine Gk (fun f j b => [] = f ∧ G = b ∧ P5 = some a) ?_ ?_
    ·refine FK<|FD<|Ea Z<|FH<|Gh<|?_
     refine Gv (fun aa f j b => ∃ (r : Int), [(1, (Vp g)), (7, (Vi r))] = f ∧ L = j ∧ (.blk g 33 (FG p0 h i c e)) :: G = b ∧ lp1 (Nk p0) aa r = some a) BIG ?_ ?_
     ·exact Sd ⟨_, by exact R2, 0, Z, Z, Z, H⟩
     rintro aa _ _ _ - ⟨r, rfl, rfl, rfl, H⟩
     obtain ⟨aY, aI, rfl, ar, H⟩ := Iz H
     unfold Nk at H
     refine FK<|FK<|FD<|Em Z<|EF 4 Z<|El (sv e) Z (Rb0 Z)<|Eq Z (Gt (T := Ty.i64) m Z Z)<|Ec Z<|FH<|?_
     refine F2 Z ?_ ?_
     ·intro y
      obtain ⟨y, H⟩ := It y H
      refine F8<|FK<|Gh<|?_
      refine Gk (fun f j b => ∃ (E : Bool), [(1, (Vp g)), (7, (Vi r)), (84, (.bool E))] = f ∧ L = j ∧ (.blk g 33 (FG p0 h i c e)) :: G = b ∧ KN r p0 aI E = some a) ?_ ?_
      ·obtain ⟨J, C, H⟩ := bnd H
       rcases Ia (dcd (J < (-1099511627776))) with N | N <;> revert N
       ·intro q
        obtain ⟨q, H⟩ := It q H
        refine Gm _ Z (Ic Mb0 In0)<|JF 0 4 Z<|Jl 1 (sv e) Z (Rb0 Z)<|Jm 2 Z<|?_
        obtain ⟨_, rfl, am⟩ := Slr.at m C
        exact Jq 3 Z (Qi (T := Ty.i64) m C Z)<|Jl 4 (Vi J) Z (Rdc.k am Z)<|Jc 5 Z<|Jm 6 Z<|Aw.known (d := 74) Z (HE q)<|Jz 7 Z<|Jz 8 Z<|Jz 9 Z<|Jz 10 Z<|Jz 11 Z<|Jz 12 Z<|Jz 13 Z<|Jz 14 Z<|Jz 15 Z<|Jt 16 Z<|Ad<|Sd<|⟨_, by exact R3, true, Z, Z, Z, H⟩
       ·intro q
        obtain ⟨q, H⟩ := If q H
        obtain ⟨ae, V, H⟩ := bnd H
        refine Gm _ Z (Ic Mb0 In0)<|JF 0 4 Z<|Jl 1 (sv e) Z (Rb0 Z)<|Jm 2 Z<|?_
        obtain ⟨_, rfl, an⟩ := Slr.at m C
        refine Jq 3 Z (Qi (T := Ty.i64) m C Z)<|Jl 4 (Vi J) Z (Rdc.k an Z)<|Jc 5 Z<|Jm 6 Z<|Aw.known (d := 74) Z (Ib q)<|BF 7 4 Z<|Bl 8 (sv e) Z (Rb0 Z)<|Bm 9 Z<|?_
        obtain ⟨_, rfl, ao⟩ := Slr.at m V
        exact Bq 10 Z (Qi (T := Ty.i64) m V Z)<|Bl 11 (Vi ae) Z (Rdc.k ao Z)<|BF 12 0 Z<|BF 13 2 Z<|Bl 14 (Vi p0.cnfg.threads) Z (Rb0 Z)<|Bc 15 Z<|Jf 16 Z<|Ad<|Sd<|⟨_, by exact R3, (dcd (ae ≥ p0.cnfg.threads)), Z, Z, Z, H⟩
      rintro _ _ _ - ⟨E, rfl, rfl, rfl, H⟩
      unfold KN at H
      refine F2 Z ?_ ?_
      ·intro D
       have H := ift D H
       refine FK<|FD<|Ea Z<|FH<|Gg<|?_
       obtain s := GB H
       subst a
       refine ⟨(.inl Z), [(Vi 2)], ⟨(Vi 2), _, Z, Z, Z⟩, ?_⟩
       exact Re0<|Sd<|⟨Z, Z⟩
      ·intro D
       have H := Gu (btf D) H
       exact F8<|FD<|Em Z<|Er (wI (r + 1)) Z<|Ea Z<|FH<|Sd<|⟨_, by exact R2, _, Nat.lt_succ_self _, (wI (r + 1)), Z, Z, Z, (ar ▸ H)⟩
     ·intro y
      obtain ⟨y, H⟩ := If y H
      exact Gy<|Re0<|Sd<|⟨[], trivial, Z, Z, H⟩
    rintro _ aR _ aU ⟨rfl, rfl, H⟩
    unfold P5 at H
    refine FK<|FD<|Ea Z<|FH<|Gg<|?_
    obtain s := GB H
    subst a
    refine ⟨(.inl Z), [(Vi 0)], ⟨(Vi 0), _, Z, Z, Z⟩, ?_⟩
    exact Sd ⟨Z, Z⟩
theorem Ux (p0 : ByteArray) (h : FQ) (s t : Int) (H : KQ p0 = some (h, s, t)) (K : Kp) (G : List Ent)  :
  Fc Tryz.prog 14 #[(.string p0)] K (G) (fun v a i => ∃ (aO aP : SV) (aQ aR : SV), v = (.tuple #[(.agg (FG h aO aP aQ aR).toArray), (Vi s), (Vi t)]) ∧ (.tok 3 1 [(sv aO)]) :: (.tok 53 1 [(sv aP)]) :: (.tok 51 1 [(sv aQ)]) :: (.tok 3 1 [(sv aR)]) :: G = i ∧ Slr Ty.i64 a (sv aO) h.cnfg.capacities ∧ Slr Ty.u64 a (sv aP) h.cnfg.starts ∧ Slr (Ty.sl FU) a (sv aQ) h.ops ∧ Slr Ty.i64 a (sv aR) h.picks) := by
 refine Gx Tryz.func14 Z Tryz.ntmps14 Tryz.results14 Z ?_
 unfold KQ at H
 refine FK<|FD<|?_
 refine FT Z (GE (cs := (FG (FQ.mk (FW.mk [] [] 0) [] []) FZ FZ FZ FZ)) Z Z Z Z (fun o => ?_))
 refine Ea Z<|Ea Z<|FH<|FK<|FK<|FD<|Em Z<|Eq Z (HT Z Z)<|Ec Z<|FH<|?_
 refine F2 Z ?_ ?_
 ·intro ae
  obtain ⟨ae, H⟩ := It ae H
  refine FK<|FD<|Eq Z (GH (cs := (FG (FQ.mk (FW.mk [] [] 0) [] []) FZ FZ FZ FZ)) Z Z Z Z Z Z)<|?_
  refine FT Z (Sa (FG (FQ.mk (FW.mk [] [] 0) [] []) FZ FZ FZ FZ) Z .here Z ?_)
  refine Ea Z<|Ea Z<|FH<|Gg<|?_
  obtain ⟨ap, aq, ar⟩ := IZ H
  subst h s t
  refine ⟨(.inl Z), [(.agg (FG (FQ.mk (FW.mk [] [] 0) [] []) FZ FZ FZ FZ).toArray), (Vi 0), (Vi 4)], ⟨(.agg (FG (FQ.mk (FW.mk [] [] 0) [] []) FZ FZ FZ FZ).toArray), _, Z, ⟨_, 5, (FG (FQ.mk (FW.mk [] [] 0) [] []) FZ FZ FZ FZ), Z, Z, Z, Z, ⟨Z, Rb0 Z⟩, Z⟩, ⟨(Vi 0), _, Z, Z, ⟨(Vi 4), _, Z, Z, Z⟩⟩⟩, ?_⟩
  exact Shift.nilTok1 3 1<|Shift.nilTok1 53 1<|Shift.nilTok1 51 1<|Shift.nilTok1 3 1<|Pu1<|Pu2<|Pu3<|Re4<|Sd<|⟨FZ, FZ, FZ, FZ, Z, Z, (Slr.nil Ty.i64 _), (Slr.nil Ty.u64 _), (Slr.nil (Ty.sl FU) _), (Slr.nil Ty.i64 _)⟩
 ·intro ae
  obtain ⟨ae, H⟩ := If ae H
  refine F8<|FK<|FD<|?_
  refine FT Z (GE (cs := (FG (FQ.mk (FW.mk [] [] 0) [] []) FZ FZ FZ FZ)) Z Z Z Z (fun p => ?_))
  refine FH<|FK<|FD<|Ea Z<|Ea Z<|Ea Z<|FH<|?_
  refine Gk (fun q a i => ∃ (A : SV) (u : ad8) (aE : List (List Value)) (B : SV) (w : ad8) (aF : List (List Value)) (E : Int) (C : SV) (x : ae8) (an : List Value) (D : SV) (y : ad8) (aG : List (List Value)), [(2, (Vp o)), (5, (Vp p))] = q ∧ (.blk p 33 (FG (FQ.mk (FW.mk u w E) x y) A B C D)) :: (.blk o 33 (FG (FQ.mk (FW.mk [] [] 0) [] []) FZ FZ FZ FZ)) :: (.row (sv A) 3 1 aE.flatten) :: (.row (sv B) 53 1 aF.flatten) :: (.row (sv C) 51 1 (an.map one).flatten) :: (.tok 70 7 an) :: (.row (sv D) 3 1 aG.flatten) :: G = i ∧ P7 u w E x y = some (h, s, t) ∧ RowR Ty.i64 a aE u ∧ RowR Ty.u64 a aF w ∧ RowR (Ty.sl FU) a (an.map one) x ∧ RowR Ty.i64 a aG y) ?_ ?_
  ·refine Gh ?_
   refine Gv (fun a0 q a i => ∃ (F f : Int) (z : Bool) (j : SV) (b : ad8) (O : List (List Value)) (k : SV) (c : ad8) (P : List (List Value)) (g : Int) (l : SV) (d : ae8) (r : List Value) (m : SV) (e : ad8) (Q : List (List Value)), [(0, (.string p0)), (2, (Vp o)), (5, (Vp p)), (6, (Vi F)), (7, (Vi f)), (8, (.bool z))] = q ∧ (.blk p 33 (FG (FQ.mk (FW.mk b c g) d e) j k l m)) :: (.blk o 33 (FG (FQ.mk (FW.mk [] [] 0) [] []) FZ FZ FZ FZ)) :: (.row (sv j) 3 1 O.flatten) :: (.row (sv k) 53 1 P.flatten) :: (.row (sv l) 51 1 (r.map one).flatten) :: (.tok 70 7 r) :: (.row (sv m) 3 1 Q.flatten) :: G = i ∧ lp8 (LE p0) a0 F f z b c g d e = some (h, s, t) ∧ RowR Ty.i64 a O b ∧ RowR Ty.u64 a P c ∧ RowR (Ty.sl FU) a (r.map one) d ∧ RowR Ty.i64 a Q e) BIG ?_ ?_
   ·have am : RowR Ty.i64 K [] [] := RowR.nil
    refine Shift.nilRow 3 1 ?_
    have cb : RowR Ty.u64 K [] [] := RowR.nil
    refine Shift.nilRow 53 1 ?_
    have cc : RowR (Ty.sl FU) K (([] : List Value).map one) [] := RowR.nil
    refine Shift.nilTok 70 7 0<|Shift.nilRow 51 1<|?_
    have cd : RowR Ty.i64 K [] [] := RowR.nil
    exact Shift.nilRow 3 1<|Pu2<|Pu2<|Pu3<|Pu4<|Pu6<|Pu6<|Sd<|⟨_, by exact R6, 0, 0, false, FZ, ([] : ad8), ([] : List (List Value)), FZ, ([] : ad8), ([] : List (List Value)), 0, FZ, ([] : ae8), ([] : List Value), FZ, ([] : ad8), ([] : List (List Value)), Z, Z, H, am, am, am, am⟩
   rintro a0 _ aT _ ca ⟨F, f, z, j, b, O, k, c, P, g, l, d, r, m, e, Q, rfl, rfl, H, aA, aB, aC, aD⟩
   obtain ⟨ce, ah, rfl, bh, H⟩ := lps8 H
   unfold LE at H
   refine FK<|FK<|FD<|Em Z<|Em Z<|Eq Z (HT Z Z)<|Ec Z<|FH<|?_
   refine F2 Z ?_ ?_
   ·intro af
    obtain ⟨af, H⟩ := It af H
    refine F8<|Gh<|FK<|FD<|Em Z<|Er (wI (f + 1)) Z<|Ea Z<|FH<|FK<|FD<|Em Z<|Ea Z<|FH<|?_
    refine Gk (fun q a i => ∃ (I : Int), [(0, (.string p0)), (2, (Vp o)), (5, (Vp p)), (6, (Vi F)), (7, (Vi (wI (f + 1)))), (8, (.bool z)), (9, (Vi I))] = q ∧ (.blk p 33 (FG (FQ.mk (FW.mk b c g) d e) j k l m)) :: (.blk o 33 (FG (FQ.mk (FW.mk [] [] 0) [] []) FZ FZ FZ FZ)) :: (.row (sv j) 3 1 O.flatten) :: (.row (sv k) 53 1 P.flatten) :: (.row (sv l) 51 1 (r.map one).flatten) :: (.tok 70 7 r) :: (.row (sv m) 3 1 Q.flatten) :: G = i ∧ KO p0 F f z b c g d e ah I = some (h, s, t)) ?_ ?_
    ·refine Gh ?_
     refine Gv (fun a1 q a i => ∃ (U : Int), [(0, (.string p0)), (2, (Vp o)), (5, (Vp p)), (6, (Vi F)), (7, (Vi (wI (f + 1)))), (8, (.bool z)), (9, (Vi U))] = q ∧ aT = a ∧ (.blk p 33 (FG (FQ.mk (FW.mk b c g) d e) j k l m)) :: (.blk o 33 (FG (FQ.mk (FW.mk [] [] 0) [] []) FZ FZ FZ FZ)) :: (.row (sv j) 3 1 O.flatten) :: (.row (sv k) 53 1 P.flatten) :: (.row (sv l) 51 1 (r.map one).flatten) :: (.tok 70 7 r) :: (.row (sv m) 3 1 Q.flatten) :: G = i ∧ lp1 (Kq p0 F f z b c g d e ah) a1 U = some (h, s, t)) BIG ?_ ?_
     ·exact Pu6<|Pu6<|Pu6<|Pu6<|Pu6<|Pu6<|Pu6<|Sd<|⟨_, by exact R7, F, Z, Z, Z, H⟩
     rintro a1 _ _ _ - ⟨U, rfl, rfl, rfl, H⟩
     obtain ⟨cf, bN, rfl, bi, H⟩ := Iz H
     unfold Kq at H
     refine FK ?_
     refine Gk (fun q a i => ∃ (aI : Bool), [(0, (.string p0)), (2, (Vp o)), (5, (Vp p)), (6, (Vi F)), (7, (Vi (wI (f + 1)))), (8, (.bool z)), (9, (Vi U)), (33, (.bool aI))] = q ∧ aT = a ∧ (.blk p 33 (FG (FQ.mk (FW.mk b c g) d e) j k l m)) :: (.blk o 33 (FG (FQ.mk (FW.mk [] [] 0) [] []) FZ FZ FZ FZ)) :: (.row (sv j) 3 1 O.flatten) :: (.row (sv k) 53 1 P.flatten) :: (.row (sv l) 51 1 (r.map one).flatten) :: (.tok 70 7 r) :: (.row (sv m) 3 1 Q.flatten) :: G = i ∧ KP p0 F f z U b c g d e ah bN aI = some (h, s, t)) ?_ ?_
     ·refine FD<|Em Z<|Em Z<|Eq Z (HT Z Z)<|Ec Z<|Em Z<|?_
      refine Ee Z ?_ ?_
      ·intro ag
       obtain ⟨ag, H⟩ := It ag H
       refine Vm Z<|Vm Z<|?_
       obtain ⟨bW, bL, H⟩ := bnd H
       exact Vq Z (LG bL Z Z Z)<|Vc Z<|Et Z<|FH<|Pu6<|Pu6<|Pu6<|Pu6<|Pu6<|Pu6<|Pu6<|Sd<|⟨_, by exact R8, (!(dcd (bW = 10))), Z, Z, Z, H⟩
      ·intro ag
       obtain ⟨ag, H⟩ := If ag H
       exact Ez Z<|Ez Z<|Ez Z<|Ez Z<|Ef Z<|FH<|Pu6<|Pu6<|Pu6<|Pu6<|Pu6<|Pu6<|Pu6<|Sd<|⟨_, by exact R8, false, Z, Z, Z, H⟩
     rintro _ _ _ - ⟨aI, rfl, rfl, rfl, H⟩
     unfold KP at H
     refine F2 Z ?_ ?_
     ·intro av
      have H := ift av H
      exact F8<|Gh<|FD<|Em Z<|Er (wI (U + 1)) Z<|Ea Z<|FH<|Pu6<|Pu6<|Pu6<|Pu6<|Pu6<|Pu6<|Pu6<|Sd<|⟨_, by exact R7, _, Nat.lt_succ_self _, (wI (U + 1)), Z, Z, Z, (bi ▸ H)⟩
     ·intro av
      have H := Gu (btf av) H
      exact Gy<|Pu6<|Pu6<|Pu6<|Pu6<|Pu6<|Pu6<|Pu6<|Sd<|⟨_, by exact R7, U, Z, Z, H⟩
    rintro _ b5 _ S ⟨I, rfl, rfl, H⟩
    unfold KO at H
    refine Gk (fun q a i => ∃ (ad : Nat) (aJ : Bool) (W : SV) (L : ad8) (ai : List (List Value)) (X : SV) (M : ad8) (aj : List (List Value)) (V : Int) (Y : SV) (N : ae8) (ac : List Value) (R : SV) (J : ad8) (ak : List (List Value)), [(0, (.string p0)), (2, (Vp o)), (5, (Vp p)), (7, (Vi (wI (f + 1)))), (9, (Vi I)), (10, (Vp ad)), (11, (.bool aJ))] = q ∧ (.blk ad 33 (FG (FQ.mk (FW.mk L M V) N J) W X Y R)) :: (.blk p 33 (FG (FQ.mk (FW.mk b c g) d e) j k l m)) :: (.blk o 33 (FG (FQ.mk (FW.mk [] [] 0) [] []) FZ FZ FZ FZ)) :: (.row (sv W) 3 1 ai.flatten) :: (.row (sv X) 53 1 aj.flatten) :: (.row (sv Y) 51 1 (ac.map one).flatten) :: (.tok 70 7 ac) :: (.row (sv R) 3 1 ak.flatten) :: G = i ∧ LD p0 f I b c g d e ah aJ L M V N J = some (h, s, t) ∧ RowR Ty.i64 a ai L ∧ RowR Ty.u64 a aj M ∧ RowR (Ty.sl FU) a (ac.map one) N ∧ RowR Ty.i64 a ak J) ?_ ?_
    ·obtain ⟨a6, bM, H⟩ := bnd H
     obtain ⟨n, ao, aZ, H⟩ := Ig H
     refine Gm _ Z (Ic Mb0 (Ic Mb1 In0))<|JL 0 5 (FG (FQ.mk (FW.mk b c g) d e) j k l m) Z (Rb0 Z)<|Jm 1 Z<|Jm 2 Z<|Jm 3 Z<|Jq 4 Z (Uu bM Z Z Z Z)<|Jm 5 Z<|?_
     refine Gf 6 10 (by kernel_rfl) ?_ ?_
     ·refine id (Jy Z ?_)
      refine OpW.shift (Pu6 (Sd ?_))
      refine OpW.shift (Pu6 (Sd ?_))
      refine OpW.shift (Pu6 (Sd ?_))
      refine OpW.shift (Pu6 (Sd ?_))
      refine OpW.shift (Pu6 (Sd ?_))
      have bG := aA.mono S
      have bH := aB.mono S
      have bI := aC.mono S
      have bJ := aD.mono S
      refine Ek Tryz.call28 Z (Tc (FQ.mk (FW.mk b c g) d e) j O k P l r m Q a6 z n ao aZ _ _ bG bH bI bJ) ?_
      rintro _ bX _ b6 ⟨a2, bS, a3, bT, a4, bU, a5, bV, rfl, rfl, bj, bk, bl, bm⟩
      refine ⟨(Ic Mb5 (Ic Mb6 In0)), ?_⟩
      refine Jm 7 Z<|Jx 8 Z<|Jx 9 Z<|?_
      refine Ao 10 Z ?_
      refine GE (cs := (FG (FQ.mk (FW.mk [] [] 0) [] []) FZ FZ FZ FZ)) Z Z Z Z (fun a8 => ⟨(Ic Mb6 (Ic Mb7 In0)), ?_⟩)
      refine Ao 11 Z ?_
      refine Sa (FG n a2 a3 a4 a5) Z .here Z ⟨(Ic Mb6 (Ic Mb7 In0)), ?_⟩
      exact Ja 12 Z<|Ad<|Pu5<|Pu5<|Pu5<|Pu5<|Pu5<|Pu7<|Pu7<|Pu7<|Sd<|⟨_, by exact R7, a8, ao, a2, n.cnfg.capacities, bS, a3, n.cnfg.starts, bT, n.cnfg.threads, a4, n.ops, bU, a5, n.picks, bV, Z, Z, H, bj, bk, bl, bm⟩
     ·refine id (Jy Z ?_)
      refine GE (cs := (FG (FQ.mk (FW.mk [] [] 0) [] []) FZ FZ FZ FZ)) Z Z Z Z (fun a9 => ⟨(Ic Mb1 (Ic Mb2 In0)), ?_⟩)
      refine Ao 6 Z ?_
      refine OpW.shift (Pu7 (Sd ?_))
      refine OpW.shift (Pu7 (Sd ?_))
      refine OpW.shift (Pu7 (Sd ?_))
      refine OpW.shift (Pu7 (Sd ?_))
      refine OpW.shift (Pu7 (Sd ?_))
      have bn := aA.mono S
      have bo := aB.mono S
      have bp := aC.mono S
      have bq := aD.mono S
      refine Ek Tryz.call28 Z (Tc (FQ.mk (FW.mk b c g) d e) j O k P l r m Q a6 z n ao aZ _ _ bn bo bp bq) ?_
      rintro _ bY _ b7 ⟨aK, bO, aL, bP, aM, bQ, aN, bR, rfl, rfl, br, bs, bt, bu⟩
      refine ⟨(Ic Mb6 (Ic Mb7 In0)), ?_⟩
      refine Jm 7 Z<|Jx 8 Z<|Jx 9 Z<|?_
      refine Ao 11 Z ?_
      refine KX (vs := (FG n aK aL aM aN)) (all' := (FG n aK aL aM aN)) Z Z Z Z Z (.there (.there (.there (.there (.there .here))))) Z Z Z ⟨(Ic Mb6 (Ic Mb7 In0)), ?_⟩
      exact Ja 12 Z<|Ad<|Pu4<|Pu4<|Pu4<|Pu4<|Pu4<|Pu7<|Pu7<|Pu7<|Sd<|⟨_, by exact R7, a9, ao, aK, n.cnfg.capacities, bO, aL, n.cnfg.starts, bP, n.cnfg.threads, aM, n.ops, bQ, aN, n.picks, bR, Z, Z, H, br, bs, bt, bu⟩
    rintro _ a7 _ b8 ⟨ad, aJ, W, L, ai, X, M, aj, V, Y, N, ac, R, J, ak, rfl, rfl, H, be, bf, bg, aU⟩
    unfold LD at H
    refine FK ?_
    refine Gk (fun q a i => ∃ (aH : Bool), [(0, (.string p0)), (2, (Vp o)), (5, (Vp p)), (7, (Vi (wI (f + 1)))), (9, (Vi I)), (10, (Vp ad)), (53, (.bool aH))] = q ∧ a7 = a ∧ (.blk ad 33 (FG (FQ.mk (FW.mk L M V) N J) W X Y R)) :: (.blk p 33 (FG (FQ.mk (FW.mk b c g) d e) j k l m)) :: (.blk o 33 (FG (FQ.mk (FW.mk [] [] 0) [] []) FZ FZ FZ FZ)) :: (.row (sv W) 3 1 ai.flatten) :: (.row (sv X) 53 1 aj.flatten) :: (.row (sv Y) 51 1 (ac.map one).flatten) :: (.tok 70 7 ac) :: (.row (sv R) 3 1 ak.flatten) :: G = i ∧ NR p0 f I L M V N J b c g d e ah aH = some (h, s, t)) ?_ ?_
    ·refine FD<|Em Z<|Eq Z (GW Z)<|Em Z<|?_
     refine Ee Z ?_ ?_
     ·intro aa
      have aa := GR aa
      have H := Gu (btf aa) H
      exact Ez Z<|Ez Z<|Ez Z<|Ez Z<|Et Z<|FH<|Pu7<|Pu7<|Pu7<|Pu7<|Pu7<|Pu7<|Pu7<|Pu7<|Sd<|⟨_, by exact R7, true, Z, Z, Z, H⟩
     ·intro aa
      have aa := GQ aa
      have H := ift aa H
      exact Vm Z<|Vm Z<|Vq Z (HT Z Z)<|Vc Z<|Ef Z<|FH<|Pu7<|Pu7<|Pu7<|Pu7<|Pu7<|Pu7<|Pu7<|Pu7<|Sd<|⟨_, by exact R7, (dcd (I = (p0.size : Int))), Z, Z, Z, H⟩
    rintro _ _ _ - ⟨aH, rfl, rfl, rfl, H⟩
    unfold NR at H
    refine F2 Z ?_ ?_
    ·intro au
     have H := ift au H
     refine FK<|FD<|Eq Z (GH (cs := (FG (FQ.mk (FW.mk [] [] 0) [] []) FZ FZ FZ FZ)) Z Z Z Z Z Z)<|Em Z<|?_
     refine FT Z (Sa (FG (FQ.mk (FW.mk [] [] 0) [] []) FZ FZ FZ FZ) Z (.there (.there .here)) Z ?_)
     refine Ea Z<|Ea Z<|FH<|Gg<|?_
     obtain ⟨ap, aq, ar⟩ := IZ H
     subst h s t
     refine ⟨(.inl Z), [(.agg (FG (FQ.mk (FW.mk [] [] 0) [] []) FZ FZ FZ FZ).toArray), (Vi (wI (f + 1))), (Vi 1)], ⟨(.agg (FG (FQ.mk (FW.mk [] [] 0) [] []) FZ FZ FZ FZ).toArray), _, Z, ⟨_, 5, (FG (FQ.mk (FW.mk [] [] 0) [] []) FZ FZ FZ FZ), Z, Z, Z, Z, ⟨Z, Rb2 Z⟩, Z⟩, ⟨(Vi (wI (f + 1))), _, Z, Z, ⟨(Vi 1), _, Z, Z, Z⟩⟩⟩, ?_⟩
     exact Shift.nilTok1 3 1<|Shift.nilTok1 53 1<|Shift.nilTok1 51 1<|Shift.nilTok1 3 1<|Pu1<|Pu2<|Pu3<|Re4<|Re4<|Re4<|Re4<|Re4<|Re4<|Re4<|Re4<|Sd<|⟨FZ, FZ, FZ, FZ, Z, Z, (Slr.nil Ty.i64 _), (Slr.nil Ty.u64 _), (Slr.nil (Ty.sl FU) _), (Slr.nil Ty.i64 _)⟩
    ·intro au
     have H := Gu (btf au) H
     refine F8<|FK<|FD<|EL 5 (FG (FQ.mk (FW.mk L M V) N J) W X Y R) Z (Rb0 Z)<|?_
     refine FT Z (Sa (FG (FQ.mk (FW.mk L M V) N J) W X Y R) Z (.there .here) Z ?_)
     exact FH<|FK<|FD<|EF 4 Z<|El (sv R) Z (Rb1 Z)<|Eq Z (Ik (T := Ty.i64) Mb7 aU Z Z Z)<|Ec Z<|Ea Z<|FH<|FD<|Em Z<|Er (wI (I + 1)) Z<|Ea Z<|FH<|Pu7<|Pu7<|Pu7<|Pu7<|Pu7<|Pu7<|Pu7<|Re7<|Sd ⟨_, by exact R6, _, Nat.lt_succ_self _, (wI (I + 1)), (wI (f + 1)), (dcd ((J.length : Int) > 0)), W, L, ai, X, M, aj, V, Y, N, ac, R, J, ak, Z, Z, (bh ▸ H), be, bf, bg, aU⟩
   ·intro af
    obtain ⟨af, H⟩ := If af H
    exact Gy<|Pu6<|Pu6<|Pu6<|Pu6<|Pu6<|Pu6<|Pu6<|Sd<|⟨_, by exact R2, j, b, O, k, c, P, g, l, d, r, m, e, Q, Z, Z, H, aA, aB, aC, aD⟩
  rintro _ bZ _ b9 ⟨A, u, aE, B, w, aF, E, C, x, an, D, y, aG, rfl, rfl, H, ba, bb, bc, bd⟩
  unfold P7 at H
  refine FK<|FK<|FD<|EL 5 (FG (FQ.mk (FW.mk u w E) x y) A B C D) Z (Rb0 Z)<|?_
  refine Ow.shift (Shift.settle (T := Ty.i64) (.there (.there .here)) ba Z (fun b0 aw bv => Sd ?_))
  have bx := bb.mono aw
  refine Ow.shift (Shift.settle (T := Ty.u64) (.there (.there (.there .here))) bx Z (fun b1 ax bw => Sd ?_))
  have bA := (bc.mono aw).mono ax
  refine Ow.shift (Shift.settle (T := (Ty.sl FU)) (.there (.there (.there (.there .here)))) bA Z (fun b2 ay bz => Sd ?_))
  have bB := ((bd.mono aw).mono ax).mono ay
  refine Ow.shift (Shift.settle (T := Ty.i64) (.there (.there (.there (.there (.there (.there .here)))))) bB Z (fun b3 az aV => Sd ?_))
  obtain ⟨aS, bK, H⟩ := bnd H
  have aW := ((bv.mono ax).mono ay).mono az
  have aX := (bw.mono ay).mono az
  have aY := bz.mono az
  refine FT Z (Ek Tryz.call20 Z (V3 (FQ.mk (FW.mk u w E) x y) A B C D aS bK _ _ aW aX aY aV) ?_)
  rintro _ b4 _ al ⟨rfl, rfl⟩
  refine Ea Z<|FH<|FK<|FD<|Em Z<|Ec Z<|FH<|?_
  refine F2 Z ?_ ?_
  ·intro ab
   have ab := GL (GR (ab))
   have H := Gu ab H
   refine FK<|FD<|Eq Z (GH (cs := (FG (FQ.mk (FW.mk [] [] 0) [] []) FZ FZ FZ FZ)) Z Z Z Z Z Z)<|Em Z<|?_
   refine FT Z (Sa (FG (FQ.mk (FW.mk [] [] 0) [] []) FZ FZ FZ FZ) Z (.there .here) Z ?_)
   refine Ea Z<|Ea Z<|FH<|Gg<|?_
   obtain ⟨ap, aq, ar⟩ := IZ H
   subst h s t
   refine ⟨(.inl Z), [(.agg (FG (FQ.mk (FW.mk [] [] 0) [] []) FZ FZ FZ FZ).toArray), (Vi 0), (Vi aS)], ⟨(.agg (FG (FQ.mk (FW.mk [] [] 0) [] []) FZ FZ FZ FZ).toArray), _, Z, ⟨_, 5, (FG (FQ.mk (FW.mk [] [] 0) [] []) FZ FZ FZ FZ), Z, Z, Z, Z, ⟨Z, Rb1 Z⟩, Z⟩, ⟨(Vi 0), _, Z, Z, ⟨(Vi aS), _, Z, Z, Z⟩⟩⟩, ?_⟩
   exact Shift.nilTok1 3 1<|Shift.nilTok1 53 1<|Shift.nilTok1 51 1<|Shift.nilTok1 3 1<|Pu1<|Pu2<|Pu3<|Re4<|Re4<|Re4<|Re4<|Re4<|Re4<|Re4<|Sd<|⟨FZ, FZ, FZ, FZ, Z, Z, (Slr.nil Ty.i64 _), (Slr.nil Ty.u64 _), (Slr.nil (Ty.sl FU) _), (Slr.nil Ty.i64 _)⟩
  ·intro ab
   have ab := GM (GQ (ab))
   have H := ift ab H
   refine F8<|FK<|FD<|EL 5 (FG (FQ.mk (FW.mk u w E) x y) A B C D) Z (Rb0 Z)<|?_
   refine FT Z (Sa (FG (FQ.mk (FW.mk u w E) x y) A B C D) Z (.there .here) Z ?_)
   refine Ea Z<|Ea Z<|FH<|Gg<|?_
   obtain ⟨ap, aq, ar⟩ := IZ H
   subst h s t
   refine ⟨(.inl Z), [(.agg (FG (FQ.mk (FW.mk u w E) x y) A B C D).toArray), (Vi 0), (Vi 0)], ⟨(.agg (FG (FQ.mk (FW.mk u w E) x y) A B C D).toArray), _, Z, ⟨_, 5, (FG (FQ.mk (FW.mk u w E) x y) A B C D), Z, Z, Z, Z, ⟨Z, Rb1 Z⟩, Z⟩, ⟨(Vi 0), _, Z, Z, ⟨(Vi 0), _, Z, Z, Z⟩⟩⟩, ?_⟩
   refine Pu6<|Pu5<|Pu5<|Pu5<|Re4<|Re4<|Re4<|?_
   have bC := aW.mono al
   have bD := aX.mono al
   have bE := aY.mono al
   have bF := aV.mono al
   exact Sd ⟨A, B, C, D, Z, Z, bC, bD, bE, bF⟩
theorem US (p0 : Op) (c d : SV) (p1 : Op) (f g : SV) (b : Bool) (H : Nw p0 p1 = some b) (K : Kp) (G : List Ent) (z : Slr Gp K (sv c) p0.cases) (I : Slr Ty.i64 K (sv d) p0.draws) (C : Slr Gp K (sv f) p1.cases) (J : Slr Ty.i64 K (sv g) p1.draws) :
  Fc Tryz.prog 31 #[(.agg (FM p0 c d).toArray), (.agg (FM p1 f g).toArray)] K (G) (fun v h a => v = (.bool b) ∧ G = a) := by
 refine Gx Tryz.func31 Z Tryz.ntmps31 Tryz.results31 Z ?_
 unfold Nw at H
 refine FK<|FD<|?_
 refine FT Z (GX (cs := (FM p0 c d)) Z Z Z (fun i => ?_))
 refine FT Z (GX (cs := (FM p1 f g)) Z Z Z (fun j => ?_))
 refine Ea Z<|FH<|FK<|?_
 refine Gk (fun e h a => ∃ (E : Bool), [(2, (Vp i)), (3, (Vp j)), (57, (.bool E))] = e ∧ K = h ∧ (.blk j 70 (FM p1 f g)) :: (.blk i 70 (FM p0 c d)) :: G = a ∧ JO p1 p0 E = some b) ?_ ?_
 ·refine FD<|EF 0 Z<|El (Vi p0.kind) Z (Rb1 Z)<|EF 0 Z<|El (Vi p1.kind) Z (Rb0 Z)<|Ec Z<|Em Z<|?_
  refine Ee Z ?_ ?_
  ·intro l
   have l := GL (GR (l))
   have H := Gu l H
   refine Ez Z<|Ez Z<|Ez Z<|Ez Z<|Ez Z<|Et Z<|Em Z<|Ez Z<|Ez Z<|Ez Z<|Ez Z<|Ez Z<|Et Z<|Em Z<|Ez Z<|Ez Z<|Ez Z<|Ez Z<|Ez Z<|Et Z<|Em Z<|Ez Z<|?_
   refine Ez Z<|Ez Z<|Ez Z<|Ez Z<|Et Z<|Em Z<|Ez Z<|Ez Z<|Ez Z<|Ez Z<|Ez Z<|Ez Z<|Ez Z<|Et Z<|Em Z<|Ez Z<|Ez Z<|Ez Z<|Ez Z<|Ez Z<|Ez Z<|Ez Z<|?_
   exact Et Z<|FH<|Pu1<|Pu1<|Sd<|⟨_, by exact R3, true, Z, Z, Z, H⟩
  ·intro l
   have l := GM (GQ (l))
   have H := ift l H
   refine VF 1 Z<|Vl (Vi p0.mode) Z (Rb1 Z)<|VF 1 Z<|Vl (Vi p1.mode) Z (Rb0 Z)<|Vc Z<|Ef Z<|Em Z<|?_
   refine Ee Z ?_ ?_
   ·intro m
    have m := GL (GR (m))
    have H := Gu m H
    refine Ez Z<|Ez Z<|Ez Z<|Ez Z<|Ez Z<|Et Z<|Em Z<|Ez Z<|Ez Z<|Ez Z<|Ez Z<|Ez Z<|Et Z<|Em Z<|Ez Z<|Ez Z<|Ez Z<|Ez Z<|Ez Z<|Et Z<|Em Z<|Ez Z<|?_
    exact Ez Z<|Ez Z<|Ez Z<|Ez Z<|Ez Z<|Ez Z<|Et Z<|Em Z<|Ez Z<|Ez Z<|Ez Z<|Ez Z<|Ez Z<|Ez Z<|Ez Z<|Et Z<|FH<|Pu1<|Pu1<|Sd<|⟨_, by exact R3, true, Z, Z, Z, H⟩
   ·intro m
    have m := GM (GQ (m))
    have H := ift m H
    refine VF 2 Z<|Vl (Vi p0.channel) Z (Rb1 Z)<|VF 2 Z<|Vl (Vi p1.channel) Z (Rb0 Z)<|Vc Z<|Ef Z<|Em Z<|?_
    refine Ee Z ?_ ?_
    ·intro n
     have n := GL (GR (n))
     have H := Gu n H
     refine Ez Z<|Ez Z<|Ez Z<|Ez Z<|Ez Z<|Et Z<|Em Z<|Ez Z<|Ez Z<|Ez Z<|Ez Z<|Ez Z<|Et Z<|Em Z<|Ez Z<|Ez Z<|Ez Z<|Ez Z<|Ez Z<|Ez Z<|Ez Z<|Et Z<|?_
     exact Em Z<|Ez Z<|Ez Z<|Ez Z<|Ez Z<|Ez Z<|Ez Z<|Ez Z<|Et Z<|FH<|Pu1<|Pu1<|Sd<|⟨_, by exact R3, true, Z, Z, Z, H⟩
    ·intro n
     have n := GM (GQ (n))
     have H := ift n H
     refine VF 3 Z<|Vl (.int .u64 p0.value) Z (Rb1 Z)<|VF 3 Z<|Vl (.int .u64 p1.value) Z (Rb0 Z)<|Vc Z<|Ef Z<|Em Z<|?_
     refine Ee Z ?_ ?_
     ·intro o
      have o := GL (GR (o))
      have H := Gu o H
      refine Ez Z<|Ez Z<|Ez Z<|Ez Z<|Ez Z<|Et Z<|Em Z<|Ez Z<|Ez Z<|Ez Z<|Ez Z<|Ez Z<|Ez Z<|Ez Z<|Et Z<|Em Z<|Ez Z<|Ez Z<|Ez Z<|Ez Z<|Ez Z<|Ez Z<|?_
      exact Ez Z<|Et Z<|FH<|Pu1<|Pu1<|Sd<|⟨_, by exact R3, true, Z, Z, Z, H⟩
     ·intro o
      have o := GM (GQ (o))
      have H := ift o H
      refine VF 4 Z<|Vl (Vi p0.deadline) Z (Rb1 Z)<|VF 4 Z<|Vl (Vi p1.deadline) Z (Rb0 Z)<|Vc Z<|Ef Z<|Em Z<|?_
      refine Ee Z ?_ ?_
      ·intro p
       have p := GL (GR (p))
       have H := Gu p H
       exact Ez Z<|Ez Z<|Ez Z<|Ez Z<|Ez Z<|Ez Z<|Ez Z<|Et Z<|Em Z<|Ez Z<|Ez Z<|Ez Z<|Ez Z<|Ez Z<|Ez Z<|Ez Z<|Et Z<|FH<|Pu1<|Pu1<|Sd<|⟨_, by exact R3, true, Z, Z, Z, H⟩
      ·intro p
       have p := GM (GQ (p))
       have H := ift p H
       refine VF 5 Z<|Vl (sv c) Z (Rb1 Z)<|Vq Z (Gt (T := Gp) z Z Z)<|VF 5 Z<|Vl (sv f) Z (Rb0 Z)<|Vq Z (Gt (T := Gp) C Z Z)<|Vc Z<|Ef Z<|Em Z<|?_
       refine Ee Z ?_ ?_
       ·intro q
        have q := GL (GR (q))
        have H := Gu q H
        exact Ez Z<|Ez Z<|Ez Z<|Ez Z<|Ez Z<|Ez Z<|Ez Z<|Et Z<|FH<|Pu1<|Pu1<|Sd<|⟨_, by exact R3, true, Z, Z, Z, H⟩
       ·intro q
        have q := GM (GQ (q))
        have H := ift q H
        exact VF 6 Z<|Vl (sv d) Z (Rb1 Z)<|Vq Z (Gt (T := Ty.i64) I Z Z)<|VF 6 Z<|Vl (sv g) Z (Rb0 Z)<|Vq Z (Gt (T := Ty.i64) J Z Z)<|Vc Z<|Ef Z<|FH<|Pu1<|Pu1<|Sd<|⟨_, by exact R3, (!(dcd ((p0.draws.length : Int) = (p1.draws.length : Int)))), Z, Z, Z, H⟩
 rintro _ _ _ - ⟨E, rfl, rfl, rfl, H⟩
 unfold JO at H
 refine F2 Z ?_ ?_
 ·intro B
  have H := ift B H
  refine FK<|FD<|Ea Z<|FH<|Gg<|?_
  obtain A := GB H
  subst b
  refine ⟨(.inl Z), [(.bool false)], ⟨(.bool false), _, Z, Z, Z⟩, ?_⟩
  exact Re0<|Re0<|Sd<|⟨Z, Z⟩
 ·intro B
  have H := Gu (btf B) H
  refine F8 ?_
  refine Gk (fun e h a => [(2, (Vp i)), (3, (Vp j))] = e ∧ (.blk j 70 (FM p1 f g)) :: (.blk i 70 (FM p0 c d)) :: G = a ∧ P8 p1 p0 = some b) ?_ ?_
  ·refine FK<|FD<|Ea Z<|FH<|Gh<|?_
   refine Gv (fun n251 e h a => ∃ (x : Int), [(2, (Vp i)), (3, (Vp j)), (5, (Vi x))] = e ∧ K = h ∧ (.blk j 70 (FM p1 f g)) :: (.blk i 70 (FM p0 c d)) :: G = a ∧ lp1 (Nv p1 p0) n251 x = some b) BIG ?_ ?_
   ·exact Pu1<|Pu1<|Sd<|⟨_, by exact R3, 0, Z, Z, Z, H⟩
   rintro n251 _ _ _ - ⟨x, rfl, rfl, rfl, H⟩
   obtain ⟨ai, ag, rfl, aa, H⟩ := Iz H
   unfold Nv at H
   refine FK<|FK<|FD<|Em Z<|EF 5 Z<|El (sv c) Z (Rb1 Z)<|Eq Z (Gt (T := Gp) z Z Z)<|Ec Z<|FH<|?_
   refine F2 Z ?_ ?_
   ·intro t
    obtain ⟨t, H⟩ := It t H
    refine F8<|FK<|Gh<|FK<|?_
    obtain ⟨R, M, H⟩ := bnd H
    obtain ⟨S, N, H⟩ := bnd H
    refine Gm _ Z (Ic Mb0 (Ic Mb1 In0))<|JF 0 5 Z<|Jl 1 (sv c) Z (Rb1 Z)<|Jm 2 Z<|?_
    obtain ⟨_, rfl, V⟩ := Slr.at z M
    refine Jq 3 Z (Qi (T := Gp) z M Z)<|JL 4 3 (Gn R) Z (Rdc.k V Z)<|JF 5 5 Z<|Jl 6 (sv f) Z (Rb0 Z)<|Jm 7 Z<|?_
    obtain ⟨_, rfl, W⟩ := Slr.at C N
    refine Jq 8 Z (Qi (T := Gp) C N Z)<|JL 9 3 (Gn S) Z (Rdc.k W Z)<|Jq 10 Z (WO Z Z (fun w => Case.eqrun R S w) (by kernel_rfl))<|Ad<|?_
    refine F2 Z ?_ ?_
    ·intro r
     have r := GL (GR (r))
     have H := Gu r H
     refine FK<|FD<|Ea Z<|FH<|Gg<|?_
     obtain A := GB H
     subst b
     refine ⟨(.inl Z), [(.bool false)], ⟨(.bool false), _, Z, Z, Z⟩, ?_⟩
     exact Re0<|Re0<|Sd<|⟨Z, Z⟩
    ·intro r
     have r := GM (GQ (r))
     have H := ift r H
     exact F8<|FD<|Em Z<|Er (wI (x + 1)) Z<|Ea Z<|FH<|Pu1<|Pu1<|Sd<|⟨_, by exact R3, _, Nat.lt_succ_self _, (wI (x + 1)), Z, Z, Z, (aa ▸ H)⟩
   ·intro t
    obtain ⟨t, H⟩ := If t H
    exact Gy<|Pu1<|Pu1<|Sd<|⟨_, by exact R2, Z, Z, H⟩
  rintro _ U _ F ⟨rfl, rfl, H⟩
  unfold P8 at H
  refine Gk (fun e h a => [] = e ∧ G = a ∧ RP = some b) ?_ ?_
  ·refine FK<|FD<|Ea Z<|FH<|Gh<|?_
   refine Gv (fun Q e h a => ∃ (y : Int), [(2, (Vp i)), (3, (Vp j)), (6, (Vi y))] = e ∧ U = h ∧ (.blk j 70 (FM p1 f g)) :: (.blk i 70 (FM p0 c d)) :: G = a ∧ lp1 (Nu p1 p0) Q y = some b) BIG ?_ ?_
   ·exact Pu1<|Pu1<|Sd<|⟨_, by exact R3, 0, Z, Z, Z, H⟩
   rintro Q _ _ _ - ⟨y, rfl, rfl, rfl, H⟩
   obtain ⟨aj, ah, rfl, ab, H⟩ := Iz H
   unfold Nu at H
   refine FK<|FK<|FD<|Em Z<|EF 6 Z<|El (sv d) Z (Rb1 Z)<|?_
   have D := I.mono F
   refine Eq Z (Gt (T := Ty.i64) D Z Z)<|Ec Z<|FH<|?_
   refine F2 Z ?_ ?_
   ·intro u
    obtain ⟨u, H⟩ := It u H
    refine F8<|FK<|Gh<|FK<|?_
    obtain ⟨ac, O, H⟩ := bnd H
    obtain ⟨ad, P, H⟩ := bnd H
    refine Gm _ Z (Ic Mb0 (Ic Mb1 In0))<|JF 0 6 Z<|Jl 1 (sv d) Z (Rb1 Z)<|Jm 2 Z<|?_
    obtain ⟨_, rfl, X⟩ := Slr.at D O
    refine Jq 3 Z (Qi (T := Ty.i64) D O Z)<|Jl 4 (Vi ac) Z (Rdc.k X Z)<|JF 5 6 Z<|Jl 6 (sv g) Z (Rb0 Z)<|Jm 7 Z<|?_
    have L := J.mono F
    obtain ⟨_, rfl, Y⟩ := Slr.at L P
    refine Jq 8 Z (Qi (T := Ty.i64) L P Z)<|Jl 9 (Vi ad) Z (Rdc.k Y Z)<|Jc 10 Z<|Ad<|?_
    refine F2 Z ?_ ?_
    ·intro s
     have s := GL (GR (s))
     have H := Gu s H
     refine FK<|FD<|Ea Z<|FH<|Gg<|?_
     obtain A := GB H
     subst b
     refine ⟨(.inl Z), [(.bool false)], ⟨(.bool false), _, Z, Z, Z⟩, ?_⟩
     exact Re0<|Re0<|Sd<|⟨Z, Z⟩
    ·intro s
     have s := GM (GQ (s))
     have H := ift s H
     exact F8<|FD<|Em Z<|Er (wI (y + 1)) Z<|Ea Z<|FH<|Pu1<|Pu1<|Sd<|⟨_, by exact R3, _, Nat.lt_succ_self _, (wI (y + 1)), Z, Z, Z, (ab ▸ H)⟩
   ·intro u
    obtain ⟨u, H⟩ := If u H
    exact Gy<|Re0<|Re0<|Sd<|⟨[], trivial, Z, Z, H⟩
  rintro _ ae _ af ⟨rfl, rfl, H⟩
  unfold RP at H
  refine FK<|FD<|Ea Z<|FH<|Gg<|?_
  obtain A := GB H
  subst b
  refine ⟨(.inl Z), [(.bool true)], ⟨(.bool true), _, Z, Z, Z⟩, ?_⟩
  exact Sd ⟨Z, Z⟩
theorem QQ (p0 : ad8) (l : SV) (p1 : ad8) (m : SV) (c : Bool) (H : KR p0 p1 = some c) (K : Kp) (G : List Ent) (g : Slr Ty.i64 K (sv l) p0) (j : Slr Ty.i64 K (sv m) p1) :
  Fc Tryz.prog 29 #[(sv l), (sv m)] K (G) (fun v h d => v = (.bool c) ∧ G = d) := by
 refine Gx Tryz.func29 Z Tryz.ntmps29 Tryz.results29 Z ?_
 unfold KR at H
 refine FK<|FD<|Ea Z<|FH<|FK<|FK<|FD<|Em Z<|Eq Z (Gt (T := Ty.i64) g Z Z)<|Em Z<|Eq Z (Gt (T := Ty.i64) j Z Z)<|Ec Z<|FH<|?_
 refine F2 Z ?_ ?_
 ·intro b
  have b := GL (GR (b))
  have H := Gu b H
  refine FK<|FD<|Ea Z<|FH<|Gg<|?_
  obtain n := GB H
  subst c
  refine ⟨(.inl Z), [(.bool false)], ⟨(.bool false), _, Z, Z, Z⟩, ?_⟩
  exact Sd ⟨Z, Z⟩
 ·intro b
  have b := GM (GQ (b))
  have H := ift b H
  refine F8 ?_
  refine Gk (fun i h d => [] = i ∧ G = d ∧ RN = some c) ?_ ?_
  ·refine FK<|FD<|Ea Z<|FH<|Gh<|?_
   refine Gv (fun n150 i h d => ∃ (f : Int), [(0, (sv l)), (1, (sv m)), (5, (Vi f))] = i ∧ K = h ∧ G = d ∧ lp1 (Nq p0 p1) n150 f = some c) BIG ?_ ?_
   ·exact Sd ⟨_, by exact R3, 0, Z, Z, Z, H⟩
   rintro n150 _ _ _ - ⟨f, rfl, rfl, rfl, H⟩
   obtain ⟨z, y, rfl, s, H⟩ := Iz H
   unfold Nq at H
   refine FK<|FK<|FD<|Em Z<|Em Z<|Eq Z (Gt (T := Ty.i64) g Z Z)<|Ec Z<|FH<|?_
   refine F2 Z ?_ ?_
   ·intro e
    obtain ⟨e, H⟩ := It e H
    refine F8<|FK<|Gh<|FK<|?_
    obtain ⟨t, o, H⟩ := bnd H
    obtain ⟨u, p, H⟩ := bnd H
    refine Gm _ Z In0<|Jm 0 Z<|Jm 1 Z<|?_
    obtain ⟨_, rfl, q⟩ := Slr.at g o
    refine Jq 2 Z (Qi (T := Ty.i64) g o Z)<|Jl 3 (Vi t) Z (Rdc.k q Z)<|Jm 4 Z<|Jm 5 Z<|?_
    obtain ⟨_, rfl, r⟩ := Slr.at j p
    refine Jq 6 Z (Qi (T := Ty.i64) j p Z)<|Jl 7 (Vi u) Z (Rdc.k r Z)<|Jc 8 Z<|Ad<|?_
    refine F2 Z ?_ ?_
    ·intro a
     have a := GL (GR (a))
     have H := Gu a H
     refine FK<|FD<|Ea Z<|FH<|Gg<|?_
     obtain n := GB H
     subst c
     refine ⟨(.inl Z), [(.bool false)], ⟨(.bool false), _, Z, Z, Z⟩, ?_⟩
     exact Sd ⟨Z, Z⟩
    ·intro a
     have a := GM (GQ (a))
     have H := ift a H
     exact F8<|FD<|Em Z<|Er (wI (f + 1)) Z<|Ea Z<|FH<|Sd<|⟨_, by exact R3, _, Nat.lt_succ_self _, (wI (f + 1)), Z, Z, Z, (s ▸ H)⟩
   ·intro e
    obtain ⟨e, H⟩ := If e H
    exact Gy<|Sd<|⟨[], trivial, Z, Z, H⟩
  rintro _ w _ x ⟨rfl, rfl, H⟩
  unfold RN at H
  refine FK<|FD<|Ea Z<|FH<|Gg<|?_
  obtain n := GB H
  subst c
  refine ⟨(.inl Z), [(.bool true)], ⟨(.bool true), _, Z, Z, Z⟩, ?_⟩
  exact Sd ⟨Z, Z⟩
theorem Uy (p0 : FQ) (g h : SV) (a i : SV) (p1 : FQ) (j l : SV) (d m : SV) (c : Bool) (H : KT p0 p1 = some c) (K : Kp) (G : List Ent) (ax : Slr Ty.i64 K (sv g) p0.cnfg.capacities) (ay : Slr Ty.u64 K (sv h) p0.cnfg.starts) (O : Slr (Ty.sl FU) K (sv a) p0.ops) (az : Slr Ty.i64 K (sv i) p0.picks) (aA : Slr Ty.i64 K (sv j) p1.cnfg.capacities) (aB : Slr Ty.u64 K (sv l) p1.cnfg.starts) (P : Slr (Ty.sl FU) K (sv d) p1.ops) (aC : Slr Ty.i64 K (sv m) p1.picks) :
  Fc Tryz.prog 15 #[(.agg (FG p0 g h a i).toArray), (.agg (FG p1 j l d m).toArray)] K (G) (fun v x b => v = (.bool c) ∧ G = b) := by
 refine Gx Tryz.func15 Z Tryz.ntmps15 Tryz.results15 Z ?_
 unfold KT at H
 refine FK<|FD<|?_
 refine FT Z (GX (cs := (FG p0 g h a i)) Z Z Z (fun n => ?_))
 refine FT Z (GX (cs := (FG p1 j l d m)) Z Z Z (fun o => ?_))
 refine Ea Z<|FH<|FK<|?_
 refine Gk (fun e x b => ∃ (J : Bool), [(2, (Vp n)), (3, (Vp o)), (50, (.bool J))] = e ∧ (.blk o 33 (FG p1 j l d m)) :: (.blk n 33 (FG p0 g h a i)) :: G = b ∧ LF p1 p0 J = some c) ?_ ?_
 ·refine FD<|EF 0 Z<|EF 2 Z<|El (Vi p0.cnfg.threads) Z (Rb1 Z)<|EF 0 Z<|EF 2 Z<|El (Vi p1.cnfg.threads) Z (Rb0 Z)<|Ec Z<|Em Z<|?_
  refine Ee Z ?_ ?_
  ·intro r
   have r := GL (GR (r))
   have H := Gu r H
   refine Ez Z<|Ez Z<|Ez Z<|Ez Z<|Ez Z<|Ez Z<|Ez Z<|Ez Z<|Et Z<|Em Z<|Ez Z<|Ez Z<|Ez Z<|Ez Z<|Ez Z<|Ez Z<|Ez Z<|Ez Z<|Et Z<|Em Z<|Ez Z<|Ez Z<|?_
   exact Ez Z<|Ez Z<|Ez Z<|Ez Z<|Ez Z<|Et Z<|Em Z<|Ez Z<|Ez Z<|Ez Z<|Ez Z<|Ez Z<|Ez Z<|Et Z<|FH<|Pu1<|Pu1<|Sd<|⟨_, by exact R3, true, Z, Z, H⟩
  ·intro r
   have r := GM (GQ (r))
   have H := ift r H
   refine VF 0 Z<|VF 0 Z<|Vl (sv g) Z (Rb1 Z)<|VF 0 Z<|VF 0 Z<|Vl (sv j) Z (Rb0 Z)<|?_
   obtain ⟨a7, aY, H⟩ := bnd H
   refine H9 Z Z Z Z (Ek Tryz.call29 Z (QQ p0.cnfg.capacities g p1.cnfg.capacities j a7 aY _ _ ax aA) ?_)
   rintro _ be _ w ⟨rfl, rfl⟩
   refine Vq Z (GW Z)<|Ef Z<|Em Z<|?_
   refine Ee Z ?_ ?_
   ·intro s
    have s := GR s
    have H := Gu (btf s) H
    refine Ez Z<|Ez Z<|Ez Z<|Ez Z<|Ez Z<|Ez Z<|Ez Z<|Ez Z<|Et Z<|Em Z<|Ez Z<|Ez Z<|Ez Z<|Ez Z<|Ez Z<|Ez Z<|Ez Z<|Et Z<|Em Z<|Ez Z<|Ez Z<|Ez Z<|?_
    exact Ez Z<|Ez Z<|Ez Z<|Et Z<|FH<|Pu1<|Pu1<|Sd<|⟨_, by exact R3, true, Z, Z, H⟩
   ·intro s
    have s := GQ s
    have H := ift s H
    refine VF 0 Z<|VF 1 Z<|Vl (sv h) Z (Rb1 Z)<|VF 0 Z<|VF 1 Z<|Vl (sv l) Z (Rb0 Z)<|?_
    obtain ⟨a8, aZ, H⟩ := bnd H
    have aR := ay.mono w
    have aS := aB.mono w
    refine H9 Z Z Z Z (Ek Tryz.call30 Z (UR p0.cnfg.starts h p1.cnfg.starts l a8 aZ _ _ aR aS) ?_)
    rintro _ bf _ B ⟨rfl, rfl⟩
    refine Vq Z (GW Z)<|Ef Z<|Em Z<|?_
    refine Ee Z ?_ ?_
    ·intro t
     have t := GR t
     have H := Gu (btf t) H
     exact Ez Z<|Ez Z<|Ez Z<|Ez Z<|Ez Z<|Ez Z<|Ez Z<|Et Z<|Em Z<|Ez Z<|Ez Z<|Ez Z<|Ez Z<|Ez Z<|Ez Z<|Et Z<|FH<|Pu1<|Pu1<|Sd<|⟨_, by exact R3, true, Z, Z, H⟩
    ·intro t
     have t := GQ t
     have H := ift t H
     refine VF 3 Z<|Vl (sv a) Z (Rb1 Z)<|?_
     have aT := (O.mono w).mono B
     refine Vq Z (Gt (T := (Ty.sl FU)) aT Z Z)<|VF 3 Z<|Vl (sv d) Z (Rb0 Z)<|?_
     have aU := (P.mono w).mono B
     refine Vq Z (Gt (T := (Ty.sl FU)) aU Z Z)<|Vc Z<|Ef Z<|Em Z<|?_
     refine Ee Z ?_ ?_
     ·intro u
      have u := GL (GR (u))
      have H := Gu u H
      exact Ez Z<|Ez Z<|Ez Z<|Ez Z<|Ez Z<|Ez Z<|Et Z<|FH<|Pu1<|Pu1<|Sd<|⟨_, by exact R3, true, Z, Z, H⟩
     ·intro u
      have u := GM (GQ (u))
      have H := ift u H
      refine VF 4 Z<|Vl (sv i) Z (Rb1 Z)<|VF 4 Z<|Vl (sv m) Z (Rb0 Z)<|?_
      obtain ⟨al, a0, H⟩ := bnd H
      have aV := (az.mono w).mono B
      have aW := (aC.mono w).mono B
      refine H9 Z Z Z Z (Ek Tryz.call29 Z (QQ p0.picks i p1.picks m al a0 _ _ aV aW) ?_)
      rintro _ bg _ bl ⟨rfl, rfl⟩
      exact Vq Z (GW Z)<|Ef Z<|FH<|Pu1<|Pu1<|Sd<|⟨_, by exact R3, (!(al)), Z, Z, H⟩
 rintro _ bh _ N ⟨J, rfl, rfl, H⟩
 unfold LF at H
 refine F2 Z ?_ ?_
 ·intro F
  have H := ift F H
  refine FK<|FD<|Ea Z<|FH<|Gg<|?_
  obtain E := GB H
  subst c
  refine ⟨(.inl Z), [(.bool false)], ⟨(.bool false), _, Z, Z, Z⟩, ?_⟩
  exact Re0<|Re0<|Sd<|⟨Z, Z⟩
 ·intro F
  have H := Gu (btf F) H
  refine F8 ?_
  refine Gk (fun e x b => [] = e ∧ G = b ∧ RQ = some c) ?_ ?_
  ·refine FK<|FD<|Ea Z<|FH<|Gh<|?_
   refine Gv (fun ad e x b => ∃ (f : Int), [(2, (Vp n)), (3, (Vp o)), (5, (Vi f))] = e ∧ (.blk o 33 (FG p1 j l d m)) :: (.blk n 33 (FG p0 g h a i)) :: G = b ∧ lp1 (Ny p1 p0) ad f = some c) BIG ?_ ?_
   ·exact Pu1<|Pu1<|Sd<|⟨_, by exact R3, 0, Z, Z, H⟩
   rintro ad _ a9 _ L ⟨f, rfl, rfl, H⟩
   obtain ⟨bn, ac, rfl, av, H⟩ := Iz H
   unfold Ny at H
   refine FK<|FK<|FD<|Em Z<|EF 3 Z<|El (sv a) Z (Rb1 Z)<|?_
   have C := (O.mono N).mono L
   refine Eq Z (Gt (T := (Ty.sl FU)) C Z Z)<|Ec Z<|FH<|?_
   refine F2 Z ?_ ?_
   ·intro y
    obtain ⟨y, H⟩ := It y H
    refine F8 ?_
    refine Gk (fun e x b => [(2, (Vp n)), (3, (Vp o)), (5, (Vi f))] = e ∧ (.blk o 33 (FG p1 j l d m)) :: (.blk n 33 (FG p0 g h a i)) :: G = b ∧ P9 f p1 p0 ac = some c) ?_ ?_
    ·refine Gh<|FK<|FK<|?_
     obtain ⟨bw, U, H⟩ := bnd H
     obtain ⟨bx, V, H⟩ := bnd H
     refine Gm _ Z (Ic Mb0 (Ic Mb1 In0))<|JF 0 3 Z<|Jl 1 (sv a) Z (Rb1 Z)<|Jm 2 Z<|?_
     obtain ⟨bp, aD, am⟩ := Slr.at C U
     obtain ⟨a1, rfl, aK⟩ := aD
     refine Jq 3 Z (Qi (T := (Ty.sl FU)) C U Z)<|Jl 4 (sv a1) Z (Rdc.k am Z)<|Jq 5 Z (Gt (T := FU) aK Z Z)<|JF 6 3 Z<|Jl 7 (sv d) Z (Rb0 Z)<|Jm 8 Z<|?_
     have I := (P.mono N).mono L
     obtain ⟨bq, aE, an⟩ := Slr.at I V
     obtain ⟨a2, rfl, aL⟩ := aE
     refine Jq 9 Z (Qi (T := (Ty.sl FU)) I V Z)<|Jl 10 (sv a2) Z (Rdc.k an Z)<|Jq 11 Z (Gt (T := FU) aL Z Z)<|Jc 12 Z<|Ad<|?_
     refine F2 Z ?_ ?_
     ·intro p
      have p := GL (GR (p))
      have H := Gu p H
      refine FK<|FD<|Ea Z<|FH<|Gg<|?_
      obtain E := GB H
      subst c
      refine ⟨(.inl Z), [(.bool false)], ⟨(.bool false), _, Z, Z, Z⟩, ?_⟩
      exact Re0<|Re0<|Sd<|⟨Z, Z⟩
     ·intro p
      have p := GM (GQ (p))
      have H := ift p H
      refine F8<|FK<|FD<|Ea Z<|FH<|Gh<|?_
      refine Gv (fun ae e x b => ∃ (A : Int), [(2, (Vp n)), (3, (Vp o)), (5, (Vi f)), (6, (Vi A))] = e ∧ (.blk o 33 (FG p1 j l d m)) :: (.blk n 33 (FG p0 g h a i)) :: G = b ∧ lp1 (Nx f p1 p0 ac) ae A = some c) BIG ?_ ?_
      ·exact Pu1<|Pu1<|Sd<|⟨_, by exact R4, 0, Z, Z, H⟩
      rintro ae _ ba _ M ⟨A, rfl, rfl, H⟩
      obtain ⟨bo, bm, rfl, aw, H⟩ := Iz H
      unfold Nx at H
      refine FK<|FK<|FD<|Em Z<|EF 3 Z<|El (sv a) Z (Rb1 Z)<|Em Z<|?_
      obtain ⟨bz, W, H⟩ := bnd H
      have D := C.mono M
      obtain ⟨br, aF, ao⟩ := Slr.at D W
      obtain ⟨a3, rfl, aM⟩ := aF
      refine Eq Z (Qi (T := (Ty.sl FU)) D W Z)<|El (sv a3) Z (Rdc.k ao Z)<|Eq Z (Gt (T := FU) aM Z Z)<|Ec Z<|FH<|?_
      refine F2 Z ?_ ?_
      ·intro z
       obtain ⟨z, H⟩ := It z H
       refine F8<|FK<|Gh<|FK<|?_
       obtain ⟨bA, X, H⟩ := bnd H
       obtain ⟨aj, Y, H⟩ := bnd H
       obtain ⟨bB, aa, H⟩ := bnd H
       obtain ⟨ak, ab, H⟩ := bnd H
       obtain ⟨a6, aX, H⟩ := bnd H
       refine Gm _ Z (Ic Mb0 (Ic Mb1 In0))<|JF 0 3 Z<|Jl 1 (sv a) Z (Rb1 Z)<|Jm 2 Z<|?_
       obtain ⟨bs, aG, ap⟩ := Slr.at D X
       obtain ⟨a4, rfl, Q⟩ := aG
       refine Jq 3 Z (Qi (T := (Ty.sl FU)) D X Z)<|Jl 4 (sv a4) Z (Rdc.k ap Z)<|Jm 5 Z<|?_
       obtain ⟨bt, aH, aq⟩ := Slr.at Q Y
       obtain ⟨af, ag, rfl, aN, aO⟩ := aH
       refine Jq 6 Z (Qi (T := FU) Q Y Z)<|JL 7 7 (FM aj af ag) Z (Rdc.k aq Z)<|JF 8 3 Z<|Jl 9 (sv d) Z (Rb0 Z)<|Jm 10 Z<|?_
       have R := I.mono M
       obtain ⟨bu, aI, ar⟩ := Slr.at R aa
       obtain ⟨a5, rfl, S⟩ := aI
       refine Jq 11 Z (Qi (T := (Ty.sl FU)) R aa Z)<|Jl 12 (sv a5) Z (Rdc.k ar Z)<|Jm 13 Z<|?_
       obtain ⟨bv, aJ, au⟩ := Slr.at S ab
       obtain ⟨ah, ai, rfl, aP, aQ⟩ := aJ
       refine Jq 14 Z (Qi (T := FU) S ab Z)<|JL 15 7 (FM ak ah ai) Z (Rdc.k au Z)<|?_
       refine Ao 16 Z ?_
       refine Ek Tryz.call31 Z (US aj af ag ak ah ai a6 aX _ _ aN aO aP aQ) ?_
       rintro _ bb _ bi ⟨rfl, rfl⟩
       refine ⟨(Ic Mb0 (Ic Mb1 In0)), ?_⟩
       refine Jq 17 Z (GW Z)<|Ad<|?_
       refine F2 Z ?_ ?_
       ·intro q
        have q := GR q
        have H := Gu (btf q) H
        refine FK<|FD<|Ea Z<|FH<|Gg<|?_
        obtain E := GB H
        subst c
        refine ⟨(.inl Z), [(.bool false)], ⟨(.bool false), _, Z, Z, Z⟩, ?_⟩
        exact Re0<|Re0<|Sd<|⟨Z, Z⟩
       ·intro q
        have q := GQ q
        have H := ift q H
        exact F8<|FD<|Em Z<|Er (wI (A + 1)) Z<|Ea Z<|FH<|Pu1<|Pu1<|Sd<|⟨_, by exact R4, _, Nat.lt_succ_self _, (wI (A + 1)), Z, Z, (aw ▸ H)⟩
      ·intro z
       obtain ⟨z, H⟩ := If z H
       exact Gy<|Pu1<|Pu1<|Sd<|⟨_, by exact R3, Z, Z, H⟩
    rintro _ bc _ bj ⟨rfl, rfl, H⟩
    unfold P9 at H
    exact FD<|Em Z<|Er (wI (f + 1)) Z<|Ea Z<|FH<|Pu1<|Pu1<|Sd<|⟨_, by exact R3, _, Nat.lt_succ_self _, (wI (f + 1)), Z, Z, (av ▸ H)⟩
   ·intro y
    obtain ⟨y, H⟩ := If y H
    exact Gy<|Re0<|Re0<|Sd<|⟨[], trivial, Z, Z, H⟩
  rintro _ bd _ bk ⟨rfl, rfl, H⟩
  unfold RQ at H
  refine FK<|FD<|Ea Z<|FH<|Gg<|?_
  obtain E := GB H
  subst c
  refine ⟨(.inl Z), [(.bool true)], ⟨(.bool true), _, Z, Z, Z⟩, ?_⟩
  exact Sd ⟨Z, Z⟩
theorem UY (p0 : ad8) (E : SV) (a : Bool) (H : Qc p0 = some a) (K : Kp) (G : List Ent) (W : Slr Ty.u8 K (sv E) p0) (hT : TabK K) :
  Fc Tryz.prog 4 #[(sv E)] K (G) (fun v o b => v = (.bool a) ∧ G = b) := by
 refine Gx Tryz.func4 Z Tryz.ntmps4 Tryz.results4 Z ?_
 unfold Qc at H
 refine FK<|FD<|Ea Z<|FH<|FK<|FK<|FD<|?_
 obtain ⟨aw, am, H⟩ := bnd H
 refine FT Z (Ek Tryz.call8 Z (UK  aw am _ _ hT) ?_)
 rintro _ F _ J ⟨rfl, rfl⟩
 refine Eq Z (GW Z)<|FH<|?_
 refine F2 Z ?_ ?_
 ·intro d
  have d := GR d
  have H := Gu (btf d) H
  refine FK<|FD<|Ea Z<|FH<|Gg<|?_
  obtain I := GB H
  subst a
  refine ⟨(.inl Z), [(.bool false)], ⟨(.bool false), _, Z, Z, Z⟩, ?_⟩
  exact Sd ⟨Z, Z⟩
 ·intro d
  have d := GQ d
  have H := ift d H
  refine F8<|FK<|FK<|FD<|Em Z<|?_
  have q := W.mono J
  refine Eq Z (Gt (T := Ty.u8) q Z Z)<|Ec Z<|FH<|?_
  refine F2 Z ?_ ?_
  ·intro f
   obtain ⟨f, H⟩ := It f H
   refine FK<|FD<|Ea Z<|FH<|Gg<|?_
   obtain I := GB H
   subst a
   refine ⟨(.inl Z), [(.bool true)], ⟨(.bool true), _, Z, Z, Z⟩, ?_⟩
   exact Sd ⟨Z, Z⟩
  ·intro f
   obtain ⟨f, H⟩ := If f H
   refine F8<|FK<|FD<|?_
   have j : RowR Ty.str F [[(.string (⟨#[115, 101, 110, 100]⟩ : ByteArray))], [(.string (⟨#[114, 101, 99, 118]⟩ : ByteArray))], [(.string (⟨#[99, 108, 111, 115, 101]⟩ : ByteArray))], [(.string (⟨#[108, 101, 110]⟩ : ByteArray))], [(.string (⟨#[99, 97, 112]⟩ : ByteArray))], [(.string (⟨#[115, 101, 108, 101, 99, 116]⟩ : ByteArray))], [(.string (⟨#[100, 114, 97, 119, 115]⟩ : ByteArray))], [(.string (⟨#[116, 114, 121]⟩ : ByteArray))], [(.string (⟨#[117, 110, 116, 105, 108]⟩ : ByteArray))], [(.string (⟨#[48]⟩ : ByteArray))], [(.string (⟨#[49]⟩ : ByteArray))], [(.string (⟨#[53]⟩ : ByteArray))], [(.string (⟨#[45, 49]⟩ : ByteArray))], [(.string (⟨#[56]⟩ : ByteArray))], [(.string (⟨#[50]⟩ : ByteArray))]] [(⟨#[115, 101, 110, 100]⟩ : ByteArray), (⟨#[114, 101, 99, 118]⟩ : ByteArray), (⟨#[99, 108, 111, 115, 101]⟩ : ByteArray), (⟨#[108, 101, 110]⟩ : ByteArray), (⟨#[99, 97, 112]⟩ : ByteArray), (⟨#[115, 101, 108, 101, 99, 116]⟩ : ByteArray), (⟨#[100, 114, 97, 119, 115]⟩ : ByteArray), (⟨#[116, 114, 121]⟩ : ByteArray), (⟨#[117, 110, 116, 105, 108]⟩ : ByteArray), (⟨#[48]⟩ : ByteArray), (⟨#[49]⟩ : ByteArray), (⟨#[53]⟩ : ByteArray), (⟨#[45, 49]⟩ : ByteArray), (⟨#[56]⟩ : ByteArray), (⟨#[50]⟩ : ByteArray)] := RowR.cons Z (RowR.cons Z (RowR.cons Z (RowR.cons Z (RowR.cons Z (RowR.cons Z (RowR.cons Z (RowR.cons Z (RowR.cons Z (RowR.cons Z (RowR.cons Z (RowR.cons Z (RowR.cons Z (RowR.cons Z (RowR.cons Z (RowR.nil)))))))))))))))
   refine FT Z (Gl (T := Ty.str) (rows := [[(.string (⟨#[115, 101, 110, 100]⟩ : ByteArray))], [(.string (⟨#[114, 101, 99, 118]⟩ : ByteArray))], [(.string (⟨#[99, 108, 111, 115, 101]⟩ : ByteArray))], [(.string (⟨#[108, 101, 110]⟩ : ByteArray))], [(.string (⟨#[99, 97, 112]⟩ : ByteArray))], [(.string (⟨#[115, 101, 108, 101, 99, 116]⟩ : ByteArray))], [(.string (⟨#[100, 114, 97, 119, 115]⟩ : ByteArray))], [(.string (⟨#[116, 114, 121]⟩ : ByteArray))], [(.string (⟨#[117, 110, 116, 105, 108]⟩ : ByteArray))], [(.string (⟨#[48]⟩ : ByteArray))], [(.string (⟨#[49]⟩ : ByteArray))], [(.string (⟨#[53]⟩ : ByteArray))], [(.string (⟨#[45, 49]⟩ : ByteArray))], [(.string (⟨#[56]⟩ : ByteArray))], [(.string (⟨#[50]⟩ : ByteArray))]]) (l := [(⟨#[115, 101, 110, 100]⟩ : ByteArray), (⟨#[114, 101, 99, 118]⟩ : ByteArray), (⟨#[99, 108, 111, 115, 101]⟩ : ByteArray), (⟨#[108, 101, 110]⟩ : ByteArray), (⟨#[99, 97, 112]⟩ : ByteArray), (⟨#[115, 101, 108, 101, 99, 116]⟩ : ByteArray), (⟨#[100, 114, 97, 119, 115]⟩ : ByteArray), (⟨#[116, 114, 121]⟩ : ByteArray), (⟨#[117, 110, 116, 105, 108]⟩ : ByteArray), (⟨#[48]⟩ : ByteArray), (⟨#[49]⟩ : ByteArray), (⟨#[53]⟩ : ByteArray), (⟨#[45, 49]⟩ : ByteArray), (⟨#[56]⟩ : ByteArray), (⟨#[50]⟩ : ByteArray)]) Z Z Z j Z Z Z Z Z Z Z Z (fun O => ?_))
   refine Ea Z<|FH<|FK<|FD<|Ea Z<|FH<|?_
   refine Gk (fun e o b => ∃ (u : ByteArray), [(4, (.string u))] = e ∧ G = b ∧ Qa u = some a) ?_ ?_
   ·refine FK<|FD<|Em Z<|Eq Z (Gt (T := Ty.u8) q Z Z)<|Em Z<|FH<|Gh<|?_
    refine Gv (fun n213 e o b => ∃ (r : ByteArray) (m : Int), [(3, (sv O)), (4, (.string r)), (19, (sv E)), (20, (Vi (p0.length : Int))), (21, (Vi m))] = e ∧ F = o ∧ (.row (sv O) 9 1 [[(.string (⟨#[115, 101, 110, 100]⟩ : ByteArray))], [(.string (⟨#[114, 101, 99, 118]⟩ : ByteArray))], [(.string (⟨#[99, 108, 111, 115, 101]⟩ : ByteArray))], [(.string (⟨#[108, 101, 110]⟩ : ByteArray))], [(.string (⟨#[99, 97, 112]⟩ : ByteArray))], [(.string (⟨#[115, 101, 108, 101, 99, 116]⟩ : ByteArray))], [(.string (⟨#[100, 114, 97, 119, 115]⟩ : ByteArray))], [(.string (⟨#[116, 114, 121]⟩ : ByteArray))], [(.string (⟨#[117, 110, 116, 105, 108]⟩ : ByteArray))], [(.string (⟨#[48]⟩ : ByteArray))], [(.string (⟨#[49]⟩ : ByteArray))], [(.string (⟨#[53]⟩ : ByteArray))], [(.string (⟨#[45, 49]⟩ : ByteArray))], [(.string (⟨#[56]⟩ : ByteArray))], [(.string (⟨#[50]⟩ : ByteArray))]].flatten) :: G = b ∧ lp2 (Qb p0) n213 r m = some a) BIG ?_ ?_
    ·exact Sd ⟨_, by exact R5, (⟨#[99, 104, 97, 110, 110, 101, 108, 32, 49, 32, 48, 10, 116, 104, 114, 101, 97, 100, 10, 32]⟩ : ByteArray), 0, Z, Z, Z, H⟩
    rintro n213 _ _ _ - ⟨r, m, rfl, rfl, rfl, H⟩
    obtain ⟨aO, aN, rfl, V, H⟩ := Rb H
    unfold Qb at H
    refine FK<|FD<|Ec Z<|FH<|FK<|?_
    refine F2 Z ?_ ?_
    ·intro g
     obtain ⟨g, H⟩ := It g H
     refine F8<|FK<|Gh<|FK<|FD<|?_
     obtain ⟨P, M, H⟩ := bnd H
     obtain ⟨_, rfl, U⟩ := Slr.at q M
     refine Eq Z (Qi (T := Ty.u8) q M Z)<|El (.int .u8 P) Z (Rdc.k U Z)<|Ea Z<|FH<|FD<|Em Z<|Em Z<|Em Z<|Eq Z (LO (c := wI P) Z Z Z Z)<|Em Z<|Eq Z (Ik (T := Ty.str) Mb0 j Z Z Z)<|?_
     obtain ⟨aQ, an, H⟩ := bnd H
     refine Eq Z (Q_rem an Z Z) ?_
     obtain ⟨ax, N, H⟩ := bnd H
     obtain ⟨aP, L, X⟩ := RowR.at j N
     obtain rfl := X
     refine Eq Z (F6 (T := Ty.str) Mb0 j L (FSq N).1 Z Z Z Z Z)<|El (.string ax) Z (Gj (T := Ty.str) Mb0 j L Z Z)<|?_
     obtain ⟨aR, ao, H⟩ := bnd H
     refine Eq Z (IV ao Z Z) ?_
     obtain ⟨ay, ap, H⟩ := bnd H
     exact Eq Z (IV ap Z Z)<|Ea Z<|FH<|FD<|Er (wI (m + 1)) Z<|Em Z<|FH<|Sd<|⟨_, by exact R5, _, Nat.lt_succ_self _, ay, (wI (m + 1)), Z, Z, Z, (V ▸ H)⟩
    ·intro g
     obtain ⟨g, H⟩ := If g H
     exact Gy<|Re0<|Sd<|⟨_, by exact R1, r, Z, Z, H⟩
   rintro _ aD _ S ⟨u, rfl, rfl, H⟩
   unfold Qa at H
   refine FK<|FD<|Em Z<|?_
   obtain ⟨Q, aq, H⟩ := bnd H
   refine Eq Z (IV aq Z Z)<|Ea Z<|FH<|FK<|FD<|Em Z<|?_
   obtain ⟨s, az, aA, ar, H⟩ := Ix H
   have Y := (hT.mono J).mono S
   refine FT Z (Ek Tryz.call13 Z (S8 Q s az aA ar _ _ Y) ?_)
   rintro _ aE _ aK ⟨w, x, y, z, rfl, rfl, aa, ab, ac, ad⟩
   refine Em Z<|Ex Z<|Ex Z<|Ex Z<|?_
   refine FT Z (GE (cs := (FG (FQ.mk (FW.mk [] [] 0) [] []) FZ FZ FZ FZ)) Z Z Z Z (fun aI => ?_))
   refine FT Z (Sa (FG s w x y z) Z .here Z ?_)
   refine Ea Z<|Ea Z<|FH<|FK<|FD<|Em Z<|?_
   obtain ⟨t, aB, aC, au, H⟩ := Ix H
   refine FT Z (Ek Tryz.call14 Z (Ux Q t aB aC au _ _ ) ?_)
   rintro _ aF _ p ⟨A, B, C, D, rfl, rfl, ae, af, ag, ah⟩
   refine Em Z<|Ex Z<|Ex Z<|Ex Z<|?_
   refine FT Z (GE (cs := (FG (FQ.mk (FW.mk [] [] 0) [] []) FZ FZ FZ FZ)) Z Z Z Z (fun aJ => ?_))
   refine FT Z (Sa (FG t A B C D) Z .here Z ?_)
   refine Ea Z<|Ea Z<|FH<|?_
   refine Gk (fun e o b => ∃ (n : Bool), [(2, (.bool n))] = e ∧ G = b ∧ KU n = some a) ?_ ?_
   ·refine FD<|Em Z<|Em Z<|Ec Z<|Em Z<|?_
    refine Ee Z ?_ ?_
    ·intro h
     obtain ⟨h, H⟩ := It h H
     refine Vm Z<|Vm Z<|Vc Z<|Et Z<|Em Z<|?_
     refine Ee Z ?_ ?_
     ·intro i
      obtain ⟨i, H⟩ := It i H
      refine VL 5 (FG s w x y z) Z (Rb5 Z)<|VL 5 (FG t A B C D) Z (Rb0 Z)<|?_
      obtain ⟨R, av, H⟩ := bnd H
      have ai := aa.mono p
      have aj := ab.mono p
      have ak := ac.mono p
      have al := ad.mono p
      refine H9 Z Z Z Z (Ek Tryz.call15 Z (Uy s w x y z t A B C D R av _ _ ai aj ak al ae af ag ah) ?_)
      rintro _ aG _ aL ⟨rfl, rfl⟩
      exact Et Z<|Ea Z<|FH<|Re0<|Re0<|Re0<|Re0<|Re0<|Re0<|Re0<|Re0<|Re0<|Re0<|Sd<|⟨_, by exact R1, R, Z, Z, H⟩
     ·intro i
      obtain ⟨i, H⟩ := If i H
      exact Ez Z<|Ez Z<|Ez Z<|Ef Z<|Ea Z<|FH<|Re0<|Re0<|Re0<|Re0<|Re0<|Re0<|Re0<|Re0<|Re0<|Re0<|Sd<|⟨_, by exact R1, false, Z, Z, H⟩
    ·intro h
     obtain ⟨h, H⟩ := If h H
     exact Ez Z<|Ez Z<|Ez Z<|Ef Z<|Em Z<|Ez Z<|Ez Z<|Ez Z<|Ef Z<|Ea Z<|FH<|Re0<|Re0<|Re0<|Re0<|Re0<|Re0<|Re0<|Re0<|Re0<|Re0<|Sd<|⟨_, by exact R1, false, Z, Z, H⟩
   rintro _ aH _ aM ⟨n, rfl, rfl, H⟩
   unfold KU at H
   refine Gg ?_
   obtain I := GB H
   subst a
   refine ⟨(.inl Z), [(.bool n)], ⟨(.bool n), _, Z, Z, Z⟩, ?_⟩
   exact Sd ⟨Z, Z⟩
end Go.Hx
