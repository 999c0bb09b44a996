
import Derived.Test.YtcopfjjpiobclaaGreatDoorXSM
import Derived.Test.YtcopfjjpiobclaaGreatDoorXSWDraw
import Derived.Test.YtcopfjjpiobclaaGreatDoorXSWScript2
set_option linter.unusedVariables false
set_option linter.unusedSimpArgs false
namespace Go.Hx
open Go Go.Proofs
set_option maxRecDepth 10000
set_option maxHeartbeats 1000000
theorem CU (p0 : Op) (c d : SV) (p1 : Op) (f g : SV) (b : Bool) (H : vJ p0 p1 = some b) (K : Kp) (G : List Ent) (z : Slr qK K (sv c) p0.cases) (I : Slr Ty.i64 K (sv d) p0.draws) (C : Slr qK K (sv f) p1.cases) (J : Slr Ty.i64 K (sv g) p1.draws) :
  Fc Tryz.prog 31 #[(.agg (ql p0 c d).toArray), (.agg (ql p1 f g).toArray)] K (G) (fun v h a => v = (.bool b) ∧ G = a) := by
 refine qR Tryz.func31 Z Tryz.ntmps31 Tryz.results31 Z ?_
 unfold vJ at H
 refine qj<|qf<|?_
 refine qo Z (rf (cs := (ql p0 c d)) Z Z Z (fun i => ?_))
 refine qo Z (rf (cs := (ql p1 f g)) Z Z Z (fun j => ?_))
 refine Ea Z<|qh<|qj<|?_
 refine qG (fun e h a => ∃ (E : Bool), [(2, (Vp i)), (3, (Vp j)), (57, (.bool E))] = e ∧ K = h ∧ (.blk j 70 (ql p1 f g)) :: (.blk i 70 (ql p0 c d)) :: G = a ∧ tK p1 p0 E = some b) ?_ ?_
 ·refine qf<|EF 0 Z<|El (Vi p0.kind) Z (Rb1 Z)<|EF 0 Z<|El (Vi p1.kind) Z (Rb0 Z)<|Ec Z<|Em Z<|?_
  refine Ee Z ?_ ?_
  ·intro l
   have l := rh (rz (l))
   have H := qZ l H
   refine Ez Z<|Ez Z<|Ez Z<|Ez Z<|Ez Z<|Et Z<|Em Z<|Ez Z<|Ez Z<|Ez Z<|Ez Z<|Ez Z<|Et Z<|Em Z<|Ez Z<|Ez Z<|Ez Z<|Ez Z<|Ez Z<|Et Z<|Em Z<|Ez Z<|?_
   refine Ez Z<|Ez Z<|Ez Z<|Ez Z<|Et Z<|Em Z<|Ez Z<|Ez Z<|Ez Z<|Ez Z<|Ez Z<|Ez Z<|Ez Z<|Et Z<|Em Z<|Ez Z<|Ez Z<|Ez Z<|Ez Z<|Ez Z<|Ez Z<|Ez Z<|?_
   exact Et Z<|qh<|Pu1<|Pu1<|Sd<|⟨_, by exact R3, true, Z, Z, Z, H⟩
  ·intro l
   have l := ri (ry (l))
   have H := ift l H
   refine VF 1 Z<|Vl (Vi p0.mode) Z (Rb1 Z)<|VF 1 Z<|Vl (Vi p1.mode) Z (Rb0 Z)<|Vc Z<|Ef Z<|Em Z<|?_
   refine Ee Z ?_ ?_
   ·intro m
    have m := rh (rz (m))
    have H := qZ m H
    refine Ez Z<|Ez Z<|Ez Z<|Ez Z<|Ez Z<|Et Z<|Em Z<|Ez Z<|Ez Z<|Ez Z<|Ez Z<|Ez Z<|Et Z<|Em Z<|Ez Z<|Ez Z<|Ez Z<|Ez Z<|Ez Z<|Et Z<|Em Z<|Ez Z<|?_
    exact Ez Z<|Ez Z<|Ez Z<|Ez Z<|Ez Z<|Ez Z<|Et Z<|Em Z<|Ez Z<|Ez Z<|Ez Z<|Ez Z<|Ez Z<|Ez Z<|Ez Z<|Et Z<|qh<|Pu1<|Pu1<|Sd<|⟨_, by exact R3, true, Z, Z, Z, H⟩
   ·intro m
    have m := ri (ry (m))
    have H := ift m H
    refine VF 2 Z<|Vl (Vi p0.channel) Z (Rb1 Z)<|VF 2 Z<|Vl (Vi p1.channel) Z (Rb0 Z)<|Vc Z<|Ef Z<|Em Z<|?_
    refine Ee Z ?_ ?_
    ·intro n
     have n := rh (rz (n))
     have H := qZ n H
     refine Ez Z<|Ez Z<|Ez Z<|Ez Z<|Ez Z<|Et Z<|Em Z<|Ez Z<|Ez Z<|Ez Z<|Ez Z<|Ez Z<|Et Z<|Em Z<|Ez Z<|Ez Z<|Ez Z<|Ez Z<|Ez Z<|Ez Z<|Ez Z<|Et Z<|?_
     exact Em Z<|Ez Z<|Ez Z<|Ez Z<|Ez Z<|Ez Z<|Ez Z<|Ez Z<|Et Z<|qh<|Pu1<|Pu1<|Sd<|⟨_, by exact R3, true, Z, Z, Z, H⟩
    ·intro n
     have n := ri (ry (n))
     have H := ift n H
     refine VF 3 Z<|Vl (.int .u64 p0.value) Z (Rb1 Z)<|VF 3 Z<|Vl (.int .u64 p1.value) Z (Rb0 Z)<|Vc Z<|Ef Z<|Em Z<|?_
     refine Ee Z ?_ ?_
     ·intro o
      have o := rh (rz (o))
      have H := qZ o H
      refine Ez Z<|Ez Z<|Ez Z<|Ez Z<|Ez Z<|Et Z<|Em Z<|Ez Z<|Ez Z<|Ez Z<|Ez Z<|Ez Z<|Ez Z<|Ez Z<|Et Z<|Em Z<|Ez Z<|Ez Z<|Ez Z<|Ez Z<|Ez Z<|Ez Z<|?_
      exact Ez Z<|Et Z<|qh<|Pu1<|Pu1<|Sd<|⟨_, by exact R3, true, Z, Z, Z, H⟩
     ·intro o
      have o := ri (ry (o))
      have H := ift o H
      refine VF 4 Z<|Vl (Vi p0.deadline) Z (Rb1 Z)<|VF 4 Z<|Vl (Vi p1.deadline) Z (Rb0 Z)<|Vc Z<|Ef Z<|Em Z<|?_
      refine Ee Z ?_ ?_
      ·intro p
       have p := rh (rz (p))
       have H := qZ p H
       exact Ez Z<|Ez Z<|Ez Z<|Ez Z<|Ez Z<|Ez Z<|Ez Z<|Et Z<|Em Z<|Ez Z<|Ez Z<|Ez Z<|Ez Z<|Ez Z<|Ez Z<|Ez Z<|Et Z<|qh<|Pu1<|Pu1<|Sd<|⟨_, by exact R3, true, Z, Z, Z, H⟩
      ·intro p
       have p := ri (ry (p))
       have H := ift p H
       refine VF 5 Z<|Vl (sv c) Z (Rb1 Z)<|Vq Z (qV (T := qK) z Z Z)<|VF 5 Z<|Vl (sv f) Z (Rb0 Z)<|Vq Z (qV (T := qK) C Z Z)<|Vc Z<|Ef Z<|Em Z<|?_
       refine Ee Z ?_ ?_
       ·intro q
        have q := rh (rz (q))
        have H := qZ q H
        exact Ez Z<|Ez Z<|Ez Z<|Ez Z<|Ez Z<|Ez Z<|Ez Z<|Et Z<|qh<|Pu1<|Pu1<|Sd<|⟨_, by exact R3, true, Z, Z, Z, H⟩
       ·intro q
        have q := ri (ry (q))
        have H := ift q H
        exact VF 6 Z<|Vl (sv d) Z (Rb1 Z)<|Vq Z (qV (T := Ty.i64) I Z Z)<|VF 6 Z<|Vl (sv g) Z (Rb0 Z)<|Vq Z (qV (T := Ty.i64) J Z Z)<|Vc Z<|Ef Z<|qh<|Pu1<|Pu1<|Sd<|⟨_, by exact R3, (!(dcd ((p0.draws.length : Int) = (p1.draws.length : Int)))), Z, Z, Z, H⟩
 rintro _ _ _ - ⟨E, rfl, rfl, rfl, H⟩
 unfold tK at H
 refine qy Z ?_ ?_
 ·intro B
  have H := ift B H
  refine qj<|qf<|Ea Z<|qh<|qE<|?_
  obtain A := ra H
  subst b
  refine ⟨(.inl Z), [(.bool false)], ⟨(.bool false), _, Z, Z, Z⟩, ?_⟩
  exact Re0<|Re0<|Sd<|⟨Z, Z⟩
 ·intro B
  have H := qZ (btf B) H
  refine qA ?_
  refine qG (fun e h a => [(2, (Vp i)), (3, (Vp j))] = e ∧ (.blk j 70 (ql p1 f g)) :: (.blk i 70 (ql p0 c d)) :: G = a ∧ xZ p1 p0 = some b) ?_ ?_
  ·refine qj<|qf<|Ea Z<|qh<|qD<|?_
   refine qW (fun n251 e h a => ∃ (x : Int), [(2, (Vp i)), (3, (Vp j)), (5, (Vi x))] = e ∧ K = h ∧ (.blk j 70 (ql p1 f g)) :: (.blk i 70 (ql p0 c d)) :: G = a ∧ lp1 (vI p1 p0) n251 x = some b) BIG ?_ ?_
   ·exact Pu1<|Pu1<|Sd<|⟨_, by exact R3, 0, Z, Z, Z, H⟩
   rintro n251 _ _ _ - ⟨x, rfl, rfl, rfl, H⟩
   obtain ⟨ai, ag, rfl, aa, H⟩ := uu H
   unfold vI at H
   refine qj<|qj<|qf<|Em Z<|EF 5 Z<|El (sv c) Z (Rb1 Z)<|Eq Z (qV (T := qK) z Z Z)<|Ec Z<|qh<|?_
   refine qy Z ?_ ?_
   ·intro t
    obtain ⟨t, H⟩ := It t H
    refine qA<|qj<|qD<|qj<|?_
    obtain ⟨R, M, H⟩ := bnd H
    obtain ⟨S, N, H⟩ := bnd H
    refine qQ _ Z (Ic Mb0 (Ic Mb1 In0))<|JF 0 5 Z<|Jl 1 (sv c) Z (Rb1 Z)<|Jm 2 Z<|?_
    obtain ⟨_, rfl, V⟩ := Slr.at z M
    refine Jq 3 Z (Qi (T := qK) z M Z)<|JL 4 3 (qC R) Z (Rdc.k V Z)<|JF 5 5 Z<|Jl 6 (sv f) Z (Rb0 Z)<|Jm 7 Z<|?_
    obtain ⟨_, rfl, W⟩ := Slr.at C N
    refine Jq 8 Z (Qi (T := qK) C N Z)<|JL 9 3 (qC S) Z (Rdc.k W Z)<|Jq 10 Z (E5 Z Z (fun w => Case.eqrun R S w) (by kernel_rfl))<|Ad<|?_
    refine qy Z ?_ ?_
    ·intro r
     have r := rh (rz (r))
     have H := qZ r H
     refine qj<|qf<|Ea Z<|qh<|qE<|?_
     obtain A := ra H
     subst b
     refine ⟨(.inl Z), [(.bool false)], ⟨(.bool false), _, Z, Z, Z⟩, ?_⟩
     exact Re0<|Re0<|Sd<|⟨Z, Z⟩
    ·intro r
     have r := ri (ry (r))
     have H := ift r H
     exact qA<|qf<|Em Z<|Er (wI (x + 1)) Z<|Ea Z<|qh<|Pu1<|Pu1<|Sd<|⟨_, by exact R3, _, Nat.lt_succ_self _, (wI (x + 1)), Z, Z, Z, (aa ▸ H)⟩
   ·intro t
    obtain ⟨t, H⟩ := If t H
    exact qY<|Pu1<|Pu1<|Sd<|⟨_, by exact R2, Z, Z, H⟩
  rintro _ U _ F ⟨rfl, rfl, H⟩
  unfold xZ at H
  refine qG (fun e h a => [] = e ∧ G = a ∧ zJ = some b) ?_ ?_
  ·refine qj<|qf<|Ea Z<|qh<|qD<|?_
   refine qW (fun Q e h a => ∃ (y : Int), [(2, (Vp i)), (3, (Vp j)), (6, (Vi y))] = e ∧ U = h ∧ (.blk j 70 (ql p1 f g)) :: (.blk i 70 (ql p0 c d)) :: G = a ∧ lp1 (vH p1 p0) Q y = some b) BIG ?_ ?_
   ·exact Pu1<|Pu1<|Sd<|⟨_, by exact R3, 0, Z, Z, Z, H⟩
   rintro Q _ _ _ - ⟨y, rfl, rfl, rfl, H⟩
   obtain ⟨aj, ah, rfl, ab, H⟩ := uu H
   unfold vH at H
   refine qj<|qj<|qf<|Em Z<|EF 6 Z<|El (sv d) Z (Rb1 Z)<|?_
   have D := I.mono F
   refine Eq Z (qV (T := Ty.i64) D Z Z)<|Ec Z<|qh<|?_
   refine qy Z ?_ ?_
   ·intro u
    obtain ⟨u, H⟩ := It u H
    refine qA<|qj<|qD<|qj<|?_
    obtain ⟨ac, O, H⟩ := bnd H
    obtain ⟨ad, P, H⟩ := bnd H
    refine qQ _ Z (Ic Mb0 (Ic Mb1 In0))<|JF 0 6 Z<|Jl 1 (sv d) Z (Rb1 Z)<|Jm 2 Z<|?_
    obtain ⟨_, rfl, X⟩ := Slr.at D O
    refine Jq 3 Z (Qi (T := Ty.i64) D O Z)<|Jl 4 (Vi ac) Z (Rdc.k X Z)<|JF 5 6 Z<|Jl 6 (sv g) Z (Rb0 Z)<|Jm 7 Z<|?_
    have L := J.mono F
    obtain ⟨_, rfl, Y⟩ := Slr.at L P
    refine Jq 8 Z (Qi (T := Ty.i64) L P Z)<|Jl 9 (Vi ad) Z (Rdc.k Y Z)<|Jc 10 Z<|Ad<|?_
    refine qy Z ?_ ?_
    ·intro s
     have s := rh (rz (s))
     have H := qZ s H
     refine qj<|qf<|Ea Z<|qh<|qE<|?_
     obtain A := ra H
     subst b
     refine ⟨(.inl Z), [(.bool false)], ⟨(.bool false), _, Z, Z, Z⟩, ?_⟩
     exact Re0<|Re0<|Sd<|⟨Z, Z⟩
    ·intro s
     have s := ri (ry (s))
     have H := ift s H
     exact qA<|qf<|Em Z<|Er (wI (y + 1)) Z<|Ea Z<|qh<|Pu1<|Pu1<|Sd<|⟨_, by exact R3, _, Nat.lt_succ_self _, (wI (y + 1)), Z, Z, Z, (ab ▸ H)⟩
   ·intro u
    obtain ⟨u, H⟩ := If u H
    exact qY<|Re0<|Re0<|Sd<|⟨[], trivial, Z, Z, H⟩
  rintro _ ae _ af ⟨rfl, rfl, H⟩
  unfold zJ at H
  refine qj<|qf<|Ea Z<|qh<|qE<|?_
  obtain A := ra H
  subst b
  refine ⟨(.inl Z), [(.bool true)], ⟨(.bool true), _, Z, Z, Z⟩, ?_⟩
  exact Sd ⟨Z, Z⟩
theorem AS (p0 : ab3) (l : SV) (p1 : ab3) (m : SV) (c : Bool) (H : xg p0 p1 = some c) (K : Kp) (G : List Ent) (g : Slr Ty.i64 K (sv l) p0) (j : Slr Ty.i64 K (sv m) p1) :
  Fc Tryz.prog 29 #[(sv l), (sv m)] K (G) (fun v h d => v = (.bool c) ∧ G = d) := by
 refine qR Tryz.func29 Z Tryz.ntmps29 Tryz.results29 Z ?_
 unfold xg at H
 refine qj<|qf<|Ea Z<|qh<|qj<|qj<|qf<|Em Z<|Eq Z (qV (T := Ty.i64) g Z Z)<|Em Z<|Eq Z (qV (T := Ty.i64) j Z Z)<|Ec Z<|qh<|?_
 refine qy Z ?_ ?_
 ·intro b
  have b := rh (rz (b))
  have H := qZ b H
  refine qj<|qf<|Ea Z<|qh<|qE<|?_
  obtain n := ra H
  subst c
  refine ⟨(.inl Z), [(.bool false)], ⟨(.bool false), _, Z, Z, Z⟩, ?_⟩
  exact Sd ⟨Z, Z⟩
 ·intro b
  have b := ri (ry (b))
  have H := ift b H
  refine qA ?_
  refine qG (fun i h d => [] = i ∧ G = d ∧ zH = some c) ?_ ?_
  ·refine qj<|qf<|Ea Z<|qh<|qD<|?_
   refine qW (fun n150 i h d => ∃ (f : Int), [(0, (sv l)), (1, (sv m)), (5, (Vi f))] = i ∧ K = h ∧ G = d ∧ lp1 (vE p0 p1) n150 f = some c) BIG ?_ ?_
   ·exact Sd ⟨_, by exact R3, 0, Z, Z, Z, H⟩
   rintro n150 _ _ _ - ⟨f, rfl, rfl, rfl, H⟩
   obtain ⟨z, y, rfl, s, H⟩ := uu H
   unfold vE at H
   refine qj<|qj<|qf<|Em Z<|Em Z<|Eq Z (qV (T := Ty.i64) g Z Z)<|Ec Z<|qh<|?_
   refine qy Z ?_ ?_
   ·intro e
    obtain ⟨e, H⟩ := It e H
    refine qA<|qj<|qD<|qj<|?_
    obtain ⟨t, o, H⟩ := bnd H
    obtain ⟨u, p, H⟩ := bnd H
    refine qQ _ Z In0<|Jm 0 Z<|Jm 1 Z<|?_
    obtain ⟨_, rfl, q⟩ := Slr.at g o
    refine Jq 2 Z (Qi (T := Ty.i64) g o Z)<|Jl 3 (Vi t) Z (Rdc.k q Z)<|Jm 4 Z<|Jm 5 Z<|?_
    obtain ⟨_, rfl, r⟩ := Slr.at j p
    refine Jq 6 Z (Qi (T := Ty.i64) j p Z)<|Jl 7 (Vi u) Z (Rdc.k r Z)<|Jc 8 Z<|Ad<|?_
    refine qy Z ?_ ?_
    ·intro a
     have a := rh (rz (a))
     have H := qZ a H
     refine qj<|qf<|Ea Z<|qh<|qE<|?_
     obtain n := ra H
     subst c
     refine ⟨(.inl Z), [(.bool false)], ⟨(.bool false), _, Z, Z, Z⟩, ?_⟩
     exact Sd ⟨Z, Z⟩
    ·intro a
     have a := ri (ry (a))
     have H := ift a H
     exact qA<|qf<|Em Z<|Er (wI (f + 1)) Z<|Ea Z<|qh<|Sd<|⟨_, by exact R3, _, Nat.lt_succ_self _, (wI (f + 1)), Z, Z, Z, (s ▸ H)⟩
   ·intro e
    obtain ⟨e, H⟩ := If e H
    exact qY<|Sd<|⟨[], trivial, Z, Z, H⟩
  rintro _ w _ x ⟨rfl, rfl, H⟩
  unfold zH at H
  refine qj<|qf<|Ea Z<|qh<|qE<|?_
  obtain n := ra H
  subst c
  refine ⟨(.inl Z), [(.bool true)], ⟨(.bool true), _, Z, Z, Z⟩, ?_⟩
  exact Sd ⟨Z, Z⟩
theorem CS (p0 : ab3) (l : SV) (p1 : ab3) (m : SV) (c : Bool) (H : vG p0 p1 = some c) (K : Kp) (G : List Ent) (g : Slr Ty.u64 K (sv l) p0) (j : Slr Ty.u64 K (sv m) p1) :
  Fc Tryz.prog 30 #[(sv l), (sv m)] K (G) (fun v h d => v = (.bool c) ∧ G = d) := by
 refine qR Tryz.func30 Z Tryz.ntmps30 Tryz.results30 Z ?_
 unfold vG at H
 refine qj<|qf<|Ea Z<|qh<|qj<|qj<|qf<|Em Z<|Eq Z (qV (T := Ty.u64) g Z Z)<|Em Z<|Eq Z (qV (T := Ty.u64) j Z Z)<|Ec Z<|qh<|?_
 refine qy Z ?_ ?_
 ·intro b
  have b := rh (rz (b))
  have H := qZ b H
  refine qj<|qf<|Ea Z<|qh<|qE<|?_
  obtain n := ra H
  subst c
  refine ⟨(.inl Z), [(.bool false)], ⟨(.bool false), _, Z, Z, Z⟩, ?_⟩
  exact Sd ⟨Z, Z⟩
 ·intro b
  have b := ri (ry (b))
  have H := ift b H
  refine qA ?_
  refine qG (fun i h d => [] = i ∧ G = d ∧ zI = some c) ?_ ?_
  ·refine qj<|qf<|Ea Z<|qh<|qD<|?_
   refine qW (fun n150 i h d => ∃ (f : Int), [(0, (sv l)), (1, (sv m)), (5, (Vi f))] = i ∧ K = h ∧ G = d ∧ lp1 (vF p0 p1) n150 f = some c) BIG ?_ ?_
   ·exact Sd ⟨_, by exact R3, 0, Z, Z, Z, H⟩
   rintro n150 _ _ _ - ⟨f, rfl, rfl, rfl, H⟩
   obtain ⟨z, y, rfl, s, H⟩ := uu H
   unfold vF at H
   refine qj<|qj<|qf<|Em Z<|Em Z<|Eq Z (qV (T := Ty.u64) g Z Z)<|Ec Z<|qh<|?_
   refine qy Z ?_ ?_
   ·intro e
    obtain ⟨e, H⟩ := It e H
    refine qA<|qj<|qD<|qj<|?_
    obtain ⟨t, o, H⟩ := bnd H
    obtain ⟨u, p, H⟩ := bnd H
    refine qQ _ Z In0<|Jm 0 Z<|Jm 1 Z<|?_
    obtain ⟨_, rfl, q⟩ := Slr.at g o
    refine Jq 2 Z (Qi (T := Ty.u64) g o Z)<|Jl 3 (.int .u64 t) Z (Rdc.k q Z)<|Jm 4 Z<|Jm 5 Z<|?_
    obtain ⟨_, rfl, r⟩ := Slr.at j p
    refine Jq 6 Z (Qi (T := Ty.u64) j p Z)<|Jl 7 (.int .u64 u) Z (Rdc.k r Z)<|Jc 8 Z<|Ad<|?_
    refine qy Z ?_ ?_
    ·intro a
     have a := rh (rz (a))
     have H := qZ a H
     refine qj<|qf<|Ea Z<|qh<|qE<|?_
     obtain n := ra H
     subst c
     refine ⟨(.inl Z), [(.bool false)], ⟨(.bool false), _, Z, Z, Z⟩, ?_⟩
     exact Sd ⟨Z, Z⟩
    ·intro a
     have a := ri (ry (a))
     have H := ift a H
     exact qA<|qf<|Em Z<|Er (wI (f + 1)) Z<|Ea Z<|qh<|Sd<|⟨_, by exact R3, _, Nat.lt_succ_self _, (wI (f + 1)), Z, Z, Z, (s ▸ H)⟩
   ·intro e
    obtain ⟨e, H⟩ := If e H
    exact qY<|Sd<|⟨[], trivial, Z, Z, H⟩
  rintro _ w _ x ⟨rfl, rfl, H⟩
  unfold zI at H
  refine qj<|qf<|Ea Z<|qh<|qE<|?_
  obtain n := ra H
  subst c
  refine ⟨(.inl Z), [(.bool true)], ⟨(.bool true), _, Z, Z, Z⟩, ?_⟩
  exact Sd ⟨Z, Z⟩
theorem Es (p0 : qn) (g h : SV) (a i : SV) (p1 : qn) (j l : SV) (d m : SV) (c : Bool) (H : yO p0 p1 = some c) (K : Kp) (G : List Ent) (ax : Slr Ty.i64 K (sv g) p0.cnfg.capacities) (ay : Slr Ty.u64 K (sv h) p0.cnfg.starts) (O : Slr (Ty.sl qB) K (sv a) p0.ops) (az : Slr Ty.i64 K (sv i) p0.picks) (aA : Slr Ty.i64 K (sv j) p1.cnfg.capacities) (aB : Slr Ty.u64 K (sv l) p1.cnfg.starts) (P : Slr (Ty.sl qB) K (sv d) p1.ops) (aC : Slr Ty.i64 K (sv m) p1.picks) :
  Fc Tryz.prog 15 #[(.agg (qi p0 g h a i).toArray), (.agg (qi p1 j l d m).toArray)] K (G) (fun v x b => v = (.bool c) ∧ G = b) := by
 refine qR Tryz.func15 Z Tryz.ntmps15 Tryz.results15 Z ?_
 unfold yO at H
 refine qj<|qf<|?_
 refine qo Z (rf (cs := (qi p0 g h a i)) Z Z Z (fun n => ?_))
 refine qo Z (rf (cs := (qi p1 j l d m)) Z Z Z (fun o => ?_))
 refine Ea Z<|qh<|qj<|?_
 refine qG (fun e x b => ∃ (J : Bool), [(2, (Vp n)), (3, (Vp o)), (50, (.bool J))] = e ∧ (.blk o 33 (qi p1 j l d m)) :: (.blk n 33 (qi p0 g h a i)) :: G = b ∧ uY p1 p0 J = some c) ?_ ?_
 ·refine qf<|EF 0 Z<|EF 2 Z<|El (Vi p0.cnfg.threads) Z (Rb1 Z)<|EF 0 Z<|EF 2 Z<|El (Vi p1.cnfg.threads) Z (Rb0 Z)<|Ec Z<|Em Z<|?_
  refine Ee Z ?_ ?_
  ·intro r
   have r := rh (rz (r))
   have H := qZ r H
   refine Ez Z<|Ez Z<|Ez Z<|Ez Z<|Ez Z<|Ez Z<|Ez Z<|Ez Z<|Et Z<|Em Z<|Ez Z<|Ez Z<|Ez Z<|Ez Z<|Ez Z<|Ez Z<|Ez Z<|Ez Z<|Et Z<|Em Z<|Ez Z<|Ez Z<|?_
   exact Ez Z<|Ez Z<|Ez Z<|Ez Z<|Ez Z<|Et Z<|Em Z<|Ez Z<|Ez Z<|Ez Z<|Ez Z<|Ez Z<|Ez Z<|Et Z<|qh<|Pu1<|Pu1<|Sd<|⟨_, by exact R3, true, Z, Z, H⟩
  ·intro r
   have r := ri (ry (r))
   have H := ift r H
   refine VF 0 Z<|VF 0 Z<|Vl (sv g) Z (Rb1 Z)<|VF 0 Z<|VF 0 Z<|Vl (sv j) Z (Rb0 Z)<|?_
   obtain ⟨a7, aY, H⟩ := bnd H
   refine rZ Z Z Z Z (Ek Tryz.call29 Z (AS p0.cnfg.capacities g p1.cnfg.capacities j a7 aY _ _ ax aA) ?_)
   rintro _ be _ w ⟨rfl, rfl⟩
   refine Vq Z (rL Z)<|Ef Z<|Em Z<|?_
   refine Ee Z ?_ ?_
   ·intro s
    have s := rz s
    have H := qZ (btf s) H
    refine Ez Z<|Ez Z<|Ez Z<|Ez Z<|Ez Z<|Ez Z<|Ez Z<|Ez Z<|Et Z<|Em Z<|Ez Z<|Ez Z<|Ez Z<|Ez Z<|Ez Z<|Ez Z<|Ez Z<|Et Z<|Em Z<|Ez Z<|Ez Z<|Ez Z<|?_
    exact Ez Z<|Ez Z<|Ez Z<|Et Z<|qh<|Pu1<|Pu1<|Sd<|⟨_, by exact R3, true, Z, Z, H⟩
   ·intro s
    have s := ry s
    have H := ift s H
    refine VF 0 Z<|VF 1 Z<|Vl (sv h) Z (Rb1 Z)<|VF 0 Z<|VF 1 Z<|Vl (sv l) Z (Rb0 Z)<|?_
    obtain ⟨a8, aZ, H⟩ := bnd H
    have aR := ay.mono w
    have aS := aB.mono w
    refine rZ Z Z Z Z (Ek Tryz.call30 Z (CS p0.cnfg.starts h p1.cnfg.starts l a8 aZ _ _ aR aS) ?_)
    rintro _ bf _ B ⟨rfl, rfl⟩
    refine Vq Z (rL Z)<|Ef Z<|Em Z<|?_
    refine Ee Z ?_ ?_
    ·intro t
     have t := rz t
     have H := qZ (btf t) H
     exact Ez Z<|Ez Z<|Ez Z<|Ez Z<|Ez Z<|Ez Z<|Ez Z<|Et Z<|Em Z<|Ez Z<|Ez Z<|Ez Z<|Ez Z<|Ez Z<|Ez Z<|Et Z<|qh<|Pu1<|Pu1<|Sd<|⟨_, by exact R3, true, Z, Z, H⟩
    ·intro t
     have t := ry t
     have H := ift t H
     refine VF 3 Z<|Vl (sv a) Z (Rb1 Z)<|?_
     have aT := (O.mono w).mono B
     refine Vq Z (qV (T := (Ty.sl qB)) aT Z Z)<|VF 3 Z<|Vl (sv d) Z (Rb0 Z)<|?_
     have aU := (P.mono w).mono B
     refine Vq Z (qV (T := (Ty.sl qB)) aU Z Z)<|Vc Z<|Ef Z<|Em Z<|?_
     refine Ee Z ?_ ?_
     ·intro u
      have u := rh (rz (u))
      have H := qZ u H
      exact Ez Z<|Ez Z<|Ez Z<|Ez Z<|Ez Z<|Ez Z<|Et Z<|qh<|Pu1<|Pu1<|Sd<|⟨_, by exact R3, true, Z, Z, H⟩
     ·intro u
      have u := ri (ry (u))
      have H := ift u H
      refine VF 4 Z<|Vl (sv i) Z (Rb1 Z)<|VF 4 Z<|Vl (sv m) Z (Rb0 Z)<|?_
      obtain ⟨al, a0, H⟩ := bnd H
      have aV := (az.mono w).mono B
      have aW := (aC.mono w).mono B
      refine rZ Z Z Z Z (Ek Tryz.call29 Z (AS p0.picks i p1.picks m al a0 _ _ aV aW) ?_)
      rintro _ bg _ bl ⟨rfl, rfl⟩
      exact Vq Z (rL Z)<|Ef Z<|qh<|Pu1<|Pu1<|Sd<|⟨_, by exact R3, (!(al)), Z, Z, H⟩
 rintro _ bh _ N ⟨J, rfl, rfl, H⟩
 unfold uY at H
 refine qy Z ?_ ?_
 ·intro F
  have H := ift F H
  refine qj<|qf<|Ea Z<|qh<|qE<|?_
  obtain E := ra H
  subst c
  refine ⟨(.inl Z), [(.bool false)], ⟨(.bool false), _, Z, Z, Z⟩, ?_⟩
  exact Re0<|Re0<|Sd<|⟨Z, Z⟩
 ·intro F
  have H := qZ (btf F) H
  refine qA ?_
  refine qG (fun e x b => [] = e ∧ G = b ∧ zK = some c) ?_ ?_
  ·refine qj<|qf<|Ea Z<|qh<|qD<|?_
   refine qW (fun ad e x b => ∃ (f : Int), [(2, (Vp n)), (3, (Vp o)), (5, (Vi f))] = e ∧ (.blk o 33 (qi p1 j l d m)) :: (.blk n 33 (qi p0 g h a i)) :: G = b ∧ lp1 (vL p1 p0) ad f = some c) BIG ?_ ?_
   ·exact Pu1<|Pu1<|Sd<|⟨_, by exact R3, 0, Z, Z, H⟩
   rintro ad _ a9 _ L ⟨f, rfl, rfl, H⟩
   obtain ⟨bn, ac, rfl, av, H⟩ := uu H
   unfold vL at H
   refine qj<|qj<|qf<|Em Z<|EF 3 Z<|El (sv a) Z (Rb1 Z)<|?_
   have C := (O.mono N).mono L
   refine Eq Z (qV (T := (Ty.sl qB)) C Z Z)<|Ec Z<|qh<|?_
   refine qy Z ?_ ?_
   ·intro y
    obtain ⟨y, H⟩ := It y H
    refine qA ?_
    refine qG (fun e x b => [(2, (Vp n)), (3, (Vp o)), (5, (Vi f))] = e ∧ (.blk o 33 (qi p1 j l d m)) :: (.blk n 33 (qi p0 g h a i)) :: G = b ∧ x1 f p1 p0 ac = some c) ?_ ?_
    ·refine qD<|qj<|qj<|?_
     obtain ⟨bw, U, H⟩ := bnd H
     obtain ⟨bx, V, H⟩ := bnd H
     refine qQ _ Z (Ic Mb0 (Ic Mb1 In0))<|JF 0 3 Z<|Jl 1 (sv a) Z (Rb1 Z)<|Jm 2 Z<|?_
     obtain ⟨bp, aD, am⟩ := Slr.at C U
     obtain ⟨a1, rfl, aK⟩ := aD
     refine Jq 3 Z (Qi (T := (Ty.sl qB)) C U Z)<|Jl 4 (sv a1) Z (Rdc.k am Z)<|Jq 5 Z (qV (T := qB) aK Z Z)<|JF 6 3 Z<|Jl 7 (sv d) Z (Rb0 Z)<|Jm 8 Z<|?_
     have I := (P.mono N).mono L
     obtain ⟨bq, aE, an⟩ := Slr.at I V
     obtain ⟨a2, rfl, aL⟩ := aE
     refine Jq 9 Z (Qi (T := (Ty.sl qB)) I V Z)<|Jl 10 (sv a2) Z (Rdc.k an Z)<|Jq 11 Z (qV (T := qB) aL Z Z)<|Jc 12 Z<|Ad<|?_
     refine qy Z ?_ ?_
     ·intro p
      have p := rh (rz (p))
      have H := qZ p H
      refine qj<|qf<|Ea Z<|qh<|qE<|?_
      obtain E := ra H
      subst c
      refine ⟨(.inl Z), [(.bool false)], ⟨(.bool false), _, Z, Z, Z⟩, ?_⟩
      exact Re0<|Re0<|Sd<|⟨Z, Z⟩
     ·intro p
      have p := ri (ry (p))
      have H := ift p H
      refine qA<|qj<|qf<|Ea Z<|qh<|qD<|?_
      refine qW (fun ae e x b => ∃ (A : Int), [(2, (Vp n)), (3, (Vp o)), (5, (Vi f)), (6, (Vi A))] = e ∧ (.blk o 33 (qi p1 j l d m)) :: (.blk n 33 (qi p0 g h a i)) :: G = b ∧ lp1 (vK f p1 p0 ac) ae A = some c) BIG ?_ ?_
      ·exact Pu1<|Pu1<|Sd<|⟨_, by exact R4, 0, Z, Z, H⟩
      rintro ae _ ba _ M ⟨A, rfl, rfl, H⟩
      obtain ⟨bo, bm, rfl, aw, H⟩ := uu H
      unfold vK at H
      refine qj<|qj<|qf<|Em Z<|EF 3 Z<|El (sv a) Z (Rb1 Z)<|Em Z<|?_
      obtain ⟨bz, W, H⟩ := bnd H
      have D := C.mono M
      obtain ⟨br, aF, ao⟩ := Slr.at D W
      obtain ⟨a3, rfl, aM⟩ := aF
      refine Eq Z (Qi (T := (Ty.sl qB)) D W Z)<|El (sv a3) Z (Rdc.k ao Z)<|Eq Z (qV (T := qB) aM Z Z)<|Ec Z<|qh<|?_
      refine qy Z ?_ ?_
      ·intro z
       obtain ⟨z, H⟩ := It z H
       refine qA<|qj<|qD<|qj<|?_
       obtain ⟨bA, X, H⟩ := bnd H
       obtain ⟨aj, Y, H⟩ := bnd H
       obtain ⟨bB, aa, H⟩ := bnd H
       obtain ⟨ak, ab, H⟩ := bnd H
       obtain ⟨a6, aX, H⟩ := bnd H
       refine qQ _ Z (Ic Mb0 (Ic Mb1 In0))<|JF 0 3 Z<|Jl 1 (sv a) Z (Rb1 Z)<|Jm 2 Z<|?_
       obtain ⟨bs, aG, ap⟩ := Slr.at D X
       obtain ⟨a4, rfl, Q⟩ := aG
       refine Jq 3 Z (Qi (T := (Ty.sl qB)) D X Z)<|Jl 4 (sv a4) Z (Rdc.k ap Z)<|Jm 5 Z<|?_
       obtain ⟨bt, aH, aq⟩ := Slr.at Q Y
       obtain ⟨af, ag, rfl, aN, aO⟩ := aH
       refine Jq 6 Z (Qi (T := qB) Q Y Z)<|JL 7 7 (ql aj af ag) Z (Rdc.k aq Z)<|JF 8 3 Z<|Jl 9 (sv d) Z (Rb0 Z)<|Jm 10 Z<|?_
       have R := I.mono M
       obtain ⟨bu, aI, ar⟩ := Slr.at R aa
       obtain ⟨a5, rfl, S⟩ := aI
       refine Jq 11 Z (Qi (T := (Ty.sl qB)) R aa Z)<|Jl 12 (sv a5) Z (Rdc.k ar Z)<|Jm 13 Z<|?_
       obtain ⟨bv, aJ, au⟩ := Slr.at S ab
       obtain ⟨ah, ai, rfl, aP, aQ⟩ := aJ
       refine Jq 14 Z (Qi (T := qB) S ab Z)<|JL 15 7 (ql ak ah ai) Z (Rdc.k au Z)<|?_
       refine Ao 16 Z ?_
       refine Ek Tryz.call31 Z (CU aj af ag ak ah ai a6 aX _ _ aN aO aP aQ) ?_
       rintro _ bb _ bi ⟨rfl, rfl⟩
       refine ⟨(Ic Mb0 (Ic Mb1 In0)), ?_⟩
       refine Jq 17 Z (rL Z)<|Ad<|?_
       refine qy Z ?_ ?_
       ·intro q
        have q := rz q
        have H := qZ (btf q) H
        refine qj<|qf<|Ea Z<|qh<|qE<|?_
        obtain E := ra H
        subst c
        refine ⟨(.inl Z), [(.bool false)], ⟨(.bool false), _, Z, Z, Z⟩, ?_⟩
        exact Re0<|Re0<|Sd<|⟨Z, Z⟩
       ·intro q
        have q := ry q
        have H := ift q H
        exact qA<|qf<|Em Z<|Er (wI (A + 1)) Z<|Ea Z<|qh<|Pu1<|Pu1<|Sd<|⟨_, by exact R4, _, Nat.lt_succ_self _, (wI (A + 1)), Z, Z, (aw ▸ H)⟩
      ·intro z
       obtain ⟨z, H⟩ := If z H
       exact qY<|Pu1<|Pu1<|Sd<|⟨_, by exact R3, Z, Z, H⟩
    rintro _ bc _ bj ⟨rfl, rfl, H⟩
    unfold x1 at H
    exact qf<|Em Z<|Er (wI (f + 1)) Z<|Ea Z<|qh<|Pu1<|Pu1<|Sd<|⟨_, by exact R3, _, Nat.lt_succ_self _, (wI (f + 1)), Z, Z, (av ▸ H)⟩
   ·intro y
    obtain ⟨y, H⟩ := If y H
    exact qY<|Re0<|Re0<|Sd<|⟨[], trivial, Z, Z, H⟩
  rintro _ bd _ bk ⟨rfl, rfl, H⟩
  unfold zK at H
  refine qj<|qf<|Ea Z<|qh<|qE<|?_
  obtain E := ra H
  subst c
  refine ⟨(.inl Z), [(.bool true)], ⟨(.bool true), _, Z, Z, Z⟩, ?_⟩
  exact Sd ⟨Z, Z⟩
theorem C6 (p0 : ab3) (u : SV) (d : Bool) (H : yh p0 = some d) (K : Kp) (G : List Ent) (O : Slr Ty.u8 K (sv u) p0) (hT : TabK K) :
  Fc Tryz.prog 7 #[(sv u)] K (G) (fun v J p => v = (.bool d) ∧ G = p) := by
 refine qR Tryz.func7 Z Tryz.ntmps7 Tryz.results7 Z ?_
 unfold yh at H
 refine qj<|qf<|Ea Z<|qh<|qj<|qj<|qf<|?_
 obtain ⟨ap, aj, H⟩ := bnd H
 refine qo Z (Ek Tryz.call8 Z (CQ  ap aj _ _ hT) ?_)
 rintro _ az _ y ⟨rfl, rfl⟩
 refine Eq Z (rL Z)<|qh<|?_
 refine qy Z ?_ ?_
 ·intro b
  have b := rz b
  have H := qZ (btf b) H
  refine qj<|qf<|Ea Z<|qh<|qE<|?_
  obtain x := ra H
  subst d
  refine ⟨(.inl Z), [(.bool false)], ⟨(.bool false), _, Z, Z, Z⟩, ?_⟩
  exact Sd ⟨Z, Z⟩
 ·intro b
  have b := ry b
  have H := ift b H
  refine qA<|qj<|qf<|Em Z<|?_
  obtain ⟨I, ak, H⟩ := bnd H
  have ab := O.mono y
  refine qo Z (Ek Tryz.call10 Z (CV p0 u 200 I ak _ _ ab) ?_)
  rintro _ _ _ - ⟨L, am, rfl, rfl, rfl, ac⟩
  obtain ⟨c, aq, ar, al, H⟩ := rP H
  refine qo Z (Ek Tryz.call11 Z (CZ L I am 10 c aq ar al _ _ ac) ?_)
  rintro _ aA _ N ⟨i, j, k, aF, l, rfl, rfl, ad, ae, af, P⟩
  refine qo Z (qU (cs := (qi (qn.mk (qp.mk [] [] 0) [] []) qx qx qx qx)) Z Z Z Z (fun aB => ?_))
  refine qo Z (Sa (qi c i j k l) Z .here Z ?_)
  refine qh<|qj<|qf<|EL 5 (qi c i j k l) Z (Rb0 Z)<|?_
  refine Ow.shift (Shift.settle (T := (Ty.sl qB)) (.there (.there (.there (.there .here)))) af Z (fun au m z => Sd ?_))
  obtain ⟨E, w, ag, H⟩ := r0 H
  have A := ad.mono m
  have B := ae.mono m
  have C := P.mono m
  have D := ((hT.mono y).mono N).mono m
  refine qo Z (Ek Tryz.call16 Z (AP c i j k l E w ag _ _ A B z C D) ?_)
  rintro _ av _ g ⟨rfl, rfl⟩
  refine Em Z<|Ex Z<|Ex Z<|Ea Z<|Ea Z<|qh<|qj<|qj<|qf<|Em Z<|Ec Z<|qh<|?_
  refine qy Z ?_ ?_
  ·intro a
   have a := rh (rz (a))
   have H := qZ a H
   refine qj<|qf<|Em Z<|Ec Z<|Ea Z<|qh<|qE<|?_
   obtain x := ra H
   subst d
   refine ⟨(.inl Z), [(.bool (dcd (w = 4)))], ⟨(.bool (dcd (w = 4))), _, Z, Z, Z⟩, ?_⟩
   exact Re0<|Re0<|Re0<|Re0<|Re0<|Re0<|Sd<|⟨Z, Z⟩
  ·intro a
   have a := ri (ry (a))
   have H := ift a H
   refine qA<|qj<|qf<|Em Z<|?_
   obtain ⟨o, an, ao, ah, H⟩ := rP H
   have Q := D.mono g
   refine qo Z (Ek Tryz.call13 Z (AN E o an ao ah _ _ Q) ?_)
   rintro _ aw _ n ⟨q, r, s, t, rfl, rfl, R, S, U, V⟩
   refine Em Z<|Ex Z<|Ex Z<|Ex Z<|?_
   refine qo Z (qU (cs := (qi (qn.mk (qp.mk [] [] 0) [] []) qx qx qx qx)) Z Z Z Z (fun aC => ?_))
   refine qo Z (Sa (qi o q r s t) Z .here Z ?_)
   refine Ea Z<|Ea Z<|qh<|?_
   refine qG (fun M J p => ∃ (h : Bool), [(2, (.bool h))] = M ∧ G = p ∧ vT h = some d) ?_ ?_
   ·refine qf<|Em Z<|Ec Z<|Em Z<|?_
    refine Ee Z ?_ ?_
    ·intro e
     obtain ⟨e, H⟩ := It e H
     refine Vm Z<|Vc Z<|Et Z<|Em Z<|?_
     refine Ee Z ?_ ?_
     ·intro f
      obtain ⟨f, H⟩ := It f H
      refine VL 5 (qi c i j k l) Z (Rb5 Z)<|VL 5 (qi o q r s t) Z (Rb0 Z)<|?_
      obtain ⟨F, ai, H⟩ := bnd H
      have W := (A.mono g).mono n
      have X := (B.mono g).mono n
      have Y := (z.mono g).mono n
      have aa := (C.mono g).mono n
      refine rZ Z Z Z Z (Ek Tryz.call15 Z (Es c i j k l o q r s t F ai _ _ W X Y aa R S U V) ?_)
      rintro _ ax _ aD ⟨rfl, rfl⟩
      exact Et Z<|Ea Z<|qh<|Re0<|Re0<|Re0<|Re0<|Re0<|Re0<|Re0<|Re0<|Re0<|Re0<|Re0<|Sd<|⟨_, by exact R1, F, Z, Z, H⟩
     ·intro f
      obtain ⟨f, H⟩ := If f H
      exact Ez Z<|Ez Z<|Ez Z<|Ef Z<|Ea Z<|qh<|Re0<|Re0<|Re0<|Re0<|Re0<|Re0<|Re0<|Re0<|Re0<|Re0<|Re0<|Sd<|⟨_, by exact R1, false, Z, Z, H⟩
    ·intro e
     obtain ⟨e, H⟩ := If e H
     exact Ez Z<|Ez Z<|Ef Z<|Em Z<|Ez Z<|Ez Z<|Ez Z<|Ef Z<|Ea Z<|qh<|Re0<|Re0<|Re0<|Re0<|Re0<|Re0<|Re0<|Re0<|Re0<|Re0<|Re0<|Sd<|⟨_, by exact R1, false, Z, Z, H⟩
   rintro _ ay _ aE ⟨h, rfl, rfl, H⟩
   unfold vT at H
   refine qE ?_
   obtain x := ra H
   subst d
   refine ⟨(.inl Z), [(.bool h)], ⟨(.bool h), _, Z, Z, Z⟩, ?_⟩
   exact Sd ⟨Z, Z⟩
end Go.Hx
