
import Derived.Test.YtcopfjjpiobclaaGreatDoorXSM
set_option linter.unusedVariables false
set_option linter.unusedSimpArgs false
namespace Go.Hx
open Go Go.Proofs
set_option maxRecDepth 10000
set_option maxHeartbeats 1000000
theorem Ta (p0 : Int) (b : Bool) (H : OO p0 = some b) (K : Kp) (G : List Ent)  :
  Fc Tryz.prog 66 #[(Vi p0)] K (G) (fun v d c => v = (.bool b) ∧ K = d ∧ G = c) := by
 refine Gx Tryz.func66 Z Tryz.ntmps66 Tryz.results66 Z ?_
 unfold OO at H
 refine FK<|FD<|Ea Z<|FH<|FK<|FD<|Em Z<|Ec Z<|Em Z<|?_
 refine Ee Z ?_ ?_
 ·intro a
  obtain ⟨a, H⟩ := It a H
  refine Vm Z<|Vc Z<|Et Z<|Ea Z<|FH<|Gg<|?_
  obtain e := GB H
  subst b
  refine ⟨(.inl Z), [(.bool (dcd (p0 < 8)))], ⟨(.bool (dcd (p0 < 8))), _, Z, Z, Z⟩, ?_⟩
  exact Sd ⟨Z, Z, Z⟩
 ·intro a
  obtain ⟨a, H⟩ := If a H
  refine Ez Z<|Ez Z<|Ef Z<|Ea Z<|FH<|Gg<|?_
  obtain e := GB H
  subst b
  refine ⟨(.inl Z), [(.bool false)], ⟨(.bool false), _, Z, Z, Z⟩, ?_⟩
  exact Sd ⟨Z, Z, Z⟩
theorem UW (p0 : Case) (a : Bool) (H : PS p0 = some a) (K : Kp) (G : List Ent)  :
  Fc Tryz.prog 68 #[(.agg (Gn p0).toArray)] K (G) (fun v c b => v = (.bool a) ∧ K = c ∧ G = b) := by
 refine Gx Tryz.func68 Z Tryz.ntmps68 Tryz.results68 Z ?_
 unfold PS at H
 refine FK<|FD<|?_
 refine FT Z (GX (cs := (Gn p0)) Z Z Z (fun b4 => ?_))
 refine Ea Z<|FH<|FK<|FD<|EF 1 Z<|El (Vi p0.channel) Z (Rb0 Z)<|?_
 obtain ⟨x5, d, H⟩ := bnd H
 refine FT Z (Ek Tryz.call66 Z (Ta p0.channel x5 d _ _ ) ?_)
 rintro _ _ _ - ⟨rfl, rfl, rfl⟩
 refine Eq Z (GW Z)<|Ea Z<|FH<|Gg<|?_
 obtain e := GB H
 subst a
 refine ⟨(.inl Z), [(.bool (!(x5)))], ⟨(.bool (!(x5))), _, Z, Z, Z⟩, ?_⟩
 exact Re0<|Sd<|⟨Z, Z, Z⟩
theorem UX (p0 : Case) (b : Bool) (H : PT p0 = some b) (K : Kp) (G : List Ent)  :
  Fc Tryz.prog 89 #[(.agg (Gn p0).toArray)] K (G) (fun v d c => v = (.bool b) ∧ K = d ∧ G = c) := by
 refine Gx Tryz.func89 Z Tryz.ntmps89 Tryz.results89 Z ?_
 unfold PT at H
 refine FK<|FD<|?_
 refine FT Z (GX (cs := (Gn p0)) Z Z Z (fun b3 => ?_))
 refine Ea Z<|FH<|FK<|FD<|EF 0 Z<|El (.bool p0.send) Z (Rb0 Z)<|Eq Z (GW Z)<|Em Z<|?_
 refine Ee Z ?_ ?_
 ·intro a
  have a := GR a
  have H := Gu (btf a) H
  refine VF 2 Z<|Vl (.int .u64 p0.value) Z (Rb0 Z)<|Vc Z<|Et Z<|Ea Z<|FH<|Gg<|?_
  obtain e := GB H
  subst b
  refine ⟨(.inl Z), [(.bool (!(dcd (p0.value = 0))))], ⟨(.bool (!(dcd (p0.value = 0)))), _, Z, Z, Z⟩, ?_⟩
  exact Re0<|Sd<|⟨Z, Z, Z⟩
 ·intro a
  have a := GQ a
  have H := ift a H
  refine Ez Z<|Ez Z<|Ez Z<|Ef Z<|Ea Z<|FH<|Gg<|?_
  obtain e := GB H
  subst b
  refine ⟨(.inl Z), [(.bool false)], ⟨(.bool false), _, Z, Z, Z⟩, ?_⟩
  exact Re0<|Sd<|⟨Z, Z, Z⟩
theorem UC (p0 : ae3) (i : SV) (b : Int) (H : ME p0 = some b) (K : Kp) (G : List Ent) (h : Slr Gp K (sv i) p0) :
  Fc Tryz.prog 88 #[(sv i), (.func (.func 68) #[] #[])] K (G) (fun v e c => v = (Vi b) ∧ G = c) := by
 refine Gx Tryz.func88 Z Tryz.ntmps88 Tryz.results88 Z ?_
 unfold ME at H
 refine FK<|FD<|Ea Z<|FH<|?_
 refine Gk (fun f e c => [] = f ∧ G = c ∧ RG = some b) ?_ ?_
 ·refine FK<|FD<|Em Z<|Eq Z (Gt (T := Gp) h Z Z)<|Em Z<|FH<|Gh<|?_
  refine Gv (fun n81 f e c => ∃ (a : Int), [(0, (sv i)), (1, (.func (.func 68) #[] #[])), (7, (Vi (p0.length : Int))), (8, (Vi a))] = f ∧ K = e ∧ G = c ∧ lp1 (MD p0) n81 a = some b) BIG ?_ ?_
  ·exact Sd ⟨_, by exact R4, 0, Z, Z, Z, H⟩
  rintro n81 _ _ _ - ⟨a, rfl, rfl, rfl, H⟩
  obtain ⟨u, t, rfl, o, H⟩ := Iz H
  unfold MD at H
  refine FK<|FD<|Ec Z<|FH<|FK<|?_
  refine F2 Z ?_ ?_
  ·intro d
   obtain ⟨d, H⟩ := It d H
   refine F8<|FK<|Gh<|FK<|FD<|Em Z<|Ea Z<|FH<|FK<|FD<|Em Z<|Em Z<|Em Z<|?_
   obtain ⟨l, j, H⟩ := bnd H
   obtain ⟨_, rfl, n⟩ := Slr.at h j
   refine Eq Z (Qi (T := Gp) h j Z)<|EL 3 (Gn l) Z (Rdc.k n Z)<|?_
   obtain ⟨q, p, H⟩ := bnd H
   refine FT Z (Ek Tryz.call68 Z (UW l q p _ _ ) ?_)
   rintro _ _ _ - ⟨rfl, rfl, rfl⟩
   refine FH ?_
   refine F2 Z ?_ ?_
   ·intro g
    have H := ift g H
    refine FK<|FD<|Em Z<|Ea Z<|FH<|Gg<|?_
    obtain m := GB H
    subst b
    refine ⟨(.inl Z), [(Vi a)], ⟨(Vi a), _, Z, Z, Z⟩, ?_⟩
    exact Sd ⟨Z, Z⟩
   ·intro g
    have H := Gu (btf g) H
    exact F8<|FD<|Er (wI (a + 1)) Z<|Em Z<|FH<|Sd<|⟨_, by exact R4, _, Nat.lt_succ_self _, (wI (a + 1)), Z, Z, Z, (o ▸ H)⟩
  ·intro d
   obtain ⟨d, H⟩ := If d H
   exact Gy<|Sd<|⟨[], trivial, Z, Z, H⟩
 rintro _ r _ s ⟨rfl, rfl, H⟩
 unfold RG at H
 refine FK<|FD<|Ea Z<|FH<|Gg<|?_
 obtain m := GB H
 subst b
 refine ⟨(.inl Z), [(Vi (-1))], ⟨(Vi (-1)), _, Z, Z, Z⟩, ?_⟩
 exact Sd ⟨Z, Z⟩
theorem UD (p0 : ae3) (a : SV) (b : Bool) (H : MF p0 = some b) (K : Kp) (G : List Ent) (d : Slr Gp K (sv a) p0) :
  Fc Tryz.prog 67 #[(sv a), (.func (.func 68) #[] #[])] K (G) (fun v f c => v = (.bool b) ∧ G = c) := by
 refine Gx Tryz.func67 Z Tryz.ntmps67 Tryz.results67 Z ?_
 unfold MF at H
 refine FK<|FD<|Ea Z<|FH<|FK<|FD<|Em Z<|Em Z<|?_
 obtain ⟨x5, e, H⟩ := bnd H
 refine FT Z (Ek Tryz.call88 Z (UC p0 a x5 e _ _ d) ?_)
 rintro _ g _ i ⟨rfl, rfl⟩
 refine Ec Z<|Ea Z<|FH<|Gg<|?_
 obtain h := GB H
 subst b
 refine ⟨(.inl Z), [(.bool (dcd (x5 ≥ 0)))], ⟨(.bool (dcd (x5 ≥ 0))), _, Z, Z, Z⟩, ?_⟩
 exact Sd ⟨Z, Z⟩
theorem UE (p0 : ae3) (i : SV) (b : Int) (H : MH p0 = some b) (K : Kp) (G : List Ent) (h : Slr Gp K (sv i) p0) :
  Fc Tryz.prog 88 #[(sv i), (.func (.func 89) #[] #[])] K (G) (fun v e c => v = (Vi b) ∧ G = c) := by
 refine Gx Tryz.func88 Z Tryz.ntmps88 Tryz.results88 Z ?_
 unfold MH at H
 refine FK<|FD<|Ea Z<|FH<|?_
 refine Gk (fun f e c => [] = f ∧ G = c ∧ RH = some b) ?_ ?_
 ·refine FK<|FD<|Em Z<|Eq Z (Gt (T := Gp) h Z Z)<|Em Z<|FH<|Gh<|?_
  refine Gv (fun n81 f e c => ∃ (a : Int), [(0, (sv i)), (1, (.func (.func 89) #[] #[])), (7, (Vi (p0.length : Int))), (8, (Vi a))] = f ∧ K = e ∧ G = c ∧ lp1 (MG p0) n81 a = some b) BIG ?_ ?_
  ·exact Sd ⟨_, by exact R4, 0, Z, Z, Z, H⟩
  rintro n81 _ _ _ - ⟨a, rfl, rfl, rfl, H⟩
  obtain ⟨u, t, rfl, o, H⟩ := Iz H
  unfold MG at H
  refine FK<|FD<|Ec Z<|FH<|FK<|?_
  refine F2 Z ?_ ?_
  ·intro d
   obtain ⟨d, H⟩ := It d H
   refine F8<|FK<|Gh<|FK<|FD<|Em Z<|Ea Z<|FH<|FK<|FD<|Em Z<|Em Z<|Em Z<|?_
   obtain ⟨l, j, H⟩ := bnd H
   obtain ⟨_, rfl, n⟩ := Slr.at h j
   refine Eq Z (Qi (T := Gp) h j Z)<|EL 3 (Gn l) Z (Rdc.k n Z)<|?_
   obtain ⟨q, p, H⟩ := bnd H
   refine FT Z (Ek Tryz.call89 Z (UX l q p _ _ ) ?_)
   rintro _ _ _ - ⟨rfl, rfl, rfl⟩
   refine FH ?_
   refine F2 Z ?_ ?_
   ·intro g
    have H := ift g H
    refine FK<|FD<|Em Z<|Ea Z<|FH<|Gg<|?_
    obtain m := GB H
    subst b
    refine ⟨(.inl Z), [(Vi a)], ⟨(Vi a), _, Z, Z, Z⟩, ?_⟩
    exact Sd ⟨Z, Z⟩
   ·intro g
    have H := Gu (btf g) H
    exact F8<|FD<|Er (wI (a + 1)) Z<|Em Z<|FH<|Sd<|⟨_, by exact R4, _, Nat.lt_succ_self _, (wI (a + 1)), Z, Z, Z, (o ▸ H)⟩
  ·intro d
   obtain ⟨d, H⟩ := If d H
   exact Gy<|Sd<|⟨[], trivial, Z, Z, H⟩
 rintro _ r _ s ⟨rfl, rfl, H⟩
 unfold RH at H
 refine FK<|FD<|Ea Z<|FH<|Gg<|?_
 obtain m := GB H
 subst b
 refine ⟨(.inl Z), [(Vi (-1))], ⟨(Vi (-1)), _, Z, Z, Z⟩, ?_⟩
 exact Sd ⟨Z, Z⟩
theorem UF (p0 : ae3) (a : SV) (b : Bool) (H : MI p0 = some b) (K : Kp) (G : List Ent) (d : Slr Gp K (sv a) p0) :
  Fc Tryz.prog 67 #[(sv a), (.func (.func 89) #[] #[])] K (G) (fun v f c => v = (.bool b) ∧ G = c) := by
 refine Gx Tryz.func67 Z Tryz.ntmps67 Tryz.results67 Z ?_
 unfold MI at H
 refine FK<|FD<|Ea Z<|FH<|FK<|FD<|Em Z<|Em Z<|?_
 obtain ⟨x5, e, H⟩ := bnd H
 refine FT Z (Ek Tryz.call88 Z (UE p0 a x5 e _ _ d) ?_)
 rintro _ g _ i ⟨rfl, rfl⟩
 refine Ec Z<|Ea Z<|FH<|Gg<|?_
 obtain h := GB H
 subst b
 refine ⟨(.inl Z), [(.bool (dcd (x5 ≥ 0)))], ⟨(.bool (dcd (x5 ≥ 0))), _, Z, Z, Z⟩, ?_⟩
 exact Sd ⟨Z, Z⟩
theorem UG (p0 : Op) (c j : SV) (a : Bool) (H : MJ p0 = some a) (K : Kp) (G : List Ent) (C : Slr Gp K (sv c) p0.cases) (J : Slr Ty.i64 K (sv j) p0.draws) :
  Fc Tryz.prog 69 #[(.agg (FM p0 c j).toArray)] K (G) (fun v g d => v = (.bool a) ∧ G = d) := by
 refine Gx Tryz.func69 Z Tryz.ntmps69 Tryz.results69 Z ?_
 unfold MJ at H
 refine FK<|FD<|?_
 refine FT Z (GX (cs := (FM p0 c j)) Z Z Z (fun s => ?_))
 refine Ea Z<|FH<|FK<|Gh<|?_
 refine Gk (fun k g d => ∃ (D : Bool) (e f : Int) (h b i : Int), [(1, (Vp s)), (3, (.bool D))] = k ∧ K = g ∧ (.blk s 70 (FM (Op.mk e f h b i p0.cases p0.draws) c j)) :: G = d ∧ Lq p0 D e f h b i = some a) ?_ ?_
 ·refine FD<|EF 0 Z<|El (Vi p0.kind) Z (Rb0 Z)<|Ec Z<|Em Z<|?_
  refine Ee Z ?_ ?_
  ·intro m
   have m := GL (GR (m))
   have H := Gu m H
   refine VF 0 Z<|Vl (Vi p0.kind) Z (Rb0 Z)<|Vc Z<|Et Z<|Em Z<|?_
   refine Ee Z ?_ ?_
   ·intro n
    have n := GL (GR (n))
    have H := Gu n H
    refine VF 0 Z<|Vl (Vi p0.kind) Z (Rb0 Z)<|Vc Z<|Et Z<|Em Z<|?_
    refine Ee Z ?_ ?_
    ·intro o
     have o := GL (GR (o))
     have H := Gu o H
     exact VF 1 Z<|Vl (Vi p0.mode) Z (Rb0 Z)<|Vc Z<|Et Z<|Ea Z<|FH<|Sd<|⟨_, by exact R2, (!(dcd (p0.mode = 0))), p0.kind, p0.mode, p0.channel, p0.value, p0.deadline, Z, Z, Z, H⟩
    ·intro o
     have o := GM (GQ (o))
     have H := ift o H
     exact Ez Z<|Ez Z<|Ez Z<|Ef Z<|Ea Z<|FH<|Sd<|⟨_, by exact R2, false, p0.kind, p0.mode, p0.channel, p0.value, p0.deadline, Z, Z, Z, H⟩
   ·intro n
    have n := GM (GQ (n))
    have H := ift n H
    exact Ez Z<|Ez Z<|Ez Z<|Ef Z<|Em Z<|Ez Z<|Ez Z<|Ez Z<|Ef Z<|Ea Z<|FH<|Sd<|⟨_, by exact R2, false, p0.kind, p0.mode, p0.channel, p0.value, p0.deadline, Z, Z, Z, H⟩
  ·intro m
   have m := GM (GQ (m))
   have H := ift m H
   exact Ez Z<|Ez Z<|Ez Z<|Ef Z<|Em Z<|Ez Z<|Ez Z<|Ez Z<|Ef Z<|Em Z<|Ez Z<|Ez Z<|Ez Z<|Ef Z<|Ea Z<|FH<|Sd<|⟨_, by exact R2, false, p0.kind, p0.mode, p0.channel, p0.value, p0.deadline, Z, Z, Z, H⟩
 rintro _ _ _ - ⟨D, e, f, h, b, i, rfl, rfl, rfl, H⟩
 unfold Lq at H
 refine F2 Z ?_ ?_
 ·intro A
  have H := ift A H
  refine FK<|FD<|Ea Z<|FH<|Gg<|?_
  obtain y := GB H
  subst a
  refine ⟨(.inl Z), [(.bool false)], ⟨(.bool false), _, Z, Z, Z⟩, ?_⟩
  exact Re0<|Sd<|⟨Z, Z⟩
 ·intro A
  have H := Gu (btf A) H
  refine Gk (fun k g d => ∃ (E : Bool), [(1, (Vp s)), (22, (.bool E))] = k ∧ K = g ∧ (.blk s 70 (FM (Op.mk e f h b i p0.cases p0.draws) c j)) :: G = d ∧ OP e f h b i p0 E = some a) ?_ ?_
  ·refine FD<|EF 4 Z<|El (Vi i) Z (Rb0 Z)<|Ec Z<|Em Z<|?_
   refine Ee Z ?_ ?_
   ·intro p
    have p := GL (GR (p))
    have H := Gu p H
    exact VF 1 Z<|Vl (Vi f) Z (Rb0 Z)<|Vc Z<|Et Z<|Ea Z<|FH<|Sd<|⟨_, by exact R2, (!(dcd (f = 2))), Z, Z, Z, H⟩
   ·intro p
    have p := GM (GQ (p))
    have H := ift p H
    exact Ez Z<|Ez Z<|Ez Z<|Ef Z<|Ea Z<|FH<|Sd<|⟨_, by exact R2, false, Z, Z, Z, H⟩
  rintro _ _ _ - ⟨E, rfl, rfl, rfl, H⟩
  unfold OP at H
  refine F2 Z ?_ ?_
  ·intro B
   have H := ift B H
   refine FK<|FD<|Ea Z<|FH<|Gg<|?_
   obtain y := GB H
   subst a
   refine ⟨(.inl Z), [(.bool false)], ⟨(.bool false), _, Z, Z, Z⟩, ?_⟩
   exact Re0<|Sd<|⟨Z, Z⟩
  ·intro B
   have H := Gu (btf B) H
   refine FK<|FD<|EF 0 Z<|El (Vi e) Z (Rb0 Z)<|Ec Z<|Ea Z<|FH<|?_
   refine F2 Z ?_ ?_
   ·intro q
    have q := GL (GR (q))
    have H := Gu q H
    refine Gk (fun k g d => ∃ (x : Bool), [(2, (.bool x))] = k ∧ K = g ∧ G = d ∧ ND x = some a) ?_ ?_
    ·refine FD<|EF 5 Z<|El (sv c) Z (Rb0 Z)<|Eq Z (Gt (T := Gp) C Z Z)<|Ec Z<|Em Z<|?_
     refine Ee Z ?_ ?_
     ·intro t
      obtain ⟨t, H⟩ := It t H
      refine VF 6 Z<|Vl (sv j) Z (Rb0 Z)<|Vq Z (Gt (T := Ty.i64) J Z Z)<|Vc Z<|Et Z<|Em Z<|?_
      refine Ee Z ?_ ?_
      ·intro u
       obtain ⟨u, H⟩ := It u H
       refine VF 0 Z<|Vl (Vi e) Z (Rb0 Z)<|Vc Z<|Vm Z<|?_
       refine Ee Z ?_ ?_
       ·intro w
        obtain ⟨w, H⟩ := It w H
        exact Ez Z<|Ez Z<|Ez Z<|Vt Z<|Et Z<|Ea Z<|FH<|Re0<|Sd<|⟨_, by exact R1, true, Z, Z, Z, H⟩
       ·intro w
        obtain ⟨w, H⟩ := If w H
        exact VF 3 Z<|Vl (.int .u64 b) Z (Rb0 Z)<|Vc Z<|Vf Z<|Et Z<|Ea Z<|FH<|Re0<|Sd<|⟨_, by exact R1, (dcd (b = 0)), Z, Z, Z, H⟩
      ·intro u
       obtain ⟨u, H⟩ := If u H
       exact Ez Z<|Ez Z<|Ez Z<|Ez Z<|G3 Z Z Z Z rfl<|G3 Z Z Z Z rfl<|G3 Z Z Z Z rfl<|Ez Z<|Ef Z<|Ea Z<|FH<|Re0<|Sd<|⟨_, by exact R1, false, Z, Z, Z, H⟩
     ·intro t
      obtain ⟨t, H⟩ := If t H
      exact Ez Z<|Ez Z<|Ez Z<|Ez Z<|Ef Z<|Em Z<|Ez Z<|Ez Z<|Ez Z<|Ez Z<|G3 Z Z Z Z rfl<|G3 Z Z Z Z rfl<|G3 Z Z Z Z rfl<|Ez Z<|Ef Z<|Ea Z<|FH<|Re0<|Sd<|⟨_, by exact R1, false, Z, Z, Z, H⟩
    rintro _ _ _ - ⟨x, rfl, rfl, rfl, H⟩
    unfold ND at H
    refine Gg ?_
    obtain y := GB H
    subst a
    refine ⟨(.inl Z), [(.bool x)], ⟨(.bool x), _, Z, Z, Z⟩, ?_⟩
    exact Sd ⟨Z, Z⟩
   ·intro q
    have q := GM (GQ (q))
    have H := ift q H
    refine Gk (fun k g d => ∃ (F : Bool), [(1, (Vp s)), (55, (.bool F))] = k ∧ K = g ∧ (.blk s 70 (FM (Op.mk e f h b i p0.cases p0.draws) c j)) :: G = d ∧ NE e f h b i p0 F = some a) ?_ ?_
    ·refine FD<|EF 2 Z<|El (Vi h) Z (Rb0 Z)<|Ec Z<|Em Z<|?_
     refine Ee Z ?_ ?_
     ·intro r
      have r := GL (GR (r))
      have H := Gu r H
      exact Ez Z<|Ez Z<|Ez Z<|Et Z<|Em Z<|Ez Z<|Ez Z<|Ez Z<|Ez Z<|Ez Z<|Ez Z<|Ez Z<|Et Z<|Ea Z<|FH<|Sd<|⟨_, by exact R2, true, Z, Z, Z, H⟩
     ·intro r
      have r := GM (GQ (r))
      have H := ift r H
      refine VF 3 Z<|Vl (.int .u64 b) Z (Rb0 Z)<|Vc Z<|Ef Z<|Em Z<|?_
      refine Ee Z ?_ ?_
      ·intro l
       have l := GL (GR (l))
       have H := Gu l H
       exact Ez Z<|Ez Z<|Ez Z<|Ez Z<|Ez Z<|Ez Z<|Ez Z<|Et Z<|Ea Z<|FH<|Sd<|⟨_, by exact R2, true, Z, Z, Z, H⟩
      ·intro l
       have l := GM (GQ (l))
       have H := ift l H
       exact VF 6 Z<|Vl (sv j) Z (Rb0 Z)<|Vq Z (Gt (T := Ty.i64) J rfl rfl)<|VF 5 Z<|Vl (sv c) Z (Rb0 Z)<|Vq Z (Gt (T := Gp) C rfl rfl)<|Vc Z<|Ef Z<|Ea Z<|FH<|Sd<|⟨_, by exact R2, (!(dcd ((p0.draws.length : Int) = (p0.cases.length : Int)))), rfl, rfl, rfl, H⟩
    rintro _ _ _ - ⟨F, rfl, rfl, rfl, H⟩
    unfold NE at H
    refine F2 Z ?_ ?_
    ·intro z
     have H := ift z H
     refine FK<|FD<|Ea Z<|FH<|Gg<|?_
     obtain y := GB H
     subst a
     refine ⟨(.inl Z), [(.bool false)], ⟨(.bool false), _, Z, Z, Z⟩, ?_⟩
     exact Re0<|Sd<|⟨Z, Z⟩
    ·intro z
     have H := Gu (btf z) H
     refine F8<|FK<|FD<|EF 5 Z<|El (sv c) Z (Rb0 Z)<|?_
     obtain ⟨I, L, H⟩ := bnd H
     refine FT rfl (Ek Tryz.call67 Z (UF p0.cases c I L _ _ C) ?_)
     rintro _ M _ N ⟨rfl, rfl⟩
     refine Eq Z (GW Z)<|Ea Z<|FH<|Gg<|?_
     obtain y := GB H
     subst a
     refine ⟨(.inl Z), [(.bool (!(I)))], ⟨(.bool (!(I))), _, Z, Z, Z⟩, ?_⟩
     exact Re0<|Sd<|⟨Z, Z⟩
theorem UH (p0 : Op) (b a : SV) (c : Int) (H : MM p0 = some c) (K : Kp) (G : List Ent) (B : Slr Gp K (sv b) p0.cases) (C : Slr Ty.i64 K (sv a) p0.draws) :
  Fc Tryz.prog 37 #[(.agg (FM p0 b a).toArray)] K (G) (fun v g d => v = (Vi c) ∧ G = d) := by
 refine Gx Tryz.func37 Z Tryz.ntmps37 Tryz.results37 Z ?_
 unfold MM at H
 refine FK<|FD<|?_
 refine FT Z (GX (cs := (FM p0 b a)) Z Z Z (fun e => ?_))
 refine Ea Z<|FH<|FK<|?_
 refine Gk (fun f g d => ∃ (E : Bool), [(1, (Vp e)), (22, (.bool E))] = f ∧ K = g ∧ (.blk e 70 (FM p0 b a)) :: G = d ∧ Ls p0 E = some c) ?_ ?_
 ·refine FD<|EF 0 Z<|El (Vi p0.kind) Z (Rb0 Z)<|Ec Z<|Em Z<|?_
  refine Ee Z ?_ ?_
  ·intro m
   obtain ⟨m, H⟩ := It m H
   exact Ez Z<|Ez Z<|Ez Z<|Et Z<|Em Z<|Ez Z<|Ez Z<|Ez Z<|Et Z<|Em Z<|Ez Z<|Ez Z<|Ez Z<|Et Z<|FH<|Sd<|⟨_, by exact R2, true, Z, Z, Z, H⟩
  ·intro m
   obtain ⟨m, H⟩ := If m H
   refine VF 0 Z<|Vl (Vi p0.kind) Z (Rb0 Z)<|Vc Z<|Ef Z<|Em Z<|?_
   refine Ee Z ?_ ?_
   ·intro n
    obtain ⟨n, H⟩ := It n H
    exact Ez Z<|Ez Z<|Ez Z<|Et Z<|Em Z<|Ez Z<|Ez Z<|Ez Z<|Et Z<|FH<|Sd<|⟨_, by exact R2, true, Z, Z, Z, H⟩
   ·intro n
    obtain ⟨n, H⟩ := If n H
    refine VF 1 Z<|Vl (Vi p0.mode) Z (Rb0 Z)<|Vc Z<|Ef Z<|Em Z<|?_
    refine Ee Z ?_ ?_
    ·intro o
     obtain ⟨o, H⟩ := It o H
     exact Ez Z<|Ez Z<|Ez Z<|Et Z<|FH<|Sd<|⟨_, by exact R2, true, Z, Z, Z, H⟩
    ·intro o
     obtain ⟨o, H⟩ := If o H
     exact VF 1 Z<|Vl (Vi p0.mode) Z (Rb0 Z)<|Vc Z<|Ef Z<|FH<|Sd<|⟨_, by exact R2, (dcd (p0.mode > 2)), Z, Z, Z, H⟩
 rintro _ _ _ - ⟨E, rfl, rfl, rfl, H⟩
 unfold Ls at H
 refine F2 Z ?_ ?_
 ·intro x
  have H := ift x H
  refine FK<|FD<|Ea Z<|FH<|Gg<|?_
  obtain l := GB H
  subst c
  refine ⟨(.inl Z), [(Vi 2)], ⟨(Vi 2), _, Z, Z, Z⟩, ?_⟩
  exact Re0<|Sd<|⟨Z, Z⟩
 ·intro x
  have H := Gu (btf x) H
  refine F8<|FK<|?_
  refine Gk (fun f g d => ∃ (F : Bool), [(1, (Vp e)), (41, (.bool F))] = f ∧ (.blk e 70 (FM p0 b a)) :: G = d ∧ Lr p0 F = some c) ?_ ?_
  ·refine FD<|EF 2 Z<|El (Vi p0.channel) Z (Rb0 Z)<|?_
   obtain ⟨ab, W, H⟩ := bnd H
   refine FT Z (Ek Tryz.call66 Z (Ta p0.channel ab W _ _ ) ?_)
   rintro _ _ _ - ⟨rfl, rfl, rfl⟩
   refine Eq Z (GW Z)<|Em Z<|?_
   refine Ee Z ?_ ?_
   ·intro i
    have i := GR i
    have H := Gu (btf i) H
    exact Ez Z<|Ez Z<|Ez Z<|Et Z<|Em Z<|Ez Z<|Ez Z<|Ez Z<|Et Z<|Em Z<|Ez Z<|Ez Z<|Ez Z<|Et Z<|FH<|Sd<|⟨_, by exact R2, true, Z, Z, H⟩
   ·intro i
    have i := GQ i
    have H := ift i H
    refine VF 4 Z<|Vl (Vi p0.deadline) Z (Rb0 Z)<|Vc Z<|Ef Z<|Em Z<|?_
    refine Ee Z ?_ ?_
    ·intro p
     obtain ⟨p, H⟩ := It p H
     exact Ez Z<|Ez Z<|Ez Z<|Et Z<|Em Z<|Ez Z<|Ez Z<|Ez Z<|Et Z<|FH<|Sd<|⟨_, by exact R2, true, Z, Z, H⟩
    ·intro p
     obtain ⟨p, H⟩ := If p H
     refine VF 4 Z<|Vl (Vi p0.deadline) Z (Rb0 Z)<|Vc Z<|Ef Z<|Em Z<|?_
     refine Ee Z ?_ ?_
     ·intro q
      obtain ⟨q, H⟩ := It q H
      exact Ez Z<|Ez Z<|Ez Z<|Et Z<|FH<|Sd<|⟨_, by exact R2, true, Z, Z, H⟩
     ·intro q
      obtain ⟨q, H⟩ := If q H
      refine VF 5 Z<|Vl (sv b) Z (Rb0 Z)<|?_
      obtain ⟨N, X, H⟩ := bnd H
      refine H9 rfl rfl rfl rfl (Ek Tryz.call67 Z (UD p0.cases b N X _ _ B) ?_)
      rintro _ ad _ ag ⟨rfl, rfl⟩
      exact Ef Z<|FH<|Sd<|⟨_, by exact R2, N, Z, Z, H⟩
  rintro _ w _ u ⟨F, rfl, rfl, H⟩
  unfold Lr at H
  refine F2 Z ?_ ?_
  ·intro y
   have H := ift y H
   refine FK<|FD<|Ea Z<|FH<|Gg<|?_
   obtain l := GB H
   subst c
   refine ⟨(.inl Z), [(Vi 2)], ⟨(Vi 2), _, Z, Z, Z⟩, ?_⟩
   exact Re0<|Sd<|⟨Z, Z⟩
  ·intro y
   have H := Gu (btf y) H
   refine F8<|FK<|?_
   refine Gk (fun f g d => ∃ (I : Bool), [(1, (Vp e)), (51, (.bool I))] = f ∧ w = g ∧ (.blk e 70 (FM p0 b a)) :: G = d ∧ OR p0 I = some c) ?_ ?_
   ·refine FD<|EF 5 Z<|El (sv b) Z (Rb0 Z)<|?_
    have R := B.mono u
    refine Eq Z (Gt (T := Gp) R Z Z)<|Ec Z<|Em Z<|?_
    refine Ee Z ?_ ?_
    ·intro r
     obtain ⟨r, H⟩ := It r H
     exact Ez Z<|Ez Z<|Ez Z<|Ez Z<|Et Z<|FH<|Sd<|⟨_, by exact R2, true, Z, Z, Z, H⟩
    ·intro r
     obtain ⟨r, H⟩ := If r H
     refine VF 6 Z<|Vl (sv a) Z (Rb0 Z)<|?_
     have S := C.mono u
     exact Vq Z (Gt (T := Ty.i64) S Z Z)<|Vc Z<|Ef Z<|FH<|Sd<|⟨_, by exact R2, (dcd ((p0.draws.length : Int) > 6)), Z, Z, Z, H⟩
   rintro _ _ _ - ⟨I, rfl, rfl, rfl, H⟩
   unfold OR at H
   refine F2 Z ?_ ?_
   ·intro z
    have H := ift z H
    refine FK<|FD<|Ea Z<|FH<|Gg<|?_
    obtain l := GB H
    subst c
    refine ⟨(.inl Z), [(Vi 3)], ⟨(Vi 3), _, Z, Z, Z⟩, ?_⟩
    exact Re0<|Sd<|⟨Z, Z⟩
   ·intro z
    have H := Gu (btf z) H
    refine F8 ?_
    refine Gk (fun f g d => [(1, (Vp e))] = f ∧ (.blk e 70 (FM p0 b a)) :: G = d ∧ MK p0 = some c) ?_ ?_
    ·refine FK<|FD<|EF 6 Z<|El (sv a) Z (Rb0 Z)<|?_
     have D := C.mono u
     refine Eq Z (Gt (T := Ty.i64) D Z Z)<|Em Z<|FH<|Gh<|?_
     refine Gv (fun n216 f g d => ∃ (h : Int), [(1, (Vp e)), (53, (sv a)), (54, (Vi (p0.draws.length : Int))), (55, (Vi h))] = f ∧ w = g ∧ (.blk e 70 (FM p0 b a)) :: G = d ∧ lp1 (OQ p0) n216 h = some c) BIG ?_ ?_
     ·exact Sd ⟨_, by exact R4, 0, Z, Z, Z, H⟩
     rintro n216 _ _ _ - ⟨h, rfl, rfl, rfl, H⟩
     obtain ⟨ai, aa, rfl, Q, H⟩ := Iz H
     unfold OQ at H
     refine FK<|FD<|Ec Z<|FH<|FK<|?_
     refine F2 Z ?_ ?_
     ·intro s
      obtain ⟨s, H⟩ := It s H
      refine F8<|FK<|Gh<|FK<|FD<|Em Z<|?_
      obtain ⟨O, M, H⟩ := bnd H
      obtain ⟨_, rfl, P⟩ := Slr.at D M
      refine Eq Z (Qi (T := Ty.i64) D M Z)<|El (Vi O) Z (Rdc.k P Z)<|Ea Z<|Ea Z<|FH<|?_
      refine Gk (fun f g d => ∃ (J : Bool), [(1, (Vp e)), (53, (sv a)), (54, (Vi (p0.draws.length : Int))), (55, (Vi h)), (66, (.bool J))] = f ∧ w = g ∧ (.blk e 70 (FM p0 b a)) :: G = d ∧ ML p0 h aa J = some c) ?_ ?_
      ·refine FD<|Em Z<|Ec Z<|Em Z<|?_
       refine Ee Z ?_ ?_
       ·intro t
        obtain ⟨t, H⟩ := It t H
        exact Ez Z<|Ez Z<|Ez Z<|Et Z<|FH<|Sd<|⟨_, by exact R5, true, Z, Z, Z, H⟩
       ·intro t
        obtain ⟨t, H⟩ := If t H
        exact Vm Z<|Vm Z<|Vc Z<|Ef Z<|FH<|Sd<|⟨_, by exact R5, (dcd (O > h)), Z, Z, Z, H⟩
      rintro _ _ _ - ⟨J, rfl, rfl, rfl, H⟩
      unfold ML at H
      refine F2 Z ?_ ?_
      ·intro A
       have H := ift A H
       refine FK<|FD<|Ea Z<|FH<|Gg<|?_
       obtain l := GB H
       subst c
       refine ⟨(.inl Z), [(Vi 2)], ⟨(Vi 2), _, Z, Z, Z⟩, ?_⟩
       exact Re0<|Sd<|⟨Z, Z⟩
      ·intro A
       have H := Gu (btf A) H
       exact F8<|FD<|Er (wI (h + 1)) Z<|Em Z<|FH<|Sd<|⟨_, by exact R4, _, Nat.lt_succ_self _, (wI (h + 1)), Z, Z, Z, (Q ▸ H)⟩
     ·intro s
      obtain ⟨s, H⟩ := If s H
      exact Gy<|Sd<|⟨_, by exact R1, Z, Z, H⟩
    rintro _ ae _ L ⟨rfl, rfl, H⟩
    unfold MK at H
    refine FK<|FK<|FD<|EL 7 (FM p0 b a) Z (Rb0 Z)<|?_
    obtain ⟨ac, Y, H⟩ := bnd H
    have U := (B.mono u).mono L
    have V := (C.mono u).mono L
    refine FT Z (Ek Tryz.call69 Z (UG p0 b a ac Y _ _ U V) ?_)
    rintro _ af _ ah ⟨rfl, rfl⟩
    refine Eq Z (GW Z)<|FH<|?_
    refine F2 Z ?_ ?_
    ·intro j
     have j := GR j
     have H := Gu (btf j) H
     refine FK<|FD<|Ea Z<|FH<|Gg<|?_
     obtain l := GB H
     subst c
     refine ⟨(.inl Z), [(Vi 5)], ⟨(Vi 5), _, Z, Z, Z⟩, ?_⟩
     exact Re0<|Sd<|⟨Z, Z⟩
    ·intro j
     have j := GQ j
     have H := ift j H
     refine F8<|FK<|FD<|Ea Z<|FH<|Gg<|?_
     obtain l := GB H
     subst c
     refine ⟨(.inl Z), [(Vi 0)], ⟨(Vi 0), _, Z, Z, Z⟩, ?_⟩
     exact Re0<|Sd<|⟨Z, Z⟩
theorem UB (p0 : FW) (c e : SV) (a : Int) (H : MC p0 = some a) (K : Kp) (G : List Ent) (r : Slr Ty.i64 K (sv c) p0.capacities) (z : Slr Ty.u64 K (sv e) p0.starts) :
  Fc Tryz.prog 36 #[(.agg (GF p0 c e).toArray)] K (G) (fun v f b => v = (Vi a) ∧ G = b) := by
 refine Gx Tryz.func36 Z Tryz.ntmps36 Tryz.results36 Z ?_
 unfold MC at H
 refine FK<|FD<|?_
 refine FT Z (GX (cs := (GF p0 c e)) Z Z Z (fun g => ?_))
 refine Ea Z<|FH<|FK<|FK<|FD<|EF 0 Z<|El (sv c) Z (Rb0 Z)<|Eq Z (Gt (T := Ty.i64) r Z Z)<|Ec Z<|FH<|?_
 refine F2 Z ?_ ?_
 ·intro q
  obtain ⟨q, H⟩ := It q H
  refine FK<|FD<|Ea Z<|FH<|Gg<|?_
  obtain j := GB H
  subst a
  refine ⟨(.inl Z), [(Vi 3)], ⟨(Vi 3), _, Z, Z, Z⟩, ?_⟩
  exact Re0<|Sd<|⟨Z, Z⟩
 ·intro q
  obtain ⟨q, H⟩ := If q H
  refine F8<|FK<|FK<|FD<|EF 1 Z<|El (sv e) Z (Rb0 Z)<|Eq Z (Gt (T := Ty.u64) z Z Z)<|EF 0 Z<|El (sv c) Z (Rb0 Z)<|Eq Z (Gt (T := Ty.i64) r Z Z)<|Ec Z<|FH<|?_
  refine F2 Z ?_ ?_
  ·intro h
   have h := GL (GR (h))
   have H := Gu h H
   refine FK<|FD<|Ea Z<|FH<|Gg<|?_
   obtain j := GB H
   subst a
   refine ⟨(.inl Z), [(Vi 5)], ⟨(Vi 5), _, Z, Z, Z⟩, ?_⟩
   exact Re0<|Sd<|⟨Z, Z⟩
  ·intro h
   have h := GM (GQ (h))
   have H := ift h H
   refine F8 ?_
   refine Gk (fun d f b => [(1, (Vp g))] = d ∧ (.blk g 30 (GF p0 c e)) :: G = b ∧ MA p0 = some a) ?_ ?_
   ·refine FK<|FD<|EF 0 Z<|El (sv c) Z (Rb0 Z)<|Eq Z (Gt (T := Ty.i64) r Z Z)<|Em Z<|FH<|Gh<|?_
    refine Gv (fun n129 d f b => ∃ (i : Int), [(1, (Vp g)), (19, (sv c)), (20, (Vi (p0.capacities.length : Int))), (21, (Vi i))] = d ∧ K = f ∧ (.blk g 30 (GF p0 c e)) :: G = b ∧ lp1 (MB p0) n129 i = some a) BIG ?_ ?_
    ·exact Sd ⟨_, by exact R4, 0, Z, Z, Z, H⟩
    rintro n129 _ _ _ - ⟨i, rfl, rfl, rfl, H⟩
    obtain ⟨R, N, rfl, L, H⟩ := Iz H
    unfold MB at H
    refine FK<|FD<|Ec Z<|FH<|FK<|?_
    refine F2 Z ?_ ?_
    ·intro l
     obtain ⟨l, H⟩ := It l H
     refine F8<|FK<|Gh<|FK<|FD<|?_
     obtain ⟨C, A, H⟩ := bnd H
     obtain ⟨_, rfl, I⟩ := Slr.at r A
     refine Eq Z (Qi (T := Ty.i64) r A Z)<|El (Vi C) Z (Rdc.k I Z)<|Ea Z<|FH<|?_
     refine Gk (fun d f b => ∃ (x : Bool), [(1, (Vp g)), (19, (sv c)), (20, (Vi (p0.capacities.length : Int))), (21, (Vi i)), (30, (.bool x))] = d ∧ K = f ∧ (.blk g 30 (GF p0 c e)) :: G = b ∧ ON p0 i N x = some a) ?_ ?_
     ·refine FD<|Em Z<|Ec Z<|Em Z<|?_
      refine Ee Z ?_ ?_
      ·intro m
       obtain ⟨m, H⟩ := It m H
       exact Ez Z<|Ez Z<|Et Z<|FH<|Sd<|⟨_, by exact R5, true, Z, Z, Z, H⟩
      ·intro m
       obtain ⟨m, H⟩ := If m H
       exact Vm Z<|Vc Z<|Ef Z<|FH<|Sd<|⟨_, by exact R5, (dcd (C > 16)), Z, Z, Z, H⟩
     rintro _ _ _ - ⟨x, rfl, rfl, rfl, H⟩
     unfold ON at H
     refine F2 Z ?_ ?_
     ·intro t
      have H := ift t H
      refine FK<|FD<|Ea Z<|FH<|Gg<|?_
      obtain j := GB H
      subst a
      refine ⟨(.inl Z), [(Vi 2)], ⟨(Vi 2), _, Z, Z, Z⟩, ?_⟩
      exact Re0<|Sd<|⟨Z, Z⟩
     ·intro t
      have H := Gu (btf t) H
      exact F8<|FD<|Er (wI (i + 1)) Z<|Em Z<|FH<|Sd<|⟨_, by exact R4, _, Nat.lt_succ_self _, (wI (i + 1)), Z, Z, Z, (L ▸ H)⟩
    ·intro l
     obtain ⟨l, H⟩ := If l H
     exact Gy<|Sd<|⟨_, by exact R1, Z, Z, H⟩
   rintro _ D _ F ⟨rfl, rfl, H⟩
   unfold MA at H
   refine Gk (fun d f b => [(1, (Vp g))] = d ∧ (.blk g 30 (GF p0 c e)) :: G = b ∧ Md p0 = some a) ?_ ?_
   ·refine FK<|FD<|EF 1 Z<|El (sv e) Z (Rb0 Z)<|?_
    have w := z.mono F
    refine Eq Z (Gt (T := Ty.u64) w Z Z)<|Em Z<|FH<|Gh<|?_
    refine Gv (fun n200 d f b => ∃ (s : Int), [(1, (Vp g)), (33, (sv e)), (34, (Vi (p0.starts.length : Int))), (35, (Vi s))] = d ∧ D = f ∧ (.blk g 30 (GF p0 c e)) :: G = b ∧ lp1 (Me p0) n200 s = some a) BIG ?_ ?_
    ·exact Sd ⟨_, by exact R4, 0, Z, Z, Z, H⟩
    rintro n200 _ _ _ - ⟨s, rfl, rfl, rfl, H⟩
    obtain ⟨S, Q, rfl, M, H⟩ := Iz H
    unfold Me at H
    refine FK<|FD<|Ec Z<|FH<|FK<|?_
    refine F2 Z ?_ ?_
    ·intro n
     obtain ⟨n, H⟩ := It n H
     refine F8<|FK<|Gh<|FK<|FD<|?_
     obtain ⟨O, B, H⟩ := bnd H
     obtain ⟨_, rfl, J⟩ := Slr.at w B
     refine Eq Z (Qi (T := Ty.u64) w B Z)<|El (.int .u64 O) Z (Rdc.k J Z)<|Ea Z<|FH<|FK<|FD<|Em Z<|Ec Z<|FH<|?_
     refine F2 Z ?_ ?_
     ·intro o
      obtain ⟨o, H⟩ := It o H
      refine FK<|FD<|Ea Z<|FH<|Gg<|?_
      obtain j := GB H
      subst a
      refine ⟨(.inl Z), [(Vi 2)], ⟨(Vi 2), _, Z, Z, Z⟩, ?_⟩
      exact Re0<|Sd<|⟨Z, Z⟩
     ·intro o
      obtain ⟨o, H⟩ := If o H
      exact F8<|FD<|Er (wI (s + 1)) Z<|Em Z<|FH<|Sd<|⟨_, by exact R4, _, Nat.lt_succ_self _, (wI (s + 1)), Z, Z, Z, (M ▸ H)⟩
    ·intro n
     obtain ⟨n, H⟩ := If n H
     exact Gy<|Sd<|⟨_, by exact R1, Z, Z, H⟩
   rintro _ E _ P ⟨rfl, rfl, H⟩
   unfold Md at H
   refine FK ?_
   refine Gk (fun d f b => ∃ (y : Bool), [(49, (.bool y))] = d ∧ E = f ∧ G = b ∧ Mc y = some a) ?_ ?_
   ·refine FD<|EF 2 Z<|El (Vi p0.threads) Z (Rb0 Z)<|Ec Z<|Em Z<|?_
    refine Ee Z ?_ ?_
    ·intro p
     obtain ⟨p, H⟩ := It p H
     exact Ez Z<|Ez Z<|Ez Z<|Et Z<|FH<|Re0<|Sd<|⟨_, by exact R1, true, Z, Z, Z, H⟩
    ·intro p
     obtain ⟨p, H⟩ := If p H
     exact VF 2 Z<|Vl (Vi p0.threads) Z (Rb0 Z)<|Vc Z<|Ef Z<|FH<|Re0<|Sd<|⟨_, by exact R1, (dcd (p0.threads > 8)), Z, Z, Z, H⟩
   rintro _ _ _ - ⟨y, rfl, rfl, rfl, H⟩
   unfold Mc at H
   refine F2 Z ?_ ?_
   ·intro u
    have H := ift u H
    refine FK<|FD<|Ea Z<|FH<|Gg<|?_
    obtain j := GB H
    subst a
    refine ⟨(.inl Z), [(Vi 2)], ⟨(Vi 2), _, Z, Z, Z⟩, ?_⟩
    exact Sd ⟨Z, Z⟩
   ·intro u
    have H := Gu (btf u) H
    refine F8<|FK<|FD<|Ea Z<|FH<|Gg<|?_
    obtain j := GB H
    subst a
    refine ⟨(.inl Z), [(Vi 0)], ⟨(Vi 0), _, Z, Z, Z⟩, ?_⟩
    exact Sd ⟨Z, Z⟩
theorem LQ (g : Nat) (p0 : FR) (a : SV) (e : ByteArray) (d : ad7) (f : Bool) (H : J4 p0 = some (e, d, f)) (K : Kp) (G : List Ent) (b : Slr Ty.str K (sv a) p0.words) :
  Fc Tryz.prog 53 #[(Vp g)] K ((.blk g 90 (F9 p0 a)) :: G) (fun v h m => ∃ (l : SV), v = (.string e) ∧ K = h ∧ (.blk g 90 (F9 (FR.mk d f) l)) :: G = m ∧ Slr Ty.str h (sv l) d) := by
 refine Gx Tryz.func53 Z Tryz.ntmps53 Tryz.results53 Z ?_
 unfold J4 at H
 refine FK<|FD<|Ea Z<|FH<|FK<|FK<|FD<|Em Z<|Eq Z (FN Z)<|EF 0 Z<|El (sv a) Z (Rb0 Z)<|Eq Z (Gt (T := Ty.str) b Z Z)<|Ec Z<|FH<|?_
 refine F2 Z ?_ ?_
 ·intro c
  obtain ⟨c, H⟩ := It c H
  refine FK<|FD<|Em Z<|Eq Z (FN Z)<|EF 1 Z<|?_
  refine FT Z (So [(.bool true)] (F9 (FR.mk p0.words true) a) Z .here Z ?_)
  refine FH<|FK<|FD<|Ea Z<|FH<|Gg<|?_
  obtain ⟨n, p, o⟩ := IZ H
  subst e d f
  refine ⟨(.inl Z), [(.string (⟨#[]⟩ : ByteArray))], ⟨(.string (⟨#[]⟩ : ByteArray)), _, Z, Z, Z⟩, ?_⟩
  exact Sd ⟨a, Z, Z, Z, b⟩
 ·intro c
  obtain ⟨c, H⟩ := If c H
  refine F8<|FK<|FD<|Em Z<|Eq Z (FN Z)<|EF 0 Z<|El (sv a) Z (Rb0 Z)<|?_
  obtain ⟨x12, i, H⟩ := bnd H
  obtain ⟨_, rfl, q⟩ := Slr.at b i
  refine Eq Z (Qi (T := Ty.str) b i Z)<|El (.string x12) Z (Rdc.k q Z)<|Ea Z<|FH<|FK<|FD<|Em Z<|Em Z<|Eq Z (FN Z)<|EF 0 Z<|El (sv a) Z (Rb0 Z)<|?_
  obtain ⟨x17, j, H⟩ := bnd H
  have r := Slr.cutL b j
  refine Eq Z (Ut (T := Ty.str) b j Z Z Z Z Z)<|Eq Z (FN Z)<|EF 0 Z<|?_
  refine FT Z (So [(sv (N4 a 1 ((1 : Int).toNat) p0.words.length))] (F9 (FR.mk x17 p0.bad) (N4 a 1 ((1 : Int).toNat) p0.words.length)) Z .here Z ?_)
  refine FH<|FK<|FD<|Em Z<|Ea Z<|FH<|Gg<|?_
  obtain ⟨n, p, o⟩ := IZ H
  subst e d f
  refine ⟨(.inl Z), [(.string x12)], ⟨(.string x12), _, Z, Z, Z⟩, ?_⟩
  exact Sd ⟨(N4 a 1 ((1 : Int).toNat) p0.words.length), Z, Z, Z, r⟩
theorem Kv (d : Nat) (p0 : FR) (a : SV) (p1 : ByteArray) (f : Bool) (c : ad7) (H : J5 p0 p1 = some (f, c)) (K : Kp) (G : List Ent) (b : Slr Ty.str K (sv a) p0.words) :
  Fc Tryz.prog 79 #[(Vp d), (.string p1)] K ((.blk d 90 (F9 p0 a)) :: G) (fun v g h => ∃ (n : SV), v = (.bool f) ∧ K = g ∧ (.blk d 90 (F9 (FR.mk c p0.bad) n)) :: G = h ∧ Slr Ty.str g (sv n) c) := by
 refine Gx Tryz.func79 Z Tryz.ntmps79 Tryz.results79 Z ?_
 unfold J5 at H
 refine FK<|FD<|Ea Z<|FH<|FK<|?_
 refine Gk (fun p g h => ∃ (j : Bool), [(0, (Vp d)), (20, (.bool j))] = p ∧ K = g ∧ (.blk d 90 (F9 p0 a)) :: G = h ∧ LZ p0 j = some (f, c)) ?_ ?_
 ·refine FD<|Em Z<|Eq Z (FN Z)<|EF 0 Z<|El (sv a) Z (Rb0 Z)<|Eq Z (Gt (T := Ty.str) b Z Z)<|Ec Z<|Em Z<|?_
  refine Ee Z ?_ ?_
  ·intro e
   obtain ⟨e, H⟩ := It e H
   exact Ez Z<|Ez Z<|Ez Z<|Ez Z<|Ez Z<|Ez Z<|Ez Z<|Ez Z<|Et Z<|FH<|Sd<|⟨_, by exact R2, true, Z, Z, Z, H⟩
  ·intro e
   obtain ⟨e, H⟩ := If e H
   refine Vm Z<|Vq Z (FN Z)<|VF 0 Z<|Vl (sv a) Z (Rb0 Z)<|?_
   obtain ⟨o, l, H⟩ := bnd H
   obtain ⟨_, rfl, s⟩ := Slr.at b l
   exact Vq Z (Qi (T := Ty.str) b l Z)<|Vl (.string o) Z (Rdc.k s Z)<|Vm Z<|Vq Z (HG Z Z)<|Ef Z<|FH<|Sd<|⟨_, by exact R2, (!(dcd (o = p1))), Z, Z, Z, H⟩
 rintro _ _ _ - ⟨j, rfl, rfl, rfl, H⟩
 unfold LZ at H
 refine F2 Z ?_ ?_
 ·intro i
  have H := ift i H
  refine FK<|FD<|Ea Z<|FH<|Gg<|?_
  obtain ⟨q, r⟩ := K8 H
  subst f c
  refine ⟨(.inl Z), [(.bool false)], ⟨(.bool false), _, Z, Z, Z⟩, ?_⟩
  exact Sd ⟨a, Z, Z, Z, b⟩
 ·intro i
  have H := Gu (btf i) H
  refine F8<|FK<|FD<|Em Z<|Em Z<|Eq Z (FN Z)<|EF 0 Z<|El (sv a) Z (Rb0 Z)<|?_
  obtain ⟨u, m, H⟩ := bnd H
  have t := Slr.cutL b m
  refine Eq Z (Ut (T := Ty.str) b m Z Z Z Z Z)<|Eq Z (FN Z)<|EF 0 Z<|?_
  refine FT Z (So [(sv (N4 a 1 ((1 : Int).toNat) p0.words.length))] (F9 (FR.mk u p0.bad) (N4 a 1 ((1 : Int).toNat) p0.words.length)) Z .here Z ?_)
  refine FH<|FK<|FD<|Ea Z<|FH<|Gg<|?_
  obtain ⟨q, r⟩ := K8 H
  subst f c
  refine ⟨(.inl Z), [(.bool true)], ⟨(.bool true), _, Z, Z, Z⟩, ?_⟩
  exact Sd ⟨(N4 a 1 ((1 : Int).toNat) p0.words.length), Z, Z, Z, t⟩
end Go.Hx
