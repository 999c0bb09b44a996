
import Derived.Test.YtcopfjjpiobclaaGreatDoorXSM
set_option linter.unusedVariables false
set_option linter.unusedSimpArgs false
namespace Go.Hx
open Go Go.Proofs
set_option maxRecDepth 10000
set_option maxHeartbeats 1000000
theorem akL (p0 : ByteArray) (h : ae8) (H : L9 p0 = some h) (K : Kp) (G : List Ent)  :
  Fc Tryz.prog 56 #[(.string p0)] K (G) (fun v d c => ∃ (s : SV), v = (sv s) ∧ (.tok 9 1 [(sv s)]) :: G = c ∧ Slr Ty.str d (sv s) h) := by
 refine Ey Tryz.func56 Z Tryz.ntmps56 Tryz.results56 Z ?_
 unfold L9 at H
 refine DF<|Dz<|Ea Z<|DC<|DF<|Dz<|Ea Z<|DC<|DF<|Dz<|Ea Z<|DC<|?_
 refine Ei (fun i d c => ∃ (e : SV) (p : ae8), [(3, (sv e))] = i ∧ (.tok 9 1 [(sv e)]) :: G = c ∧ afW p = some h ∧ Slr Ty.str d (sv e) p) ?_ ?_
 ·refine DF<|Dz<|Ea Z<|DC<|D8<|?_
  refine EB (fun n147 i d c => ∃ (b : SV) (g : ae8) (f a : Int), [(0, (.string p0)), (3, (sv b)), (4, (Vi f)), (5, (Vi a))] = i ∧ (.tok 9 1 [(sv b)]) :: G = c ∧ lp3 (Iu p0) n147 g f a = some h ∧ Slr Ty.str d (sv b) g) BIG ?_ ?_
  ·exact Shift.nilTok1 9 1<|Sd<|⟨_, by exact R4, DW, ([] : ae8), 0, 0, Z, Z, H, (Slr.nil Ty.str _)⟩
  rintro n147 _ t _ M ⟨b, g, f, a, rfl, rfl, H, o⟩
  obtain ⟨P, C, rfl, w, H⟩ := amk H
  unfold Iu at H
  refine DF<|DF<|Dz<|Em Z<|Em Z<|Eq Z (FC Z Z)<|Ec Z<|DC<|?_
  refine DX Z ?_ ?_
  ·intro j
   obtain ⟨j, H⟩ := It j H
   refine D1<|DF<|D8<|?_
   refine Ei (fun i d c => ∃ (r : Bool), [(0, (.string p0)), (3, (sv b)), (4, (Vi f)), (5, (Vi a)), (21, (.bool r))] = i ∧ t = d ∧ (.tok 9 1 [(sv b)]) :: G = c ∧ afc p0 g f a C r = some h) ?_ ?_
   ·refine Dz<|Em Z<|Em Z<|Eq Z (FC Z Z)<|Ec Z<|Em Z<|?_
    refine Ee Z ?_ ?_
    ·intro k
     obtain ⟨k, H⟩ := It k H
     exact Ez Z<|Ez Z<|Ez Z<|Ez Z<|Et Z<|DC<|Sd<|⟨_, by exact R5, true, Z, Z, Z, H⟩
    ·intro k
     obtain ⟨k, H⟩ := If k H
     refine Vm Z<|Vm Z<|?_
     obtain ⟨E, z, H⟩ := bnd H
     exact Vq Z (KW z Z Z Z)<|Vc Z<|Ef Z<|DC<|Sd<|⟨_, by exact R5, (dcd (E = 32)), Z, Z, Z, H⟩
   rintro _ _ _ - ⟨r, rfl, rfl, rfl, H⟩
   unfold afc at H
   refine DX Z ?_ ?_
   ·intro n
    have H := ift n H
    refine DF<|Dz<|Em Z<|Em Z<|Em Z<|Em Z<|?_
    obtain ⟨m, A, H⟩ := bnd H
    refine Eq Z (akr A Z Z Z Z) ?_
    have u : RowR Ty.str t [[(.string m)]] [m] := RowR.cons Z (RowR.nil)
    refine DN Z (Es (T := Ty.str) (rows := [[(.string m)]]) (l := [m]) Z Z Z u Z Z Z Z Z Z Z Z (fun Q => ?_))
    obtain ⟨F, B, H⟩ := bnd H
    refine DN Z (D3 (T := Ty.str) (bytes := 16) (q := 0) Z Z Z o Mb1 Z (SrcT.row Mb0 u Z) B Z Z Z Z Z Z Z Z (fun D I N y => ⟨_, (.there .here), ?_⟩))
    refine Ow.shift (Re0 (Sd ?_))
    exact Ea Z<|DC<|Dz<|Em Z<|Er (wI (a + 1)) Z<|Ea Z<|DC<|Dz<|Em Z<|Er (wI (a + 1)) Z<|Ea Z<|DC<|Sd<|⟨_, by exact R4, _, Nat.lt_succ_self _, D, F, (wI (a + 1)), (wI (a + 1)), Z, Z, (w ▸ H), y⟩
   ·intro n
    have H := ED (btf n) H
    exact D1<|Dz<|Em Z<|Er (wI (a + 1)) Z<|Ea Z<|DC<|Sd<|⟨_, by exact R4, _, Nat.lt_succ_self _, b, g, f, (wI (a + 1)), Z, Z, (w ▸ H), o⟩
  ·intro j
   obtain ⟨j, H⟩ := If j H
   exact EE<|Sd<|⟨_, by exact R1, b, g, Z, Z, H, o⟩
 rintro _ J _ O ⟨e, p, rfl, rfl, H, x⟩
 unfold afW at H
 refine DF<|Dz<|Em Z<|Ea Z<|DC<|D7<|?_
 obtain L := EJ H
 subst h
 refine ⟨(.inl Z), [(sv e)], ⟨(sv e), _, Z, Z, Z⟩, ?_⟩
 exact Sd ⟨e, Z, Z, x⟩
theorem Gp (c : Nat) (p0 : DL) (a : SV) (p1 : ByteArray) (e : Bool) (f : Int) (H : Hk p0 p1 = some (e, f)) (K : Kp) (G : List Ent) (g : Slr Ty.str K (sv a) p0.l) :
  Fc Tryz.prog 57 #[(Vp c), (.string p1)] K ((.blk c 97 (D6 p0 a)) :: G) (fun v i h => v = (.bool e) ∧ K = i ∧ (.blk c 97 (D6 (DL.mk p0.l f p0.bad) a)) :: G = h) := by
 refine Ey Tryz.func57 Z Tryz.ntmps57 Tryz.results57 Z ?_
 unfold Hk at H
 refine DF<|Dz<|Ea Z<|DC<|DF<|?_
 refine Ei (fun q i h => ∃ (m : Bool), [(0, (Vp c)), (28, (.bool m))] = q ∧ K = i ∧ (.blk c 97 (D6 p0 a)) :: G = h ∧ Mc p0 m = some (e, f)) ?_ ?_
 ·rcases GT (dcd (p0.at_ < (p0.l.length : Int))) with n | n <;> revert n
  ·intro b
   obtain ⟨b, H⟩ := It b H
   obtain ⟨p, o, H⟩ := bnd H
   refine En _ Z (Ic Mb0 In0)<|Jm 0 Z<|Jq 1 Z (DK Z)<|JF 2 1 Z<|Jl 3 (Vi p0.at_) Z (Rb0 Z)<|Jm 4 Z<|Jq 5 Z (DK Z)<|JF 6 0 Z<|Jl 7 (sv a) Z (Rb0 Z)<|Jq 8 Z (EA (T := Ty.str) g Z Z)<|Jc 9 Z<|Jm 10 Z<|Aw.known (d := 15) Z (Gi b)<|Bm 11 Z<|Bq 12 Z (DK Z)<|BF 13 0 Z<|Bl 14 (sv a) Z (Rb0 Z)<|Bm 15 Z<|Bq 16 Z (DK Z)<|BF 17 1 Z<|Bl 18 (Vi p0.at_) Z (Rb0 Z)<|?_
   obtain ⟨_, rfl, t⟩ := Slr.at g o
   exact Bq 19 Z (Qi (T := Ty.str) g o Z)<|Bl 20 (.string p) Z (Rdc.k t Z)<|Bm 21 Z<|Bq 22 Z (He Z Z)<|Jt 23 Z<|Ad<|Sd<|⟨_, by exact R2, (dcd (p = p1)), Z, Z, Z, H⟩
  ·intro b
   obtain ⟨b, H⟩ := If b H
   refine En _ Z (Ic Mb0 In0)<|Jm 0 Z<|Jq 1 Z (DK Z)<|JF 2 1 Z<|Jl 3 (Vi p0.at_) Z (Rb0 Z)<|Jm 4 Z<|Jq 5 Z (DK Z)<|JF 6 0 Z<|Jl 7 (sv a) Z (Rb0 Z)<|Jq 8 Z (EA (T := Ty.str) g Z Z)<|Jc 9 Z<|Jm 10 Z<|Aw.known (d := 15) Z (GU b)<|Jz 11 Z<|Jz 12 Z<|Jz 13 Z<|Jz 14 Z<|Jz 15 Z<|Jz 16 Z<|Jz 17 Z<|Jz 18 Z<|Jz 19 Z<|?_
   exact Jz 20 Z<|Jz 21 Z<|Jz 22 Z<|Jf 23 Z<|Ad<|Sd<|⟨_, by exact R2, false, Z, Z, Z, H⟩
 rintro _ _ _ - ⟨m, rfl, rfl, rfl, H⟩
 unfold Mc at H
 refine DX Z ?_ ?_
 ·intro j
  have H := ift j H
  refine DF<|Dz<|Em Z<|Eq Z (DK Z)<|EF 1 Z<|El (Vi p0.at_) Z (Rb0 Z)<|Er (wI (p0.at_ + 1)) Z<|Eq Z (DK Z)<|EF 1 Z<|?_
  refine DN Z (So [(Vi (wI (p0.at_ + 1)))] (D6 (DL.mk p0.l (wI (p0.at_ + 1)) p0.bad) a) Z .here Z ?_)
  refine DC<|DF<|Dz<|Ea Z<|DC<|D7<|?_
  obtain ⟨r, s⟩ := HI H
  subst e f
  refine ⟨(.inl Z), [(.bool true)], ⟨(.bool true), _, Z, Z, Z⟩, ?_⟩
  exact Sd ⟨Z, Z, Z⟩
 ·intro j
  have H := ED (btf j) H
  refine D1<|DF<|Dz<|Ea Z<|DC<|D7<|?_
  obtain ⟨r, s⟩ := HI H
  subst e f
  refine ⟨(.inl Z), [(.bool false)], ⟨(.bool false), _, Z, Z, Z⟩, ?_⟩
  exact Sd ⟨Z, Z, Z⟩
theorem Je (b : Nat) (p0 : DL) (a : SV) (e f : Int) (g : Bool) (H : HQ p0 = some (e, f, g)) (K : Kp) (G : List Ent) (C : Slr Ty.str K (sv a) p0.l) :
  Fc Tryz.prog 59 #[(Vp b)] K ((.blk b 97 (D6 p0 a)) :: G) (fun v n h => v = (.int .u64 e) ∧ (.blk b 97 (D6 (DL.mk p0.l f g) a)) :: G = h) := by
 refine Ey Tryz.func59 Z Tryz.ntmps59 Tryz.results59 Z ?_
 unfold HQ at H
 refine DF<|Dz<|Ea Z<|DC<|DF<|DF<|En _ Z (Ic Mb0 In0)<|Jm 0 Z<|Jq 1 Z (DK Z)<|JF 2 1 Z<|Jl 3 (Vi p0.at_) Z (Rb0 Z)<|Jm 4 Z<|Jq 5 Z (DK Z)<|JF 6 0 Z<|Jl 7 (sv a) Z (Rb0 Z)<|Jq 8 Z (EA (T := Ty.str) C Z Z)<|Jc 9 Z<|Ad<|?_
 refine DX Z ?_ ?_
 ·intro w
  obtain ⟨w, H⟩ := It w H
  refine DF<|Dz<|Em Z<|Eq Z (DK Z)<|EF 2 Z<|?_
  refine DN Z (So [(.bool true)] (D6 (DL.mk p0.l p0.at_ true) a) Z .here Z ?_)
  refine DC<|DF<|Dz<|Ea Z<|DC<|D7<|?_
  obtain ⟨x, y, z⟩ := Gn H
  subst e f g
  refine ⟨(.inl Z), [(.int .u64 0)], ⟨(.int .u64 0), _, Z, Z, Z⟩, ?_⟩
  exact Sd ⟨Z, Z⟩
 ·intro w
  obtain ⟨w, H⟩ := If w H
  refine D1<|DF<|?_
  obtain ⟨m, F, H⟩ := bnd H
  refine En _ Z (Ic Mb0 In0)<|Jm 0 Z<|Jq 1 Z (DK Z)<|JF 2 0 Z<|Jl 3 (sv a) Z (Rb0 Z)<|Jm 4 Z<|Jq 5 Z (DK Z)<|JF 6 1 Z<|Jl 7 (Vi p0.at_) Z (Rb0 Z)<|?_
  obtain ⟨_, rfl, J⟩ := Slr.at C F
  refine Jq 8 Z (Qi (T := Ty.str) C F Z)<|Jl 9 (.string m) Z (Rdc.k J Z)<|Ja 10 Z<|Ad<|DF<|Dz<|Em Z<|Eq Z (DK Z)<|EF 1 Z<|El (Vi p0.at_) Z (Rb0 Z)<|Er (wI (p0.at_ + 1)) Z<|Eq Z (DK Z)<|EF 1 Z<|?_
  refine DN Z (So [(Vi (wI (p0.at_ + 1)))] (D6 (DL.mk p0.l (wI (p0.at_ + 1)) p0.bad) a) Z .here Z ?_)
  refine DC<|DF<|Dz<|Ea Z<|DC<|?_
  refine Ei (fun o n h => ∃ (i : Int), [(0, (Vp b)), (3, (.string m)), (4, (.int .u64 i))] = o ∧ (.blk b 97 (D6 (DL.mk p0.l (wI (p0.at_ + 1)) p0.bad) a)) :: G = h ∧ Md m p0 i = some (e, f, g)) ?_ ?_
  ·refine DF<|Dz<|Ea Z<|DC<|D8<|?_
   refine EB (fun n120 o n h => ∃ (d p : Int), [(0, (Vp b)), (3, (.string m)), (4, (.int .u64 d)), (5, (Vi p))] = o ∧ K = n ∧ (.blk b 97 (D6 (DL.mk p0.l (wI (p0.at_ + 1)) p0.bad) a)) :: G = h ∧ lp2 (Zl m p0) n120 d p = some (e, f, g)) BIG ?_ ?_
   ·exact Sd ⟨_, by exact R4, 0, 0, Z, Z, Z, H⟩
   rintro n120 _ _ _ - ⟨d, p, rfl, rfl, rfl, H⟩
   obtain ⟨S, Q, rfl, L, H⟩ := Kw H
   unfold Zl at H
   refine DF<|DF<|Dz<|Em Z<|Em Z<|Eq Z (FC Z Z)<|Ec Z<|DC<|?_
   refine DX Z ?_ ?_
   ·intro q
    obtain ⟨q, H⟩ := It q H
    refine D1<|DF<|D8<|DF<|Dz<|Em Z<|Em Z<|?_
    obtain ⟨j, M, H⟩ := bnd H
    refine Eq Z (KW M Z Z Z)<|Eq Z (GZ (c := wU j) Z Z Z Z)<|Er (wU ((wU j) - 48)) Z<|Ea Z<|DC<|DF<|?_
    refine Ei (fun o n h => ∃ (D : Bool), [(0, (Vp b)), (3, (.string m)), (4, (.int .u64 d)), (5, (Vi p)), (6, (.int .u64 (wU ((wU j) - 48)))), (64, (.bool D))] = o ∧ K = n ∧ (.blk b 97 (D6 (DL.mk p0.l (wI (p0.at_ + 1)) p0.bad) a)) :: G = h ∧ KL m d p j p0 Q D = some (e, f, g)) ?_ ?_
    ·refine Dz<|Em Z<|Em Z<|?_
     obtain ⟨U, N, H⟩ := bnd H
     refine Eq Z (KW N Z Z Z)<|Ec Z<|Em Z<|?_
     refine Ee Z ?_ ?_
     ·intro r
      obtain ⟨r, H⟩ := It r H
      exact Ez Z<|Ez Z<|Ez Z<|Ez Z<|Et Z<|Em Z<|Ez Z<|Ez Z<|Ez Z<|Ez Z<|Ez Z<|Et Z<|DC<|Sd<|⟨_, by exact R6, true, Z, Z, Z, H⟩
     ·intro r
      obtain ⟨r, H⟩ := If r H
      refine Vm Z<|Vm Z<|?_
      obtain ⟨V, O, H⟩ := bnd H
      refine Vq Z (KW O Z Z Z)<|Vc Z<|Ef Z<|Em Z<|?_
      refine Ee Z ?_ ?_
      ·intro s
       obtain ⟨s, H⟩ := It s H
       exact Ez Z<|Ez Z<|Ez Z<|Ez Z<|Ez Z<|Et Z<|DC<|Sd<|⟨_, by exact R6, true, Z, Z, Z, H⟩
      ·intro s
       obtain ⟨s, H⟩ := If s H
       exact Vm Z<|Vm Z<|Vr (wU (18446744073709551615 - (wU ((wU j) - 48)))) Z<|Vq Z (agD Z Z (by decide))<|Vc Z<|Ef Z<|DC<|Sd<|⟨_, by exact R6, (dcd (d > (wU (Int.tdiv (wU (18446744073709551615 - (wU ((wU j) - 48)))) 10)))), Z, Z, Z, H⟩
    rintro _ _ _ - ⟨D, rfl, rfl, rfl, H⟩
    unfold KL at H
    refine DX Z ?_ ?_
    ·intro A
     have H := ift A H
     refine DF<|Dz<|Em Z<|Eq Z (DK Z)<|EF 2 Z<|?_
     refine DN Z (So [(.bool true)] (D6 (DL.mk p0.l (wI (p0.at_ + 1)) true) a) Z .here Z ?_)
     refine DC<|DF<|Dz<|Ea Z<|DC<|D7<|?_
     obtain ⟨x, y, z⟩ := Gn H
     subst e f g
     refine ⟨(.inl Z), [(.int .u64 0)], ⟨(.int .u64 0), _, Z, Z, Z⟩, ?_⟩
     exact Sd ⟨Z, Z⟩
    ·intro A
     have H := ED (btf A) H
     exact D1<|Dz<|Em Z<|Er (wU (10 * d)) Z<|Em Z<|Er (wU ((wU (10 * d)) + (wU ((wU j) - 48)))) Z<|Ea Z<|DC<|Dz<|Em Z<|Er (wI (p + 1)) Z<|Ea Z<|DC<|Sd<|⟨_, by exact R4, _, Nat.lt_succ_self _, (wU ((wU (10 * d)) + (wU ((wU j) - 48)))), (wI (p + 1)), Z, Z, Z, (L ▸ H)⟩
   ·intro q
    obtain ⟨q, H⟩ := If q H
    exact EE<|Sd<|⟨_, by exact R3, d, Z, Z, H⟩
  rintro _ I _ R ⟨i, rfl, rfl, H⟩
  unfold Md at H
  refine DF ?_
  refine Ei (fun o n h => ∃ (E : Bool), [(0, (Vp b)), (4, (.int .u64 i)), (82, (.bool E))] = o ∧ I = n ∧ (.blk b 97 (D6 (DL.mk p0.l (wI (p0.at_ + 1)) p0.bad) a)) :: G = h ∧ NA i p0 E = some (e, f, g)) ?_ ?_
  ·refine Dz<|Em Z<|Eq Z (He Z Z)<|Em Z<|?_
   refine Ee Z ?_ ?_
   ·intro t
    obtain ⟨t, H⟩ := It t H
    exact Ez Z<|Ez Z<|Ez Z<|Ez Z<|Fo Z Z Z Z rfl<|Fo Z Z Z Z rfl<|Ez Z<|Et Z<|DC<|Sd<|⟨_, by exact R3, true, Z, Z, Z, H⟩
   ·intro t
    obtain ⟨t, H⟩ := If t H
    refine Vm Z ?_
    obtain ⟨W, P, H⟩ := bnd H
    refine Vq Z (KW P Z Z Z)<|Vc Z<|Vm Z<|?_
    refine Ee Z ?_ ?_
    ·intro u
     obtain ⟨u, H⟩ := It u H
     exact Vm Z<|Vq Z (Ge Z Z)<|Vt Z<|Ef Z<|DC<|Sd<|⟨_, by exact R3, (!(dcd (m = (⟨#[48]⟩ : ByteArray)))), Z, Z, Z, H⟩
    ·intro u
     obtain ⟨u, H⟩ := If u H
     exact Ez Z<|Ez Z<|Vf Z<|Ef Z<|DC<|Sd<|⟨_, by exact R3, false, Z, Z, Z, H⟩
  rintro _ _ _ - ⟨E, rfl, rfl, rfl, H⟩
  unfold NA at H
  refine DX Z ?_ ?_
  ·intro B
   have H := ift B H
   refine Dz<|Em Z<|Eq Z (DK Z)<|EF 2 Z<|?_
   refine DN Z (So [(.bool true)] (D6 (DL.mk p0.l (wI (p0.at_ + 1)) true) a) Z .here Z ?_)
   refine DC<|DF<|Dz<|Em Z<|Ea Z<|DC<|D7<|?_
   obtain ⟨x, y, z⟩ := Gn H
   subst e f g
   refine ⟨(.inl Z), [(.int .u64 i)], ⟨(.int .u64 i), _, Z, Z, Z⟩, ?_⟩
   exact Sd ⟨Z, Z⟩
  ·intro B
   have H := ED (btf B) H
   refine D1<|DF<|Dz<|Em Z<|Ea Z<|DC<|D7<|?_
   obtain ⟨x, y, z⟩ := Gn H
   subst e f g
   refine ⟨(.inl Z), [(.int .u64 i)], ⟨(.int .u64 i), _, Z, Z, Z⟩, ?_⟩
   exact Sd ⟨Z, Z⟩
theorem Gw (p : Nat) (p0 : DL) (n : SV) (x : Int) (u : ae8) (y : Int) (z : Bool) (H : HU p0 = some (x, u, y, z)) (K : Kp) (G : List Ent) (m : Slr Ty.str K (sv n) p0.l) :
  Fc Tryz.prog 58 #[(Vp p)] K ((.blk p 97 (D6 p0 n)) :: G) (fun v F E => ∃ (bM : SV), v = (Vi x) ∧ (.blk p 97 (D6 (DL.mk u y z) bM)) :: G = E ∧ Slr Ty.str F (sv bM) u) := by
 refine Ey Tryz.func58 Z Tryz.ntmps58 Tryz.results58 Z ?_
 unfold HU at H
 refine DF<|Dz<|Ea Z<|DC<|DF<|Dz<|Ea Z<|DC<|?_
 refine Ei (fun N F E => ∃ (bg : Bool) (s : SV) (D : ae8), [(0, (Vp p)), (3, (.bool bg))] = N ∧ (.blk p 97 (D6 (DL.mk D p0.at_ p0.bad) s)) :: G = E ∧ I2 p0 bg D = some (x, u, y, z) ∧ Slr Ty.str F (sv s) D) ?_ ?_
 ·refine Ei (fun N F E => ∃ (bf : Bool), [(0, (Vp p)), (3, (.bool false)), (55, (.bool bf))] = N ∧ K = F ∧ (.blk p 97 (D6 p0 n)) :: G = E ∧ Iw p0 bf = some (x, u, y, z)) ?_ ?_
  ·rcases GT (dcd (p0.at_ < (p0.l.length : Int))) with r | r <;> revert r
   ·intro o
    obtain ⟨o, H⟩ := It o H
    obtain ⟨M, C, H⟩ := bnd H
    rcases GT (dcd ((M.size : Int) > 1)) with r | r <;> revert r
    ·intro q
     obtain ⟨q, H⟩ := It q H
     obtain ⟨bN, L, H⟩ := bnd H
     obtain ⟨fA, bK, H⟩ := bnd H
     rcases GT (dcd (fA = 45)) with r | r <;> revert r
     ·intro w
      obtain ⟨w, H⟩ := It w H
      obtain ⟨bO, bL, H⟩ := bnd H
      refine En _ Z (Ic Mb0 In0)<|Jm 0 Z<|Jq 1 Z (DK Z)<|JF 2 1 Z<|Jl 3 (Vi p0.at_) Z (Rb0 Z)<|Jm 4 Z<|Jq 5 Z (DK Z)<|JF 6 0 Z<|Jl 7 (sv n) Z (Rb0 Z)<|Jq 8 Z (EA (T := Ty.str) m Z Z)<|Jc 9 Z<|Jm 10 Z<|Aw.known (d := 15) Z (Gi o)<|Bm 11 Z<|Bq 12 Z (DK Z)<|BF 13 0 Z<|Bl 14 (sv n) Z (Rb0 Z)<|Bm 15 Z<|Bq 16 Z (DK Z)<|BF 17 1 Z<|Bl 18 (Vi p0.at_) Z (Rb0 Z)<|?_
      obtain ⟨_, rfl, cP⟩ := Slr.at m C
      refine Bq 19 Z (Qi (T := Ty.str) m C Z)<|Bl 20 (.string M) Z (Rdc.k cP Z)<|Bq 21 Z (FC Z Z)<|Bc 22 Z<|Jt 23 Z<|Jm 24 Z<|Aw.known (d := 29) Z (Gi q)<|Bm 25 Z<|Bq 26 Z (DK Z)<|BF 27 0 Z<|Bl 28 (sv n) Z (Rb0 Z)<|Bm 29 Z<|Bq 30 Z (DK Z)<|BF 31 1 Z<|Bl 32 (Vi p0.at_) Z (Rb0 Z)<|?_
      obtain ⟨_, rfl, cQ⟩ := Slr.at m L
      refine Bq 33 Z (Qi (T := Ty.str) m L Z)<|Bl 34 (.string bN) Z (Rdc.k cQ Z)<|Bq 35 Z (KW bK Z Z Z)<|Bc 36 Z<|Jt 37 Z<|Jm 38 Z<|Aw.known (d := 43) Z (Gi w)<|Bm 39 Z<|Bq 40 Z (DK Z)<|BF 41 0 Z<|Bl 42 (sv n) Z (Rb0 Z)<|Bm 43 Z<|Bq 44 Z (DK Z)<|BF 45 1 Z<|Bl 46 (Vi p0.at_) Z (Rb0 Z)<|?_
      obtain ⟨_, rfl, cR⟩ := Slr.at m bL
      exact Bq 47 Z (Qi (T := Ty.str) m bL Z)<|Bl 48 (.string bO) Z (Rdc.k cR Z)<|Bq 49 Z (Ge Z Z)<|Jt 50 Z<|Ad<|Sd<|⟨_, by exact R3, (!(dcd (bO = (⟨#[45, 48]⟩ : ByteArray)))), Z, Z, Z, H⟩
     ·intro w
      obtain ⟨w, H⟩ := If w H
      refine En _ Z (Ic Mb0 In0)<|Jm 0 Z<|Jq 1 Z (DK Z)<|JF 2 1 Z<|Jl 3 (Vi p0.at_) Z (Rb0 Z)<|Jm 4 Z<|Jq 5 Z (DK Z)<|JF 6 0 Z<|Jl 7 (sv n) Z (Rb0 Z)<|Jq 8 Z (EA (T := Ty.str) m Z Z)<|Jc 9 Z<|Jm 10 Z<|Aw.known (d := 15) Z (Gi o)<|Bm 11 Z<|Bq 12 Z (DK Z)<|BF 13 0 Z<|Bl 14 (sv n) Z (Rb0 Z)<|Bm 15 Z<|Bq 16 Z (DK Z)<|BF 17 1 Z<|Bl 18 (Vi p0.at_) Z (Rb0 Z)<|?_
      obtain ⟨_, rfl, cS⟩ := Slr.at m C
      refine Bq 19 Z (Qi (T := Ty.str) m C Z)<|Bl 20 (.string M) Z (Rdc.k cS Z)<|Bq 21 Z (FC Z Z)<|Bc 22 Z<|Jt 23 Z<|Jm 24 Z<|Aw.known (d := 29) Z (Gi q)<|Bm 25 Z<|Bq 26 Z (DK Z)<|BF 27 0 Z<|Bl 28 (sv n) Z (Rb0 Z)<|Bm 29 Z<|Bq 30 Z (DK Z)<|BF 31 1 Z<|Bl 32 (Vi p0.at_) Z (Rb0 Z)<|?_
      obtain ⟨_, rfl, cT⟩ := Slr.at m L
      exact Bq 33 Z (Qi (T := Ty.str) m L Z)<|Bl 34 (.string bN) Z (Rdc.k cT Z)<|Bq 35 Z (KW bK Z Z Z)<|Bc 36 Z<|Jt 37 Z<|Jm 38 Z<|Aw.known (d := 43) Z (GU w)<|Jz 39 Z<|Jz 40 Z<|Jz 41 Z<|Jz 42 Z<|Jz 43 Z<|Jz 44 Z<|Jz 45 Z<|Jz 46 Z<|Jz 47 Z<|Jz 48 Z<|Jz 49 Z<|Jf 50 Z<|Ad<|Sd<|⟨_, by exact R3, false, Z, Z, Z, H⟩
    ·intro q
     obtain ⟨q, H⟩ := If q H
     refine En _ Z (Ic Mb0 In0)<|Jm 0 Z<|Jq 1 Z (DK Z)<|JF 2 1 Z<|Jl 3 (Vi p0.at_) Z (Rb0 Z)<|Jm 4 Z<|Jq 5 Z (DK Z)<|JF 6 0 Z<|Jl 7 (sv n) Z (Rb0 Z)<|Jq 8 Z (EA (T := Ty.str) m Z Z)<|Jc 9 Z<|Jm 10 Z<|Aw.known (d := 15) Z (Gi o)<|Bm 11 Z<|Bq 12 Z (DK Z)<|BF 13 0 Z<|Bl 14 (sv n) Z (Rb0 Z)<|Bm 15 Z<|Bq 16 Z (DK Z)<|BF 17 1 Z<|Bl 18 (Vi p0.at_) Z (Rb0 Z)<|?_
     obtain ⟨_, rfl, cU⟩ := Slr.at m C
     refine Bq 19 Z (Qi (T := Ty.str) m C Z)<|Bl 20 (.string M) Z (Rdc.k cU Z)<|Bq 21 Z (FC Z Z)<|Bc 22 Z<|Jt 23 Z<|Jm 24 Z<|Aw.known (d := 29) Z (GU q)<|Jz 25 Z<|Jz 26 Z<|Jz 27 Z<|Jz 28 Z<|Jz 29 Z<|Jz 30 Z<|Jz 31 Z<|Jz 32 Z<|Jz 33 Z<|Jz 34 Z<|Jz 35 Z<|Jz 36 Z<|Jf 37 Z<|Jm 38 Z<|Jz 39 Z<|?_
     exact Jz 40 Z<|Jz 41 Z<|Jz 42 Z<|Jz 43 Z<|Jz 44 Z<|Jz 45 Z<|Jz 46 Z<|Jz 47 Z<|Jz 48 Z<|Jz 49 Z<|Jf 50 Z<|Ad<|Sd<|⟨_, by exact R3, false, Z, Z, Z, H⟩
   ·intro o
    obtain ⟨o, H⟩ := If o H
    refine En _ Z (Ic Mb0 In0)<|Jm 0 Z<|Jq 1 Z (DK Z)<|JF 2 1 Z<|Jl 3 (Vi p0.at_) Z (Rb0 Z)<|Jm 4 Z<|Jq 5 Z (DK Z)<|JF 6 0 Z<|Jl 7 (sv n) Z (Rb0 Z)<|Jq 8 Z (EA (T := Ty.str) m Z Z)<|Jc 9 Z<|Jm 10 Z<|Aw.known (d := 15) Z (GU o)<|Jz 11 Z<|Jz 12 Z<|Jz 13 Z<|Jz 14 Z<|Jz 15 Z<|Jz 16 Z<|Jz 17 Z<|Jz 18 Z<|Jz 19 Z<|?_
    refine Jz 20 Z<|Jz 21 Z<|Jz 22 Z<|Jf 23 Z<|Jm 24 Z<|Jz 25 Z<|Jz 26 Z<|Jz 27 Z<|Jz 28 Z<|Jz 29 Z<|Jz 30 Z<|Jz 31 Z<|Jz 32 Z<|Jz 33 Z<|Jz 34 Z<|Jz 35 Z<|Jz 36 Z<|Jf 37 Z<|Jm 38 Z<|Jz 39 Z<|Jz 40 Z<|Jz 41 Z<|?_
    exact Jz 42 Z<|Jz 43 Z<|Jz 44 Z<|Jz 45 Z<|Jz 46 Z<|Jz 47 Z<|Jz 48 Z<|Jz 49 Z<|Jf 50 Z<|Ad<|Sd<|⟨_, by exact R3, false, Z, Z, Z, H⟩
  rintro _ _ _ - ⟨bf, rfl, rfl, rfl, H⟩
  unfold Iw at H
  refine DX Z ?_ ?_
  ·intro O
   have H := ift O H
   refine DF<|Dz<|Ea Z<|DC<|DF<|Dz<|Em Z<|Em Z<|Eq Z (DK Z)<|EF 0 Z<|El (sv n) Z (Rb0 Z)<|?_
   have bQ : RowR Ty.str K [] [] := RowR.nil
   refine Ow.shift (Shift.nilRow 9 1 (Sd ?_))
   obtain ⟨e, fy, H⟩ := bnd H
   refine DN Z (Eo (T := Ty.str) (bytes := 16) Z Z Z Mb0 bQ (SrcT.sl m) fy Z Z Z Z Z Z Z Z (fun g kd a => ⟨_, .here, ?_⟩))
   refine Eq Z (DK Z)<|EF 0 Z<|?_
   refine DN Z (So [(sv g)] (D6 (DL.mk e p0.at_ p0.bad) g) Z (.there .here) Z ?_)
   refine DC ?_
   obtain ⟨j, h, H⟩ := bnd H
   obtain ⟨b, i, H⟩ := bnd H
   obtain ⟨ke, f, H⟩ := bnd H
   refine En _ Z In0<|Jm 0 Z<|Jq 1 Z (DK Z)<|JF 2 0 Z<|Jm 4 Z<|Jq 5 Z (DK Z)<|JF 6 1 Z<|Jm 8 Z<|Jq 9 Z (DK Z)<|JF 10 0 Z<|Jm 12 Z<|Jq 13 Z (DK Z)<|JF 14 1 Z<|?_
   refine aiU 3 7 11 15 (by kernel_rfl) ?_ ?_ ?_ ?_
   ·refine id (Jyq Z (DI (v := (sv g)) Z Z Z (Rb1 Z)) ⟨In0, ?_⟩)
    refine EV 7 11 15 (by kernel_rfl) ?_ ?_ ?_
    ·refine id (Jyq Z (DI (v := (Vi p0.at_)) Z Z Z (Rb1 Z)) ⟨In0, ?_⟩)
     refine Eh 11 15 (by kernel_rfl) ?_ ?_
     ·refine id (Jyq Z (DI (v := (sv g)) Z Z Z (Rb1 Z)) ⟨In0, ?_⟩)
      refine DO 15 (by kernel_rfl) (Jyq Z (DI (v := (Vi p0.at_)) Z Z Z (Rb1 Z)) ⟨In0, ?_⟩)
      obtain ⟨iD, bl, cV⟩ := RowR.at a h
      obtain rfl := cV
      refine DO 16 (by kernel_rfl) (Jyq Z (D4 (T := Ty.str) Mb0 a bl (DU h).1 Z Z Z Z Z) ⟨In0, ?_⟩)
      refine DO 17 (by kernel_rfl) (Jyq Z (DI (v := (.string j)) Z Z Z (Ej (T := Ty.str) Mb0 a bl Z Z)) ⟨In0, ?_⟩)
      refine Jq 18 Z (EC i Z Z Z) ?_
      obtain ⟨iE, R, cW⟩ := RowR.at a f
      obtain rfl := cW
      refine DO 19 (by kernel_rfl) (Jyq Z (D4 (T := Ty.str) Mb0 a R (DU f).1 Z Z Z Z Z) ⟨In0, ?_⟩)
      refine Ao 20 Z ?_
      refine DY (T := Ty.str) (vs := [(.string b)]) (r' := [(.string b)]) (l' := (Eb e p0.at_ b)) Z Z Z Z Z .here a R Z Z Z (RowR.set p0.at_ a Z) (fun bR => ⟨In0, ?_⟩)
      have gC := EH R (v := [(.string b)])
      refine Ad<|Shift.settle (T := Ty.str) .here bR rfl<|?_
      intro fC hA ex
      exact Pu1<|Re1<|Sd<|⟨_, by exact R2, true, g, (Eb e p0.at_ b), Z, Z, H, ex⟩
     ·refine id (Jyq Z (DI (v := (Vi p0.at_)) Z Z Z (Rb1 Z)) ⟨In0, ?_⟩)
      refine DO 11 (by kernel_rfl) (Jyq Z (DI (v := (sv g)) Z Z Z (Rb1 Z)) ⟨In0, ?_⟩)
      obtain ⟨iF, bm, cX⟩ := RowR.at a h
      obtain rfl := cX
      refine DO 16 (by kernel_rfl) (Jyq Z (D4 (T := Ty.str) Mb0 a bm (DU h).1 Z Z Z Z Z) ⟨In0, ?_⟩)
      refine DO 17 (by kernel_rfl) (Jyq Z (DI (v := (.string j)) Z Z Z (Ej (T := Ty.str) Mb0 a bm Z Z)) ⟨In0, ?_⟩)
      refine Jq 18 Z (EC i Z Z Z) ?_
      obtain ⟨iG, S, cY⟩ := RowR.at a f
      obtain rfl := cY
      refine DO 19 (by kernel_rfl) (Jyq Z (D4 (T := Ty.str) Mb0 a S (DU f).1 Z Z Z Z Z) ⟨In0, ?_⟩)
      refine Ao 20 Z ?_
      refine DY (T := Ty.str) (vs := [(.string b)]) (r' := [(.string b)]) (l' := (Eb e p0.at_ b)) Z Z Z Z Z .here a S Z Z Z (RowR.set p0.at_ a Z) (fun bS => ⟨In0, ?_⟩)
      have gD := EH S (v := [(.string b)])
      refine Ad<|Shift.settle (T := Ty.str) .here bS rfl<|?_
      intro fD hB ey
      exact Pu1<|Re1<|Sd<|⟨_, by exact R2, true, g, (Eb e p0.at_ b), Z, Z, H, ey⟩
    ·refine id (Jyq Z (DI (v := (sv g)) Z Z Z (Rb1 Z)) ⟨In0, ?_⟩)
     refine Eh 7 15 (by kernel_rfl) ?_ ?_
     ·refine id (Jyq Z (DI (v := (Vi p0.at_)) Z Z Z (Rb1 Z)) ⟨In0, ?_⟩)
      refine DO 15 (by kernel_rfl) (Jyq Z (DI (v := (Vi p0.at_)) Z Z Z (Rb1 Z)) ⟨In0, ?_⟩)
      obtain ⟨iH, bn, cZ⟩ := RowR.at a h
      obtain rfl := cZ
      refine DO 16 (by kernel_rfl) (Jyq Z (D4 (T := Ty.str) Mb0 a bn (DU h).1 Z Z Z Z Z) ⟨In0, ?_⟩)
      refine DO 17 (by kernel_rfl) (Jyq Z (DI (v := (.string j)) Z Z Z (Ej (T := Ty.str) Mb0 a bn Z Z)) ⟨In0, ?_⟩)
      refine Jq 18 Z (EC i Z Z Z) ?_
      obtain ⟨iI, U, c0⟩ := RowR.at a f
      obtain rfl := c0
      refine DO 19 (by kernel_rfl) (Jyq Z (D4 (T := Ty.str) Mb0 a U (DU f).1 Z Z Z Z Z) ⟨In0, ?_⟩)
      refine Ao 20 Z ?_
      refine DY (T := Ty.str) (vs := [(.string b)]) (r' := [(.string b)]) (l' := (Eb e p0.at_ b)) Z Z Z Z Z .here a U Z Z Z (RowR.set p0.at_ a Z) (fun bT => ⟨In0, ?_⟩)
      have gE := EH U (v := [(.string b)])
      refine Ad<|Shift.settle (T := Ty.str) .here bT rfl<|?_
      intro fE hC ez
      exact Pu1<|Re1<|Sd<|⟨_, by exact R2, true, g, (Eb e p0.at_ b), Z, Z, H, ez⟩
     ·refine id (Jyq Z (DI (v := (Vi p0.at_)) Z Z Z (Rb1 Z)) ⟨In0, ?_⟩)
      refine Eh 7 16 (by kernel_rfl) ?_ ?_
      ·refine id (Jyq Z (DI (v := (Vi p0.at_)) Z Z Z (Rb1 Z)) ⟨In0, ?_⟩)
       obtain ⟨iJ, bo, c1⟩ := RowR.at a h
       obtain rfl := c1
       refine DO 16 (by kernel_rfl) (Jyq Z (D4 (T := Ty.str) Mb0 a bo (DU h).1 Z Z Z Z Z) ⟨In0, ?_⟩)
       refine DO 17 (by kernel_rfl) (Jyq Z (DI (v := (.string j)) Z Z Z (Ej (T := Ty.str) Mb0 a bo Z Z)) ⟨In0, ?_⟩)
       refine Jq 18 Z (EC i Z Z Z) ?_
       obtain ⟨iK, V, c2⟩ := RowR.at a f
       obtain rfl := c2
       refine DO 19 (by kernel_rfl) (Jyq Z (D4 (T := Ty.str) Mb0 a V (DU f).1 Z Z Z Z Z) ⟨In0, ?_⟩)
       refine Ao 20 Z ?_
       refine DY (T := Ty.str) (vs := [(.string b)]) (r' := [(.string b)]) (l' := (Eb e p0.at_ b)) Z Z Z Z Z .here a V Z Z Z (RowR.set p0.at_ a Z) (fun bU => ⟨In0, ?_⟩)
       have gF := EH V (v := [(.string b)])
       refine Ad<|Shift.settle (T := Ty.str) .here bU rfl<|?_
       intro fF hD eA
       exact Pu1<|Re1<|Sd<|⟨_, by exact R2, true, g, (Eb e p0.at_ b), Z, Z, H, eA⟩
      ·obtain ⟨iL, W, c3⟩ := RowR.at a h
       obtain rfl := c3
       refine id (Jyq Z (D4 (T := Ty.str) Mb0 a W (DU h).1 Z Z Z Z Z) ⟨In0, ?_⟩)
       refine Eh 7 17 (by kernel_rfl) ?_ ?_
       ·refine id (Jyq Z (DI (v := (Vi p0.at_)) Z Z Z (Rb1 Z)) ⟨In0, ?_⟩)
        refine DO 17 (by kernel_rfl) (Jyq Z (DI (v := (.string j)) Z Z Z (Ej (T := Ty.str) Mb0 a W Z Z)) ⟨In0, ?_⟩)
        refine Jq 18 Z (EC i Z Z Z) ?_
        obtain ⟨iM, X, c4⟩ := RowR.at a f
        obtain rfl := c4
        refine DO 19 (by kernel_rfl) (Jyq Z (D4 (T := Ty.str) Mb0 a X (DU f).1 Z Z Z Z Z) ⟨In0, ?_⟩)
        refine Ao 20 Z ?_
        refine DY (T := Ty.str) (vs := [(.string b)]) (r' := [(.string b)]) (l' := (Eb e p0.at_ b)) Z Z Z Z Z .here a X Z Z Z (RowR.set p0.at_ a Z) (fun bV => ⟨In0, ?_⟩)
        have gG := EH X (v := [(.string b)])
        refine Ad<|Shift.settle (T := Ty.str) .here bV rfl<|?_
        intro fG hE eB
        exact Pu1<|Re1<|Sd<|⟨_, by exact R2, true, g, (Eb e p0.at_ b), Z, Z, H, eB⟩
       ·refine id (Jyq Z (DI (v := (.string j)) Z Z Z (Ej (T := Ty.str) Mb0 a W Z Z)) ⟨In0, ?_⟩)
        refine Jq 18 Z (EC i Z Z Z) ?_
        refine DO 7 (by kernel_rfl) (Jyq Z (DI (v := (Vi p0.at_)) Z Z Z (Rb1 Z)) ⟨In0, ?_⟩)
        obtain ⟨iN, Y, c5⟩ := RowR.at a f
        obtain rfl := c5
        refine DO 19 (by kernel_rfl) (Jyq Z (D4 (T := Ty.str) Mb0 a Y (DU f).1 Z Z Z Z Z) ⟨In0, ?_⟩)
        refine Ao 20 Z ?_
        refine DY (T := Ty.str) (vs := [(.string b)]) (r' := [(.string b)]) (l' := (Eb e p0.at_ b)) Z Z Z Z Z .here a Y Z Z Z (RowR.set p0.at_ a Z) (fun bW => ⟨In0, ?_⟩)
        have gH := EH Y (v := [(.string b)])
        refine Ad<|Shift.settle (T := Ty.str) .here bW rfl<|?_
        intro fH hF eC
        exact Pu1<|Re1<|Sd<|⟨_, by exact R2, true, g, (Eb e p0.at_ b), Z, Z, H, eC⟩
    ·refine id (Jyq Z (DI (v := (Vi p0.at_)) Z Z Z (Rb1 Z)) ⟨In0, ?_⟩)
     refine Eh 7 11 (by kernel_rfl) ?_ ?_
     ·refine id (Jyq Z (DI (v := (Vi p0.at_)) Z Z Z (Rb1 Z)) ⟨In0, ?_⟩)
      refine DO 11 (by kernel_rfl) (Jyq Z (DI (v := (sv g)) Z Z Z (Rb1 Z)) ⟨In0, ?_⟩)
      obtain ⟨iO, bp, c6⟩ := RowR.at a h
      obtain rfl := c6
      refine DO 16 (by kernel_rfl) (Jyq Z (D4 (T := Ty.str) Mb0 a bp (DU h).1 Z Z Z Z Z) ⟨In0, ?_⟩)
      refine DO 17 (by kernel_rfl) (Jyq Z (DI (v := (.string j)) Z Z Z (Ej (T := Ty.str) Mb0 a bp Z Z)) ⟨In0, ?_⟩)
      refine Jq 18 Z (EC i Z Z Z) ?_
      obtain ⟨iP, aa, c7⟩ := RowR.at a f
      obtain rfl := c7
      refine DO 19 (by kernel_rfl) (Jyq Z (D4 (T := Ty.str) Mb0 a aa (DU f).1 Z Z Z Z Z) ⟨In0, ?_⟩)
      refine Ao 20 Z ?_
      refine DY (T := Ty.str) (vs := [(.string b)]) (r' := [(.string b)]) (l' := (Eb e p0.at_ b)) Z Z Z Z Z .here a aa Z Z Z (RowR.set p0.at_ a Z) (fun bX => ⟨In0, ?_⟩)
      have gI := EH aa (v := [(.string b)])
      refine Ad<|Shift.settle (T := Ty.str) .here bX rfl<|?_
      intro fI hG eD
      exact Pu1<|Re1<|Sd<|⟨_, by exact R2, true, g, (Eb e p0.at_ b), Z, Z, H, eD⟩
     ·refine id (Jyq Z (DI (v := (sv g)) Z Z Z (Rb1 Z)) ⟨In0, ?_⟩)
      refine Eh 7 16 (by kernel_rfl) ?_ ?_
      ·refine id (Jyq Z (DI (v := (Vi p0.at_)) Z Z Z (Rb1 Z)) ⟨In0, ?_⟩)
       obtain ⟨iQ, bq, c8⟩ := RowR.at a h
       obtain rfl := c8
       refine DO 16 (by kernel_rfl) (Jyq Z (D4 (T := Ty.str) Mb0 a bq (DU h).1 Z Z Z Z Z) ⟨In0, ?_⟩)
       refine DO 17 (by kernel_rfl) (Jyq Z (DI (v := (.string j)) Z Z Z (Ej (T := Ty.str) Mb0 a bq Z Z)) ⟨In0, ?_⟩)
       refine Jq 18 Z (EC i Z Z Z) ?_
       obtain ⟨iR, ab, c9⟩ := RowR.at a f
       obtain rfl := c9
       refine DO 19 (by kernel_rfl) (Jyq Z (D4 (T := Ty.str) Mb0 a ab (DU f).1 Z Z Z Z Z) ⟨In0, ?_⟩)
       refine Ao 20 Z ?_
       refine DY (T := Ty.str) (vs := [(.string b)]) (r' := [(.string b)]) (l' := (Eb e p0.at_ b)) Z Z Z Z Z .here a ab Z Z Z (RowR.set p0.at_ a Z) (fun bY => ⟨In0, ?_⟩)
       have gJ := EH ab (v := [(.string b)])
       refine Ad<|Shift.settle (T := Ty.str) .here bY rfl<|?_
       intro fJ hH eE
       exact Pu1<|Re1<|Sd<|⟨_, by exact R2, true, g, (Eb e p0.at_ b), Z, Z, H, eE⟩
      ·obtain ⟨iS, ac, da⟩ := RowR.at a h
       obtain rfl := da
       refine id (Jyq Z (D4 (T := Ty.str) Mb0 a ac (DU h).1 Z Z Z Z Z) ⟨In0, ?_⟩)
       refine Eh 7 17 (by kernel_rfl) ?_ ?_
       ·refine id (Jyq Z (DI (v := (Vi p0.at_)) Z Z Z (Rb1 Z)) ⟨In0, ?_⟩)
        refine DO 17 (by kernel_rfl) (Jyq Z (DI (v := (.string j)) Z Z Z (Ej (T := Ty.str) Mb0 a ac Z Z)) ⟨In0, ?_⟩)
        refine Jq 18 Z (EC i Z Z Z) ?_
        obtain ⟨iT, ad, db⟩ := RowR.at a f
        obtain rfl := db
        refine DO 19 (by kernel_rfl) (Jyq Z (D4 (T := Ty.str) Mb0 a ad (DU f).1 Z Z Z Z Z) ⟨In0, ?_⟩)
        refine Ao 20 Z ?_
        refine DY (T := Ty.str) (vs := [(.string b)]) (r' := [(.string b)]) (l' := (Eb e p0.at_ b)) Z Z Z Z Z .here a ad Z Z Z (RowR.set p0.at_ a Z) (fun bZ => ⟨In0, ?_⟩)
        have gK := EH ad (v := [(.string b)])
        refine Ad<|Shift.settle (T := Ty.str) .here bZ rfl<|?_
        intro fK hI eF
        exact Pu1<|Re1<|Sd<|⟨_, by exact R2, true, g, (Eb e p0.at_ b), Z, Z, H, eF⟩
       ·refine id (Jyq Z (DI (v := (.string j)) Z Z Z (Ej (T := Ty.str) Mb0 a ac Z Z)) ⟨In0, ?_⟩)
        refine Jq 18 Z (EC i Z Z Z) ?_
        refine DO 7 (by kernel_rfl) (Jyq Z (DI (v := (Vi p0.at_)) Z Z Z (Rb1 Z)) ⟨In0, ?_⟩)
        obtain ⟨iU, ae, dc⟩ := RowR.at a f
        obtain rfl := dc
        refine DO 19 (by kernel_rfl) (Jyq Z (D4 (T := Ty.str) Mb0 a ae (DU f).1 Z Z Z Z Z) ⟨In0, ?_⟩)
        refine Ao 20 Z ?_
        refine DY (T := Ty.str) (vs := [(.string b)]) (r' := [(.string b)]) (l' := (Eb e p0.at_ b)) Z Z Z Z Z .here a ae Z Z Z (RowR.set p0.at_ a Z) (fun b0 => ⟨In0, ?_⟩)
        have gL := EH ae (v := [(.string b)])
        refine Ad<|Shift.settle (T := Ty.str) .here b0 rfl<|?_
        intro fL hJ eG
        exact Pu1<|Re1<|Sd<|⟨_, by exact R2, true, g, (Eb e p0.at_ b), Z, Z, H, eG⟩
   ·refine id (Jyq Z (DI (v := (Vi p0.at_)) Z Z Z (Rb1 Z)) ⟨In0, ?_⟩)
    refine EV 3 11 15 (by kernel_rfl) ?_ ?_ ?_
    ·refine id (Jyq Z (DI (v := (sv g)) Z Z Z (Rb1 Z)) ⟨In0, ?_⟩)
     refine Eh 11 15 (by kernel_rfl) ?_ ?_
     ·refine id (Jyq Z (DI (v := (sv g)) Z Z Z (Rb1 Z)) ⟨In0, ?_⟩)
      refine DO 15 (by kernel_rfl) (Jyq Z (DI (v := (Vi p0.at_)) Z Z Z (Rb1 Z)) ⟨In0, ?_⟩)
      obtain ⟨iV, br, dd⟩ := RowR.at a h
      obtain rfl := dd
      refine DO 16 (by kernel_rfl) (Jyq Z (D4 (T := Ty.str) Mb0 a br (DU h).1 Z Z Z Z Z) ⟨In0, ?_⟩)
      refine DO 17 (by kernel_rfl) (Jyq Z (DI (v := (.string j)) Z Z Z (Ej (T := Ty.str) Mb0 a br Z Z)) ⟨In0, ?_⟩)
      refine Jq 18 Z (EC i Z Z Z) ?_
      obtain ⟨iW, af, de⟩ := RowR.at a f
      obtain rfl := de
      refine DO 19 (by kernel_rfl) (Jyq Z (D4 (T := Ty.str) Mb0 a af (DU f).1 Z Z Z Z Z) ⟨In0, ?_⟩)
      refine Ao 20 Z ?_
      refine DY (T := Ty.str) (vs := [(.string b)]) (r' := [(.string b)]) (l' := (Eb e p0.at_ b)) Z Z Z Z Z .here a af Z Z Z (RowR.set p0.at_ a Z) (fun b1 => ⟨In0, ?_⟩)
      have gM := EH af (v := [(.string b)])
      refine Ad<|Shift.settle (T := Ty.str) .here b1 rfl<|?_
      intro fM hK eH
      exact Pu1<|Re1<|Sd<|⟨_, by exact R2, true, g, (Eb e p0.at_ b), Z, Z, H, eH⟩
     ·refine id (Jyq Z (DI (v := (Vi p0.at_)) Z Z Z (Rb1 Z)) ⟨In0, ?_⟩)
      refine DO 11 (by kernel_rfl) (Jyq Z (DI (v := (sv g)) Z Z Z (Rb1 Z)) ⟨In0, ?_⟩)
      obtain ⟨iX, bs, df⟩ := RowR.at a h
      obtain rfl := df
      refine DO 16 (by kernel_rfl) (Jyq Z (D4 (T := Ty.str) Mb0 a bs (DU h).1 Z Z Z Z Z) ⟨In0, ?_⟩)
      refine DO 17 (by kernel_rfl) (Jyq Z (DI (v := (.string j)) Z Z Z (Ej (T := Ty.str) Mb0 a bs Z Z)) ⟨In0, ?_⟩)
      refine Jq 18 Z (EC i Z Z Z) ?_
      obtain ⟨iY, ag, dg⟩ := RowR.at a f
      obtain rfl := dg
      refine DO 19 (by kernel_rfl) (Jyq Z (D4 (T := Ty.str) Mb0 a ag (DU f).1 Z Z Z Z Z) ⟨In0, ?_⟩)
      refine Ao 20 Z ?_
      refine DY (T := Ty.str) (vs := [(.string b)]) (r' := [(.string b)]) (l' := (Eb e p0.at_ b)) Z Z Z Z Z .here a ag Z Z Z (RowR.set p0.at_ a Z) (fun b2 => ⟨In0, ?_⟩)
      have gN := EH ag (v := [(.string b)])
      refine Ad<|Shift.settle (T := Ty.str) .here b2 rfl<|?_
      intro fN hL eI
      exact Pu1<|Re1<|Sd<|⟨_, by exact R2, true, g, (Eb e p0.at_ b), Z, Z, H, eI⟩
    ·refine id (Jyq Z (DI (v := (sv g)) Z Z Z (Rb1 Z)) ⟨In0, ?_⟩)
     refine Eh 3 15 (by kernel_rfl) ?_ ?_
     ·refine id (Jyq Z (DI (v := (sv g)) Z Z Z (Rb1 Z)) ⟨In0, ?_⟩)
      refine DO 15 (by kernel_rfl) (Jyq Z (DI (v := (Vi p0.at_)) Z Z Z (Rb1 Z)) ⟨In0, ?_⟩)
      obtain ⟨iZ, bt, dh⟩ := RowR.at a h
      obtain rfl := dh
      refine DO 16 (by kernel_rfl) (Jyq Z (D4 (T := Ty.str) Mb0 a bt (DU h).1 Z Z Z Z Z) ⟨In0, ?_⟩)
      refine DO 17 (by kernel_rfl) (Jyq Z (DI (v := (.string j)) Z Z Z (Ej (T := Ty.str) Mb0 a bt Z Z)) ⟨In0, ?_⟩)
      refine Jq 18 Z (EC i Z Z Z) ?_
      obtain ⟨i0, ah, di⟩ := RowR.at a f
      obtain rfl := di
      refine DO 19 (by kernel_rfl) (Jyq Z (D4 (T := Ty.str) Mb0 a ah (DU f).1 Z Z Z Z Z) ⟨In0, ?_⟩)
      refine Ao 20 Z ?_
      refine DY (T := Ty.str) (vs := [(.string b)]) (r' := [(.string b)]) (l' := (Eb e p0.at_ b)) Z Z Z Z Z .here a ah Z Z Z (RowR.set p0.at_ a Z) (fun b3 => ⟨In0, ?_⟩)
      have gO := EH ah (v := [(.string b)])
      refine Ad<|Shift.settle (T := Ty.str) .here b3 rfl<|?_
      intro fO hM eJ
      exact Pu1<|Re1<|Sd<|⟨_, by exact R2, true, g, (Eb e p0.at_ b), Z, Z, H, eJ⟩
     ·refine id (Jyq Z (DI (v := (Vi p0.at_)) Z Z Z (Rb1 Z)) ⟨In0, ?_⟩)
      refine Eh 3 16 (by kernel_rfl) ?_ ?_
      ·refine id (Jyq Z (DI (v := (sv g)) Z Z Z (Rb1 Z)) ⟨In0, ?_⟩)
       obtain ⟨i1, bu, dj⟩ := RowR.at a h
       obtain rfl := dj
       refine DO 16 (by kernel_rfl) (Jyq Z (D4 (T := Ty.str) Mb0 a bu (DU h).1 Z Z Z Z Z) ⟨In0, ?_⟩)
       refine DO 17 (by kernel_rfl) (Jyq Z (DI (v := (.string j)) Z Z Z (Ej (T := Ty.str) Mb0 a bu Z Z)) ⟨In0, ?_⟩)
       refine Jq 18 Z (EC i Z Z Z) ?_
       obtain ⟨i2, ai, dk⟩ := RowR.at a f
       obtain rfl := dk
       refine DO 19 (by kernel_rfl) (Jyq Z (D4 (T := Ty.str) Mb0 a ai (DU f).1 Z Z Z Z Z) ⟨In0, ?_⟩)
       refine Ao 20 Z ?_
       refine DY (T := Ty.str) (vs := [(.string b)]) (r' := [(.string b)]) (l' := (Eb e p0.at_ b)) Z Z Z Z Z .here a ai Z Z Z (RowR.set p0.at_ a Z) (fun b4 => ⟨In0, ?_⟩)
       have gP := EH ai (v := [(.string b)])
       refine Ad<|Shift.settle (T := Ty.str) .here b4 rfl<|?_
       intro fP hN eK
       exact Pu1<|Re1<|Sd<|⟨_, by exact R2, true, g, (Eb e p0.at_ b), Z, Z, H, eK⟩
      ·obtain ⟨i3, aj, dl⟩ := RowR.at a h
       obtain rfl := dl
       refine id (Jyq Z (D4 (T := Ty.str) Mb0 a aj (DU h).1 Z Z Z Z Z) ⟨In0, ?_⟩)
       refine Eh 3 17 (by kernel_rfl) ?_ ?_
       ·refine id (Jyq Z (DI (v := (sv g)) Z Z Z (Rb1 Z)) ⟨In0, ?_⟩)
        refine DO 17 (by kernel_rfl) (Jyq Z (DI (v := (.string j)) Z Z Z (Ej (T := Ty.str) Mb0 a aj Z Z)) ⟨In0, ?_⟩)
        refine Jq 18 Z (EC i Z Z Z) ?_
        obtain ⟨i4, ak, dm⟩ := RowR.at a f
        obtain rfl := dm
        refine DO 19 (by kernel_rfl) (Jyq Z (D4 (T := Ty.str) Mb0 a ak (DU f).1 Z Z Z Z Z) ⟨In0, ?_⟩)
        refine Ao 20 Z ?_
        refine DY (T := Ty.str) (vs := [(.string b)]) (r' := [(.string b)]) (l' := (Eb e p0.at_ b)) Z Z Z Z Z .here a ak Z Z Z (RowR.set p0.at_ a Z) (fun b5 => ⟨In0, ?_⟩)
        have gQ := EH ak (v := [(.string b)])
        refine Ad<|Shift.settle (T := Ty.str) .here b5 rfl<|?_
        intro fQ hO eL
        exact Pu1<|Re1<|Sd<|⟨_, by exact R2, true, g, (Eb e p0.at_ b), Z, Z, H, eL⟩
       ·refine id (Jyq Z (DI (v := (.string j)) Z Z Z (Ej (T := Ty.str) Mb0 a aj Z Z)) ⟨In0, ?_⟩)
        refine Jq 18 Z (EC i Z Z Z) ?_
        refine DO 3 (by kernel_rfl) (Jyq Z (DI (v := (sv g)) Z Z Z (Rb1 Z)) ⟨In0, ?_⟩)
        obtain ⟨i5, al, dn⟩ := RowR.at a f
        obtain rfl := dn
        refine DO 19 (by kernel_rfl) (Jyq Z (D4 (T := Ty.str) Mb0 a al (DU f).1 Z Z Z Z Z) ⟨In0, ?_⟩)
        refine Ao 20 Z ?_
        refine DY (T := Ty.str) (vs := [(.string b)]) (r' := [(.string b)]) (l' := (Eb e p0.at_ b)) Z Z Z Z Z .here a al Z Z Z (RowR.set p0.at_ a Z) (fun b6 => ⟨In0, ?_⟩)
        have gR := EH al (v := [(.string b)])
        refine Ad<|Shift.settle (T := Ty.str) .here b6 rfl<|?_
        intro fR hP eM
        exact Pu1<|Re1<|Sd<|⟨_, by exact R2, true, g, (Eb e p0.at_ b), Z, Z, H, eM⟩
    ·refine id (Jyq Z (DI (v := (Vi p0.at_)) Z Z Z (Rb1 Z)) ⟨In0, ?_⟩)
     refine Eh 3 11 (by kernel_rfl) ?_ ?_
     ·refine id (Jyq Z (DI (v := (sv g)) Z Z Z (Rb1 Z)) ⟨In0, ?_⟩)
      refine DO 11 (by kernel_rfl) (Jyq Z (DI (v := (sv g)) Z Z Z (Rb1 Z)) ⟨In0, ?_⟩)
      obtain ⟨i6, bv, dp⟩ := RowR.at a h
      obtain rfl := dp
      refine DO 16 (by kernel_rfl) (Jyq Z (D4 (T := Ty.str) Mb0 a bv (DU h).1 Z Z Z Z Z) ⟨In0, ?_⟩)
      refine DO 17 (by kernel_rfl) (Jyq Z (DI (v := (.string j)) Z Z Z (Ej (T := Ty.str) Mb0 a bv Z Z)) ⟨In0, ?_⟩)
      refine Jq 18 Z (EC i Z Z Z) ?_
      obtain ⟨i7, am, dq⟩ := RowR.at a f
      obtain rfl := dq
      refine DO 19 (by kernel_rfl) (Jyq Z (D4 (T := Ty.str) Mb0 a am (DU f).1 Z Z Z Z Z) ⟨In0, ?_⟩)
      refine Ao 20 Z ?_
      refine DY (T := Ty.str) (vs := [(.string b)]) (r' := [(.string b)]) (l' := (Eb e p0.at_ b)) Z Z Z Z Z .here a am Z Z Z (RowR.set p0.at_ a Z) (fun b7 => ⟨In0, ?_⟩)
      have gS := EH am (v := [(.string b)])
      refine Ad<|Shift.settle (T := Ty.str) .here b7 rfl<|?_
      intro fS hQ eN
      exact Pu1<|Re1<|Sd<|⟨_, by exact R2, true, g, (Eb e p0.at_ b), Z, Z, H, eN⟩
     ·refine id (Jyq Z (DI (v := (sv g)) Z Z Z (Rb1 Z)) ⟨In0, ?_⟩)
      refine Eh 3 16 (by kernel_rfl) ?_ ?_
      ·refine id (Jyq Z (DI (v := (sv g)) Z Z Z (Rb1 Z)) ⟨In0, ?_⟩)
       obtain ⟨i8, bw, dr⟩ := RowR.at a h
       obtain rfl := dr
       refine DO 16 (by kernel_rfl) (Jyq Z (D4 (T := Ty.str) Mb0 a bw (DU h).1 Z Z Z Z Z) ⟨In0, ?_⟩)
       refine DO 17 (by kernel_rfl) (Jyq Z (DI (v := (.string j)) Z Z Z (Ej (T := Ty.str) Mb0 a bw Z Z)) ⟨In0, ?_⟩)
       refine Jq 18 Z (EC i Z Z Z) ?_
       obtain ⟨i9, an, ds⟩ := RowR.at a f
       obtain rfl := ds
       refine DO 19 (by kernel_rfl) (Jyq Z (D4 (T := Ty.str) Mb0 a an (DU f).1 Z Z Z Z Z) ⟨In0, ?_⟩)
       refine Ao 20 Z ?_
       refine DY (T := Ty.str) (vs := [(.string b)]) (r' := [(.string b)]) (l' := (Eb e p0.at_ b)) Z Z Z Z Z .here a an Z Z Z (RowR.set p0.at_ a Z) (fun b8 => ⟨In0, ?_⟩)
       have gT := EH an (v := [(.string b)])
       refine Ad<|Shift.settle (T := Ty.str) .here b8 rfl<|?_
       intro fT hR eO
       exact Pu1<|Re1<|Sd<|⟨_, by exact R2, true, g, (Eb e p0.at_ b), Z, Z, H, eO⟩
      ·obtain ⟨ja, ao, dt⟩ := RowR.at a h
       obtain rfl := dt
       refine id (Jyq Z (D4 (T := Ty.str) Mb0 a ao (DU h).1 Z Z Z Z Z) ⟨In0, ?_⟩)
       refine Eh 3 17 (by kernel_rfl) ?_ ?_
       ·refine id (Jyq Z (DI (v := (sv g)) Z Z Z (Rb1 Z)) ⟨In0, ?_⟩)
        refine DO 17 (by kernel_rfl) (Jyq Z (DI (v := (.string j)) Z Z Z (Ej (T := Ty.str) Mb0 a ao Z Z)) ⟨In0, ?_⟩)
        refine Jq 18 Z (EC i Z Z Z) ?_
        obtain ⟨jb, ap, du⟩ := RowR.at a f
        obtain rfl := du
        refine DO 19 (by kernel_rfl) (Jyq Z (D4 (T := Ty.str) Mb0 a ap (DU f).1 Z Z Z Z Z) ⟨In0, ?_⟩)
        refine Ao 20 Z ?_
        refine DY (T := Ty.str) (vs := [(.string b)]) (r' := [(.string b)]) (l' := (Eb e p0.at_ b)) Z Z Z Z Z .here a ap Z Z Z (RowR.set p0.at_ a Z) (fun b9 => ⟨In0, ?_⟩)
        have gU := EH ap (v := [(.string b)])
        refine Ad<|Shift.settle (T := Ty.str) .here b9 rfl<|?_
        intro fU hS eP
        exact Pu1<|Re1<|Sd<|⟨_, by exact R2, true, g, (Eb e p0.at_ b), Z, Z, H, eP⟩
       ·refine id (Jyq Z (DI (v := (.string j)) Z Z Z (Ej (T := Ty.str) Mb0 a ao Z Z)) ⟨In0, ?_⟩)
        refine Jq 18 Z (EC i Z Z Z) ?_
        refine DO 3 (by kernel_rfl) (Jyq Z (DI (v := (sv g)) Z Z Z (Rb1 Z)) ⟨In0, ?_⟩)
        obtain ⟨jc, aq, dv⟩ := RowR.at a f
        obtain rfl := dv
        refine DO 19 (by kernel_rfl) (Jyq Z (D4 (T := Ty.str) Mb0 a aq (DU f).1 Z Z Z Z Z) ⟨In0, ?_⟩)
        refine Ao 20 Z ?_
        refine DY (T := Ty.str) (vs := [(.string b)]) (r' := [(.string b)]) (l' := (Eb e p0.at_ b)) Z Z Z Z Z .here a aq Z Z Z (RowR.set p0.at_ a Z) (fun ca => ⟨In0, ?_⟩)
        have gV := EH aq (v := [(.string b)])
        refine Ad<|Shift.settle (T := Ty.str) .here ca rfl<|?_
        intro fV hT eQ
        exact Pu1<|Re1<|Sd<|⟨_, by exact R2, true, g, (Eb e p0.at_ b), Z, Z, H, eQ⟩
   ·refine id (Jyq Z (DI (v := (sv g)) Z Z Z (Rb1 Z)) ⟨In0, ?_⟩)
    refine EV 3 7 15 (by kernel_rfl) ?_ ?_ ?_
    ·refine id (Jyq Z (DI (v := (sv g)) Z Z Z (Rb1 Z)) ⟨In0, ?_⟩)
     refine Eh 7 15 (by kernel_rfl) ?_ ?_
     ·refine id (Jyq Z (DI (v := (Vi p0.at_)) Z Z Z (Rb1 Z)) ⟨In0, ?_⟩)
      refine DO 15 (by kernel_rfl) (Jyq Z (DI (v := (Vi p0.at_)) Z Z Z (Rb1 Z)) ⟨In0, ?_⟩)
      obtain ⟨jd, bx, dw⟩ := RowR.at a h
      obtain rfl := dw
      refine DO 16 (by kernel_rfl) (Jyq Z (D4 (T := Ty.str) Mb0 a bx (DU h).1 Z Z Z Z Z) ⟨In0, ?_⟩)
      refine DO 17 (by kernel_rfl) (Jyq Z (DI (v := (.string j)) Z Z Z (Ej (T := Ty.str) Mb0 a bx Z Z)) ⟨In0, ?_⟩)
      refine Jq 18 Z (EC i Z Z Z) ?_
      obtain ⟨je, ar, dx⟩ := RowR.at a f
      obtain rfl := dx
      refine DO 19 (by kernel_rfl) (Jyq Z (D4 (T := Ty.str) Mb0 a ar (DU f).1 Z Z Z Z Z) ⟨In0, ?_⟩)
      refine Ao 20 Z ?_
      refine DY (T := Ty.str) (vs := [(.string b)]) (r' := [(.string b)]) (l' := (Eb e p0.at_ b)) Z Z Z Z Z .here a ar Z Z Z (RowR.set p0.at_ a Z) (fun cb => ⟨In0, ?_⟩)
      have gW := EH ar (v := [(.string b)])
      refine Ad<|Shift.settle (T := Ty.str) .here cb rfl<|?_
      intro fW hU eR
      exact Pu1<|Re1<|Sd<|⟨_, by exact R2, true, g, (Eb e p0.at_ b), Z, Z, H, eR⟩
     ·refine id (Jyq Z (DI (v := (Vi p0.at_)) Z Z Z (Rb1 Z)) ⟨In0, ?_⟩)
      refine Eh 7 16 (by kernel_rfl) ?_ ?_
      ·refine id (Jyq Z (DI (v := (Vi p0.at_)) Z Z Z (Rb1 Z)) ⟨In0, ?_⟩)
       obtain ⟨jf, bz, dy⟩ := RowR.at a h
       obtain rfl := dy
       refine DO 16 (by kernel_rfl) (Jyq Z (D4 (T := Ty.str) Mb0 a bz (DU h).1 Z Z Z Z Z) ⟨In0, ?_⟩)
       refine DO 17 (by kernel_rfl) (Jyq Z (DI (v := (.string j)) Z Z Z (Ej (T := Ty.str) Mb0 a bz Z Z)) ⟨In0, ?_⟩)
       refine Jq 18 Z (EC i Z Z Z) ?_
       obtain ⟨jg, au, dz⟩ := RowR.at a f
       obtain rfl := dz
       refine DO 19 (by kernel_rfl) (Jyq Z (D4 (T := Ty.str) Mb0 a au (DU f).1 Z Z Z Z Z) ⟨In0, ?_⟩)
       refine Ao 20 Z ?_
       refine DY (T := Ty.str) (vs := [(.string b)]) (r' := [(.string b)]) (l' := (Eb e p0.at_ b)) Z Z Z Z Z .here a au Z Z Z (RowR.set p0.at_ a Z) (fun cc => ⟨In0, ?_⟩)
       have gX := EH au (v := [(.string b)])
       refine Ad<|Shift.settle (T := Ty.str) .here cc rfl<|?_
       intro fX hV eS
       exact Pu1<|Re1<|Sd<|⟨_, by exact R2, true, g, (Eb e p0.at_ b), Z, Z, H, eS⟩
      ·obtain ⟨jh, av, dA⟩ := RowR.at a h
       obtain rfl := dA
       refine id (Jyq Z (D4 (T := Ty.str) Mb0 a av (DU h).1 Z Z Z Z Z) ⟨In0, ?_⟩)
       refine Eh 7 17 (by kernel_rfl) ?_ ?_
       ·refine id (Jyq Z (DI (v := (Vi p0.at_)) Z Z Z (Rb1 Z)) ⟨In0, ?_⟩)
        refine DO 17 (by kernel_rfl) (Jyq Z (DI (v := (.string j)) Z Z Z (Ej (T := Ty.str) Mb0 a av Z Z)) ⟨In0, ?_⟩)
        refine Jq 18 Z (EC i Z Z Z) ?_
        obtain ⟨ji, aw, dB⟩ := RowR.at a f
        obtain rfl := dB
        refine DO 19 (by kernel_rfl) (Jyq Z (D4 (T := Ty.str) Mb0 a aw (DU f).1 Z Z Z Z Z) ⟨In0, ?_⟩)
        refine Ao 20 Z ?_
        refine DY (T := Ty.str) (vs := [(.string b)]) (r' := [(.string b)]) (l' := (Eb e p0.at_ b)) Z Z Z Z Z .here a aw Z Z Z (RowR.set p0.at_ a Z) (fun cd => ⟨In0, ?_⟩)
        have gY := EH aw (v := [(.string b)])
        refine Ad<|Shift.settle (T := Ty.str) .here cd rfl<|?_
        intro fY hW eT
        exact Pu1<|Re1<|Sd<|⟨_, by exact R2, true, g, (Eb e p0.at_ b), Z, Z, H, eT⟩
       ·refine id (Jyq Z (DI (v := (.string j)) Z Z Z (Ej (T := Ty.str) Mb0 a av Z Z)) ⟨In0, ?_⟩)
        refine Jq 18 Z (EC i Z Z Z) ?_
        refine DO 7 (by kernel_rfl) (Jyq Z (DI (v := (Vi p0.at_)) Z Z Z (Rb1 Z)) ⟨In0, ?_⟩)
        obtain ⟨jj, ax, dC⟩ := RowR.at a f
        obtain rfl := dC
        refine DO 19 (by kernel_rfl) (Jyq Z (D4 (T := Ty.str) Mb0 a ax (DU f).1 Z Z Z Z Z) ⟨In0, ?_⟩)
        refine Ao 20 Z ?_
        refine DY (T := Ty.str) (vs := [(.string b)]) (r' := [(.string b)]) (l' := (Eb e p0.at_ b)) Z Z Z Z Z .here a ax Z Z Z (RowR.set p0.at_ a Z) (fun ce => ⟨In0, ?_⟩)
        have gZ := EH ax (v := [(.string b)])
        refine Ad<|Shift.settle (T := Ty.str) .here ce rfl<|?_
        intro fZ hX eU
        exact Pu1<|Re1<|Sd<|⟨_, by exact R2, true, g, (Eb e p0.at_ b), Z, Z, H, eU⟩
    ·refine id (Jyq Z (DI (v := (Vi p0.at_)) Z Z Z (Rb1 Z)) ⟨In0, ?_⟩)
     refine Eh 3 15 (by kernel_rfl) ?_ ?_
     ·refine id (Jyq Z (DI (v := (sv g)) Z Z Z (Rb1 Z)) ⟨In0, ?_⟩)
      refine DO 15 (by kernel_rfl) (Jyq Z (DI (v := (Vi p0.at_)) Z Z Z (Rb1 Z)) ⟨In0, ?_⟩)
      obtain ⟨jk, bA, dD⟩ := RowR.at a h
      obtain rfl := dD
      refine DO 16 (by kernel_rfl) (Jyq Z (D4 (T := Ty.str) Mb0 a bA (DU h).1 Z Z Z Z Z) ⟨In0, ?_⟩)
      refine DO 17 (by kernel_rfl) (Jyq Z (DI (v := (.string j)) Z Z Z (Ej (T := Ty.str) Mb0 a bA Z Z)) ⟨In0, ?_⟩)
      refine Jq 18 Z (EC i Z Z Z) ?_
      obtain ⟨jl, ay, dE⟩ := RowR.at a f
      obtain rfl := dE
      refine DO 19 (by kernel_rfl) (Jyq Z (D4 (T := Ty.str) Mb0 a ay (DU f).1 Z Z Z Z Z) ⟨In0, ?_⟩)
      refine Ao 20 Z ?_
      refine DY (T := Ty.str) (vs := [(.string b)]) (r' := [(.string b)]) (l' := (Eb e p0.at_ b)) Z Z Z Z Z .here a ay Z Z Z (RowR.set p0.at_ a Z) (fun cf => ⟨In0, ?_⟩)
      have g0 := EH ay (v := [(.string b)])
      refine Ad<|Shift.settle (T := Ty.str) .here cf rfl<|?_
      intro f0 hY eV
      exact Pu1<|Re1<|Sd<|⟨_, by exact R2, true, g, (Eb e p0.at_ b), Z, Z, H, eV⟩
     ·refine id (Jyq Z (DI (v := (Vi p0.at_)) Z Z Z (Rb1 Z)) ⟨In0, ?_⟩)
      refine Eh 3 16 (by kernel_rfl) ?_ ?_
      ·refine id (Jyq Z (DI (v := (sv g)) Z Z Z (Rb1 Z)) ⟨In0, ?_⟩)
       obtain ⟨jm, bB, dF⟩ := RowR.at a h
       obtain rfl := dF
       refine DO 16 (by kernel_rfl) (Jyq Z (D4 (T := Ty.str) Mb0 a bB (DU h).1 Z Z Z Z Z) ⟨In0, ?_⟩)
       refine DO 17 (by kernel_rfl) (Jyq Z (DI (v := (.string j)) Z Z Z (Ej (T := Ty.str) Mb0 a bB Z Z)) ⟨In0, ?_⟩)
       refine Jq 18 Z (EC i Z Z Z) ?_
       obtain ⟨jn, az, dG⟩ := RowR.at a f
       obtain rfl := dG
       refine DO 19 (by kernel_rfl) (Jyq Z (D4 (T := Ty.str) Mb0 a az (DU f).1 Z Z Z Z Z) ⟨In0, ?_⟩)
       refine Ao 20 Z ?_
       refine DY (T := Ty.str) (vs := [(.string b)]) (r' := [(.string b)]) (l' := (Eb e p0.at_ b)) Z Z Z Z Z .here a az Z Z Z (RowR.set p0.at_ a Z) (fun cg => ⟨In0, ?_⟩)
       have g1 := EH az (v := [(.string b)])
       refine Ad<|Shift.settle (T := Ty.str) .here cg rfl<|?_
       intro f1 hZ eW
       exact Pu1<|Re1<|Sd<|⟨_, by exact R2, true, g, (Eb e p0.at_ b), Z, Z, H, eW⟩
      ·obtain ⟨jo, aA, dH⟩ := RowR.at a h
       obtain rfl := dH
       refine id (Jyq Z (D4 (T := Ty.str) Mb0 a aA (DU h).1 Z Z Z Z Z) ⟨In0, ?_⟩)
       refine Eh 3 17 (by kernel_rfl) ?_ ?_
       ·refine id (Jyq Z (DI (v := (sv g)) Z Z Z (Rb1 Z)) ⟨In0, ?_⟩)
        refine DO 17 (by kernel_rfl) (Jyq Z (DI (v := (.string j)) Z Z Z (Ej (T := Ty.str) Mb0 a aA Z Z)) ⟨In0, ?_⟩)
        refine Jq 18 Z (EC i Z Z Z) ?_
        obtain ⟨jp, aB, dI⟩ := RowR.at a f
        obtain rfl := dI
        refine DO 19 (by kernel_rfl) (Jyq Z (D4 (T := Ty.str) Mb0 a aB (DU f).1 Z Z Z Z Z) ⟨In0, ?_⟩)
        refine Ao 20 Z ?_
        refine DY (T := Ty.str) (vs := [(.string b)]) (r' := [(.string b)]) (l' := (Eb e p0.at_ b)) Z Z Z Z Z .here a aB Z Z Z (RowR.set p0.at_ a Z) (fun ch => ⟨In0, ?_⟩)
        have g2 := EH aB (v := [(.string b)])
        refine Ad<|Shift.settle (T := Ty.str) .here ch rfl<|?_
        intro f2 h0 eX
        exact Pu1<|Re1<|Sd<|⟨_, by exact R2, true, g, (Eb e p0.at_ b), Z, Z, H, eX⟩
       ·refine id (Jyq Z (DI (v := (.string j)) Z Z Z (Ej (T := Ty.str) Mb0 a aA Z Z)) ⟨In0, ?_⟩)
        refine Jq 18 Z (EC i Z Z Z) ?_
        refine DO 3 (by kernel_rfl) (Jyq Z (DI (v := (sv g)) Z Z Z (Rb1 Z)) ⟨In0, ?_⟩)
        obtain ⟨jq, aC, dJ⟩ := RowR.at a f
        obtain rfl := dJ
        refine DO 19 (by kernel_rfl) (Jyq Z (D4 (T := Ty.str) Mb0 a aC (DU f).1 Z Z Z Z Z) ⟨In0, ?_⟩)
        refine Ao 20 Z ?_
        refine DY (T := Ty.str) (vs := [(.string b)]) (r' := [(.string b)]) (l' := (Eb e p0.at_ b)) Z Z Z Z Z .here a aC Z Z Z (RowR.set p0.at_ a Z) (fun ci => ⟨In0, ?_⟩)
        have g3 := EH aC (v := [(.string b)])
        refine Ad<|Shift.settle (T := Ty.str) .here ci rfl<|?_
        intro f3 h1 eY
        exact Pu1<|Re1<|Sd<|⟨_, by exact R2, true, g, (Eb e p0.at_ b), Z, Z, H, eY⟩
    ·refine id (Jyq Z (DI (v := (Vi p0.at_)) Z Z Z (Rb1 Z)) ⟨In0, ?_⟩)
     refine EV 3 7 16 (by kernel_rfl) ?_ ?_ ?_
     ·refine id (Jyq Z (DI (v := (sv g)) Z Z Z (Rb1 Z)) ⟨In0, ?_⟩)
      refine Eh 7 16 (by kernel_rfl) ?_ ?_
      ·refine id (Jyq Z (DI (v := (Vi p0.at_)) Z Z Z (Rb1 Z)) ⟨In0, ?_⟩)
       obtain ⟨jr, bC, dK⟩ := RowR.at a h
       obtain rfl := dK
       refine DO 16 (by kernel_rfl) (Jyq Z (D4 (T := Ty.str) Mb0 a bC (DU h).1 Z Z Z Z Z) ⟨In0, ?_⟩)
       refine DO 17 (by kernel_rfl) (Jyq Z (DI (v := (.string j)) Z Z Z (Ej (T := Ty.str) Mb0 a bC Z Z)) ⟨In0, ?_⟩)
       refine Jq 18 Z (EC i Z Z Z) ?_
       obtain ⟨js, aD, dL⟩ := RowR.at a f
       obtain rfl := dL
       refine DO 19 (by kernel_rfl) (Jyq Z (D4 (T := Ty.str) Mb0 a aD (DU f).1 Z Z Z Z Z) ⟨In0, ?_⟩)
       refine Ao 20 Z ?_
       refine DY (T := Ty.str) (vs := [(.string b)]) (r' := [(.string b)]) (l' := (Eb e p0.at_ b)) Z Z Z Z Z .here a aD Z Z Z (RowR.set p0.at_ a Z) (fun cj => ⟨In0, ?_⟩)
       have g4 := EH aD (v := [(.string b)])
       refine Ad<|Shift.settle (T := Ty.str) .here cj rfl<|?_
       intro f4 h2 eZ
       exact Pu1<|Re1<|Sd<|⟨_, by exact R2, true, g, (Eb e p0.at_ b), Z, Z, H, eZ⟩
      ·obtain ⟨jt, aE, dM⟩ := RowR.at a h
       obtain rfl := dM
       refine id (Jyq Z (D4 (T := Ty.str) Mb0 a aE (DU h).1 Z Z Z Z Z) ⟨In0, ?_⟩)
       refine Eh 7 17 (by kernel_rfl) ?_ ?_
       ·refine id (Jyq Z (DI (v := (Vi p0.at_)) Z Z Z (Rb1 Z)) ⟨In0, ?_⟩)
        refine DO 17 (by kernel_rfl) (Jyq Z (DI (v := (.string j)) Z Z Z (Ej (T := Ty.str) Mb0 a aE Z Z)) ⟨In0, ?_⟩)
        refine Jq 18 Z (EC i Z Z Z) ?_
        obtain ⟨ju, aF, dN⟩ := RowR.at a f
        obtain rfl := dN
        refine DO 19 (by kernel_rfl) (Jyq Z (D4 (T := Ty.str) Mb0 a aF (DU f).1 Z Z Z Z Z) ⟨In0, ?_⟩)
        refine Ao 20 Z ?_
        refine DY (T := Ty.str) (vs := [(.string b)]) (r' := [(.string b)]) (l' := (Eb e p0.at_ b)) Z Z Z Z Z .here a aF Z Z Z (RowR.set p0.at_ a Z) (fun ck => ⟨In0, ?_⟩)
        have g5 := EH aF (v := [(.string b)])
        refine Ad<|Shift.settle (T := Ty.str) .here ck rfl<|?_
        intro f5 h3 e0
        exact Pu1<|Re1<|Sd<|⟨_, by exact R2, true, g, (Eb e p0.at_ b), Z, Z, H, e0⟩
       ·refine id (Jyq Z (DI (v := (.string j)) Z Z Z (Ej (T := Ty.str) Mb0 a aE Z Z)) ⟨In0, ?_⟩)
        refine Jq 18 Z (EC i Z Z Z) ?_
        refine DO 7 (by kernel_rfl) (Jyq Z (DI (v := (Vi p0.at_)) Z Z Z (Rb1 Z)) ⟨In0, ?_⟩)
        obtain ⟨jv, aG, dO⟩ := RowR.at a f
        obtain rfl := dO
        refine DO 19 (by kernel_rfl) (Jyq Z (D4 (T := Ty.str) Mb0 a aG (DU f).1 Z Z Z Z Z) ⟨In0, ?_⟩)
        refine Ao 20 Z ?_
        refine DY (T := Ty.str) (vs := [(.string b)]) (r' := [(.string b)]) (l' := (Eb e p0.at_ b)) Z Z Z Z Z .here a aG Z Z Z (RowR.set p0.at_ a Z) (fun cl => ⟨In0, ?_⟩)
        have g6 := EH aG (v := [(.string b)])
        refine Ad<|Shift.settle (T := Ty.str) .here cl rfl<|?_
        intro f6 h4 e1
        exact Pu1<|Re1<|Sd<|⟨_, by exact R2, true, g, (Eb e p0.at_ b), Z, Z, H, e1⟩
     ·refine id (Jyq Z (DI (v := (Vi p0.at_)) Z Z Z (Rb1 Z)) ⟨In0, ?_⟩)
      refine Eh 3 16 (by kernel_rfl) ?_ ?_
      ·refine id (Jyq Z (DI (v := (sv g)) Z Z Z (Rb1 Z)) ⟨In0, ?_⟩)
       obtain ⟨jw, bD, dP⟩ := RowR.at a h
       obtain rfl := dP
       refine DO 16 (by kernel_rfl) (Jyq Z (D4 (T := Ty.str) Mb0 a bD (DU h).1 Z Z Z Z Z) ⟨In0, ?_⟩)
       refine DO 17 (by kernel_rfl) (Jyq Z (DI (v := (.string j)) Z Z Z (Ej (T := Ty.str) Mb0 a bD Z Z)) ⟨In0, ?_⟩)
       refine Jq 18 Z (EC i Z Z Z) ?_
       obtain ⟨jx, aH, dQ⟩ := RowR.at a f
       obtain rfl := dQ
       refine DO 19 (by kernel_rfl) (Jyq Z (D4 (T := Ty.str) Mb0 a aH (DU f).1 Z Z Z Z Z) ⟨In0, ?_⟩)
       refine Ao 20 Z ?_
       refine DY (T := Ty.str) (vs := [(.string b)]) (r' := [(.string b)]) (l' := (Eb e p0.at_ b)) Z Z Z Z Z .here a aH Z Z Z (RowR.set p0.at_ a Z) (fun cm => ⟨In0, ?_⟩)
       have g7 := EH aH (v := [(.string b)])
       refine Ad<|Shift.settle (T := Ty.str) .here cm rfl<|?_
       intro f7 h5 e2
       exact Pu1<|Re1<|Sd<|⟨_, by exact R2, true, g, (Eb e p0.at_ b), Z, Z, H, e2⟩
      ·obtain ⟨jy, aI, dR⟩ := RowR.at a h
       obtain rfl := dR
       refine id (Jyq Z (D4 (T := Ty.str) Mb0 a aI (DU h).1 Z Z Z Z Z) ⟨In0, ?_⟩)
       refine Eh 3 17 (by kernel_rfl) ?_ ?_
       ·refine id (Jyq Z (DI (v := (sv g)) Z Z Z (Rb1 Z)) ⟨In0, ?_⟩)
        refine DO 17 (by kernel_rfl) (Jyq Z (DI (v := (.string j)) Z Z Z (Ej (T := Ty.str) Mb0 a aI Z Z)) ⟨In0, ?_⟩)
        refine Jq 18 Z (EC i Z Z Z) ?_
        obtain ⟨jz, aJ, dS⟩ := RowR.at a f
        obtain rfl := dS
        refine DO 19 (by kernel_rfl) (Jyq Z (D4 (T := Ty.str) Mb0 a aJ (DU f).1 Z Z Z Z Z) ⟨In0, ?_⟩)
        refine Ao 20 Z ?_
        refine DY (T := Ty.str) (vs := [(.string b)]) (r' := [(.string b)]) (l' := (Eb e p0.at_ b)) Z Z Z Z Z .here a aJ Z Z Z (RowR.set p0.at_ a Z) (fun cn => ⟨In0, ?_⟩)
        have g8 := EH aJ (v := [(.string b)])
        refine Ad<|Shift.settle (T := Ty.str) .here cn rfl<|?_
        intro f8 h6 e3
        exact Pu1<|Re1<|Sd<|⟨_, by exact R2, true, g, (Eb e p0.at_ b), Z, Z, H, e3⟩
       ·refine id (Jyq Z (DI (v := (.string j)) Z Z Z (Ej (T := Ty.str) Mb0 a aI Z Z)) ⟨In0, ?_⟩)
        refine Jq 18 Z (EC i Z Z Z) ?_
        refine DO 3 (by kernel_rfl) (Jyq Z (DI (v := (sv g)) Z Z Z (Rb1 Z)) ⟨In0, ?_⟩)
        obtain ⟨jA, aK, dT⟩ := RowR.at a f
        obtain rfl := dT
        refine DO 19 (by kernel_rfl) (Jyq Z (D4 (T := Ty.str) Mb0 a aK (DU f).1 Z Z Z Z Z) ⟨In0, ?_⟩)
        refine Ao 20 Z ?_
        refine DY (T := Ty.str) (vs := [(.string b)]) (r' := [(.string b)]) (l' := (Eb e p0.at_ b)) Z Z Z Z Z .here a aK Z Z Z (RowR.set p0.at_ a Z) (fun co => ⟨In0, ?_⟩)
        have g9 := EH aK (v := [(.string b)])
        refine Ad<|Shift.settle (T := Ty.str) .here co rfl<|?_
        intro f9 h7 e4
        exact Pu1<|Re1<|Sd<|⟨_, by exact R2, true, g, (Eb e p0.at_ b), Z, Z, H, e4⟩
     ·obtain ⟨jB, A, dU⟩ := RowR.at a h
      obtain rfl := dU
      refine id (Jyq Z (D4 (T := Ty.str) Mb0 a A (DU h).1 Z Z Z Z Z) ⟨In0, ?_⟩)
      refine EV 3 7 17 (by kernel_rfl) ?_ ?_ ?_
      ·refine id (Jyq Z (DI (v := (sv g)) Z Z Z (Rb1 Z)) ⟨In0, ?_⟩)
       refine Eh 7 17 (by kernel_rfl) ?_ ?_
       ·refine id (Jyq Z (DI (v := (Vi p0.at_)) Z Z Z (Rb1 Z)) ⟨In0, ?_⟩)
        refine DO 17 (by kernel_rfl) (Jyq Z (DI (v := (.string j)) Z Z Z (Ej (T := Ty.str) Mb0 a A Z Z)) ⟨In0, ?_⟩)
        refine Jq 18 Z (EC i Z Z Z) ?_
        obtain ⟨jC, aL, dV⟩ := RowR.at a f
        obtain rfl := dV
        refine DO 19 (by kernel_rfl) (Jyq Z (D4 (T := Ty.str) Mb0 a aL (DU f).1 Z Z Z Z Z) ⟨In0, ?_⟩)
        refine Ao 20 Z ?_
        refine DY (T := Ty.str) (vs := [(.string b)]) (r' := [(.string b)]) (l' := (Eb e p0.at_ b)) Z Z Z Z Z .here a aL Z Z Z (RowR.set p0.at_ a Z) (fun cp => ⟨In0, ?_⟩)
        have ha := EH aL (v := [(.string b)])
        refine Ad<|Shift.settle (T := Ty.str) .here cp rfl<|?_
        intro ga h8 e5
        exact Pu1<|Re1<|Sd<|⟨_, by exact R2, true, g, (Eb e p0.at_ b), Z, Z, H, e5⟩
       ·refine id (Jyq Z (DI (v := (.string j)) Z Z Z (Ej (T := Ty.str) Mb0 a A Z Z)) ⟨In0, ?_⟩)
        refine Jq 18 Z (EC i Z Z Z) ?_
        refine DO 7 (by kernel_rfl) (Jyq Z (DI (v := (Vi p0.at_)) Z Z Z (Rb1 Z)) ⟨In0, ?_⟩)
        obtain ⟨jD, aM, dW⟩ := RowR.at a f
        obtain rfl := dW
        refine DO 19 (by kernel_rfl) (Jyq Z (D4 (T := Ty.str) Mb0 a aM (DU f).1 Z Z Z Z Z) ⟨In0, ?_⟩)
        refine Ao 20 Z ?_
        refine DY (T := Ty.str) (vs := [(.string b)]) (r' := [(.string b)]) (l' := (Eb e p0.at_ b)) Z Z Z Z Z .here a aM Z Z Z (RowR.set p0.at_ a Z) (fun cq => ⟨In0, ?_⟩)
        have hb := EH aM (v := [(.string b)])
        refine Ad<|Shift.settle (T := Ty.str) .here cq rfl<|?_
        intro gb h9 e6
        exact Pu1<|Re1<|Sd<|⟨_, by exact R2, true, g, (Eb e p0.at_ b), Z, Z, H, e6⟩
      ·refine id (Jyq Z (DI (v := (Vi p0.at_)) Z Z Z (Rb1 Z)) ⟨In0, ?_⟩)
       refine Eh 3 17 (by kernel_rfl) ?_ ?_
       ·refine id (Jyq Z (DI (v := (sv g)) Z Z Z (Rb1 Z)) ⟨In0, ?_⟩)
        refine DO 17 (by kernel_rfl) (Jyq Z (DI (v := (.string j)) Z Z Z (Ej (T := Ty.str) Mb0 a A Z Z)) ⟨In0, ?_⟩)
        refine Jq 18 Z (EC i Z Z Z) ?_
        obtain ⟨jE, aN, dX⟩ := RowR.at a f
        obtain rfl := dX
        refine DO 19 (by kernel_rfl) (Jyq Z (D4 (T := Ty.str) Mb0 a aN (DU f).1 Z Z Z Z Z) ⟨In0, ?_⟩)
        refine Ao 20 Z ?_
        refine DY (T := Ty.str) (vs := [(.string b)]) (r' := [(.string b)]) (l' := (Eb e p0.at_ b)) Z Z Z Z Z .here a aN Z Z Z (RowR.set p0.at_ a Z) (fun cr => ⟨In0, ?_⟩)
        have hc := EH aN (v := [(.string b)])
        refine Ad<|Shift.settle (T := Ty.str) .here cr rfl<|?_
        intro gc ia e7
        exact Pu1<|Re1<|Sd<|⟨_, by exact R2, true, g, (Eb e p0.at_ b), Z, Z, H, e7⟩
       ·refine id (Jyq Z (DI (v := (.string j)) Z Z Z (Ej (T := Ty.str) Mb0 a A Z Z)) ⟨In0, ?_⟩)
        refine Jq 18 Z (EC i Z Z Z) ?_
        refine DO 3 (by kernel_rfl) (Jyq Z (DI (v := (sv g)) Z Z Z (Rb1 Z)) ⟨In0, ?_⟩)
        obtain ⟨jF, aO, dY⟩ := RowR.at a f
        obtain rfl := dY
        refine DO 19 (by kernel_rfl) (Jyq Z (D4 (T := Ty.str) Mb0 a aO (DU f).1 Z Z Z Z Z) ⟨In0, ?_⟩)
        refine Ao 20 Z ?_
        refine DY (T := Ty.str) (vs := [(.string b)]) (r' := [(.string b)]) (l' := (Eb e p0.at_ b)) Z Z Z Z Z .here a aO Z Z Z (RowR.set p0.at_ a Z) (fun cs => ⟨In0, ?_⟩)
        have hd := EH aO (v := [(.string b)])
        refine Ad<|Shift.settle (T := Ty.str) .here cs rfl<|?_
        intro gd ib e8
        exact Pu1<|Re1<|Sd<|⟨_, by exact R2, true, g, (Eb e p0.at_ b), Z, Z, H, e8⟩
      ·refine id (Jyq Z (DI (v := (.string j)) Z Z Z (Ej (T := Ty.str) Mb0 a A Z Z)) ⟨In0, ?_⟩)
       refine Jq 18 Z (EC i Z Z Z) ?_
       refine Eh 3 7 (by kernel_rfl) ?_ ?_
       ·refine id (Jyq Z (DI (v := (sv g)) Z Z Z (Rb1 Z)) ⟨In0, ?_⟩)
        refine DO 7 (by kernel_rfl) (Jyq Z (DI (v := (Vi p0.at_)) Z Z Z (Rb1 Z)) ⟨In0, ?_⟩)
        obtain ⟨jG, aP, dZ⟩ := RowR.at a f
        obtain rfl := dZ
        refine DO 19 (by kernel_rfl) (Jyq Z (D4 (T := Ty.str) Mb0 a aP (DU f).1 Z Z Z Z Z) ⟨In0, ?_⟩)
        refine Ao 20 Z ?_
        refine DY (T := Ty.str) (vs := [(.string b)]) (r' := [(.string b)]) (l' := (Eb e p0.at_ b)) Z Z Z Z Z .here a aP Z Z Z (RowR.set p0.at_ a Z) (fun ct => ⟨In0, ?_⟩)
        have he := EH aP (v := [(.string b)])
        refine Ad<|Shift.settle (T := Ty.str) .here ct rfl<|?_
        intro ge ic e9
        exact Pu1<|Re1<|Sd<|⟨_, by exact R2, true, g, (Eb e p0.at_ b), Z, Z, H, e9⟩
       ·refine id (Jyq Z (DI (v := (Vi p0.at_)) Z Z Z (Rb1 Z)) ⟨In0, ?_⟩)
        refine DO 3 (by kernel_rfl) (Jyq Z (DI (v := (sv g)) Z Z Z (Rb1 Z)) ⟨In0, ?_⟩)
        obtain ⟨jH, aQ, d0⟩ := RowR.at a f
        obtain rfl := d0
        refine DO 19 (by kernel_rfl) (Jyq Z (D4 (T := Ty.str) Mb0 a aQ (DU f).1 Z Z Z Z Z) ⟨In0, ?_⟩)
        refine Ao 20 Z ?_
        refine DY (T := Ty.str) (vs := [(.string b)]) (r' := [(.string b)]) (l' := (Eb e p0.at_ b)) Z Z Z Z Z .here a aQ Z Z Z (RowR.set p0.at_ a Z) (fun cu => ⟨In0, ?_⟩)
        have hf := EH aQ (v := [(.string b)])
        refine Ad<|Shift.settle (T := Ty.str) .here cu rfl<|?_
        intro gf ie fa
        exact Pu1<|Re1<|Sd<|⟨_, by exact R2, true, g, (Eb e p0.at_ b), Z, Z, H, fa⟩
   ·refine id (Jyq Z (DI (v := (Vi p0.at_)) Z Z Z (Rb1 Z)) ⟨In0, ?_⟩)
    refine EV 3 7 11 (by kernel_rfl) ?_ ?_ ?_
    ·refine id (Jyq Z (DI (v := (sv g)) Z Z Z (Rb1 Z)) ⟨In0, ?_⟩)
     refine Eh 7 11 (by kernel_rfl) ?_ ?_
     ·refine id (Jyq Z (DI (v := (Vi p0.at_)) Z Z Z (Rb1 Z)) ⟨In0, ?_⟩)
      refine DO 11 (by kernel_rfl) (Jyq Z (DI (v := (sv g)) Z Z Z (Rb1 Z)) ⟨In0, ?_⟩)
      obtain ⟨jI, bE, d1⟩ := RowR.at a h
      obtain rfl := d1
      refine DO 16 (by kernel_rfl) (Jyq Z (D4 (T := Ty.str) Mb0 a bE (DU h).1 Z Z Z Z Z) ⟨In0, ?_⟩)
      refine DO 17 (by kernel_rfl) (Jyq Z (DI (v := (.string j)) Z Z Z (Ej (T := Ty.str) Mb0 a bE Z Z)) ⟨In0, ?_⟩)
      refine Jq 18 Z (EC i Z Z Z) ?_
      obtain ⟨jJ, aR, d2⟩ := RowR.at a f
      obtain rfl := d2
      refine DO 19 (by kernel_rfl) (Jyq Z (D4 (T := Ty.str) Mb0 a aR (DU f).1 Z Z Z Z Z) ⟨In0, ?_⟩)
      refine Ao 20 Z ?_
      refine DY (T := Ty.str) (vs := [(.string b)]) (r' := [(.string b)]) (l' := (Eb e p0.at_ b)) Z Z Z Z Z .here a aR Z Z Z (RowR.set p0.at_ a Z) (fun cv => ⟨In0, ?_⟩)
      have hg := EH aR (v := [(.string b)])
      refine Ad<|Shift.settle (T := Ty.str) .here cv rfl<|?_
      intro gg ig fb
      exact Pu1<|Re1<|Sd<|⟨_, by exact R2, true, g, (Eb e p0.at_ b), Z, Z, H, fb⟩
     ·refine id (Jyq Z (DI (v := (sv g)) Z Z Z (Rb1 Z)) ⟨In0, ?_⟩)
      refine Eh 7 16 (by kernel_rfl) ?_ ?_
      ·refine id (Jyq Z (DI (v := (Vi p0.at_)) Z Z Z (Rb1 Z)) ⟨In0, ?_⟩)
       obtain ⟨jK, bF, d3⟩ := RowR.at a h
       obtain rfl := d3
       refine DO 16 (by kernel_rfl) (Jyq Z (D4 (T := Ty.str) Mb0 a bF (DU h).1 Z Z Z Z Z) ⟨In0, ?_⟩)
       refine DO 17 (by kernel_rfl) (Jyq Z (DI (v := (.string j)) Z Z Z (Ej (T := Ty.str) Mb0 a bF Z Z)) ⟨In0, ?_⟩)
       refine Jq 18 Z (EC i Z Z Z) ?_
       obtain ⟨jL, aS, d4⟩ := RowR.at a f
       obtain rfl := d4
       refine DO 19 (by kernel_rfl) (Jyq Z (D4 (T := Ty.str) Mb0 a aS (DU f).1 Z Z Z Z Z) ⟨In0, ?_⟩)
       refine Ao 20 Z ?_
       refine DY (T := Ty.str) (vs := [(.string b)]) (r' := [(.string b)]) (l' := (Eb e p0.at_ b)) Z Z Z Z Z .here a aS Z Z Z (RowR.set p0.at_ a Z) (fun cw => ⟨In0, ?_⟩)
       have hh := EH aS (v := [(.string b)])
       refine Ad<|Shift.settle (T := Ty.str) .here cw rfl<|?_
       intro gh ih fc
       exact Pu1<|Re1<|Sd<|⟨_, by exact R2, true, g, (Eb e p0.at_ b), Z, Z, H, fc⟩
      ·obtain ⟨jM, aT, d5⟩ := RowR.at a h
       obtain rfl := d5
       refine id (Jyq Z (D4 (T := Ty.str) Mb0 a aT (DU h).1 Z Z Z Z Z) ⟨In0, ?_⟩)
       refine Eh 7 17 (by kernel_rfl) ?_ ?_
       ·refine id (Jyq Z (DI (v := (Vi p0.at_)) Z Z Z (Rb1 Z)) ⟨In0, ?_⟩)
        refine DO 17 (by kernel_rfl) (Jyq Z (DI (v := (.string j)) Z Z Z (Ej (T := Ty.str) Mb0 a aT Z Z)) ⟨In0, ?_⟩)
        refine Jq 18 Z (EC i Z Z Z) ?_
        obtain ⟨jN, aU, d6⟩ := RowR.at a f
        obtain rfl := d6
        refine DO 19 (by kernel_rfl) (Jyq Z (D4 (T := Ty.str) Mb0 a aU (DU f).1 Z Z Z Z Z) ⟨In0, ?_⟩)
        refine Ao 20 Z ?_
        refine DY (T := Ty.str) (vs := [(.string b)]) (r' := [(.string b)]) (l' := (Eb e p0.at_ b)) Z Z Z Z Z .here a aU Z Z Z (RowR.set p0.at_ a Z) (fun cx => ⟨In0, ?_⟩)
        have hi := EH aU (v := [(.string b)])
        refine Ad<|Shift.settle (T := Ty.str) .here cx rfl<|?_
        intro gi ii fd
        exact Pu1<|Re1<|Sd<|⟨_, by exact R2, true, g, (Eb e p0.at_ b), Z, Z, H, fd⟩
       ·refine id (Jyq Z (DI (v := (.string j)) Z Z Z (Ej (T := Ty.str) Mb0 a aT Z Z)) ⟨In0, ?_⟩)
        refine Jq 18 Z (EC i Z Z Z) ?_
        refine DO 7 (by kernel_rfl) (Jyq Z (DI (v := (Vi p0.at_)) Z Z Z (Rb1 Z)) ⟨In0, ?_⟩)
        obtain ⟨jO, aV, d7⟩ := RowR.at a f
        obtain rfl := d7
        refine DO 19 (by kernel_rfl) (Jyq Z (D4 (T := Ty.str) Mb0 a aV (DU f).1 Z Z Z Z Z) ⟨In0, ?_⟩)
        refine Ao 20 Z ?_
        refine DY (T := Ty.str) (vs := [(.string b)]) (r' := [(.string b)]) (l' := (Eb e p0.at_ b)) Z Z Z Z Z .here a aV Z Z Z (RowR.set p0.at_ a Z) (fun cy => ⟨In0, ?_⟩)
        have hj := EH aV (v := [(.string b)])
        refine Ad<|Shift.settle (T := Ty.str) .here cy rfl<|?_
        intro gj ij fe
        exact Pu1<|Re1<|Sd<|⟨_, by exact R2, true, g, (Eb e p0.at_ b), Z, Z, H, fe⟩
    ·refine id (Jyq Z (DI (v := (Vi p0.at_)) Z Z Z (Rb1 Z)) ⟨In0, ?_⟩)
     refine Eh 3 11 (by kernel_rfl) ?_ ?_
     ·refine id (Jyq Z (DI (v := (sv g)) Z Z Z (Rb1 Z)) ⟨In0, ?_⟩)
      refine DO 11 (by kernel_rfl) (Jyq Z (DI (v := (sv g)) Z Z Z (Rb1 Z)) ⟨In0, ?_⟩)
      obtain ⟨jP, bG, d8⟩ := RowR.at a h
      obtain rfl := d8
      refine DO 16 (by kernel_rfl) (Jyq Z (D4 (T := Ty.str) Mb0 a bG (DU h).1 Z Z Z Z Z) ⟨In0, ?_⟩)
      refine DO 17 (by kernel_rfl) (Jyq Z (DI (v := (.string j)) Z Z Z (Ej (T := Ty.str) Mb0 a bG Z Z)) ⟨In0, ?_⟩)
      refine Jq 18 Z (EC i Z Z Z) ?_
      obtain ⟨jQ, aW, d9⟩ := RowR.at a f
      obtain rfl := d9
      refine DO 19 (by kernel_rfl) (Jyq Z (D4 (T := Ty.str) Mb0 a aW (DU f).1 Z Z Z Z Z) ⟨In0, ?_⟩)
      refine Ao 20 Z ?_
      refine DY (T := Ty.str) (vs := [(.string b)]) (r' := [(.string b)]) (l' := (Eb e p0.at_ b)) Z Z Z Z Z .here a aW Z Z Z (RowR.set p0.at_ a Z) (fun cz => ⟨In0, ?_⟩)
      have hk := EH aW (v := [(.string b)])
      refine Ad<|Shift.settle (T := Ty.str) .here cz rfl<|?_
      intro gk ik ff
      exact Pu1<|Re1<|Sd<|⟨_, by exact R2, true, g, (Eb e p0.at_ b), Z, Z, H, ff⟩
     ·refine id (Jyq Z (DI (v := (sv g)) Z Z Z (Rb1 Z)) ⟨In0, ?_⟩)
      refine Eh 3 16 (by kernel_rfl) ?_ ?_
      ·refine id (Jyq Z (DI (v := (sv g)) Z Z Z (Rb1 Z)) ⟨In0, ?_⟩)
       obtain ⟨jR, bH, ea⟩ := RowR.at a h
       obtain rfl := ea
       refine DO 16 (by kernel_rfl) (Jyq Z (D4 (T := Ty.str) Mb0 a bH (DU h).1 Z Z Z Z Z) ⟨In0, ?_⟩)
       refine DO 17 (by kernel_rfl) (Jyq Z (DI (v := (.string j)) Z Z Z (Ej (T := Ty.str) Mb0 a bH Z Z)) ⟨In0, ?_⟩)
       refine Jq 18 Z (EC i Z Z Z) ?_
       obtain ⟨jS, aX, eb⟩ := RowR.at a f
       obtain rfl := eb
       refine DO 19 (by kernel_rfl) (Jyq Z (D4 (T := Ty.str) Mb0 a aX (DU f).1 Z Z Z Z Z) ⟨In0, ?_⟩)
       refine Ao 20 Z ?_
       refine DY (T := Ty.str) (vs := [(.string b)]) (r' := [(.string b)]) (l' := (Eb e p0.at_ b)) Z Z Z Z Z .here a aX Z Z Z (RowR.set p0.at_ a Z) (fun cA => ⟨In0, ?_⟩)
       have hl := EH aX (v := [(.string b)])
       refine Ad<|Shift.settle (T := Ty.str) .here cA rfl<|?_
       intro gl il fg
       exact Pu1<|Re1<|Sd<|⟨_, by exact R2, true, g, (Eb e p0.at_ b), Z, Z, H, fg⟩
      ·obtain ⟨jT, aY, ec⟩ := RowR.at a h
       obtain rfl := ec
       refine id (Jyq Z (D4 (T := Ty.str) Mb0 a aY (DU h).1 Z Z Z Z Z) ⟨In0, ?_⟩)
       refine Eh 3 17 (by kernel_rfl) ?_ ?_
       ·refine id (Jyq Z (DI (v := (sv g)) Z Z Z (Rb1 Z)) ⟨In0, ?_⟩)
        refine DO 17 (by kernel_rfl) (Jyq Z (DI (v := (.string j)) Z Z Z (Ej (T := Ty.str) Mb0 a aY Z Z)) ⟨In0, ?_⟩)
        refine Jq 18 Z (EC i Z Z Z) ?_
        obtain ⟨jU, aZ, ed⟩ := RowR.at a f
        obtain rfl := ed
        refine DO 19 (by kernel_rfl) (Jyq Z (D4 (T := Ty.str) Mb0 a aZ (DU f).1 Z Z Z Z Z) ⟨In0, ?_⟩)
        refine Ao 20 Z ?_
        refine DY (T := Ty.str) (vs := [(.string b)]) (r' := [(.string b)]) (l' := (Eb e p0.at_ b)) Z Z Z Z Z .here a aZ Z Z Z (RowR.set p0.at_ a Z) (fun cB => ⟨In0, ?_⟩)
        have hm := EH aZ (v := [(.string b)])
        refine Ad<|Shift.settle (T := Ty.str) .here cB rfl<|?_
        intro gm im fh
        exact Pu1<|Re1<|Sd<|⟨_, by exact R2, true, g, (Eb e p0.at_ b), Z, Z, H, fh⟩
       ·refine id (Jyq Z (DI (v := (.string j)) Z Z Z (Ej (T := Ty.str) Mb0 a aY Z Z)) ⟨In0, ?_⟩)
        refine Jq 18 Z (EC i Z Z Z) ?_
        refine DO 3 (by kernel_rfl) (Jyq Z (DI (v := (sv g)) Z Z Z (Rb1 Z)) ⟨In0, ?_⟩)
        obtain ⟨jV, a0, ee⟩ := RowR.at a f
        obtain rfl := ee
        refine DO 19 (by kernel_rfl) (Jyq Z (D4 (T := Ty.str) Mb0 a a0 (DU f).1 Z Z Z Z Z) ⟨In0, ?_⟩)
        refine Ao 20 Z ?_
        refine DY (T := Ty.str) (vs := [(.string b)]) (r' := [(.string b)]) (l' := (Eb e p0.at_ b)) Z Z Z Z Z .here a a0 Z Z Z (RowR.set p0.at_ a Z) (fun cC => ⟨In0, ?_⟩)
        have hn := EH a0 (v := [(.string b)])
        refine Ad<|Shift.settle (T := Ty.str) .here cC rfl<|?_
        intro gn io fi
        exact Pu1<|Re1<|Sd<|⟨_, by exact R2, true, g, (Eb e p0.at_ b), Z, Z, H, fi⟩
    ·refine id (Jyq Z (DI (v := (sv g)) Z Z Z (Rb1 Z)) ⟨In0, ?_⟩)
     refine EV 3 7 16 (by kernel_rfl) ?_ ?_ ?_
     ·refine id (Jyq Z (DI (v := (sv g)) Z Z Z (Rb1 Z)) ⟨In0, ?_⟩)
      refine Eh 7 16 (by kernel_rfl) ?_ ?_
      ·refine id (Jyq Z (DI (v := (Vi p0.at_)) Z Z Z (Rb1 Z)) ⟨In0, ?_⟩)
       obtain ⟨jW, bI, ef⟩ := RowR.at a h
       obtain rfl := ef
       refine DO 16 (by kernel_rfl) (Jyq Z (D4 (T := Ty.str) Mb0 a bI (DU h).1 Z Z Z Z Z) ⟨In0, ?_⟩)
       refine DO 17 (by kernel_rfl) (Jyq Z (DI (v := (.string j)) Z Z Z (Ej (T := Ty.str) Mb0 a bI Z Z)) ⟨In0, ?_⟩)
       refine Jq 18 Z (EC i Z Z Z) ?_
       obtain ⟨jX, a1, eg⟩ := RowR.at a f
       obtain rfl := eg
       refine DO 19 (by kernel_rfl) (Jyq Z (D4 (T := Ty.str) Mb0 a a1 (DU f).1 Z Z Z Z Z) ⟨In0, ?_⟩)
       refine Ao 20 Z ?_
       refine DY (T := Ty.str) (vs := [(.string b)]) (r' := [(.string b)]) (l' := (Eb e p0.at_ b)) Z Z Z Z Z .here a a1 Z Z Z (RowR.set p0.at_ a Z) (fun cD => ⟨In0, ?_⟩)
       have ho := EH a1 (v := [(.string b)])
       refine Ad<|Shift.settle (T := Ty.str) .here cD rfl<|?_
       intro go ip fj
       exact Pu1<|Re1<|Sd<|⟨_, by exact R2, true, g, (Eb e p0.at_ b), Z, Z, H, fj⟩
      ·obtain ⟨jY, a2, eh⟩ := RowR.at a h
       obtain rfl := eh
       refine id (Jyq Z (D4 (T := Ty.str) Mb0 a a2 (DU h).1 Z Z Z Z Z) ⟨In0, ?_⟩)
       refine Eh 7 17 (by kernel_rfl) ?_ ?_
       ·refine id (Jyq Z (DI (v := (Vi p0.at_)) Z Z Z (Rb1 Z)) ⟨In0, ?_⟩)
        refine DO 17 (by kernel_rfl) (Jyq Z (DI (v := (.string j)) Z Z Z (Ej (T := Ty.str) Mb0 a a2 Z Z)) ⟨In0, ?_⟩)
        refine Jq 18 Z (EC i Z Z Z) ?_
        obtain ⟨jZ, a3, ei⟩ := RowR.at a f
        obtain rfl := ei
        refine DO 19 (by kernel_rfl) (Jyq Z (D4 (T := Ty.str) Mb0 a a3 (DU f).1 Z Z Z Z Z) ⟨In0, ?_⟩)
        refine Ao 20 Z ?_
        refine DY (T := Ty.str) (vs := [(.string b)]) (r' := [(.string b)]) (l' := (Eb e p0.at_ b)) Z Z Z Z Z .here a a3 Z Z Z (RowR.set p0.at_ a Z) (fun cE => ⟨In0, ?_⟩)
        have hp := EH a3 (v := [(.string b)])
        refine Ad<|Shift.settle (T := Ty.str) .here cE rfl<|?_
        intro gp iq fk
        exact Pu1<|Re1<|Sd<|⟨_, by exact R2, true, g, (Eb e p0.at_ b), Z, Z, H, fk⟩
       ·refine id (Jyq Z (DI (v := (.string j)) Z Z Z (Ej (T := Ty.str) Mb0 a a2 Z Z)) ⟨In0, ?_⟩)
        refine Jq 18 Z (EC i Z Z Z) ?_
        refine DO 7 (by kernel_rfl) (Jyq Z (DI (v := (Vi p0.at_)) Z Z Z (Rb1 Z)) ⟨In0, ?_⟩)
        obtain ⟨j0, a4, ej⟩ := RowR.at a f
        obtain rfl := ej
        refine DO 19 (by kernel_rfl) (Jyq Z (D4 (T := Ty.str) Mb0 a a4 (DU f).1 Z Z Z Z Z) ⟨In0, ?_⟩)
        refine Ao 20 Z ?_
        refine DY (T := Ty.str) (vs := [(.string b)]) (r' := [(.string b)]) (l' := (Eb e p0.at_ b)) Z Z Z Z Z .here a a4 Z Z Z (RowR.set p0.at_ a Z) (fun cF => ⟨In0, ?_⟩)
        have hq := EH a4 (v := [(.string b)])
        refine Ad<|Shift.settle (T := Ty.str) .here cF rfl<|?_
        intro gq ir fl
        exact Pu1<|Re1<|Sd<|⟨_, by exact R2, true, g, (Eb e p0.at_ b), Z, Z, H, fl⟩
     ·refine id (Jyq Z (DI (v := (Vi p0.at_)) Z Z Z (Rb1 Z)) ⟨In0, ?_⟩)
      refine Eh 3 16 (by kernel_rfl) ?_ ?_
      ·refine id (Jyq Z (DI (v := (sv g)) Z Z Z (Rb1 Z)) ⟨In0, ?_⟩)
       obtain ⟨j1, bJ, ek⟩ := RowR.at a h
       obtain rfl := ek
       refine DO 16 (by kernel_rfl) (Jyq Z (D4 (T := Ty.str) Mb0 a bJ (DU h).1 Z Z Z Z Z) ⟨In0, ?_⟩)
       refine DO 17 (by kernel_rfl) (Jyq Z (DI (v := (.string j)) Z Z Z (Ej (T := Ty.str) Mb0 a bJ Z Z)) ⟨In0, ?_⟩)
       refine Jq 18 Z (EC i Z Z Z) ?_
       obtain ⟨j2, a5, el⟩ := RowR.at a f
       obtain rfl := el
       refine DO 19 (by kernel_rfl) (Jyq Z (D4 (T := Ty.str) Mb0 a a5 (DU f).1 Z Z Z Z Z) ⟨In0, ?_⟩)
       refine Ao 20 Z ?_
       refine DY (T := Ty.str) (vs := [(.string b)]) (r' := [(.string b)]) (l' := (Eb e p0.at_ b)) Z Z Z Z Z .here a a5 Z Z Z (RowR.set p0.at_ a Z) (fun cG => ⟨In0, ?_⟩)
       have hr := EH a5 (v := [(.string b)])
       refine Ad<|Shift.settle (T := Ty.str) .here cG rfl<|?_
       intro gr it fm
       exact Pu1<|Re1<|Sd<|⟨_, by exact R2, true, g, (Eb e p0.at_ b), Z, Z, H, fm⟩
      ·obtain ⟨j3, a6, em⟩ := RowR.at a h
       obtain rfl := em
       refine id (Jyq Z (D4 (T := Ty.str) Mb0 a a6 (DU h).1 Z Z Z Z Z) ⟨In0, ?_⟩)
       refine Eh 3 17 (by kernel_rfl) ?_ ?_
       ·refine id (Jyq Z (DI (v := (sv g)) Z Z Z (Rb1 Z)) ⟨In0, ?_⟩)
        refine DO 17 (by kernel_rfl) (Jyq Z (DI (v := (.string j)) Z Z Z (Ej (T := Ty.str) Mb0 a a6 Z Z)) ⟨In0, ?_⟩)
        refine Jq 18 Z (EC i Z Z Z) ?_
        obtain ⟨j4, a7, en⟩ := RowR.at a f
        obtain rfl := en
        refine DO 19 (by kernel_rfl) (Jyq Z (D4 (T := Ty.str) Mb0 a a7 (DU f).1 Z Z Z Z Z) ⟨In0, ?_⟩)
        refine Ao 20 Z ?_
        refine DY (T := Ty.str) (vs := [(.string b)]) (r' := [(.string b)]) (l' := (Eb e p0.at_ b)) Z Z Z Z Z .here a a7 Z Z Z (RowR.set p0.at_ a Z) (fun cH => ⟨In0, ?_⟩)
        have hs := EH a7 (v := [(.string b)])
        refine Ad<|Shift.settle (T := Ty.str) .here cH rfl<|?_
        intro gs iu fn
        exact Pu1<|Re1<|Sd<|⟨_, by exact R2, true, g, (Eb e p0.at_ b), Z, Z, H, fn⟩
       ·refine id (Jyq Z (DI (v := (.string j)) Z Z Z (Ej (T := Ty.str) Mb0 a a6 Z Z)) ⟨In0, ?_⟩)
        refine Jq 18 Z (EC i Z Z Z) ?_
        refine DO 3 (by kernel_rfl) (Jyq Z (DI (v := (sv g)) Z Z Z (Rb1 Z)) ⟨In0, ?_⟩)
        obtain ⟨j5, a8, eo⟩ := RowR.at a f
        obtain rfl := eo
        refine DO 19 (by kernel_rfl) (Jyq Z (D4 (T := Ty.str) Mb0 a a8 (DU f).1 Z Z Z Z Z) ⟨In0, ?_⟩)
        refine Ao 20 Z ?_
        refine DY (T := Ty.str) (vs := [(.string b)]) (r' := [(.string b)]) (l' := (Eb e p0.at_ b)) Z Z Z Z Z .here a a8 Z Z Z (RowR.set p0.at_ a Z) (fun cI => ⟨In0, ?_⟩)
        have ht := EH a8 (v := [(.string b)])
        refine Ad<|Shift.settle (T := Ty.str) .here cI rfl<|?_
        intro gt iv fo
        exact Pu1<|Re1<|Sd<|⟨_, by exact R2, true, g, (Eb e p0.at_ b), Z, Z, H, fo⟩
     ·obtain ⟨j6, B, ep⟩ := RowR.at a h
      obtain rfl := ep
      refine id (Jyq Z (D4 (T := Ty.str) Mb0 a B (DU h).1 Z Z Z Z Z) ⟨In0, ?_⟩)
      refine EV 3 7 17 (by kernel_rfl) ?_ ?_ ?_
      ·refine id (Jyq Z (DI (v := (sv g)) Z Z Z (Rb1 Z)) ⟨In0, ?_⟩)
       refine Eh 7 17 (by kernel_rfl) ?_ ?_
       ·refine id (Jyq Z (DI (v := (Vi p0.at_)) Z Z Z (Rb1 Z)) ⟨In0, ?_⟩)
        refine DO 17 (by kernel_rfl) (Jyq Z (DI (v := (.string j)) Z Z Z (Ej (T := Ty.str) Mb0 a B Z Z)) ⟨In0, ?_⟩)
        refine Jq 18 Z (EC i Z Z Z) ?_
        obtain ⟨j7, a9, er⟩ := RowR.at a f
        obtain rfl := er
        refine DO 19 (by kernel_rfl) (Jyq Z (D4 (T := Ty.str) Mb0 a a9 (DU f).1 Z Z Z Z Z) ⟨In0, ?_⟩)
        refine Ao 20 Z ?_
        refine DY (T := Ty.str) (vs := [(.string b)]) (r' := [(.string b)]) (l' := (Eb e p0.at_ b)) Z Z Z Z Z .here a a9 Z Z Z (RowR.set p0.at_ a Z) (fun cJ => ⟨In0, ?_⟩)
        have hu := EH a9 (v := [(.string b)])
        refine Ad<|Shift.settle (T := Ty.str) .here cJ rfl<|?_
        intro gu iw fp
        exact Pu1<|Re1<|Sd<|⟨_, by exact R2, true, g, (Eb e p0.at_ b), Z, Z, H, fp⟩
       ·refine id (Jyq Z (DI (v := (.string j)) Z Z Z (Ej (T := Ty.str) Mb0 a B Z Z)) ⟨In0, ?_⟩)
        refine Jq 18 Z (EC i Z Z Z) ?_
        refine DO 7 (by kernel_rfl) (Jyq Z (DI (v := (Vi p0.at_)) Z Z Z (Rb1 Z)) ⟨In0, ?_⟩)
        obtain ⟨j8, ba, es⟩ := RowR.at a f
        obtain rfl := es
        refine DO 19 (by kernel_rfl) (Jyq Z (D4 (T := Ty.str) Mb0 a ba (DU f).1 Z Z Z Z Z) ⟨In0, ?_⟩)
        refine Ao 20 Z ?_
        refine DY (T := Ty.str) (vs := [(.string b)]) (r' := [(.string b)]) (l' := (Eb e p0.at_ b)) Z Z Z Z Z .here a ba Z Z Z (RowR.set p0.at_ a Z) (fun cK => ⟨In0, ?_⟩)
        have hv := EH ba (v := [(.string b)])
        refine Ad<|Shift.settle (T := Ty.str) .here cK rfl<|?_
        intro gv ix fq
        exact Pu1<|Re1<|Sd<|⟨_, by exact R2, true, g, (Eb e p0.at_ b), Z, Z, H, fq⟩
      ·refine id (Jyq Z (DI (v := (Vi p0.at_)) Z Z Z (Rb1 Z)) ⟨In0, ?_⟩)
       refine Eh 3 17 (by kernel_rfl) ?_ ?_
       ·refine id (Jyq Z (DI (v := (sv g)) Z Z Z (Rb1 Z)) ⟨In0, ?_⟩)
        refine DO 17 (by kernel_rfl) (Jyq Z (DI (v := (.string j)) Z Z Z (Ej (T := Ty.str) Mb0 a B Z Z)) ⟨In0, ?_⟩)
        refine Jq 18 Z (EC i Z Z Z) ?_
        obtain ⟨j9, bb, et⟩ := RowR.at a f
        obtain rfl := et
        refine DO 19 (by kernel_rfl) (Jyq Z (D4 (T := Ty.str) Mb0 a bb (DU f).1 Z Z Z Z Z) ⟨In0, ?_⟩)
        refine Ao 20 Z ?_
        refine DY (T := Ty.str) (vs := [(.string b)]) (r' := [(.string b)]) (l' := (Eb e p0.at_ b)) Z Z Z Z Z .here a bb Z Z Z (RowR.set p0.at_ a Z) (fun cL => ⟨In0, ?_⟩)
        have hw := EH bb (v := [(.string b)])
        refine Ad<|Shift.settle (T := Ty.str) .here cL rfl<|?_
        intro gw iy fr
        exact Pu1<|Re1<|Sd<|⟨_, by exact R2, true, g, (Eb e p0.at_ b), Z, Z, H, fr⟩
       ·refine id (Jyq Z (DI (v := (.string j)) Z Z Z (Ej (T := Ty.str) Mb0 a B Z Z)) ⟨In0, ?_⟩)
        refine Jq 18 Z (EC i Z Z Z) ?_
        refine DO 3 (by kernel_rfl) (Jyq Z (DI (v := (sv g)) Z Z Z (Rb1 Z)) ⟨In0, ?_⟩)
        obtain ⟨ka, bc, eu⟩ := RowR.at a f
        obtain rfl := eu
        refine DO 19 (by kernel_rfl) (Jyq Z (D4 (T := Ty.str) Mb0 a bc (DU f).1 Z Z Z Z Z) ⟨In0, ?_⟩)
        refine Ao 20 Z ?_
        refine DY (T := Ty.str) (vs := [(.string b)]) (r' := [(.string b)]) (l' := (Eb e p0.at_ b)) Z Z Z Z Z .here a bc Z Z Z (RowR.set p0.at_ a Z) (fun cM => ⟨In0, ?_⟩)
        have hx := EH bc (v := [(.string b)])
        refine Ad<|Shift.settle (T := Ty.str) .here cM rfl<|?_
        intro gx iz fs
        exact Pu1<|Re1<|Sd<|⟨_, by exact R2, true, g, (Eb e p0.at_ b), Z, Z, H, fs⟩
      ·refine id (Jyq Z (DI (v := (.string j)) Z Z Z (Ej (T := Ty.str) Mb0 a B Z Z)) ⟨In0, ?_⟩)
       refine Jq 18 Z (EC i Z Z Z) ?_
       refine Eh 3 7 (by kernel_rfl) ?_ ?_
       ·refine id (Jyq Z (DI (v := (sv g)) Z Z Z (Rb1 Z)) ⟨In0, ?_⟩)
        refine DO 7 (by kernel_rfl) (Jyq Z (DI (v := (Vi p0.at_)) Z Z Z (Rb1 Z)) ⟨In0, ?_⟩)
        obtain ⟨kb, bd, ev⟩ := RowR.at a f
        obtain rfl := ev
        refine DO 19 (by kernel_rfl) (Jyq Z (D4 (T := Ty.str) Mb0 a bd (DU f).1 Z Z Z Z Z) ⟨In0, ?_⟩)
        refine Ao 20 Z ?_
        refine DY (T := Ty.str) (vs := [(.string b)]) (r' := [(.string b)]) (l' := (Eb e p0.at_ b)) Z Z Z Z Z .here a bd Z Z Z (RowR.set p0.at_ a Z) (fun cN => ⟨In0, ?_⟩)
        have hy := EH bd (v := [(.string b)])
        refine Ad<|Shift.settle (T := Ty.str) .here cN rfl<|?_
        intro gy iA ft
        exact Pu1<|Re1<|Sd<|⟨_, by exact R2, true, g, (Eb e p0.at_ b), Z, Z, H, ft⟩
       ·refine id (Jyq Z (DI (v := (Vi p0.at_)) Z Z Z (Rb1 Z)) ⟨In0, ?_⟩)
        refine DO 3 (by kernel_rfl) (Jyq Z (DI (v := (sv g)) Z Z Z (Rb1 Z)) ⟨In0, ?_⟩)
        obtain ⟨kc, be, ew⟩ := RowR.at a f
        obtain rfl := ew
        refine DO 19 (by kernel_rfl) (Jyq Z (D4 (T := Ty.str) Mb0 a be (DU f).1 Z Z Z Z Z) ⟨In0, ?_⟩)
        refine Ao 20 Z ?_
        refine DY (T := Ty.str) (vs := [(.string b)]) (r' := [(.string b)]) (l' := (Eb e p0.at_ b)) Z Z Z Z Z .here a be Z Z Z (RowR.set p0.at_ a Z) (fun cO => ⟨In0, ?_⟩)
        have hz := EH be (v := [(.string b)])
        refine Ad<|Shift.settle (T := Ty.str) .here cO rfl<|?_
        intro gz iB fu
        exact Pu1<|Re1<|Sd<|⟨_, by exact R2, true, g, (Eb e p0.at_ b), Z, Z, H, fu⟩
  ·intro O
   have H := ED (btf O) H
   exact D1<|Sd<|⟨_, by exact R2, false, n, p0.l, Z, Z, H, m⟩
 rintro _ gA _ iC ⟨bg, s, D, rfl, rfl, H, J⟩
 unfold I2 at H
 refine DF<|Dz<|Em Z<|?_
 obtain ⟨t, bP, fB, fz, H⟩ := Gf H
 refine DN Z (Ek Tryz.call59 Z (Je p (DL.mk D p0.at_ p0.bad) s t bP fB fz _ _ J) ?_)
 rintro _ gB _ Q ⟨rfl, rfl⟩
 refine Ea Z<|DC<|DF<|DF<|Dz<|Em Z<|Ec Z<|DC<|?_
 refine DX Z ?_ ?_
 ·intro I
  obtain ⟨I, H⟩ := It I H
  refine DF<|Dz<|Em Z<|Eq Z (DK Z)<|EF 2 Z<|?_
  refine DN Z (So [(.bool true)] (D6 (DL.mk D bP true) s) Z .here Z ?_)
  refine DC<|DF<|Dz<|Ea Z<|DC<|D7<|?_
  obtain ⟨bh, bk, bi, bj⟩ := Kt H
  subst x u y z
  refine ⟨(.inl Z), [(Vi 0)], ⟨(Vi 0), _, Z, Z, Z⟩, ?_⟩
  have fv := J.mono Q
  exact Sd ⟨s, Z, Z, fv⟩
 ·intro I
  obtain ⟨I, H⟩ := If I H
  refine D1<|DF<|DF<|Dz<|Em Z<|DC<|?_
  refine DX Z ?_ ?_
  ·intro P
   have H := ift P H
   refine DF<|Dz<|Em Z<|Eq Z (GZ (c := wI t) Z Z Z Z)<|Eq Z (aku (c := wI (0 - (wI t))) Z Z)<|Ea Z<|DC<|D7<|?_
   obtain ⟨bh, bk, bi, bj⟩ := Kt H
   subst x u y z
   refine ⟨(.inl Z), [(Vi (wI (0 - (wI t))))], ⟨(Vi (wI (0 - (wI t)))), _, Z, Z, Z⟩, ?_⟩
   have fw := J.mono Q
   exact Sd ⟨s, Z, Z, fw⟩
  ·intro P
   have H := ED (btf P) H
   refine D1<|DF<|Dz<|Em Z<|Eq Z (GZ (c := wI t) Z Z Z Z)<|Ea Z<|DC<|D7<|?_
   obtain ⟨bh, bk, bi, bj⟩ := Kt H
   subst x u y z
   refine ⟨(.inl Z), [(Vi (wI t))], ⟨(Vi (wI t)), _, Z, Z, Z⟩, ?_⟩
   have fx := J.mono Q
   exact Sd ⟨s, Z, Z, fx⟩
theorem akM (b : Nat) (p0 : DL) (F : SV) (o : ae9) (k : ae8) (p : Int) (q : Bool) (H : Me p0 = some (o, k, p, q)) (K : Kp) (G : List Ent) (af : Slr Ty.str K (sv F) p0.l) :
  Fc Tryz.prog 60 #[(Vp b)] K ((.blk b 97 (D6 p0 F)) :: G) (fun v a h => ∃ (O : SV) (N : List (List Value)) (P : SV), v = (sv O) ∧ (.blk b 97 (D6 (DL.mk k p q) P)) :: (.row (sv O) 3 1 N.flatten) :: G = h ∧ RowR Ty.i64 a N o ∧ Slr Ty.str a (sv P) k) := by
 refine Ey Tryz.func60 Z Tryz.ntmps60 Tryz.results60 Z ?_
 unfold Me at H
 refine DF<|Dz<|Ea Z<|DC<|DF<|Dz<|Em Z<|?_
 obtain ⟨j, U, V, W, am, H⟩ := HA H
 refine DN Z (Ek Tryz.call58 Z (Gw b p0 F j U V W am _ _ af) ?_)
 rintro _ aa _ aD ⟨ar, rfl, rfl, aj⟩
 have L : RowR Ty.i64 aa [[(Vi j)]] [j] := RowR.cons Z (RowR.nil)
 refine DN Z (Es (T := Ty.i64) (rows := [[(Vi j)]]) (l := [j]) Z Z Z L Z Z Z Z Z Z Z Z (fun au => ?_))
 refine Ea Z<|DC<|?_
 refine Ei (fun r a h => ∃ (m : SV) (C : ae9) (y : List (List Value)) (z : SV) (x : ae8) (B : Int) (D : Bool), [(3, (sv m))] = r ∧ (.blk b 97 (D6 (DL.mk x B D) z)) :: (.row (sv m) 3 1 y.flatten) :: G = h ∧ aic C x B D = some (o, k, p, q) ∧ RowR Ty.i64 a y C ∧ Slr Ty.str a (sv z) x) ?_ ?_
 ·refine D8 ?_
  refine EB (fun n241 r a h => ∃ (n : SV) (s : ae9) (t : List (List Value)) (g : SV) (e : ae8) (c : Int) (f : Bool), [(0, (Vp b)), (3, (sv n))] = r ∧ (.blk b 97 (D6 (DL.mk e c f) g)) :: (.row (sv n) 3 1 t.flatten) :: G = h ∧ lp4 (KN) n241 s e c f = some (o, k, p, q) ∧ RowR Ty.i64 a t s ∧ Slr Ty.str a (sv g) e) BIG ?_ ?_
  ·exact Pu1<|Sd<|⟨_, by exact R2, au, [j], [[(Vi j)]], ar, U, V, W, Z, Z, H, L, aj⟩
  rintro n241 _ X _ aB ⟨n, s, t, g, e, c, f, rfl, rfl, H, I, w⟩
  obtain ⟨aE, an, rfl, ae, H⟩ := ajT H
  unfold KN at H
  refine DF ?_
  refine Ei (fun r a h => ∃ (E : Bool), [(0, (Vp b)), (3, (sv n)), (23, (.bool E))] = r ∧ X = a ∧ (.blk b 97 (D6 (DL.mk e c f) g)) :: (.row (sv n) 3 1 t.flatten) :: G = h ∧ afd s e c f an E = some (o, k, p, q)) ?_ ?_
  ·rcases GT (dcd (c < (e.length : Int))) with M | M <;> revert M
   ·intro i
    obtain ⟨i, H⟩ := It i H
    exact En _ Z (Ic Mb0 (Ic Mb1 In0))<|Jm 0 Z<|Jq 1 Z (DK Z)<|JF 2 1 Z<|Jl 3 (Vi c) Z (Rb0 Z)<|Jm 4 Z<|Jq 5 Z (DK Z)<|JF 6 0 Z<|Jl 7 (sv g) Z (Rb0 Z)<|Jq 8 Z (EA (T := Ty.str) w Z Z)<|Jc 9 Z<|Jm 10 Z<|Aw.known (d := 17) Z (Gi i)<|Bm 11 Z<|Bq 12 Z (DK Z)<|BF 13 2 Z<|Bl 14 (.bool f) Z (Rb0 Z)<|Bq 15 Z (Fe Z)<|Jt 16 Z<|Ad<|Pu1<|Pu1<|Sd ⟨_, by exact R3, (!(f)), Z, Z, Z, H⟩
   ·intro i
    obtain ⟨i, H⟩ := If i H
    exact En _ Z (Ic Mb0 (Ic Mb1 In0))<|Jm 0 Z<|Jq 1 Z (DK Z)<|JF 2 1 Z<|Jl 3 (Vi c) Z (Rb0 Z)<|Jm 4 Z<|Jq 5 Z (DK Z)<|JF 6 0 Z<|Jl 7 (sv g) Z (Rb0 Z)<|Jq 8 Z (EA (T := Ty.str) w Z Z)<|Jc 9 Z<|Jm 10 Z<|Aw.known (d := 17) Z (GU i)<|Jz 11 Z<|Jz 12 Z<|Jz 13 Z<|Jz 14 Z<|Jz 15 Z<|Jf 16 Z<|Ad<|Pu1<|Pu1<|Sd ⟨_, by exact R3, false, Z, Z, Z, H⟩
  rintro _ _ _ - ⟨E, rfl, rfl, rfl, H⟩
  unfold afd at H
  refine DX Z ?_ ?_
  ·intro A
   have H := ift A H
   refine D1<|D8<|Dz<|Em Z<|Em Z<|?_
   obtain ⟨u, Q, R, S, ak, H⟩ := HA H
   refine DN Z (Ek Tryz.call58 Z (Gw b (DL.mk e c f) g u Q R S ak _ _ w) ?_)
   rintro _ Y _ ab ⟨ap, rfl, rfl, ah⟩
   have J : RowR Ty.i64 Y [[(Vi u)]] [u] := RowR.cons Z (RowR.nil)
   refine DN Z (Es (T := Ty.i64) (rows := [[(Vi u)]]) (l := [u]) Z Z Z J Z Z Z Z Z Z Z Z (fun aF => ?_))
   obtain ⟨av, al, H⟩ := bnd H
   have ai := I.mono ab
   refine DN Z (Eo (T := Ty.i64) (bytes := 8) Z Z Z Mb2 ai (SrcT.row Mb0 J Z) al Z Z Z Z Z Z Z Z (fun aq ao ad => ⟨_, (.there (.there .here)), ?_⟩))
   refine Ow.shift (Re0 (Sd ?_))
   exact Ea Z<|DC<|Pu1<|Pu1<|Sd<|⟨_, by exact R2, _, Nat.lt_succ_self _, aq, av, ao, ap, Q, R, S, Z, Z, (ae ▸ H), ad, ah⟩
  ·intro A
   have H := ED (btf A) H
   exact EE<|Pu1<|Pu1<|Sd<|⟨_, by exact R1, n, s, t, g, e, c, f, Z, Z, H, I, w⟩
 rintro _ aw _ aC ⟨m, C, y, z, x, B, D, rfl, rfl, H, ac, ag⟩
 unfold aic at H
 refine DF<|Dz<|Em Z<|Ea Z<|DC<|D7<|?_
 obtain ⟨ax, aA, ay, az⟩ := Kt H
 subst o k p q
 refine ⟨(.inl Z), [(sv m)], ⟨(sv m), _, Z, Z, Z⟩, ?_⟩
 exact Pu1<|Pu1<|Sd<|⟨m, y, z, Z, Z, ac, ag⟩
theorem H9 (e : Nat) (p0 : DL) (f : SV) (p1 : Op) (a b : SV) (g : Op) (j : ae8) (o : Int) (p : Bool) (H : HS p0 p1 = some (g, j, o, p)) (K : Kp) (G : List Ent) (i : Slr Ty.str K (sv f) p0.l) (L : Slr Eu K (sv a) p1.cases) (M : Slr Ty.i64 K (sv b) p1.draws) :
  Fc Tryz.prog 82 #[(Vp e), (.agg (DG p1 a b).toArray)] K ((.blk e 97 (D6 p0 f)) :: G) (fun v h q => ∃ (B C D : SV), v = (.agg (DG g B C).toArray) ∧ (.blk e 97 (D6 (DL.mk j o p) D)) :: G = q ∧ Slr Eu h (sv B) g.cases ∧ Slr Ty.i64 h (sv C) g.draws ∧ Slr Ty.str h (sv D) j) := by
 refine Ey Tryz.func82 Z Tryz.ntmps82 Tryz.results82 Z ?_
 unfold HS at H
 refine DF<|Dz<|?_
 refine DN Z (EU (cs := (DG p1 a b)) Z Z Z (fun y => ?_))
 refine DN Z (EG (cs := (DG (Op.mk 0 0 0 0 0 [] []) DW DW)) Z Z Z Z (fun z => ?_))
 refine DC ?_
 refine Ei (fun J h q => ∃ (m : SV) (k : ae8) (t : Int) (u : Bool) (c d : Int), [(3, (Vp y)), (4, (Vp z))] = J ∧ (.blk e 97 (D6 (DL.mk k t u) m)) :: (.blk z 70 (DG (Op.mk 0 0 0 0 0 [] []) DW DW)) :: (.blk y 70 (DG (Op.mk p1.kind c p1.channel p1.value d p1.cases p1.draws) a b)) :: G = q ∧ afe p1 k t u c d = some (g, j, o, p) ∧ Slr Ty.str h (sv m) k) ?_ ?_
 ·refine D8<|DF<|Dz<|Em Z<|?_
  obtain ⟨V, w, R, H⟩ := FA H
  refine Ow.shift (Pu2 (Sd ?_))
  refine DN Z (Ek Tryz.call57 Z (Gp e p0 f (⟨#[116, 114, 121]⟩ : ByteArray) V w R _ _ i) ?_)
  rintro _ _ _ - ⟨rfl, rfl, rfl⟩
  refine Ea Z<|DC<|?_
  refine DX Z ?_ ?_
  ·intro r
   have H := ift r H
   refine Dz<|EF 1 Z<|?_
   refine DN rfl (So [(Vi 1)] (DG (Op.mk p1.kind 1 p1.channel p1.value p1.deadline p1.cases p1.draws) a b) Z (.there (.there .here)) Z ?_)
   exact DC<|Pu2<|Pu2<|Pu2<|Sd<|⟨_, by exact R2, f, p0.l, w, p0.bad, 1, p1.deadline, Z, Z, H, i⟩
  ·intro r
   have H := ED (btf r) H
   refine DF<|Dz<|Em Z<|?_
   obtain ⟨W, x, S, H⟩ := FA H
   refine DN Z (Ek Tryz.call57 Z (Gp e (DL.mk p0.l w p0.bad) f (⟨#[117, 110, 116, 105, 108]⟩ : ByteArray) W x S _ _ i) ?_)
   rintro _ _ _ - ⟨rfl, rfl, rfl⟩
   refine Ea Z<|DC<|?_
   refine DX Z ?_ ?_
   ·intro s
    have H := ift s H
    refine DF<|Dz<|EF 1 Z<|?_
    refine DN rfl (So [(Vi 2)] (DG (Op.mk p1.kind 2 p1.channel p1.value p1.deadline p1.cases p1.draws) a b) Z (.there (.there .here)) Z ?_)
    refine DC<|Dz<|Em Z<|?_
    obtain ⟨n, E, F, I, T, H⟩ := HA H
    refine DN Z (Ek Tryz.call58 Z (Gw e (DL.mk p0.l x p0.bad) f n E F I T _ _ i) ?_)
    rintro _ X _ ae ⟨U, rfl, rfl, O⟩
    refine EF 4 Z ?_
    refine DN rfl (So [(Vi n)] (DG (Op.mk p1.kind 2 p1.channel p1.value n p1.cases p1.draws) a b) Z (.there (.there .here)) Z ?_)
    exact DC<|Pu2<|Pu2<|Pu2<|Sd<|⟨_, by exact R2, U, E, F, I, 2, n, Z, Z, H, O⟩
   ·intro s
    have H := ED (btf s) H
    exact D1<|Pu2<|Pu2<|Pu2<|Sd<|⟨_, by exact R2, f, p0.l, x, p0.bad, p1.mode, p1.deadline, Z, Z, H, i⟩
 rintro _ Y _ A ⟨m, k, t, u, c, d, rfl, rfl, H, N⟩
 unfold afe at H
 refine DF<|Dz<|EL 7 (DG (Op.mk p1.kind c p1.channel p1.value d p1.cases p1.draws) a b) Z (Rb2 Z)<|?_
 refine DN rfl (Sa (DG (Op.mk p1.kind c p1.channel p1.value d p1.cases p1.draws) a b) Z (.there .here) Z ?_)
 refine DC<|D7<|?_
 obtain ⟨aa, ad, ab, ac⟩ := Kt H
 subst g j o p
 refine ⟨(.inl rfl), [(.agg (DG (Op.mk p1.kind c p1.channel p1.value d p1.cases p1.draws) a b).toArray)], ⟨(.agg (DG (Op.mk p1.kind c p1.channel p1.value d p1.cases p1.draws) a b).toArray), _, rfl, ⟨_, 7, (DG (Op.mk p1.kind c p1.channel p1.value d p1.cases p1.draws) a b), rfl, rfl, rfl, rfl, ⟨rfl, Rb1 Z⟩, rfl⟩, rfl⟩, ?_⟩
 refine Re1<|Re1<|?_
 have P := L.mono A
 have Q := M.mono A
 exact Sd ⟨a, b, m, Z, Z, P, Q, N⟩
theorem FM (a : Nat) (p0 : DL) (j : SV) (f : Op) (h : ae8) (m : Int) (n : Bool) (H : MB p0 = some (f, h, m, n)) (K : Kp) (G : List Ent) (w : Slr Ty.str K (sv j) p0.l) :
  Fc Tryz.prog 61 #[(Vp a)] K ((.blk a 97 (D6 p0 j)) :: G) (fun v c r => ∃ (b6 b7 b8 : SV), v = (.agg (DG f b6 b7).toArray) ∧ (.blk a 97 (D6 (DL.mk h m n) b8)) :: G = r ∧ Slr Eu c (sv b6) f.cases ∧ Slr Ty.i64 c (sv b7) f.draws ∧ Slr Ty.str c (sv b8) h) := by
 refine Ey Tryz.func61 Z Tryz.ntmps61 Tryz.results61 Z ?_
 unfold MB at H
 refine DF<|Dz<|?_
 refine DN Z (EG (cs := (DG (Op.mk 0 0 0 0 0 [] []) DW DW)) Z Z Z Z (fun s => ?_))
 refine DC ?_
 refine Ei (fun u c r => ∃ (aZ : Int), [(0, (Vp a)), (2, (Vp s))] = u ∧ K = c ∧ (.blk a 97 (D6 (DL.mk p0.l aZ p0.bad) j)) :: (.blk s 70 (DG (Op.mk 0 0 0 0 0 [] []) DW DW)) :: G = r ∧ afX p0 aZ = some (f, h, m, n)) ?_ ?_
 ·refine D8<|DF<|Dz<|Em Z<|?_
  obtain ⟨eh, br, dG, H⟩ := FA H
  refine Ow.shift (Pu1 (Sd ?_))
  refine DN Z (Ek Tryz.call57 Z (Gp a p0 j (⟨#[115, 101, 110, 100]⟩ : ByteArray) eh br dG _ _ w) ?_)
  rintro _ _ _ - ⟨rfl, rfl, rfl⟩
  refine Ea Z<|DC<|?_
  refine DX Z ?_ ?_
  ·intro a6
   have H := ift a6 H
   refine DF<|Dz<|Em Z<|?_
   obtain ⟨am, bs, b9, ca, dH, H⟩ := HA H
   refine DN Z (Ek Tryz.call58 Z (Gw a (DL.mk p0.l br p0.bad) j am bs b9 ca dH _ _ w) ?_)
   rintro _ eJ _ e9 ⟨b2, rfl, rfl, bT⟩
   refine Eq Z (EI (cs := (DG (Op.mk 1 0 am 0 0 [] []) DW DW)) Z Z Z Z Z Z) ?_
   refine DN Z (EG (cs := (DG (Op.mk 0 0 0 0 0 [] []) DW DW)) Z Z Z Z (fun e7 => ?_))
   refine DN Z (Sa (DG (Op.mk 1 0 am 0 0 [] []) DW DW) Z .here Z ?_)
   refine DC<|DF<|Dz<|Em Z<|?_
   obtain ⟨aH, cb, cc, dI, H⟩ := Gf H
   refine Ow.shift (Pu1 (Sd ?_))
   refine DN Z (Ek Tryz.call59 Z (Je a (DL.mk bs b9 ca) b2 aH cb cc dI _ _ bT) ?_)
   rintro _ eK _ cz ⟨rfl, rfl⟩
   refine EF 3 Z ?_
   refine DN Z (So [(.int .u64 aH)] (DG (Op.mk 1 0 am aH 0 [] []) DW DW) Z (.there .here) Z ?_)
   refine DC<|DF<|Dz<|Em Z<|EL 7 (DG (Op.mk 1 0 am aH 0 [] []) DW DW) Z (Rb1 Z)<|?_
   obtain ⟨aI, ei, ej, ek, dJ, H⟩ := HA H
   have cR := bT.mono cz
   refine DN Z (Ek Tryz.call82 Z (H9 a (DL.mk bs cb cc) b2 (Op.mk 1 0 am aH 0 [] []) DW DW aI ei ej ek dJ _ _ cR (Slr.nil Eu _) (Slr.nil Ty.i64 _)) ?_)
   rintro _ eL _ fa ⟨av, aw, d5, rfl, rfl, cS, cT, cU⟩
   refine DN Z (Sa (DG aI av aw) Z (.there (.there .here)) Z ?_)
   refine DC<|D7<|?_
   obtain ⟨Q, U, R, S⟩ := Kt H
   subst f h m n
   refine ⟨(.inl Z), [(.agg (DG aI av aw).toArray)], ⟨(.agg (DG aI av aw).toArray), _, Z, ⟨_, 7, (DG aI av aw), Z, Z, Z, Z, ⟨Z, Rb2 Z⟩, Z⟩, Z⟩, ?_⟩
   exact Re1<|Re1<|Sd<|⟨av, aw, d5, Z, Z, cS, cT, cU⟩
  ·intro a6
   have H := ED (btf a6) H
   refine DF<|Dz<|Em Z<|?_
   obtain ⟨el, bt, dK, H⟩ := FA H
   refine DN Z (Ek Tryz.call57 Z (Gp a (DL.mk p0.l br p0.bad) j (⟨#[114, 101, 99, 118]⟩ : ByteArray) el bt dK _ _ w) ?_)
   rintro _ _ _ - ⟨rfl, rfl, rfl⟩
   refine Ea Z<|DC<|?_
   refine DX Z ?_ ?_
   ·intro a7
    have H := ift a7 H
    refine DF<|Dz<|Em Z<|Em Z<|?_
    obtain ⟨bu, cd, ce, cf, dL, H⟩ := HA H
    refine DN Z (Ek Tryz.call58 Z (Gw a (DL.mk p0.l bt p0.bad) j bu cd ce cf dL _ _ w) ?_)
    rintro _ eM _ fb ⟨d6, rfl, rfl, cV⟩
    refine Eq Z (EI (cs := (DG (Op.mk 2 0 bu 0 0 [] []) DW DW)) Z Z Z Z Z Z) ?_
    obtain ⟨aJ, em, en, eo, dM, H⟩ := HA H
    refine DN Z (Ek Tryz.call82 Z (H9 a (DL.mk cd ce cf) d6 (Op.mk 2 0 bu 0 0 [] []) DW DW aJ em en eo dM _ _ cV (Slr.nil Eu _) (Slr.nil Ty.i64 _)) ?_)
    rintro _ eN _ fc ⟨ax, ay, d7, rfl, rfl, cW, cX, cY⟩
    refine DN Z (Sa (DG aJ ax ay) Z (.there .here) Z ?_)
    refine DC<|D7<|?_
    obtain ⟨Q, U, R, S⟩ := Kt H
    subst f h m n
    refine ⟨(.inl Z), [(.agg (DG aJ ax ay).toArray)], ⟨(.agg (DG aJ ax ay).toArray), _, Z, ⟨_, 7, (DG aJ ax ay), Z, Z, Z, Z, ⟨Z, Rb1 Z⟩, Z⟩, Z⟩, ?_⟩
    exact Re1<|Sd<|⟨ax, ay, d7, Z, Z, cW, cX, cY⟩
   ·intro a7
    have H := ED (btf a7) H
    refine DF<|Dz<|Em Z<|?_
    obtain ⟨ep, bv, dN, H⟩ := FA H
    refine DN Z (Ek Tryz.call57 Z (Gp a (DL.mk p0.l bt p0.bad) j (⟨#[99, 108, 111, 115, 101]⟩ : ByteArray) ep bv dN _ _ w) ?_)
    rintro _ _ _ - ⟨rfl, rfl, rfl⟩
    refine Ea Z<|DC<|?_
    refine DX Z ?_ ?_
    ·intro a8
     have H := ift a8 H
     refine DF<|Dz<|Em Z<|Em Z<|?_
     obtain ⟨bw, cg, ch, ci, dO, H⟩ := HA H
     refine DN Z (Ek Tryz.call58 Z (Gw a (DL.mk p0.l bv p0.bad) j bw cg ch ci dO _ _ w) ?_)
     rintro _ eO _ fd ⟨d8, rfl, rfl, cZ⟩
     refine Eq Z (EI (cs := (DG (Op.mk 3 0 bw 0 0 [] []) DW DW)) Z Z Z Z Z Z) ?_
     obtain ⟨aK, er, es, et, dP, H⟩ := HA H
     refine DN Z (Ek Tryz.call82 Z (H9 a (DL.mk cg ch ci) d8 (Op.mk 3 0 bw 0 0 [] []) DW DW aK er es et dP _ _ cZ (Slr.nil Eu _) (Slr.nil Ty.i64 _)) ?_)
     rintro _ eP _ fe ⟨az, aA, d9, rfl, rfl, c0, c1, c2⟩
     refine DN Z (Sa (DG aK az aA) Z (.there .here) Z ?_)
     refine DC<|D7<|?_
     obtain ⟨Q, U, R, S⟩ := Kt H
     subst f h m n
     refine ⟨(.inl Z), [(.agg (DG aK az aA).toArray)], ⟨(.agg (DG aK az aA).toArray), _, Z, ⟨_, 7, (DG aK az aA), Z, Z, Z, Z, ⟨Z, Rb1 Z⟩, Z⟩, Z⟩, ?_⟩
     exact Re1<|Sd<|⟨az, aA, d9, Z, Z, c0, c1, c2⟩
    ·intro a8
     have H := ED (btf a8) H
     refine DF<|Dz<|Em Z<|?_
     obtain ⟨eu, bx, dQ, H⟩ := FA H
     refine DN Z (Ek Tryz.call57 Z (Gp a (DL.mk p0.l bv p0.bad) j (⟨#[108, 101, 110]⟩ : ByteArray) eu bx dQ _ _ w) ?_)
     rintro _ _ _ - ⟨rfl, rfl, rfl⟩
     refine Ea Z<|DC<|?_
     refine DX Z ?_ ?_
     ·intro a9
      have H := ift a9 H
      refine DF<|Dz<|Em Z<|Em Z<|?_
      obtain ⟨bz, cj, ck, cl, dR, H⟩ := HA H
      refine DN Z (Ek Tryz.call58 Z (Gw a (DL.mk p0.l bx p0.bad) j bz cj ck cl dR _ _ w) ?_)
      rintro _ eQ _ ff ⟨ea, rfl, rfl, c3⟩
      refine Eq Z (EI (cs := (DG (Op.mk 5 0 bz 0 0 [] []) DW DW)) Z Z Z Z Z Z) ?_
      obtain ⟨aL, ev, ew, ex, dS, H⟩ := HA H
      refine DN Z (Ek Tryz.call82 Z (H9 a (DL.mk cj ck cl) ea (Op.mk 5 0 bz 0 0 [] []) DW DW aL ev ew ex dS _ _ c3 (Slr.nil Eu _) (Slr.nil Ty.i64 _)) ?_)
      rintro _ eR _ fg ⟨aB, aC, eb, rfl, rfl, c4, c5, c6⟩
      refine DN Z (Sa (DG aL aB aC) Z (.there .here) Z ?_)
      refine DC<|D7<|?_
      obtain ⟨Q, U, R, S⟩ := Kt H
      subst f h m n
      refine ⟨(.inl Z), [(.agg (DG aL aB aC).toArray)], ⟨(.agg (DG aL aB aC).toArray), _, Z, ⟨_, 7, (DG aL aB aC), Z, Z, Z, Z, ⟨Z, Rb1 Z⟩, Z⟩, Z⟩, ?_⟩
      exact Re1<|Sd<|⟨aB, aC, eb, Z, Z, c4, c5, c6⟩
     ·intro a9
      have H := ED (btf a9) H
      refine DF<|Dz<|Em Z<|?_
      obtain ⟨ey, bA, dT, H⟩ := FA H
      refine DN Z (Ek Tryz.call57 Z (Gp a (DL.mk p0.l bx p0.bad) j (⟨#[99, 97, 112]⟩ : ByteArray) ey bA dT _ _ w) ?_)
      rintro _ _ _ - ⟨rfl, rfl, rfl⟩
      refine Ea Z<|DC<|?_
      refine DX Z ?_ ?_
      ·intro ba
       have H := ift ba H
       refine DF<|Dz<|Em Z<|Em Z<|?_
       obtain ⟨bB, cm, cn, co, dU, H⟩ := HA H
       refine DN Z (Ek Tryz.call58 Z (Gw a (DL.mk p0.l bA p0.bad) j bB cm cn co dU _ _ w) ?_)
       rintro _ eS _ fh ⟨ec, rfl, rfl, c7⟩
       refine Eq Z (EI (cs := (DG (Op.mk 6 0 bB 0 0 [] []) DW DW)) Z Z Z Z Z Z) ?_
       obtain ⟨aM, ez, eA, eB, dV, H⟩ := HA H
       refine DN Z (Ek Tryz.call82 Z (H9 a (DL.mk cm cn co) ec (Op.mk 6 0 bB 0 0 [] []) DW DW aM ez eA eB dV _ _ c7 (Slr.nil Eu _) (Slr.nil Ty.i64 _)) ?_)
       rintro _ eT _ fi ⟨aD, aE, ed, rfl, rfl, c8, c9, da⟩
       refine DN Z (Sa (DG aM aD aE) Z (.there .here) Z ?_)
       refine DC<|D7<|?_
       obtain ⟨Q, U, R, S⟩ := Kt H
       subst f h m n
       refine ⟨(.inl Z), [(.agg (DG aM aD aE).toArray)], ⟨(.agg (DG aM aD aE).toArray), _, Z, ⟨_, 7, (DG aM aD aE), Z, Z, Z, Z, ⟨Z, Rb1 Z⟩, Z⟩, Z⟩, ?_⟩
       exact Re1<|Sd<|⟨aD, aE, ed, Z, Z, c8, c9, da⟩
      ·intro ba
       have H := ED (btf ba) H
       refine DF<|Dz<|Em Z<|?_
       obtain ⟨eC, bC, dW, H⟩ := FA H
       refine DN Z (Ek Tryz.call57 Z (Gp a (DL.mk p0.l bA p0.bad) j (⟨#[115, 101, 108, 101, 99, 116]⟩ : ByteArray) eC bC dW _ _ w) ?_)
       rintro _ _ _ - ⟨rfl, rfl, rfl⟩
       refine Ea Z<|DC<|?_
       refine DX Z ?_ ?_
       ·intro bb
        have H := ift bb H
        refine DF<|Dz<|Eq Z (EI (cs := (DG (Op.mk 4 0 0 0 0 [] []) DW DW)) Z Z Z Z Z Z)<|?_
        refine DN Z (EG (cs := (DG (Op.mk 0 0 0 0 0 [] []) DW DW)) Z Z Z Z (fun x => ?_))
        refine DN Z (Sa (DG (Op.mk 4 0 0 0 0 [] []) DW DW) Z .here Z ?_)
        refine DC ?_
        refine Ei (fun u c r => ∃ (O : SV) (N : ae8) (aq : Int) (aj : Bool) (b : SV) (e : af6), [(0, (Vp a)), (2, (Vp s)), (4, (Vp x))] = u ∧ (.blk a 97 (D6 (DL.mk N aq aj) O)) :: (.blk x 70 (DG (Op.mk 4 0 0 0 0 e []) b DW)) :: (.blk s 70 (DG (Op.mk 0 0 0 0 0 [] []) DW DW)) :: (.tok 101 3 [(sv b)]) :: G = r ∧ aff N aq aj e = some (f, h, m, n) ∧ Slr Ty.str c (sv O) N ∧ Slr Eu c (sv b) e) ?_ ?_
        ·refine D8 ?_
         refine EB (fun b0 u c r => ∃ (D : SV) (y : ae8) (ar : Int) (z : Bool) (E : SV) (ag : af6), [(0, (Vp a)), (2, (Vp s)), (4, (Vp x))] = u ∧ (.blk a 97 (D6 (DL.mk y ar z) D)) :: (.blk x 70 (DG (Op.mk 4 0 0 0 0 ag []) E DW)) :: (.blk s 70 (DG (Op.mk 0 0 0 0 0 [] []) DW DW)) :: (.tok 101 3 [(sv E)]) :: G = r ∧ lp4 (KO) b0 y ar z ag = some (f, h, m, n) ∧ Slr Ty.str c (sv D) y ∧ Slr Eu c (sv E) ag) BIG ?_ ?_
         ·exact Shift.nilTok1 101 3<|Pu3<|Pu2<|Pu3<|Sd<|⟨_, by exact R3, j, p0.l, bC, p0.bad, DW, ([] : af6), Z, Z, H, w, (Slr.nil Eu _)⟩
         rintro b0 _ eU _ fj ⟨D, y, ar, z, E, ag, rfl, rfl, H, Y, ad⟩
         obtain ⟨fo, fn, rfl, aU, H⟩ := ajT H
         unfold KO at H
         refine DF<|DF<|Dz<|Em Z<|Eq Z (DK Z)<|EF 2 Z<|El (.bool z) Z (Rb0 Z)<|Eq Z (Fe Z)<|DC<|?_
         refine DX Z ?_ ?_
         ·intro V
          have V := E5 V
          have H := ED (btf V) H
          refine D1<|D8<|DF<|Dz<|Em Z<|?_
          obtain ⟨eD, bD, dX, H⟩ := FA H
          refine DN Z (Ek Tryz.call57 Z (Gp a (DL.mk y ar z) D (⟨#[115, 101, 110, 100]⟩ : ByteArray) eD bD dX _ _ Y) ?_)
          rintro _ _ _ - ⟨rfl, rfl, rfl⟩
          refine DC ?_
          refine DX Z ?_ ?_
          ·intro bc
           have H := ift bc H
           refine DF<|Dz<|Em Z<|?_
           obtain ⟨L, bE, cp, cq, dY, H⟩ := HA H
           refine DN Z (Ek Tryz.call58 Z (Gw a (DL.mk y bD z) D L bE cp cq dY _ _ Y) ?_)
           rintro _ eV _ cA ⟨b3, rfl, rfl, bU⟩
           refine Eq Z (EI (cs := (Ep (Case.mk true L 0))) Z Z Z Z Z Z) ?_
           refine DN Z (EG (cs := (Ep (Case.mk false 0 0))) Z Z Z Z (fun e8 => ?_))
           refine DN Z (Sa (Ep (Case.mk true L 0)) Z .here Z ?_)
           refine DC<|DF<|Dz<|Em Z<|?_
           obtain ⟨P, cr, ct, dZ, H⟩ := Gf H
           refine Ow.shift (Pu1 (Sd ?_))
           refine DN Z (Ek Tryz.call59 Z (Je a (DL.mk bE cp cq) b3 P cr ct dZ _ _ bU) ?_)
           rintro _ cv _ bJ ⟨rfl, rfl⟩
           refine EF 2 Z ?_
           refine DN Z (So [(.int .u64 P)] (Ep (Case.mk true L P)) Z (.there .here) Z ?_)
           refine DC<|Dz<|EF 5 Z<|El (sv E) Z (Rb2 Z)<|EL 3 (Ep (Case.mk true L P)) Z (Rb1 Z)<|?_
           have bM : RowR Eu cv [(Ep (Case.mk true L P))] [(Case.mk true L P)] := RowR.cons Z (RowR.nil)
           refine DN Z (Es (T := Eu) (rows := [(Ep (Case.mk true L P))]) (l := [(Case.mk true L P)]) Z Z Z bM Z Z Z Z Z Z Z Z (fun fq => ?_))
           obtain ⟨cu, d0, H⟩ := bnd H
           have dc := (ad.mono cA).mono bJ
           refine DN Z (D3 (T := Eu) (bytes := 24) (q := 0) Z Z Z dc Mb5 Z (SrcT.row Mb0 bM Z) d0 Z Z Z Z Z Z Z Z (fun bk eW cB db => ⟨_, (.there (.there (.there (.there (.there .here))))), ?_⟩))
           refine Ow.shift (Re0 (Sd ?_))
           refine EF 5 Z ?_
           refine DN Z (So [(sv bk)] (DG (Op.mk 4 0 0 0 0 cu []) bk DW) Z (.there (.there .here)) Z ?_)
           refine DC<|Pu4<|Pu4<|Pu4<|Pu3<|Re4<|?_
           have dd := (bU.mono bJ).mono cB
           exact Sd ⟨_, by exact R3, _, Nat.lt_succ_self _, b3, bE, cr, ct, bk, cu, Z, Z, (aU ▸ H), dd, db⟩
          ·intro bc
           have H := ED (btf bc) H
           refine DF<|Dz<|Em Z<|?_
           obtain ⟨eE, a4, d1, H⟩ := FA H
           refine DN Z (Ek Tryz.call57 Z (Gp a (DL.mk y bD z) D (⟨#[114, 101, 99, 118]⟩ : ByteArray) eE a4 d1 _ _ Y) ?_)
           rintro _ _ _ - ⟨rfl, rfl, rfl⟩
           refine DC ?_
           refine DX Z ?_ ?_
           ·intro bd
            have H := ift bd H
            obtain ⟨p, aN, aO, aP, bY, H⟩ := HA H
            obtain ⟨an, bh, H⟩ := bnd H
            refine En _ Z (Ic Mb2 In0)<|JF 0 5 Z<|Jm 2 Z<|?_
            refine Eh 1 3 (by kernel_rfl) ?_ ?_
            ·refine id (Jyq Z (DI (v := (sv E)) Z Z Z (Rb1 Z)) ⟨(Ic Mb2 In0), ?_⟩)
             refine Ao 3 Z ?_
             refine Ek Tryz.call58 Z (Gw a (DL.mk y a4 z) D p aN aO aP bY _ _ Y) ?_
             rintro _ cw _ cC ⟨ee, rfl, rfl, de⟩
             refine ⟨(Ic Mb2 In0), ?_⟩
             refine Jq 4 Z (EI (cs := (Ep (Case.mk false p 0))) Z Z Z Z Z Z) ?_
             refine Ao 5 Z ?_
             have bN : RowR Eu cw [(Ep (Case.mk false p 0))] [(Case.mk false p 0)] := RowR.cons Z (RowR.nil)
             refine Es (T := Eu) (rows := [(Ep (Case.mk false p 0))]) (l := [(Case.mk false p 0)]) Z Z Z bN Z Z Z Z Z Z Z Z (fun fr => ⟨(Ic Mb3 In0), ?_⟩)
             refine Ao 6 Z ?_
             have dg := ad.mono cC
             refine D3 (T := Eu) (bytes := 24) (q := 0) Z Z Z dg Mb4 Z (SrcT.row Mb0 bN Z) bh Z Z Z Z Z Z Z Z (fun bl eX cD df => ⟨_, (.there (.there (.there (.there .here)))), ⟨(Ic Mb3 In0), ?_⟩⟩)
             refine Aw.shift (Re0 (Sd ⟨(Ic Mb2 In0), ?_⟩))
             refine JF 7 5 Z ?_
             refine Ao 8 Z ?_
             refine So [(sv bl)] (DG (Op.mk 4 0 0 0 0 an []) bl DW) Z (.there .here) Z ⟨(Ic Mb2 In0), ?_⟩
             refine Ad<|Pu3<|Pu3<|Pu3<|Pu3<|?_
             have dh := de.mono cD
             exact Sd ⟨_, by exact R3, _, Nat.lt_succ_self _, ee, aN, aO, aP, bl, an, Z, Z, (aU ▸ H), dh, df⟩
            ·refine id (Jy Z ?_)
             refine Ek Tryz.call58 Z (Gw a (DL.mk y a4 z) D p aN aO aP bY _ _ Y) ?_
             rintro _ bH _ bK ⟨b4, rfl, rfl, bV⟩
             refine ⟨(Ic Mb2 In0), ?_⟩
             refine Jq 4 Z (EI (cs := (Ep (Case.mk false p 0))) Z Z Z Z Z Z) ?_
             refine Eh 1 5 (by kernel_rfl) ?_ ?_
             ·refine id (Jyq Z (DI (v := (sv E)) Z Z Z (Rb1 Z)) ⟨(Ic Mb2 In0), ?_⟩)
              refine Ao 5 Z ?_
              have bO : RowR Eu bH [(Ep (Case.mk false p 0))] [(Case.mk false p 0)] := RowR.cons Z (RowR.nil)
              refine Es (T := Eu) (rows := [(Ep (Case.mk false p 0))]) (l := [(Case.mk false p 0)]) Z Z Z bO Z Z Z Z Z Z Z Z (fun fs => ⟨(Ic Mb3 In0), ?_⟩)
              refine Ao 6 Z ?_
              have dj := ad.mono bK
              refine D3 (T := Eu) (bytes := 24) (q := 0) Z Z Z dj Mb4 Z (SrcT.row Mb0 bO Z) bh Z Z Z Z Z Z Z Z (fun bm eY cE di => ⟨_, (.there (.there (.there (.there .here)))), ⟨(Ic Mb3 In0), ?_⟩⟩)
              refine Aw.shift (Re0 (Sd ⟨(Ic Mb2 In0), ?_⟩))
              refine JF 7 5 Z ?_
              refine Ao 8 Z ?_
              refine So [(sv bm)] (DG (Op.mk 4 0 0 0 0 an []) bm DW) Z (.there .here) Z ⟨(Ic Mb2 In0), ?_⟩
              refine Ad<|Pu3<|Pu3<|Pu3<|Pu3<|?_
              have dk := bV.mono cE
              exact Sd ⟨_, by exact R3, _, Nat.lt_succ_self _, b4, aN, aO, aP, bm, an, Z, Z, (aU ▸ H), dk, di⟩
             ·refine id (Jy Z ?_)
              have bP : RowR Eu bH [(Ep (Case.mk false p 0))] [(Case.mk false p 0)] := RowR.cons Z (RowR.nil)
              refine Es (T := Eu) (rows := [(Ep (Case.mk false p 0))]) (l := [(Case.mk false p 0)]) Z Z Z bP Z Z Z Z Z Z Z Z (fun ft => ⟨(Ic Mb3 In0), ?_⟩)
              refine DO 1 (by kernel_rfl) (Jyq Z (DI (v := (sv E)) Z Z Z (Rb2 Z)) ⟨(Ic Mb3 In0), ?_⟩)
              refine Ao 6 Z ?_
              have dm := ad.mono bK
              refine D3 (T := Eu) (bytes := 24) (q := 0) Z Z Z dm Mb4 Z (SrcT.row Mb0 bP Z) bh Z Z Z Z Z Z Z Z (fun bn eZ cF dl => ⟨_, (.there (.there (.there (.there .here)))), ⟨(Ic Mb3 In0), ?_⟩⟩)
              refine Aw.shift (Re0 (Sd ⟨(Ic Mb2 In0), ?_⟩))
              refine JF 7 5 Z ?_
              refine Ao 8 Z ?_
              refine So [(sv bn)] (DG (Op.mk 4 0 0 0 0 an []) bn DW) Z (.there .here) Z ⟨(Ic Mb2 In0), ?_⟩
              refine Ad<|Pu3<|Pu3<|Pu3<|Pu3<|?_
              have dn := bV.mono cF
              exact Sd ⟨_, by exact R3, _, Nat.lt_succ_self _, b4, aN, aO, aP, bn, an, Z, Z, (aU ▸ H), dn, dl⟩
           ·intro bd
            have H := ED (btf bd) H
            exact EE<|Pu3<|Pu3<|Pu3<|Pu3<|Sd<|⟨_, by exact R3, D, y, a4, z, E, ag, Z, Z, H, Y, ad⟩
         ·intro V
          have V := E4 V
          have H := ift V H
          exact EE<|Pu3<|Pu3<|Pu3<|Pu3<|Sd<|⟨_, by exact R3, D, y, ar, z, E, ag, Z, Z, H, Y, ad⟩
        rintro _ e0 _ fk ⟨O, N, aq, aj, b, e, rfl, rfl, H, aV, aW⟩
        unfold aff at H
        refine Ei (fun u c r => ∃ (a3 : SV) (au : ae8) (a0 : Int) (a1 : Bool) (ak : SV) (ah : ae9), [(0, (Vp a)), (2, (Vp s)), (4, (Vp x))] = u ∧ (.blk a 97 (D6 (DL.mk au a0 a1) a3)) :: (.blk x 70 (DG (Op.mk 4 0 0 0 0 e ah) b ak)) :: (.blk s 70 (DG (Op.mk 0 0 0 0 0 [] []) DW DW)) :: (.tok 3 1 [(sv ak)]) :: (.tok 101 3 [(sv b)]) :: G = r ∧ NB e au a0 a1 ah = some (f, h, m, n) ∧ Slr Ty.str c (sv a3) au ∧ Slr Ty.i64 c (sv ak) ah) ?_ ?_
        ·refine DF<|Dz<|EF 5 Z<|El (sv b) Z (Rb1 Z)<|Eq Z (EA (T := Eu) aW Z Z)<|Ec Z<|DC<|?_
         refine DX Z ?_ ?_
         ·intro ap
          obtain ⟨ap, H⟩ := It ap H
          refine DF<|DF<|Dz<|Em Z<|?_
          obtain ⟨eF, bF, d2, H⟩ := FA H
          refine DN Z (Ek Tryz.call57 Z (Gp a (DL.mk N aq aj) O (⟨#[100, 114, 97, 119, 115]⟩ : ByteArray) eF bF d2 _ _ aV) ?_)
          rintro _ _ _ - ⟨rfl, rfl, rfl⟩
          refine Eq Z (Fe Z)<|DC<|?_
          refine DX Z ?_ ?_
          ·intro W
           have W := E5 W
           have H := ED (btf W) H
           refine DF<|Dz<|Em Z<|Eq Z (DK Z)<|EF 2 Z<|?_
           refine DN Z (So [(.bool true)] (D6 (DL.mk N bF true) O) Z .here Z ?_)
           refine DC<|DF<|Dz<|EL 7 (DG (Op.mk 4 0 0 0 0 e []) b DW) Z (Rb1 Z)<|?_
           refine DN Z (Sa (DG (Op.mk 4 0 0 0 0 e []) b DW) Z (.there (.there .here)) Z ?_)
           refine DC<|D7<|?_
           obtain ⟨Q, U, R, S⟩ := Kt H
           subst f h m n
           refine ⟨(.inl Z), [(.agg (DG (Op.mk 4 0 0 0 0 e []) b DW).toArray)], ⟨(.agg (DG (Op.mk 4 0 0 0 0 e []) b DW).toArray), _, Z, ⟨_, 7, (DG (Op.mk 4 0 0 0 0 e []) b DW), Z, Z, Z, Z, ⟨Z, Rb2 Z⟩, Z⟩, Z⟩, ?_⟩
           exact Re1<|Re1<|Re1<|Sd<|⟨b, DW, O, Z, Z, aW, (Slr.nil Ty.i64 _), aV⟩
          ·intro W
           have W := E4 W
           have H := ift W H
           refine D1 ?_
           refine Ei (fun u c r => ∃ (al : SV) (aa : ae8) (af : Int) (a2 : Bool) (ac : SV) (ai : ae9), [(0, (Vp a)), (2, (Vp s)), (4, (Vp x))] = u ∧ (.blk a 97 (D6 (DL.mk aa af a2) al)) :: (.blk x 70 (DG (Op.mk 4 0 0 0 0 e ai) b ac)) :: (.blk s 70 (DG (Op.mk 0 0 0 0 0 [] []) DW DW)) :: (.tok 3 1 [(sv ac)]) :: (.tok 101 3 [(sv b)]) :: G = r ∧ MA e aa af a2 ai = some (f, h, m, n) ∧ Slr Ty.str c (sv al) aa ∧ Slr Ty.i64 c (sv ac) ai) ?_ ?_
           ·refine D8 ?_
            refine EB (fun b1 u c r => ∃ (o : SV) (B : ae8) (g : Int) (C : Bool) (F : SV) (ab : ae9), [(0, (Vp a)), (2, (Vp s)), (4, (Vp x))] = u ∧ (.blk a 97 (D6 (DL.mk B g C) o)) :: (.blk x 70 (DG (Op.mk 4 0 0 0 0 e ab) b F)) :: (.blk s 70 (DG (Op.mk 0 0 0 0 0 [] []) DW DW)) :: (.tok 3 1 [(sv F)]) :: (.tok 101 3 [(sv b)]) :: G = r ∧ lp4 (J4 e) b1 B g C ab = some (f, h, m, n) ∧ Slr Ty.str c (sv o) B ∧ Slr Ty.i64 c (sv F) ab) BIG ?_ ?_
            ·exact Shift.nilTok1 3 1<|Pu4<|Pu1<|Pu4<|Pu4<|Pu4<|Sd<|⟨_, by exact R3, O, N, bF, aj, DW, ([] : ae9), Z, Z, H, aV, (Slr.nil Ty.i64 _)⟩
            rintro b1 _ cx _ fl ⟨o, B, g, C, F, ab, rfl, rfl, H, i, aX⟩
            obtain ⟨fp, d4, rfl, bf, H⟩ := ajT H
            unfold J4 at H
            refine DF ?_
            refine Ei (fun u c r => ∃ (bj : Bool), [(0, (Vp a)), (2, (Vp s)), (4, (Vp x)), (136, (.bool bj))] = u ∧ cx = c ∧ (.blk a 97 (D6 (DL.mk B g C) o)) :: (.blk x 70 (DG (Op.mk 4 0 0 0 0 e ab) b F)) :: (.blk s 70 (DG (Op.mk 0 0 0 0 0 [] []) DW DW)) :: (.tok 3 1 [(sv F)]) :: (.tok 101 3 [(sv b)]) :: G = r ∧ HT B g C e ab d4 bj = some (f, h, m, n)) ?_ ?_
            ·rcases GT (dcd (g < (B.length : Int))) with M | M <;> revert M
             ·intro I
              obtain ⟨I, H⟩ := It I H
              obtain ⟨a5, ae, H⟩ := bnd H
              rcases GT (!(dcd (a5 = (⟨#[116, 114, 121]⟩ : ByteArray)))) with M | M <;> revert M
              ·intro A
               have A := EY (E5 (A))
               have H := ED A H
               obtain ⟨bG, aY, H⟩ := bnd H
               rcases GT (!(dcd (bG = (⟨#[117, 110, 116, 105, 108]⟩ : ByteArray)))) with M | M <;> revert M
               ·intro J
                have J := EY (E5 (J))
                have H := ED J H
                refine En _ Z (Ic Mb0 (Ic Mb1 (Ic Mb2 (Ic Mb3 (Ic Mb4 In0)))))<|Jm 0 Z<|Jq 1 Z (DK Z)<|JF 2 1 Z<|Jl 3 (Vi g) Z (Rb0 Z)<|Jm 4 Z<|Jq 5 Z (DK Z)<|JF 6 0 Z<|Jl 7 (sv o) Z (Rb0 Z)<|Jq 8 Z (EA (T := Ty.str) i Z Z)<|Jc 9 Z<|Jm 10 Z<|Aw.known (d := 104) Z (Gi I)<|Bm 11 Z<|Bq 12 Z (DK Z)<|BF 13 0 Z<|Bl 14 (sv o) Z (Rb0 Z)<|Bm 15 Z<|Bq 16 Z (DK Z)<|BF 17 1 Z<|Bl 18 (Vi g) Z (Rb0 Z)<|?_
                obtain ⟨_, rfl, cM⟩ := Slr.at i ae
                refine Bq 19 Z (Qi (T := Ty.str) i ae Z)<|Bl 20 (.string a5) Z (Rdc.k cM Z)<|Bq 21 Z (Ge Z Z)<|Jt 22 Z<|Jm 23 Z<|Aw.known (d := 117) Z (ajq (GU A))<|Bm 24 Z<|Bq 25 Z (DK Z)<|BF 26 0 Z<|Bl 27 (sv o) Z (Rb0 Z)<|Bm 28 Z<|Bq 29 Z (DK Z)<|BF 30 1 Z<|Bl 31 (Vi g) Z (Rb0 Z)<|?_
                obtain ⟨_, rfl, cN⟩ := Slr.at i aY
                exact Bq 32 Z (Qi (T := Ty.str) i aY Z)<|Bl 33 (.string bG) Z (Rdc.k cN Z)<|Bq 34 Z (Ge Z Z)<|Jt 35 Z<|Jm 36 Z<|Aw.known (d := 130) Z (ajq (GU J))<|Bm 37 Z<|Bq 38 Z (DK Z)<|BF 39 2 Z<|Bl 40 (.bool C) Z (Rb0 Z)<|Bq 41 Z (Fe Z)<|Jt 42 Z<|Ad<|Pu4<|Pu4<|Pu4<|Pu4<|Pu4<|Sd<|⟨_, by exact R4, (!(C)), Z, Z, Z, H⟩
               ·intro J
                have J := EZ (E4 (J))
                have H := ift J H
                refine En _ Z (Ic Mb0 (Ic Mb1 (Ic Mb2 (Ic Mb3 (Ic Mb4 In0)))))<|Jm 0 Z<|Jq 1 Z (DK Z)<|JF 2 1 Z<|Jl 3 (Vi g) Z (Rb0 Z)<|Jm 4 Z<|Jq 5 Z (DK Z)<|JF 6 0 Z<|Jl 7 (sv o) Z (Rb0 Z)<|Jq 8 Z (EA (T := Ty.str) i Z Z)<|Jc 9 Z<|Jm 10 Z<|Aw.known (d := 104) Z (Gi I)<|Bm 11 Z<|Bq 12 Z (DK Z)<|BF 13 0 Z<|Bl 14 (sv o) Z (Rb0 Z)<|Bm 15 Z<|Bq 16 Z (DK Z)<|BF 17 1 Z<|Bl 18 (Vi g) Z (Rb0 Z)<|?_
                obtain ⟨_, rfl, cO⟩ := Slr.at i ae
                refine Bq 19 Z (Qi (T := Ty.str) i ae Z)<|Bl 20 (.string a5) Z (Rdc.k cO Z)<|Bq 21 Z (Ge Z Z)<|Jt 22 Z<|Jm 23 Z<|Aw.known (d := 117) Z (ajq (GU A))<|Bm 24 Z<|Bq 25 Z (DK Z)<|BF 26 0 Z<|Bl 27 (sv o) Z (Rb0 Z)<|Bm 28 Z<|Bq 29 Z (DK Z)<|BF 30 1 Z<|Bl 31 (Vi g) Z (Rb0 Z)<|?_
                obtain ⟨_, rfl, cP⟩ := Slr.at i aY
                exact Bq 32 Z (Qi (T := Ty.str) i aY Z)<|Bl 33 (.string bG) Z (Rdc.k cP Z)<|Bq 34 Z (Ge Z Z)<|Jt 35 Z<|Jm 36 Z<|Aw.known (d := 130) Z (alx (Gi J))<|Jz 37 Z<|Jz 38 Z<|Jz 39 Z<|Jz 40 Z<|Jz 41 Z<|Jf 42 Z<|Ad<|Pu4<|Pu4<|Pu4<|Pu4<|Pu4<|Sd<|⟨_, by exact R4, false, Z, Z, Z, H⟩
              ·intro A
               have A := EZ (E4 (A))
               have H := ift A H
               refine En _ Z (Ic Mb0 (Ic Mb1 (Ic Mb2 (Ic Mb3 (Ic Mb4 In0)))))<|Jm 0 Z<|Jq 1 Z (DK Z)<|JF 2 1 Z<|Jl 3 (Vi g) Z (Rb0 Z)<|Jm 4 Z<|Jq 5 Z (DK Z)<|JF 6 0 Z<|Jl 7 (sv o) Z (Rb0 Z)<|Jq 8 Z (EA (T := Ty.str) i Z Z)<|Jc 9 Z<|Jm 10 Z<|Aw.known (d := 104) Z (Gi I)<|Bm 11 Z<|Bq 12 Z (DK Z)<|BF 13 0 Z<|Bl 14 (sv o) Z (Rb0 Z)<|Bm 15 Z<|Bq 16 Z (DK Z)<|BF 17 1 Z<|Bl 18 (Vi g) Z (Rb0 Z)<|?_
               obtain ⟨_, rfl, cQ⟩ := Slr.at i ae
               refine Bq 19 Z (Qi (T := Ty.str) i ae Z)<|Bl 20 (.string a5) Z (Rdc.k cQ Z)<|Bq 21 Z (Ge Z Z)<|Jt 22 Z<|Jm 23 Z<|Aw.known (d := 117) Z (alx (Gi A))<|Jz 24 Z<|Jz 25 Z<|Jz 26 Z<|Jz 27 Z<|Jz 28 Z<|Jz 29 Z<|Jz 30 Z<|Jz 31 Z<|Jz 32 Z<|Jz 33 Z<|Jz 34 Z<|Jf 35 Z<|Jm 36 Z<|Jz 37 Z<|Jz 38 Z<|Jz 39 Z<|?_
               exact Jz 40 Z<|Jz 41 Z<|Jf 42 Z<|Ad<|Pu4<|Pu4<|Pu4<|Pu4<|Pu4<|Sd<|⟨_, by exact R4, false, Z, Z, Z, H⟩
             ·intro I
              obtain ⟨I, H⟩ := If I H
              refine En _ Z (Ic Mb0 (Ic Mb1 (Ic Mb2 (Ic Mb3 (Ic Mb4 In0)))))<|Jm 0 Z<|Jq 1 Z (DK Z)<|JF 2 1 Z<|Jl 3 (Vi g) Z (Rb0 Z)<|Jm 4 Z<|Jq 5 Z (DK Z)<|JF 6 0 Z<|Jl 7 (sv o) Z (Rb0 Z)<|Jq 8 Z (EA (T := Ty.str) i Z Z)<|Jc 9 Z<|Jm 10 Z<|Aw.known (d := 104) Z (GU I)<|Jz 11 Z<|Jz 12 Z<|Jz 13 Z<|Jz 14 Z<|Jz 15 Z<|Jz 16 Z<|Jz 17 Z<|Jz 18 Z<|Jz 19 Z<|?_
              refine Jz 20 Z<|Jz 21 Z<|Jf 22 Z<|Jm 23 Z<|Jz 24 Z<|Jz 25 Z<|Jz 26 Z<|Jz 27 Z<|Jz 28 Z<|Jz 29 Z<|Jz 30 Z<|Jz 31 Z<|Jz 32 Z<|Jz 33 Z<|Jz 34 Z<|Jf 35 Z<|Jm 36 Z<|Jz 37 Z<|Jz 38 Z<|Jz 39 Z<|Jz 40 Z<|Jz 41 Z<|?_
              exact Jf 42 Z<|Ad<|Pu4<|Pu4<|Pu4<|Pu4<|Pu4<|Sd<|⟨_, by exact R4, false, Z, Z, Z, H⟩
            rintro _ _ _ - ⟨bj, rfl, rfl, rfl, H⟩
            unfold HT at H
            refine DX Z ?_ ?_
            ·intro be
             have H := ift be H
             refine D1<|D8<|?_
             obtain ⟨t, aQ, aR, aS, bZ, H⟩ := HA H
             obtain ⟨ao, bi, H⟩ := bnd H
             refine En _ Z (Ic Mb2 (Ic Mb4 In0))<|JF 0 6 Z<|Jm 2 Z<|?_
             refine Eh 1 3 (by kernel_rfl) ?_ ?_
             ·refine id (Jyq Z (DI (v := (sv F)) Z Z Z (Rb1 Z)) ⟨(Ic Mb2 (Ic Mb4 In0)), ?_⟩)
              refine Ao 3 Z ?_
              refine Ek Tryz.call58 Z (Gw a (DL.mk B g C) o t aQ aR aS bZ _ _ i) ?_
              rintro _ cy _ cG ⟨ef, rfl, rfl, dr⟩
              refine ⟨(Ic Mb2 (Ic Mb4 In0)), ?_⟩
              refine Ao 4 Z ?_
              have bQ : RowR Ty.i64 cy [[(Vi t)]] [t] := RowR.cons Z (RowR.nil)
              refine Es (T := Ty.i64) (rows := [[(Vi t)]]) (l := [t]) Z Z Z bQ Z Z Z Z Z Z Z Z (fun fu => ⟨(Ic Mb3 (Ic Mb5 In0)), ?_⟩)
              refine Ao 5 Z ?_
              have dt := aX.mono cG
              refine D3 (T := Ty.i64) (bytes := 8) (q := 0) Z Z Z dt Mb4 Z (SrcT.row Mb0 bQ Z) bi Z Z Z Z Z Z Z Z (fun bo e1 cH ds => ⟨_, (.there (.there (.there (.there .here)))), ⟨(Ic Mb3 (Ic Mb5 In0)), ?_⟩⟩)
              refine Aw.shift (Re0 (Sd ⟨(Ic Mb2 (Ic Mb4 In0)), ?_⟩))
              refine JF 6 6 Z ?_
              refine Ao 7 Z ?_
              refine So [(sv bo)] (DG (Op.mk 4 0 0 0 0 e ao) b bo) Z (.there .here) Z ⟨(Ic Mb2 (Ic Mb4 In0)), ?_⟩
              refine Ad<|Pu4<|Pu4<|Pu4<|Pu4<|Pu4<|?_
              have du := dr.mono cH
              exact Sd ⟨_, by exact R3, _, Nat.lt_succ_self _, ef, aQ, aR, aS, bo, ao, Z, Z, (bf ▸ H), du, ds⟩
             ·refine id (Jy Z ?_)
              refine Ek Tryz.call58 Z (Gw a (DL.mk B g C) o t aQ aR aS bZ _ _ i) ?_
              rintro _ bI _ bL ⟨b5, rfl, rfl, bX⟩
              refine ⟨(Ic Mb2 (Ic Mb4 In0)), ?_⟩
              refine Eh 1 4 (by kernel_rfl) ?_ ?_
              ·refine id (Jyq Z (DI (v := (sv F)) Z Z Z (Rb1 Z)) ⟨(Ic Mb2 (Ic Mb4 In0)), ?_⟩)
               refine Ao 4 Z ?_
               have bR : RowR Ty.i64 bI [[(Vi t)]] [t] := RowR.cons Z (RowR.nil)
               refine Es (T := Ty.i64) (rows := [[(Vi t)]]) (l := [t]) Z Z Z bR Z Z Z Z Z Z Z Z (fun fv => ⟨(Ic Mb3 (Ic Mb5 In0)), ?_⟩)
               refine Ao 5 Z ?_
               have dw := aX.mono bL
               refine D3 (T := Ty.i64) (bytes := 8) (q := 0) Z Z Z dw Mb4 Z (SrcT.row Mb0 bR Z) bi Z Z Z Z Z Z Z Z (fun bp e2 cI dv => ⟨_, (.there (.there (.there (.there .here)))), ⟨(Ic Mb3 (Ic Mb5 In0)), ?_⟩⟩)
               refine Aw.shift (Re0 (Sd ⟨(Ic Mb2 (Ic Mb4 In0)), ?_⟩))
               refine JF 6 6 Z ?_
               refine Ao 7 Z ?_
               refine So [(sv bp)] (DG (Op.mk 4 0 0 0 0 e ao) b bp) Z (.there .here) Z ⟨(Ic Mb2 (Ic Mb4 In0)), ?_⟩
               refine Ad<|Pu4<|Pu4<|Pu4<|Pu4<|Pu4<|?_
               have dx := bX.mono cI
               exact Sd ⟨_, by exact R3, _, Nat.lt_succ_self _, b5, aQ, aR, aS, bp, ao, Z, Z, (bf ▸ H), dx, dv⟩
              ·refine id (Jy Z ?_)
               have bS : RowR Ty.i64 bI [[(Vi t)]] [t] := RowR.cons Z (RowR.nil)
               refine Es (T := Ty.i64) (rows := [[(Vi t)]]) (l := [t]) Z Z Z bS Z Z Z Z Z Z Z Z (fun fw => ⟨(Ic Mb3 (Ic Mb5 In0)), ?_⟩)
               refine DO 1 (by kernel_rfl) (Jyq Z (DI (v := (sv F)) Z Z Z (Rb2 Z)) ⟨(Ic Mb3 (Ic Mb5 In0)), ?_⟩)
               refine Ao 5 Z ?_
               have dz := aX.mono bL
               refine D3 (T := Ty.i64) (bytes := 8) (q := 0) Z Z Z dz Mb4 Z (SrcT.row Mb0 bS Z) bi Z Z Z Z Z Z Z Z (fun bq e3 cJ dy => ⟨_, (.there (.there (.there (.there .here)))), ⟨(Ic Mb3 (Ic Mb5 In0)), ?_⟩⟩)
               refine Aw.shift (Re0 (Sd ⟨(Ic Mb2 (Ic Mb4 In0)), ?_⟩))
               refine JF 6 6 Z ?_
               refine Ao 7 Z ?_
               refine So [(sv bq)] (DG (Op.mk 4 0 0 0 0 e ao) b bq) Z (.there .here) Z ⟨(Ic Mb2 (Ic Mb4 In0)), ?_⟩
               refine Ad<|Pu4<|Pu4<|Pu4<|Pu4<|Pu4<|?_
               have dA := bX.mono cJ
               exact Sd ⟨_, by exact R3, _, Nat.lt_succ_self _, b5, aQ, aR, aS, bq, ao, Z, Z, (bf ▸ H), dA, dy⟩
            ·intro be
             have H := ED (btf be) H
             exact EE<|Pu4<|Pu4<|Pu4<|Pu4<|Pu4<|Sd<|⟨_, by exact R3, o, B, g, C, F, ab, Z, Z, H, i, aX⟩
           rintro _ e4 _ cK ⟨al, aa, af, a2, ac, ai, rfl, rfl, H, bW, bg⟩
           unfold MA at H
           refine DF<|Dz<|EF 6 Z<|El (sv ac) Z (Rb1 Z)<|Eq Z (EA (T := Ty.i64) bg Z Z)<|EF 5 Z<|El (sv b) Z (Rb1 Z)<|?_
           have dB := aW.mono cK
           refine Eq Z (EA (T := Eu) dB Z Z)<|Ec Z<|DC<|?_
           refine DX Z ?_ ?_
           ·intro X
            have X := EY (E5 (X))
            have H := ED X H
            refine Dz<|Em Z<|Eq Z (DK Z)<|EF 2 Z<|?_
            refine DN Z (So [(.bool true)] (D6 (DL.mk aa af true) al) Z .here Z ?_)
            exact DC<|Pu4<|Pu4<|Pu4<|Pu4<|Pu4<|Sd<|⟨_, by exact R3, al, aa, af, true, ac, ai, Z, Z, H, bW, bg⟩
           ·intro X
            have X := EZ (E4 (X))
            have H := ift X H
            exact D1<|Pu4<|Pu4<|Pu4<|Pu4<|Pu4<|Sd<|⟨_, by exact R3, al, aa, af, a2, ac, ai, Z, Z, H, bW, bg⟩
         ·intro ap
          obtain ⟨ap, H⟩ := If ap H
          exact D1<|Shift.nilTok1 3 1<|Pu4<|Pu1<|Pu4<|Pu4<|Pu4<|Sd<|⟨_, by exact R3, O, N, aq, aj, DW, ([] : ae9), Z, Z, H, aV, (Slr.nil Ty.i64 _)⟩
        rintro _ e5 _ cL ⟨a3, au, a0, a1, ak, ah, rfl, rfl, H, dp, dq⟩
        unfold NB at H
        refine DF<|Dz<|Em Z<|EL 7 (DG (Op.mk 4 0 0 0 0 e ah) b ak) Z (Rb1 Z)<|?_
        obtain ⟨aT, eG, eH, eI, d3, H⟩ := HA H
        have dC := aW.mono cL
        refine DN Z (Ek Tryz.call82 Z (H9 a (DL.mk au a0 a1) a3 (Op.mk 4 0 0 0 0 e ah) b ak aT eG eH eI d3 _ _ dp dC dq) ?_)
        rintro _ e6 _ fm ⟨aF, aG, eg, rfl, rfl, dD, dE, dF⟩
        refine DN Z (Sa (DG aT aF aG) Z (.there (.there .here)) Z ?_)
        refine DC<|D7<|?_
        obtain ⟨Q, U, R, S⟩ := Kt H
        subst f h m n
        refine ⟨(.inl Z), [(.agg (DG aT aF aG).toArray)], ⟨(.agg (DG aT aF aG).toArray), _, Z, ⟨_, 7, (DG aT aF aG), Z, Z, Z, Z, ⟨Z, Rb2 Z⟩, Z⟩, Z⟩, ?_⟩
        exact Re1<|Re1<|Re1<|Re1<|Sd<|⟨aF, aG, eg, Z, Z, dD, dE, dF⟩
       ·intro bb
        have H := ED (btf bb) H
        exact D1<|Pu1<|Pu1<|Sd<|⟨_, by exact R2, bC, Z, Z, Z, H⟩
 rintro _ _ _ - ⟨aZ, rfl, rfl, rfl, H⟩
 unfold afX at H
 refine DF<|Dz<|Em Z<|Eq Z (DK Z)<|EF 2 Z<|?_
 refine DN Z (So [(.bool true)] (D6 (DL.mk p0.l aZ true) j) Z .here Z ?_)
 refine DC<|DF<|Dz<|Eq Z (EI (cs := (DG (Op.mk 0 0 0 0 0 [] []) DW DW)) Z Z Z Z Z Z)<|?_
 refine DN Z (Sa (DG (Op.mk 0 0 0 0 0 [] []) DW DW) Z (.there .here) Z ?_)
 refine DC<|D7<|?_
 obtain ⟨Q, U, R, S⟩ := Kt H
 subst f h m n
 refine ⟨(.inl Z), [(.agg (DG (Op.mk 0 0 0 0 0 [] []) DW DW).toArray)], ⟨(.agg (DG (Op.mk 0 0 0 0 0 [] []) DW DW).toArray), _, Z, ⟨_, 7, (DG (Op.mk 0 0 0 0 0 [] []) DW DW), Z, Z, Z, Z, ⟨Z, Rb1 Z⟩, Z⟩, Z⟩, ?_⟩
 exact Re1<|Sd<|⟨DW, DW, j, Z, Z, (Slr.nil Eu _), (Slr.nil Ty.i64 _), w⟩
end Go.Hx
