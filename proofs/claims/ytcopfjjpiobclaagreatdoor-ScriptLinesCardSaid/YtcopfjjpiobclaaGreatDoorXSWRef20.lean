
import Derived.Test.YtcopfjjpiobclaaGreatDoorXSM
set_option linter.unusedVariables false
set_option linter.unusedSimpArgs false
namespace Go.Hx
open Go Go.Proofs
set_option maxRecDepth 10000
set_option maxHeartbeats 1000000
theorem UL (p0 : ByteArray) (h : ad7) (H : MX p0 = some h) (K : Kp) (G : List Ent)  :
  Fc Tryz.prog 56 #[(.string p0)] K (G) (fun v d c => ∃ (s : SV), v = (sv s) ∧ (.tok 9 1 [(sv s)]) :: G = c ∧ Slr Ty.str d (sv s) h) := by
 refine Gx Tryz.func56 Z Tryz.ntmps56 Tryz.results56 Z ?_
 unfold MX at H
 refine FK<|FD<|Ea Z<|FH<|FK<|FD<|Ea Z<|FH<|FK<|FD<|Ea Z<|FH<|?_
 refine Gk (fun i d c => ∃ (e : SV) (p : ad7), [(3, (sv e))] = i ∧ (.tok 9 1 [(sv e)]) :: G = c ∧ P0 p = some h ∧ Slr Ty.str d (sv e) p) ?_ ?_
 ·refine FK<|FD<|Ea Z<|FH<|Gh<|?_
  refine Gv (fun n147 i d c => ∃ (b : SV) (g : ad7) (f a : Int), [(0, (.string p0)), (3, (sv b)), (4, (Vi f)), (5, (Vi a))] = i ∧ (.tok 9 1 [(sv b)]) :: G = c ∧ lp3 (JK p0) n147 g f a = some h ∧ Slr Ty.str d (sv b) g) BIG ?_ ?_
  ·exact Shift.nilTok1 9 1<|Sd<|⟨_, by exact R4, FZ, ([] : ad7), 0, 0, Z, Z, H, (Slr.nil Ty.str _)⟩
  rintro n147 _ t _ M ⟨b, g, f, a, rfl, rfl, H, o⟩
  obtain ⟨P, C, rfl, w, H⟩ := WY H
  unfold JK at H
  refine FK<|FK<|FD<|Em Z<|Em Z<|Eq Z (HT Z Z)<|Ec Z<|FH<|?_
  refine F2 Z ?_ ?_
  ·intro j
   obtain ⟨j, H⟩ := It j H
   refine F8<|FK<|Gh<|?_
   refine Gk (fun i d c => ∃ (r : Bool), [(0, (.string p0)), (3, (sv b)), (4, (Vi f)), (5, (Vi a)), (21, (.bool r))] = i ∧ t = d ∧ (.tok 9 1 [(sv b)]) :: G = c ∧ OW p0 g f a C r = some h) ?_ ?_
   ·refine FD<|Em Z<|Em Z<|Eq Z (HT Z Z)<|Ec Z<|Em Z<|?_
    refine Ee Z ?_ ?_
    ·intro k
     obtain ⟨k, H⟩ := It k H
     exact Ez Z<|Ez Z<|Ez Z<|Ez Z<|Et Z<|FH<|Sd<|⟨_, by exact R5, true, Z, Z, Z, H⟩
    ·intro k
     obtain ⟨k, H⟩ := If k H
     refine Vm Z<|Vm Z<|?_
     obtain ⟨E, z, H⟩ := bnd H
     exact Vq Z (LG z Z Z Z)<|Vc Z<|Ef Z<|FH<|Sd<|⟨_, by exact R5, (dcd (E = 32)), Z, Z, Z, H⟩
   rintro _ _ _ - ⟨r, rfl, rfl, rfl, H⟩
   unfold OW at H
   refine F2 Z ?_ ?_
   ·intro n
    have H := ift n H
    refine FK<|FD<|Em Z<|Em Z<|Em Z<|Em Z<|?_
    obtain ⟨m, A, H⟩ := bnd H
    refine Eq Z (Uu A Z Z Z Z) ?_
    have u : RowR Ty.str t [[(.string m)]] [m] := RowR.cons Z (RowR.nil)
    refine FT Z (Gl (T := Ty.str) (rows := [[(.string m)]]) (l := [m]) Z Z Z u Z Z Z Z Z Z Z Z (fun Q => ?_))
    obtain ⟨F, B, H⟩ := bnd H
    refine FT Z (F7 (T := Ty.str) (bytes := 16) (q := 0) Z Z Z o Mb1 Z (SrcT.row Mb0 u Z) B Z Z Z Z Z Z Z Z (fun D I N y => ⟨_, (.there .here), ?_⟩))
    refine Ow.shift (Re0 (Sd ?_))
    exact Ea Z<|FH<|FD<|Em Z<|Er (wI (a + 1)) Z<|Ea Z<|FH<|FD<|Em Z<|Er (wI (a + 1)) Z<|Ea Z<|FH<|Sd<|⟨_, by exact R4, _, Nat.lt_succ_self _, D, F, (wI (a + 1)), (wI (a + 1)), Z, Z, (w ▸ H), y⟩
   ·intro n
    have H := Gu (btf n) H
    exact F8<|FD<|Em Z<|Er (wI (a + 1)) Z<|Ea Z<|FH<|Sd<|⟨_, by exact R4, _, Nat.lt_succ_self _, b, g, f, (wI (a + 1)), Z, Z, (w ▸ H), o⟩
  ·intro j
   obtain ⟨j, H⟩ := If j H
   exact Gy<|Sd<|⟨_, by exact R1, b, g, Z, Z, H, o⟩
 rintro _ J _ O ⟨e, p, rfl, rfl, H, x⟩
 unfold P0 at H
 refine FK<|FD<|Em Z<|Ea Z<|FH<|Gg<|?_
 obtain L := GB H
 subst h
 refine ⟨(.inl Z), [(sv e)], ⟨(sv e), _, Z, Z, Z⟩, ?_⟩
 exact Sd ⟨e, Z, Z, x⟩
theorem HN (c : Nat) (p0 : FO) (a : SV) (p1 : ByteArray) (e : Bool) (f : Int) (H : IF p0 p1 = some (e, f)) (K : Kp) (G : List Ent) (g : Slr Ty.str K (sv a) p0.l) :
  Fc Tryz.prog 57 #[(Vp c), (.string p1)] K ((.blk c 97 (F5 p0 a)) :: G) (fun v i h => v = (.bool e) ∧ K = i ∧ (.blk c 97 (F5 (FO.mk p0.l f p0.bad) a)) :: G = h) := by
 refine Gx Tryz.func57 Z Tryz.ntmps57 Tryz.results57 Z ?_
 unfold IF at H
 refine FK<|FD<|Ea Z<|FH<|FK<|?_
 refine Gk (fun q i h => ∃ (m : Bool), [(0, (Vp c)), (28, (.bool m))] = q ∧ K = i ∧ (.blk c 97 (F5 p0 a)) :: G = h ∧ MY p0 m = some (e, f)) ?_ ?_
 ·rcases Ia (dcd (p0.at_ < (p0.l.length : Int))) with n | n <;> revert n
  ·intro b
   obtain ⟨b, H⟩ := It b H
   obtain ⟨p, o, H⟩ := bnd H
   refine Gm _ Z (Ic Mb0 In0)<|Jm 0 Z<|Jq 1 Z (FN Z)<|JF 2 1 Z<|Jl 3 (Vi p0.at_) Z (Rb0 Z)<|Jm 4 Z<|Jq 5 Z (FN Z)<|JF 6 0 Z<|Jl 7 (sv a) Z (Rb0 Z)<|Jq 8 Z (Gt (T := Ty.str) g Z Z)<|Jc 9 Z<|Jm 10 Z<|Aw.known (d := 15) Z (HE b)<|Bm 11 Z<|Bq 12 Z (FN Z)<|BF 13 0 Z<|Bl 14 (sv a) Z (Rb0 Z)<|Bm 15 Z<|Bq 16 Z (FN Z)<|BF 17 1 Z<|Bl 18 (Vi p0.at_) Z (Rb0 Z)<|?_
   obtain ⟨_, rfl, t⟩ := Slr.at g o
   exact Bq 19 Z (Qi (T := Ty.str) g o Z)<|Bl 20 (.string p) Z (Rdc.k t Z)<|Bm 21 Z<|Bq 22 Z (Is Z Z)<|Jt 23 Z<|Ad<|Sd<|⟨_, by exact R2, (dcd (p = p1)), Z, Z, Z, H⟩
  ·intro b
   obtain ⟨b, H⟩ := If b H
   refine Gm _ Z (Ic Mb0 In0)<|Jm 0 Z<|Jq 1 Z (FN Z)<|JF 2 1 Z<|Jl 3 (Vi p0.at_) Z (Rb0 Z)<|Jm 4 Z<|Jq 5 Z (FN Z)<|JF 6 0 Z<|Jl 7 (sv a) Z (Rb0 Z)<|Jq 8 Z (Gt (T := Ty.str) g Z Z)<|Jc 9 Z<|Jm 10 Z<|Aw.known (d := 15) Z (Ib b)<|Jz 11 Z<|Jz 12 Z<|Jz 13 Z<|Jz 14 Z<|Jz 15 Z<|Jz 16 Z<|Jz 17 Z<|Jz 18 Z<|Jz 19 Z<|?_
   exact Jz 20 Z<|Jz 21 Z<|Jz 22 Z<|Jf 23 Z<|Ad<|Sd<|⟨_, by exact R2, false, Z, Z, Z, H⟩
 rintro _ _ _ - ⟨m, rfl, rfl, rfl, H⟩
 unfold MY at H
 refine F2 Z ?_ ?_
 ·intro j
  have H := ift j H
  refine FK<|FD<|Em Z<|Eq Z (FN Z)<|EF 1 Z<|El (Vi p0.at_) Z (Rb0 Z)<|Er (wI (p0.at_ + 1)) Z<|Eq Z (FN Z)<|EF 1 Z<|?_
  refine FT Z (So [(Vi (wI (p0.at_ + 1)))] (F5 (FO.mk p0.l (wI (p0.at_ + 1)) p0.bad) a) Z .here Z ?_)
  refine FH<|FK<|FD<|Ea Z<|FH<|Gg<|?_
  obtain ⟨r, s⟩ := K8 H
  subst e f
  refine ⟨(.inl Z), [(.bool true)], ⟨(.bool true), _, Z, Z, Z⟩, ?_⟩
  exact Sd ⟨Z, Z, Z⟩
 ·intro j
  have H := Gu (btf j) H
  refine F8<|FK<|FD<|Ea Z<|FH<|Gg<|?_
  obtain ⟨r, s⟩ := K8 H
  subst e f
  refine ⟨(.inl Z), [(.bool false)], ⟨(.bool false), _, Z, Z, Z⟩, ?_⟩
  exact Sd ⟨Z, Z, Z⟩
theorem Ku (b : Nat) (p0 : FO) (a : SV) (e f : Int) (g : Bool) (H : I8 p0 = some (e, f, g)) (K : Kp) (G : List Ent) (C : Slr Ty.str K (sv a) p0.l) :
  Fc Tryz.prog 59 #[(Vp b)] K ((.blk b 97 (F5 p0 a)) :: G) (fun v n h => v = (.int .u64 e) ∧ (.blk b 97 (F5 (FO.mk p0.l f g) a)) :: G = h) := by
 refine Gx Tryz.func59 Z Tryz.ntmps59 Tryz.results59 Z ?_
 unfold I8 at H
 refine FK<|FD<|Ea Z<|FH<|FK<|FK<|Gm _ Z (Ic Mb0 In0)<|Jm 0 Z<|Jq 1 Z (FN Z)<|JF 2 1 Z<|Jl 3 (Vi p0.at_) Z (Rb0 Z)<|Jm 4 Z<|Jq 5 Z (FN Z)<|JF 6 0 Z<|Jl 7 (sv a) Z (Rb0 Z)<|Jq 8 Z (Gt (T := Ty.str) C Z Z)<|Jc 9 Z<|Ad<|?_
 refine F2 Z ?_ ?_
 ·intro w
  obtain ⟨w, H⟩ := It w H
  refine FK<|FD<|Em Z<|Eq Z (FN Z)<|EF 2 Z<|?_
  refine FT Z (So [(.bool true)] (F5 (FO.mk p0.l p0.at_ true) a) Z .here Z ?_)
  refine FH<|FK<|FD<|Ea Z<|FH<|Gg<|?_
  obtain ⟨x, y, z⟩ := IZ H
  subst e f g
  refine ⟨(.inl Z), [(.int .u64 0)], ⟨(.int .u64 0), _, Z, Z, Z⟩, ?_⟩
  exact Sd ⟨Z, Z⟩
 ·intro w
  obtain ⟨w, H⟩ := If w H
  refine F8<|FK<|?_
  obtain ⟨m, F, H⟩ := bnd H
  refine Gm _ Z (Ic Mb0 In0)<|Jm 0 Z<|Jq 1 Z (FN Z)<|JF 2 0 Z<|Jl 3 (sv a) Z (Rb0 Z)<|Jm 4 Z<|Jq 5 Z (FN Z)<|JF 6 1 Z<|Jl 7 (Vi p0.at_) Z (Rb0 Z)<|?_
  obtain ⟨_, rfl, J⟩ := Slr.at C F
  refine Jq 8 Z (Qi (T := Ty.str) C F Z)<|Jl 9 (.string m) Z (Rdc.k J Z)<|Ja 10 Z<|Ad<|FK<|FD<|Em Z<|Eq Z (FN Z)<|EF 1 Z<|El (Vi p0.at_) Z (Rb0 Z)<|Er (wI (p0.at_ + 1)) Z<|Eq Z (FN Z)<|EF 1 Z<|?_
  refine FT Z (So [(Vi (wI (p0.at_ + 1)))] (F5 (FO.mk p0.l (wI (p0.at_ + 1)) p0.bad) a) Z .here Z ?_)
  refine FH<|FK<|FD<|Ea Z<|FH<|?_
  refine Gk (fun o n h => ∃ (i : Int), [(0, (Vp b)), (3, (.string m)), (4, (.int .u64 i))] = o ∧ (.blk b 97 (F5 (FO.mk p0.l (wI (p0.at_ + 1)) p0.bad) a)) :: G = h ∧ MZ m p0 i = some (e, f, g)) ?_ ?_
  ·refine FK<|FD<|Ea Z<|FH<|Gh<|?_
   refine Gv (fun n120 o n h => ∃ (d p : Int), [(0, (Vp b)), (3, (.string m)), (4, (.int .u64 d)), (5, (Vi p))] = o ∧ K = n ∧ (.blk b 97 (F5 (FO.mk p0.l (wI (p0.at_ + 1)) p0.bad) a)) :: G = h ∧ lp2 (NT m p0) n120 d p = some (e, f, g)) BIG ?_ ?_
   ·exact Sd ⟨_, by exact R4, 0, 0, Z, Z, Z, H⟩
   rintro n120 _ _ _ - ⟨d, p, rfl, rfl, rfl, H⟩
   obtain ⟨S, Q, rfl, L, H⟩ := Rb H
   unfold NT at H
   refine FK<|FK<|FD<|Em Z<|Em Z<|Eq Z (HT Z Z)<|Ec Z<|FH<|?_
   refine F2 Z ?_ ?_
   ·intro q
    obtain ⟨q, H⟩ := It q H
    refine F8<|FK<|Gh<|FK<|FD<|Em Z<|Em Z<|?_
    obtain ⟨j, M, H⟩ := bnd H
    refine Eq Z (LG M Z Z Z)<|Eq Z (LO (c := wU j) Z Z Z Z)<|Er (wU ((wU j) - 48)) Z<|Ea Z<|FH<|FK<|?_
    refine Gk (fun o n h => ∃ (D : Bool), [(0, (Vp b)), (3, (.string m)), (4, (.int .u64 d)), (5, (Vi p)), (6, (.int .u64 (wU ((wU j) - 48)))), (64, (.bool D))] = o ∧ K = n ∧ (.blk b 97 (F5 (FO.mk p0.l (wI (p0.at_ + 1)) p0.bad) a)) :: G = h ∧ Lu m d p j p0 Q D = some (e, f, g)) ?_ ?_
    ·refine FD<|Em Z<|Em Z<|?_
     obtain ⟨U, N, H⟩ := bnd H
     refine Eq Z (LG N Z Z Z)<|Ec Z<|Em Z<|?_
     refine Ee Z ?_ ?_
     ·intro r
      obtain ⟨r, H⟩ := It r H
      exact Ez Z<|Ez Z<|Ez Z<|Ez Z<|Et Z<|Em Z<|Ez Z<|Ez Z<|Ez Z<|Ez Z<|Ez Z<|Et Z<|FH<|Sd<|⟨_, by exact R6, true, Z, Z, Z, H⟩
     ·intro r
      obtain ⟨r, H⟩ := If r H
      refine Vm Z<|Vm Z<|?_
      obtain ⟨V, O, H⟩ := bnd H
      refine Vq Z (LG O Z Z Z)<|Vc Z<|Ef Z<|Em Z<|?_
      refine Ee Z ?_ ?_
      ·intro s
       obtain ⟨s, H⟩ := It s H
       exact Ez Z<|Ez Z<|Ez Z<|Ez Z<|Ez Z<|Et Z<|FH<|Sd<|⟨_, by exact R6, true, Z, Z, Z, H⟩
      ·intro s
       obtain ⟨s, H⟩ := If s H
       exact Vm Z<|Vm Z<|Vr (wU (18446744073709551615 - (wU ((wU j) - 48)))) Z<|Vq Z (WQ Z Z (by decide))<|Vc Z<|Ef Z<|FH<|Sd<|⟨_, by exact R6, (dcd (d > (wU (Int.tdiv (wU (18446744073709551615 - (wU ((wU j) - 48)))) 10)))), Z, Z, Z, H⟩
    rintro _ _ _ - ⟨D, rfl, rfl, rfl, H⟩
    unfold Lu at H
    refine F2 Z ?_ ?_
    ·intro A
     have H := ift A H
     refine FK<|FD<|Em Z<|Eq Z (FN Z)<|EF 2 Z<|?_
     refine FT Z (So [(.bool true)] (F5 (FO.mk p0.l (wI (p0.at_ + 1)) true) a) Z .here Z ?_)
     refine FH<|FK<|FD<|Ea Z<|FH<|Gg<|?_
     obtain ⟨x, y, z⟩ := IZ H
     subst e f g
     refine ⟨(.inl Z), [(.int .u64 0)], ⟨(.int .u64 0), _, Z, Z, Z⟩, ?_⟩
     exact Sd ⟨Z, Z⟩
    ·intro A
     have H := Gu (btf A) H
     exact F8<|FD<|Em Z<|Er (wU (10 * d)) Z<|Em Z<|Er (wU ((wU (10 * d)) + (wU ((wU j) - 48)))) Z<|Ea Z<|FH<|FD<|Em Z<|Er (wI (p + 1)) Z<|Ea Z<|FH<|Sd<|⟨_, by exact R4, _, Nat.lt_succ_self _, (wU ((wU (10 * d)) + (wU ((wU j) - 48)))), (wI (p + 1)), Z, Z, Z, (L ▸ H)⟩
   ·intro q
    obtain ⟨q, H⟩ := If q H
    exact Gy<|Sd<|⟨_, by exact R3, d, Z, Z, H⟩
  rintro _ I _ R ⟨i, rfl, rfl, H⟩
  unfold MZ at H
  refine FK ?_
  refine Gk (fun o n h => ∃ (E : Bool), [(0, (Vp b)), (4, (.int .u64 i)), (82, (.bool E))] = o ∧ I = n ∧ (.blk b 97 (F5 (FO.mk p0.l (wI (p0.at_ + 1)) p0.bad) a)) :: G = h ∧ NK i p0 E = some (e, f, g)) ?_ ?_
  ·refine FD<|Em Z<|Eq Z (Is Z Z)<|Em Z<|?_
   refine Ee Z ?_ ?_
   ·intro t
    obtain ⟨t, H⟩ := It t H
    exact Ez Z<|Ez Z<|Ez Z<|Ez Z<|G3 Z Z Z Z rfl<|G3 Z Z Z Z rfl<|Ez Z<|Et Z<|FH<|Sd<|⟨_, by exact R3, true, Z, Z, Z, H⟩
   ·intro t
    obtain ⟨t, H⟩ := If t H
    refine Vm Z ?_
    obtain ⟨W, P, H⟩ := bnd H
    refine Vq Z (LG P Z Z Z)<|Vc Z<|Vm Z<|?_
    refine Ee Z ?_ ?_
    ·intro u
     obtain ⟨u, H⟩ := It u H
     exact Vm Z<|Vq Z (HG Z Z)<|Vt Z<|Ef Z<|FH<|Sd<|⟨_, by exact R3, (!(dcd (m = (⟨#[48]⟩ : ByteArray)))), Z, Z, Z, H⟩
    ·intro u
     obtain ⟨u, H⟩ := If u H
     exact Ez Z<|Ez Z<|Vf Z<|Ef Z<|FH<|Sd<|⟨_, by exact R3, false, Z, Z, Z, H⟩
  rintro _ _ _ - ⟨E, rfl, rfl, rfl, H⟩
  unfold NK at H
  refine F2 Z ?_ ?_
  ·intro B
   have H := ift B H
   refine FD<|Em Z<|Eq Z (FN Z)<|EF 2 Z<|?_
   refine FT Z (So [(.bool true)] (F5 (FO.mk p0.l (wI (p0.at_ + 1)) true) a) Z .here Z ?_)
   refine FH<|FK<|FD<|Em Z<|Ea Z<|FH<|Gg<|?_
   obtain ⟨x, y, z⟩ := IZ H
   subst e f g
   refine ⟨(.inl Z), [(.int .u64 i)], ⟨(.int .u64 i), _, Z, Z, Z⟩, ?_⟩
   exact Sd ⟨Z, Z⟩
  ·intro B
   have H := Gu (btf B) H
   refine F8<|FK<|FD<|Em Z<|Ea Z<|FH<|Gg<|?_
   obtain ⟨x, y, z⟩ := IZ H
   subst e f g
   refine ⟨(.inl Z), [(.int .u64 i)], ⟨(.int .u64 i), _, Z, Z, Z⟩, ?_⟩
   exact Sd ⟨Z, Z⟩
theorem HU (p : Nat) (p0 : FO) (n : SV) (x : Int) (u : ad7) (y : Int) (z : Bool) (H : Jd p0 = some (x, u, y, z)) (K : Kp) (G : List Ent) (m : Slr Ty.str K (sv n) p0.l) :
  Fc Tryz.prog 58 #[(Vp p)] K ((.blk p 97 (F5 p0 n)) :: G) (fun v F E => ∃ (bM : SV), v = (Vi x) ∧ (.blk p 97 (F5 (FO.mk u y z) bM)) :: G = E ∧ Slr Ty.str F (sv bM) u) := by
 refine Gx Tryz.func58 Z Tryz.ntmps58 Tryz.results58 Z ?_
 unfold Jd at H
 refine FK<|FD<|Ea Z<|FH<|FK<|FD<|Ea Z<|FH<|?_
 refine Gk (fun N F E => ∃ (bg : Bool) (s : SV) (D : ad7), [(0, (Vp p)), (3, (.bool bg))] = N ∧ (.blk p 97 (F5 (FO.mk D p0.at_ p0.bad) s)) :: G = E ∧ J9 p0 bg D = some (x, u, y, z) ∧ Slr Ty.str F (sv s) D) ?_ ?_
 ·refine Gk (fun N F E => ∃ (bf : Bool), [(0, (Vp p)), (3, (.bool false)), (55, (.bool bf))] = N ∧ K = F ∧ (.blk p 97 (F5 p0 n)) :: G = E ∧ JM p0 bf = some (x, u, y, z)) ?_ ?_
  ·rcases Ia (dcd (p0.at_ < (p0.l.length : Int))) with r | r <;> revert r
   ·intro o
    obtain ⟨o, H⟩ := It o H
    obtain ⟨M, C, H⟩ := bnd H
    rcases Ia (dcd ((M.size : Int) > 1)) with r | r <;> revert r
    ·intro q
     obtain ⟨q, H⟩ := It q H
     obtain ⟨bN, L, H⟩ := bnd H
     obtain ⟨fA, bK, H⟩ := bnd H
     rcases Ia (dcd (fA = 45)) with r | r <;> revert r
     ·intro w
      obtain ⟨w, H⟩ := It w H
      obtain ⟨bO, bL, H⟩ := bnd H
      refine Gm _ Z (Ic Mb0 In0)<|Jm 0 Z<|Jq 1 Z (FN Z)<|JF 2 1 Z<|Jl 3 (Vi p0.at_) Z (Rb0 Z)<|Jm 4 Z<|Jq 5 Z (FN Z)<|JF 6 0 Z<|Jl 7 (sv n) Z (Rb0 Z)<|Jq 8 Z (Gt (T := Ty.str) m Z Z)<|Jc 9 Z<|Jm 10 Z<|Aw.known (d := 15) Z (HE o)<|Bm 11 Z<|Bq 12 Z (FN Z)<|BF 13 0 Z<|Bl 14 (sv n) Z (Rb0 Z)<|Bm 15 Z<|Bq 16 Z (FN Z)<|BF 17 1 Z<|Bl 18 (Vi p0.at_) Z (Rb0 Z)<|?_
      obtain ⟨_, rfl, cP⟩ := Slr.at m C
      refine Bq 19 Z (Qi (T := Ty.str) m C Z)<|Bl 20 (.string M) Z (Rdc.k cP Z)<|Bq 21 Z (HT Z Z)<|Bc 22 Z<|Jt 23 Z<|Jm 24 Z<|Aw.known (d := 29) Z (HE q)<|Bm 25 Z<|Bq 26 Z (FN Z)<|BF 27 0 Z<|Bl 28 (sv n) Z (Rb0 Z)<|Bm 29 Z<|Bq 30 Z (FN Z)<|BF 31 1 Z<|Bl 32 (Vi p0.at_) Z (Rb0 Z)<|?_
      obtain ⟨_, rfl, cQ⟩ := Slr.at m L
      refine Bq 33 Z (Qi (T := Ty.str) m L Z)<|Bl 34 (.string bN) Z (Rdc.k cQ Z)<|Bq 35 Z (LG bK Z Z Z)<|Bc 36 Z<|Jt 37 Z<|Jm 38 Z<|Aw.known (d := 43) Z (HE w)<|Bm 39 Z<|Bq 40 Z (FN Z)<|BF 41 0 Z<|Bl 42 (sv n) Z (Rb0 Z)<|Bm 43 Z<|Bq 44 Z (FN Z)<|BF 45 1 Z<|Bl 46 (Vi p0.at_) Z (Rb0 Z)<|?_
      obtain ⟨_, rfl, cR⟩ := Slr.at m bL
      exact Bq 47 Z (Qi (T := Ty.str) m bL Z)<|Bl 48 (.string bO) Z (Rdc.k cR Z)<|Bq 49 Z (HG Z Z)<|Jt 50 Z<|Ad<|Sd<|⟨_, by exact R3, (!(dcd (bO = (⟨#[45, 48]⟩ : ByteArray)))), Z, Z, Z, H⟩
     ·intro w
      obtain ⟨w, H⟩ := If w H
      refine Gm _ Z (Ic Mb0 In0)<|Jm 0 Z<|Jq 1 Z (FN Z)<|JF 2 1 Z<|Jl 3 (Vi p0.at_) Z (Rb0 Z)<|Jm 4 Z<|Jq 5 Z (FN Z)<|JF 6 0 Z<|Jl 7 (sv n) Z (Rb0 Z)<|Jq 8 Z (Gt (T := Ty.str) m Z Z)<|Jc 9 Z<|Jm 10 Z<|Aw.known (d := 15) Z (HE o)<|Bm 11 Z<|Bq 12 Z (FN Z)<|BF 13 0 Z<|Bl 14 (sv n) Z (Rb0 Z)<|Bm 15 Z<|Bq 16 Z (FN Z)<|BF 17 1 Z<|Bl 18 (Vi p0.at_) Z (Rb0 Z)<|?_
      obtain ⟨_, rfl, cS⟩ := Slr.at m C
      refine Bq 19 Z (Qi (T := Ty.str) m C Z)<|Bl 20 (.string M) Z (Rdc.k cS Z)<|Bq 21 Z (HT Z Z)<|Bc 22 Z<|Jt 23 Z<|Jm 24 Z<|Aw.known (d := 29) Z (HE q)<|Bm 25 Z<|Bq 26 Z (FN Z)<|BF 27 0 Z<|Bl 28 (sv n) Z (Rb0 Z)<|Bm 29 Z<|Bq 30 Z (FN Z)<|BF 31 1 Z<|Bl 32 (Vi p0.at_) Z (Rb0 Z)<|?_
      obtain ⟨_, rfl, cT⟩ := Slr.at m L
      exact Bq 33 Z (Qi (T := Ty.str) m L Z)<|Bl 34 (.string bN) Z (Rdc.k cT Z)<|Bq 35 Z (LG bK Z Z Z)<|Bc 36 Z<|Jt 37 Z<|Jm 38 Z<|Aw.known (d := 43) Z (Ib w)<|Jz 39 Z<|Jz 40 Z<|Jz 41 Z<|Jz 42 Z<|Jz 43 Z<|Jz 44 Z<|Jz 45 Z<|Jz 46 Z<|Jz 47 Z<|Jz 48 Z<|Jz 49 Z<|Jf 50 Z<|Ad<|Sd<|⟨_, by exact R3, false, Z, Z, Z, H⟩
    ·intro q
     obtain ⟨q, H⟩ := If q H
     refine Gm _ Z (Ic Mb0 In0)<|Jm 0 Z<|Jq 1 Z (FN Z)<|JF 2 1 Z<|Jl 3 (Vi p0.at_) Z (Rb0 Z)<|Jm 4 Z<|Jq 5 Z (FN Z)<|JF 6 0 Z<|Jl 7 (sv n) Z (Rb0 Z)<|Jq 8 Z (Gt (T := Ty.str) m Z Z)<|Jc 9 Z<|Jm 10 Z<|Aw.known (d := 15) Z (HE o)<|Bm 11 Z<|Bq 12 Z (FN Z)<|BF 13 0 Z<|Bl 14 (sv n) Z (Rb0 Z)<|Bm 15 Z<|Bq 16 Z (FN Z)<|BF 17 1 Z<|Bl 18 (Vi p0.at_) Z (Rb0 Z)<|?_
     obtain ⟨_, rfl, cU⟩ := Slr.at m C
     refine Bq 19 Z (Qi (T := Ty.str) m C Z)<|Bl 20 (.string M) Z (Rdc.k cU Z)<|Bq 21 Z (HT Z Z)<|Bc 22 Z<|Jt 23 Z<|Jm 24 Z<|Aw.known (d := 29) Z (Ib q)<|Jz 25 Z<|Jz 26 Z<|Jz 27 Z<|Jz 28 Z<|Jz 29 Z<|Jz 30 Z<|Jz 31 Z<|Jz 32 Z<|Jz 33 Z<|Jz 34 Z<|Jz 35 Z<|Jz 36 Z<|Jf 37 Z<|Jm 38 Z<|Jz 39 Z<|?_
     exact Jz 40 Z<|Jz 41 Z<|Jz 42 Z<|Jz 43 Z<|Jz 44 Z<|Jz 45 Z<|Jz 46 Z<|Jz 47 Z<|Jz 48 Z<|Jz 49 Z<|Jf 50 Z<|Ad<|Sd<|⟨_, by exact R3, false, Z, Z, Z, H⟩
   ·intro o
    obtain ⟨o, H⟩ := If o H
    refine Gm _ Z (Ic Mb0 In0)<|Jm 0 Z<|Jq 1 Z (FN Z)<|JF 2 1 Z<|Jl 3 (Vi p0.at_) Z (Rb0 Z)<|Jm 4 Z<|Jq 5 Z (FN Z)<|JF 6 0 Z<|Jl 7 (sv n) Z (Rb0 Z)<|Jq 8 Z (Gt (T := Ty.str) m Z Z)<|Jc 9 Z<|Jm 10 Z<|Aw.known (d := 15) Z (Ib o)<|Jz 11 Z<|Jz 12 Z<|Jz 13 Z<|Jz 14 Z<|Jz 15 Z<|Jz 16 Z<|Jz 17 Z<|Jz 18 Z<|Jz 19 Z<|?_
    refine Jz 20 Z<|Jz 21 Z<|Jz 22 Z<|Jf 23 Z<|Jm 24 Z<|Jz 25 Z<|Jz 26 Z<|Jz 27 Z<|Jz 28 Z<|Jz 29 Z<|Jz 30 Z<|Jz 31 Z<|Jz 32 Z<|Jz 33 Z<|Jz 34 Z<|Jz 35 Z<|Jz 36 Z<|Jf 37 Z<|Jm 38 Z<|Jz 39 Z<|Jz 40 Z<|Jz 41 Z<|?_
    exact Jz 42 Z<|Jz 43 Z<|Jz 44 Z<|Jz 45 Z<|Jz 46 Z<|Jz 47 Z<|Jz 48 Z<|Jz 49 Z<|Jf 50 Z<|Ad<|Sd<|⟨_, by exact R3, false, Z, Z, Z, H⟩
  rintro _ _ _ - ⟨bf, rfl, rfl, rfl, H⟩
  unfold JM at H
  refine F2 Z ?_ ?_
  ·intro O
   have H := ift O H
   refine FK<|FD<|Ea Z<|FH<|FK<|FD<|Em Z<|Em Z<|Eq Z (FN Z)<|EF 0 Z<|El (sv n) Z (Rb0 Z)<|?_
   have bQ : RowR Ty.str K [] [] := RowR.nil
   refine Ow.shift (Shift.nilRow 9 1 (Sd ?_))
   obtain ⟨e, fy, H⟩ := bnd H
   refine FT Z (Gi (T := Ty.str) (bytes := 16) Z Z Z Mb0 bQ (SrcT.sl m) fy Z Z Z Z Z Z Z Z (fun g kd a => ⟨_, .here, ?_⟩))
   refine Eq Z (FN Z)<|EF 0 Z<|?_
   refine FT Z (So [(sv g)] (F5 (FO.mk e p0.at_ p0.bad) g) Z (.there .here) Z ?_)
   refine FH ?_
   obtain ⟨j, h, H⟩ := bnd H
   obtain ⟨b, i, H⟩ := bnd H
   obtain ⟨ke, f, H⟩ := bnd H
   refine Gm _ Z In0<|Jm 0 Z<|Jq 1 Z (FN Z)<|JF 2 0 Z<|Jm 4 Z<|Jq 5 Z (FN Z)<|JF 6 1 Z<|Jm 8 Z<|Jq 9 Z (FN Z)<|JF 10 0 Z<|Jm 12 Z<|Jq 13 Z (FN Z)<|JF 14 1 Z<|?_
   refine S0 3 7 11 15 (by kernel_rfl) ?_ ?_ ?_ ?_
   ·refine id (Jyq Z (FI (v := (sv g)) Z Z Z (Rb1 Z)) ⟨In0, ?_⟩)
    refine GG 7 11 15 (by kernel_rfl) ?_ ?_ ?_
    ·refine id (Jyq Z (FI (v := (Vi p0.at_)) Z Z Z (Rb1 Z)) ⟨In0, ?_⟩)
     refine Gf 11 15 (by kernel_rfl) ?_ ?_
     ·refine id (Jyq Z (FI (v := (sv g)) Z Z Z (Rb1 Z)) ⟨In0, ?_⟩)
      refine FP 15 (by kernel_rfl) (Jyq Z (FI (v := (Vi p0.at_)) Z Z Z (Rb1 Z)) ⟨In0, ?_⟩)
      obtain ⟨iD, bl, cV⟩ := RowR.at a h
      obtain rfl := cV
      refine FP 16 (by kernel_rfl) (Jyq Z (F6 (T := Ty.str) Mb0 a bl (FSq h).1 Z Z Z Z Z) ⟨In0, ?_⟩)
      refine FP 17 (by kernel_rfl) (Jyq Z (FI (v := (.string j)) Z Z Z (Gj (T := Ty.str) Mb0 a bl Z Z)) ⟨In0, ?_⟩)
      refine Jq 18 Z (Gs i Z Z Z) ?_
      obtain ⟨iE, R, cW⟩ := RowR.at a f
      obtain rfl := cW
      refine FP 19 (by kernel_rfl) (Jyq Z (F6 (T := Ty.str) Mb0 a R (FSq f).1 Z Z Z Z Z) ⟨In0, ?_⟩)
      refine Ao 20 Z ?_
      refine FX (T := Ty.str) (vs := [(.string b)]) (r' := [(.string b)]) (l' := (Ge e p0.at_ b)) Z Z Z Z Z .here a R Z Z Z (RowR.set p0.at_ a Z) (fun bR => ⟨In0, ?_⟩)
      have gC := Gw R (v := [(.string b)])
      refine Ad<|Shift.settle (T := Ty.str) .here bR rfl<|?_
      intro fC hA ex
      exact Pu1<|Re1<|Sd<|⟨_, by exact R2, true, g, (Ge e p0.at_ b), Z, Z, H, ex⟩
     ·refine id (Jyq Z (FI (v := (Vi p0.at_)) Z Z Z (Rb1 Z)) ⟨In0, ?_⟩)
      refine FP 11 (by kernel_rfl) (Jyq Z (FI (v := (sv g)) Z Z Z (Rb1 Z)) ⟨In0, ?_⟩)
      obtain ⟨iF, bm, cX⟩ := RowR.at a h
      obtain rfl := cX
      refine FP 16 (by kernel_rfl) (Jyq Z (F6 (T := Ty.str) Mb0 a bm (FSq h).1 Z Z Z Z Z) ⟨In0, ?_⟩)
      refine FP 17 (by kernel_rfl) (Jyq Z (FI (v := (.string j)) Z Z Z (Gj (T := Ty.str) Mb0 a bm Z Z)) ⟨In0, ?_⟩)
      refine Jq 18 Z (Gs i Z Z Z) ?_
      obtain ⟨iG, S, cY⟩ := RowR.at a f
      obtain rfl := cY
      refine FP 19 (by kernel_rfl) (Jyq Z (F6 (T := Ty.str) Mb0 a S (FSq f).1 Z Z Z Z Z) ⟨In0, ?_⟩)
      refine Ao 20 Z ?_
      refine FX (T := Ty.str) (vs := [(.string b)]) (r' := [(.string b)]) (l' := (Ge e p0.at_ b)) Z Z Z Z Z .here a S Z Z Z (RowR.set p0.at_ a Z) (fun bS => ⟨In0, ?_⟩)
      have gD := Gw S (v := [(.string b)])
      refine Ad<|Shift.settle (T := Ty.str) .here bS rfl<|?_
      intro fD hB ey
      exact Pu1<|Re1<|Sd<|⟨_, by exact R2, true, g, (Ge e p0.at_ b), Z, Z, H, ey⟩
    ·refine id (Jyq Z (FI (v := (sv g)) Z Z Z (Rb1 Z)) ⟨In0, ?_⟩)
     refine Gf 7 15 (by kernel_rfl) ?_ ?_
     ·refine id (Jyq Z (FI (v := (Vi p0.at_)) Z Z Z (Rb1 Z)) ⟨In0, ?_⟩)
      refine FP 15 (by kernel_rfl) (Jyq Z (FI (v := (Vi p0.at_)) Z Z Z (Rb1 Z)) ⟨In0, ?_⟩)
      obtain ⟨iH, bn, cZ⟩ := RowR.at a h
      obtain rfl := cZ
      refine FP 16 (by kernel_rfl) (Jyq Z (F6 (T := Ty.str) Mb0 a bn (FSq h).1 Z Z Z Z Z) ⟨In0, ?_⟩)
      refine FP 17 (by kernel_rfl) (Jyq Z (FI (v := (.string j)) Z Z Z (Gj (T := Ty.str) Mb0 a bn Z Z)) ⟨In0, ?_⟩)
      refine Jq 18 Z (Gs i Z Z Z) ?_
      obtain ⟨iI, U, c0⟩ := RowR.at a f
      obtain rfl := c0
      refine FP 19 (by kernel_rfl) (Jyq Z (F6 (T := Ty.str) Mb0 a U (FSq f).1 Z Z Z Z Z) ⟨In0, ?_⟩)
      refine Ao 20 Z ?_
      refine FX (T := Ty.str) (vs := [(.string b)]) (r' := [(.string b)]) (l' := (Ge e p0.at_ b)) Z Z Z Z Z .here a U Z Z Z (RowR.set p0.at_ a Z) (fun bT => ⟨In0, ?_⟩)
      have gE := Gw U (v := [(.string b)])
      refine Ad<|Shift.settle (T := Ty.str) .here bT rfl<|?_
      intro fE hC ez
      exact Pu1<|Re1<|Sd<|⟨_, by exact R2, true, g, (Ge e p0.at_ b), Z, Z, H, ez⟩
     ·refine id (Jyq Z (FI (v := (Vi p0.at_)) Z Z Z (Rb1 Z)) ⟨In0, ?_⟩)
      refine Gf 7 16 (by kernel_rfl) ?_ ?_
      ·refine id (Jyq Z (FI (v := (Vi p0.at_)) Z Z Z (Rb1 Z)) ⟨In0, ?_⟩)
       obtain ⟨iJ, bo, c1⟩ := RowR.at a h
       obtain rfl := c1
       refine FP 16 (by kernel_rfl) (Jyq Z (F6 (T := Ty.str) Mb0 a bo (FSq h).1 Z Z Z Z Z) ⟨In0, ?_⟩)
       refine FP 17 (by kernel_rfl) (Jyq Z (FI (v := (.string j)) Z Z Z (Gj (T := Ty.str) Mb0 a bo Z Z)) ⟨In0, ?_⟩)
       refine Jq 18 Z (Gs i Z Z Z) ?_
       obtain ⟨iK, V, c2⟩ := RowR.at a f
       obtain rfl := c2
       refine FP 19 (by kernel_rfl) (Jyq Z (F6 (T := Ty.str) Mb0 a V (FSq f).1 Z Z Z Z Z) ⟨In0, ?_⟩)
       refine Ao 20 Z ?_
       refine FX (T := Ty.str) (vs := [(.string b)]) (r' := [(.string b)]) (l' := (Ge e p0.at_ b)) Z Z Z Z Z .here a V Z Z Z (RowR.set p0.at_ a Z) (fun bU => ⟨In0, ?_⟩)
       have gF := Gw V (v := [(.string b)])
       refine Ad<|Shift.settle (T := Ty.str) .here bU rfl<|?_
       intro fF hD eA
       exact Pu1<|Re1<|Sd<|⟨_, by exact R2, true, g, (Ge e p0.at_ b), Z, Z, H, eA⟩
      ·obtain ⟨iL, W, c3⟩ := RowR.at a h
       obtain rfl := c3
       refine id (Jyq Z (F6 (T := Ty.str) Mb0 a W (FSq h).1 Z Z Z Z Z) ⟨In0, ?_⟩)
       refine Gf 7 17 (by kernel_rfl) ?_ ?_
       ·refine id (Jyq Z (FI (v := (Vi p0.at_)) Z Z Z (Rb1 Z)) ⟨In0, ?_⟩)
        refine FP 17 (by kernel_rfl) (Jyq Z (FI (v := (.string j)) Z Z Z (Gj (T := Ty.str) Mb0 a W Z Z)) ⟨In0, ?_⟩)
        refine Jq 18 Z (Gs i Z Z Z) ?_
        obtain ⟨iM, X, c4⟩ := RowR.at a f
        obtain rfl := c4
        refine FP 19 (by kernel_rfl) (Jyq Z (F6 (T := Ty.str) Mb0 a X (FSq f).1 Z Z Z Z Z) ⟨In0, ?_⟩)
        refine Ao 20 Z ?_
        refine FX (T := Ty.str) (vs := [(.string b)]) (r' := [(.string b)]) (l' := (Ge e p0.at_ b)) Z Z Z Z Z .here a X Z Z Z (RowR.set p0.at_ a Z) (fun bV => ⟨In0, ?_⟩)
        have gG := Gw X (v := [(.string b)])
        refine Ad<|Shift.settle (T := Ty.str) .here bV rfl<|?_
        intro fG hE eB
        exact Pu1<|Re1<|Sd<|⟨_, by exact R2, true, g, (Ge e p0.at_ b), Z, Z, H, eB⟩
       ·refine id (Jyq Z (FI (v := (.string j)) Z Z Z (Gj (T := Ty.str) Mb0 a W Z Z)) ⟨In0, ?_⟩)
        refine Jq 18 Z (Gs i Z Z Z) ?_
        refine FP 7 (by kernel_rfl) (Jyq Z (FI (v := (Vi p0.at_)) Z Z Z (Rb1 Z)) ⟨In0, ?_⟩)
        obtain ⟨iN, Y, c5⟩ := RowR.at a f
        obtain rfl := c5
        refine FP 19 (by kernel_rfl) (Jyq Z (F6 (T := Ty.str) Mb0 a Y (FSq f).1 Z Z Z Z Z) ⟨In0, ?_⟩)
        refine Ao 20 Z ?_
        refine FX (T := Ty.str) (vs := [(.string b)]) (r' := [(.string b)]) (l' := (Ge e p0.at_ b)) Z Z Z Z Z .here a Y Z Z Z (RowR.set p0.at_ a Z) (fun bW => ⟨In0, ?_⟩)
        have gH := Gw Y (v := [(.string b)])
        refine Ad<|Shift.settle (T := Ty.str) .here bW rfl<|?_
        intro fH hF eC
        exact Pu1<|Re1<|Sd<|⟨_, by exact R2, true, g, (Ge e p0.at_ b), Z, Z, H, eC⟩
    ·refine id (Jyq Z (FI (v := (Vi p0.at_)) Z Z Z (Rb1 Z)) ⟨In0, ?_⟩)
     refine Gf 7 11 (by kernel_rfl) ?_ ?_
     ·refine id (Jyq Z (FI (v := (Vi p0.at_)) Z Z Z (Rb1 Z)) ⟨In0, ?_⟩)
      refine FP 11 (by kernel_rfl) (Jyq Z (FI (v := (sv g)) Z Z Z (Rb1 Z)) ⟨In0, ?_⟩)
      obtain ⟨iO, bp, c6⟩ := RowR.at a h
      obtain rfl := c6
      refine FP 16 (by kernel_rfl) (Jyq Z (F6 (T := Ty.str) Mb0 a bp (FSq h).1 Z Z Z Z Z) ⟨In0, ?_⟩)
      refine FP 17 (by kernel_rfl) (Jyq Z (FI (v := (.string j)) Z Z Z (Gj (T := Ty.str) Mb0 a bp Z Z)) ⟨In0, ?_⟩)
      refine Jq 18 Z (Gs i Z Z Z) ?_
      obtain ⟨iP, aa, c7⟩ := RowR.at a f
      obtain rfl := c7
      refine FP 19 (by kernel_rfl) (Jyq Z (F6 (T := Ty.str) Mb0 a aa (FSq f).1 Z Z Z Z Z) ⟨In0, ?_⟩)
      refine Ao 20 Z ?_
      refine FX (T := Ty.str) (vs := [(.string b)]) (r' := [(.string b)]) (l' := (Ge e p0.at_ b)) Z Z Z Z Z .here a aa Z Z Z (RowR.set p0.at_ a Z) (fun bX => ⟨In0, ?_⟩)
      have gI := Gw aa (v := [(.string b)])
      refine Ad<|Shift.settle (T := Ty.str) .here bX rfl<|?_
      intro fI hG eD
      exact Pu1<|Re1<|Sd<|⟨_, by exact R2, true, g, (Ge e p0.at_ b), Z, Z, H, eD⟩
     ·refine id (Jyq Z (FI (v := (sv g)) Z Z Z (Rb1 Z)) ⟨In0, ?_⟩)
      refine Gf 7 16 (by kernel_rfl) ?_ ?_
      ·refine id (Jyq Z (FI (v := (Vi p0.at_)) Z Z Z (Rb1 Z)) ⟨In0, ?_⟩)
       obtain ⟨iQ, bq, c8⟩ := RowR.at a h
       obtain rfl := c8
       refine FP 16 (by kernel_rfl) (Jyq Z (F6 (T := Ty.str) Mb0 a bq (FSq h).1 Z Z Z Z Z) ⟨In0, ?_⟩)
       refine FP 17 (by kernel_rfl) (Jyq Z (FI (v := (.string j)) Z Z Z (Gj (T := Ty.str) Mb0 a bq Z Z)) ⟨In0, ?_⟩)
       refine Jq 18 Z (Gs i Z Z Z) ?_
       obtain ⟨iR, ab, c9⟩ := RowR.at a f
       obtain rfl := c9
       refine FP 19 (by kernel_rfl) (Jyq Z (F6 (T := Ty.str) Mb0 a ab (FSq f).1 Z Z Z Z Z) ⟨In0, ?_⟩)
       refine Ao 20 Z ?_
       refine FX (T := Ty.str) (vs := [(.string b)]) (r' := [(.string b)]) (l' := (Ge e p0.at_ b)) Z Z Z Z Z .here a ab Z Z Z (RowR.set p0.at_ a Z) (fun bY => ⟨In0, ?_⟩)
       have gJ := Gw ab (v := [(.string b)])
       refine Ad<|Shift.settle (T := Ty.str) .here bY rfl<|?_
       intro fJ hH eE
       exact Pu1<|Re1<|Sd<|⟨_, by exact R2, true, g, (Ge e p0.at_ b), Z, Z, H, eE⟩
      ·obtain ⟨iS, ac, da⟩ := RowR.at a h
       obtain rfl := da
       refine id (Jyq Z (F6 (T := Ty.str) Mb0 a ac (FSq h).1 Z Z Z Z Z) ⟨In0, ?_⟩)
       refine Gf 7 17 (by kernel_rfl) ?_ ?_
       ·refine id (Jyq Z (FI (v := (Vi p0.at_)) Z Z Z (Rb1 Z)) ⟨In0, ?_⟩)
        refine FP 17 (by kernel_rfl) (Jyq Z (FI (v := (.string j)) Z Z Z (Gj (T := Ty.str) Mb0 a ac Z Z)) ⟨In0, ?_⟩)
        refine Jq 18 Z (Gs i Z Z Z) ?_
        obtain ⟨iT, ad, db⟩ := RowR.at a f
        obtain rfl := db
        refine FP 19 (by kernel_rfl) (Jyq Z (F6 (T := Ty.str) Mb0 a ad (FSq f).1 Z Z Z Z Z) ⟨In0, ?_⟩)
        refine Ao 20 Z ?_
        refine FX (T := Ty.str) (vs := [(.string b)]) (r' := [(.string b)]) (l' := (Ge e p0.at_ b)) Z Z Z Z Z .here a ad Z Z Z (RowR.set p0.at_ a Z) (fun bZ => ⟨In0, ?_⟩)
        have gK := Gw ad (v := [(.string b)])
        refine Ad<|Shift.settle (T := Ty.str) .here bZ rfl<|?_
        intro fK hI eF
        exact Pu1<|Re1<|Sd<|⟨_, by exact R2, true, g, (Ge e p0.at_ b), Z, Z, H, eF⟩
       ·refine id (Jyq Z (FI (v := (.string j)) Z Z Z (Gj (T := Ty.str) Mb0 a ac Z Z)) ⟨In0, ?_⟩)
        refine Jq 18 Z (Gs i Z Z Z) ?_
        refine FP 7 (by kernel_rfl) (Jyq Z (FI (v := (Vi p0.at_)) Z Z Z (Rb1 Z)) ⟨In0, ?_⟩)
        obtain ⟨iU, ae, dc⟩ := RowR.at a f
        obtain rfl := dc
        refine FP 19 (by kernel_rfl) (Jyq Z (F6 (T := Ty.str) Mb0 a ae (FSq f).1 Z Z Z Z Z) ⟨In0, ?_⟩)
        refine Ao 20 Z ?_
        refine FX (T := Ty.str) (vs := [(.string b)]) (r' := [(.string b)]) (l' := (Ge e p0.at_ b)) Z Z Z Z Z .here a ae Z Z Z (RowR.set p0.at_ a Z) (fun b0 => ⟨In0, ?_⟩)
        have gL := Gw ae (v := [(.string b)])
        refine Ad<|Shift.settle (T := Ty.str) .here b0 rfl<|?_
        intro fL hJ eG
        exact Pu1<|Re1<|Sd<|⟨_, by exact R2, true, g, (Ge e p0.at_ b), Z, Z, H, eG⟩
   ·refine id (Jyq Z (FI (v := (Vi p0.at_)) Z Z Z (Rb1 Z)) ⟨In0, ?_⟩)
    refine GG 3 11 15 (by kernel_rfl) ?_ ?_ ?_
    ·refine id (Jyq Z (FI (v := (sv g)) Z Z Z (Rb1 Z)) ⟨In0, ?_⟩)
     refine Gf 11 15 (by kernel_rfl) ?_ ?_
     ·refine id (Jyq Z (FI (v := (sv g)) Z Z Z (Rb1 Z)) ⟨In0, ?_⟩)
      refine FP 15 (by kernel_rfl) (Jyq Z (FI (v := (Vi p0.at_)) Z Z Z (Rb1 Z)) ⟨In0, ?_⟩)
      obtain ⟨iV, br, dd⟩ := RowR.at a h
      obtain rfl := dd
      refine FP 16 (by kernel_rfl) (Jyq Z (F6 (T := Ty.str) Mb0 a br (FSq h).1 Z Z Z Z Z) ⟨In0, ?_⟩)
      refine FP 17 (by kernel_rfl) (Jyq Z (FI (v := (.string j)) Z Z Z (Gj (T := Ty.str) Mb0 a br Z Z)) ⟨In0, ?_⟩)
      refine Jq 18 Z (Gs i Z Z Z) ?_
      obtain ⟨iW, af, de⟩ := RowR.at a f
      obtain rfl := de
      refine FP 19 (by kernel_rfl) (Jyq Z (F6 (T := Ty.str) Mb0 a af (FSq f).1 Z Z Z Z Z) ⟨In0, ?_⟩)
      refine Ao 20 Z ?_
      refine FX (T := Ty.str) (vs := [(.string b)]) (r' := [(.string b)]) (l' := (Ge e p0.at_ b)) Z Z Z Z Z .here a af Z Z Z (RowR.set p0.at_ a Z) (fun b1 => ⟨In0, ?_⟩)
      have gM := Gw af (v := [(.string b)])
      refine Ad<|Shift.settle (T := Ty.str) .here b1 rfl<|?_
      intro fM hK eH
      exact Pu1<|Re1<|Sd<|⟨_, by exact R2, true, g, (Ge e p0.at_ b), Z, Z, H, eH⟩
     ·refine id (Jyq Z (FI (v := (Vi p0.at_)) Z Z Z (Rb1 Z)) ⟨In0, ?_⟩)
      refine FP 11 (by kernel_rfl) (Jyq Z (FI (v := (sv g)) Z Z Z (Rb1 Z)) ⟨In0, ?_⟩)
      obtain ⟨iX, bs, df⟩ := RowR.at a h
      obtain rfl := df
      refine FP 16 (by kernel_rfl) (Jyq Z (F6 (T := Ty.str) Mb0 a bs (FSq h).1 Z Z Z Z Z) ⟨In0, ?_⟩)
      refine FP 17 (by kernel_rfl) (Jyq Z (FI (v := (.string j)) Z Z Z (Gj (T := Ty.str) Mb0 a bs Z Z)) ⟨In0, ?_⟩)
      refine Jq 18 Z (Gs i Z Z Z) ?_
      obtain ⟨iY, ag, dg⟩ := RowR.at a f
      obtain rfl := dg
      refine FP 19 (by kernel_rfl) (Jyq Z (F6 (T := Ty.str) Mb0 a ag (FSq f).1 Z Z Z Z Z) ⟨In0, ?_⟩)
      refine Ao 20 Z ?_
      refine FX (T := Ty.str) (vs := [(.string b)]) (r' := [(.string b)]) (l' := (Ge e p0.at_ b)) Z Z Z Z Z .here a ag Z Z Z (RowR.set p0.at_ a Z) (fun b2 => ⟨In0, ?_⟩)
      have gN := Gw ag (v := [(.string b)])
      refine Ad<|Shift.settle (T := Ty.str) .here b2 rfl<|?_
      intro fN hL eI
      exact Pu1<|Re1<|Sd<|⟨_, by exact R2, true, g, (Ge e p0.at_ b), Z, Z, H, eI⟩
    ·refine id (Jyq Z (FI (v := (sv g)) Z Z Z (Rb1 Z)) ⟨In0, ?_⟩)
     refine Gf 3 15 (by kernel_rfl) ?_ ?_
     ·refine id (Jyq Z (FI (v := (sv g)) Z Z Z (Rb1 Z)) ⟨In0, ?_⟩)
      refine FP 15 (by kernel_rfl) (Jyq Z (FI (v := (Vi p0.at_)) Z Z Z (Rb1 Z)) ⟨In0, ?_⟩)
      obtain ⟨iZ, bt, dh⟩ := RowR.at a h
      obtain rfl := dh
      refine FP 16 (by kernel_rfl) (Jyq Z (F6 (T := Ty.str) Mb0 a bt (FSq h).1 Z Z Z Z Z) ⟨In0, ?_⟩)
      refine FP 17 (by kernel_rfl) (Jyq Z (FI (v := (.string j)) Z Z Z (Gj (T := Ty.str) Mb0 a bt Z Z)) ⟨In0, ?_⟩)
      refine Jq 18 Z (Gs i Z Z Z) ?_
      obtain ⟨i0, ah, di⟩ := RowR.at a f
      obtain rfl := di
      refine FP 19 (by kernel_rfl) (Jyq Z (F6 (T := Ty.str) Mb0 a ah (FSq f).1 Z Z Z Z Z) ⟨In0, ?_⟩)
      refine Ao 20 Z ?_
      refine FX (T := Ty.str) (vs := [(.string b)]) (r' := [(.string b)]) (l' := (Ge e p0.at_ b)) Z Z Z Z Z .here a ah Z Z Z (RowR.set p0.at_ a Z) (fun b3 => ⟨In0, ?_⟩)
      have gO := Gw ah (v := [(.string b)])
      refine Ad<|Shift.settle (T := Ty.str) .here b3 rfl<|?_
      intro fO hM eJ
      exact Pu1<|Re1<|Sd<|⟨_, by exact R2, true, g, (Ge e p0.at_ b), Z, Z, H, eJ⟩
     ·refine id (Jyq Z (FI (v := (Vi p0.at_)) Z Z Z (Rb1 Z)) ⟨In0, ?_⟩)
      refine Gf 3 16 (by kernel_rfl) ?_ ?_
      ·refine id (Jyq Z (FI (v := (sv g)) Z Z Z (Rb1 Z)) ⟨In0, ?_⟩)
       obtain ⟨i1, bu, dj⟩ := RowR.at a h
       obtain rfl := dj
       refine FP 16 (by kernel_rfl) (Jyq Z (F6 (T := Ty.str) Mb0 a bu (FSq h).1 Z Z Z Z Z) ⟨In0, ?_⟩)
       refine FP 17 (by kernel_rfl) (Jyq Z (FI (v := (.string j)) Z Z Z (Gj (T := Ty.str) Mb0 a bu Z Z)) ⟨In0, ?_⟩)
       refine Jq 18 Z (Gs i Z Z Z) ?_
       obtain ⟨i2, ai, dk⟩ := RowR.at a f
       obtain rfl := dk
       refine FP 19 (by kernel_rfl) (Jyq Z (F6 (T := Ty.str) Mb0 a ai (FSq f).1 Z Z Z Z Z) ⟨In0, ?_⟩)
       refine Ao 20 Z ?_
       refine FX (T := Ty.str) (vs := [(.string b)]) (r' := [(.string b)]) (l' := (Ge e p0.at_ b)) Z Z Z Z Z .here a ai Z Z Z (RowR.set p0.at_ a Z) (fun b4 => ⟨In0, ?_⟩)
       have gP := Gw ai (v := [(.string b)])
       refine Ad<|Shift.settle (T := Ty.str) .here b4 rfl<|?_
       intro fP hN eK
       exact Pu1<|Re1<|Sd<|⟨_, by exact R2, true, g, (Ge e p0.at_ b), Z, Z, H, eK⟩
      ·obtain ⟨i3, aj, dl⟩ := RowR.at a h
       obtain rfl := dl
       refine id (Jyq Z (F6 (T := Ty.str) Mb0 a aj (FSq h).1 Z Z Z Z Z) ⟨In0, ?_⟩)
       refine Gf 3 17 (by kernel_rfl) ?_ ?_
       ·refine id (Jyq Z (FI (v := (sv g)) Z Z Z (Rb1 Z)) ⟨In0, ?_⟩)
        refine FP 17 (by kernel_rfl) (Jyq Z (FI (v := (.string j)) Z Z Z (Gj (T := Ty.str) Mb0 a aj Z Z)) ⟨In0, ?_⟩)
        refine Jq 18 Z (Gs i Z Z Z) ?_
        obtain ⟨i4, ak, dm⟩ := RowR.at a f
        obtain rfl := dm
        refine FP 19 (by kernel_rfl) (Jyq Z (F6 (T := Ty.str) Mb0 a ak (FSq f).1 Z Z Z Z Z) ⟨In0, ?_⟩)
        refine Ao 20 Z ?_
        refine FX (T := Ty.str) (vs := [(.string b)]) (r' := [(.string b)]) (l' := (Ge e p0.at_ b)) Z Z Z Z Z .here a ak Z Z Z (RowR.set p0.at_ a Z) (fun b5 => ⟨In0, ?_⟩)
        have gQ := Gw ak (v := [(.string b)])
        refine Ad<|Shift.settle (T := Ty.str) .here b5 rfl<|?_
        intro fQ hO eL
        exact Pu1<|Re1<|Sd<|⟨_, by exact R2, true, g, (Ge e p0.at_ b), Z, Z, H, eL⟩
       ·refine id (Jyq Z (FI (v := (.string j)) Z Z Z (Gj (T := Ty.str) Mb0 a aj Z Z)) ⟨In0, ?_⟩)
        refine Jq 18 Z (Gs i Z Z Z) ?_
        refine FP 3 (by kernel_rfl) (Jyq Z (FI (v := (sv g)) Z Z Z (Rb1 Z)) ⟨In0, ?_⟩)
        obtain ⟨i5, al, dn⟩ := RowR.at a f
        obtain rfl := dn
        refine FP 19 (by kernel_rfl) (Jyq Z (F6 (T := Ty.str) Mb0 a al (FSq f).1 Z Z Z Z Z) ⟨In0, ?_⟩)
        refine Ao 20 Z ?_
        refine FX (T := Ty.str) (vs := [(.string b)]) (r' := [(.string b)]) (l' := (Ge e p0.at_ b)) Z Z Z Z Z .here a al Z Z Z (RowR.set p0.at_ a Z) (fun b6 => ⟨In0, ?_⟩)
        have gR := Gw al (v := [(.string b)])
        refine Ad<|Shift.settle (T := Ty.str) .here b6 rfl<|?_
        intro fR hP eM
        exact Pu1<|Re1<|Sd<|⟨_, by exact R2, true, g, (Ge e p0.at_ b), Z, Z, H, eM⟩
    ·refine id (Jyq Z (FI (v := (Vi p0.at_)) Z Z Z (Rb1 Z)) ⟨In0, ?_⟩)
     refine Gf 3 11 (by kernel_rfl) ?_ ?_
     ·refine id (Jyq Z (FI (v := (sv g)) Z Z Z (Rb1 Z)) ⟨In0, ?_⟩)
      refine FP 11 (by kernel_rfl) (Jyq Z (FI (v := (sv g)) Z Z Z (Rb1 Z)) ⟨In0, ?_⟩)
      obtain ⟨i6, bv, dp⟩ := RowR.at a h
      obtain rfl := dp
      refine FP 16 (by kernel_rfl) (Jyq Z (F6 (T := Ty.str) Mb0 a bv (FSq h).1 Z Z Z Z Z) ⟨In0, ?_⟩)
      refine FP 17 (by kernel_rfl) (Jyq Z (FI (v := (.string j)) Z Z Z (Gj (T := Ty.str) Mb0 a bv Z Z)) ⟨In0, ?_⟩)
      refine Jq 18 Z (Gs i Z Z Z) ?_
      obtain ⟨i7, am, dq⟩ := RowR.at a f
      obtain rfl := dq
      refine FP 19 (by kernel_rfl) (Jyq Z (F6 (T := Ty.str) Mb0 a am (FSq f).1 Z Z Z Z Z) ⟨In0, ?_⟩)
      refine Ao 20 Z ?_
      refine FX (T := Ty.str) (vs := [(.string b)]) (r' := [(.string b)]) (l' := (Ge e p0.at_ b)) Z Z Z Z Z .here a am Z Z Z (RowR.set p0.at_ a Z) (fun b7 => ⟨In0, ?_⟩)
      have gS := Gw am (v := [(.string b)])
      refine Ad<|Shift.settle (T := Ty.str) .here b7 rfl<|?_
      intro fS hQ eN
      exact Pu1<|Re1<|Sd<|⟨_, by exact R2, true, g, (Ge e p0.at_ b), Z, Z, H, eN⟩
     ·refine id (Jyq Z (FI (v := (sv g)) Z Z Z (Rb1 Z)) ⟨In0, ?_⟩)
      refine Gf 3 16 (by kernel_rfl) ?_ ?_
      ·refine id (Jyq Z (FI (v := (sv g)) Z Z Z (Rb1 Z)) ⟨In0, ?_⟩)
       obtain ⟨i8, bw, dr⟩ := RowR.at a h
       obtain rfl := dr
       refine FP 16 (by kernel_rfl) (Jyq Z (F6 (T := Ty.str) Mb0 a bw (FSq h).1 Z Z Z Z Z) ⟨In0, ?_⟩)
       refine FP 17 (by kernel_rfl) (Jyq Z (FI (v := (.string j)) Z Z Z (Gj (T := Ty.str) Mb0 a bw Z Z)) ⟨In0, ?_⟩)
       refine Jq 18 Z (Gs i Z Z Z) ?_
       obtain ⟨i9, an, ds⟩ := RowR.at a f
       obtain rfl := ds
       refine FP 19 (by kernel_rfl) (Jyq Z (F6 (T := Ty.str) Mb0 a an (FSq f).1 Z Z Z Z Z) ⟨In0, ?_⟩)
       refine Ao 20 Z ?_
       refine FX (T := Ty.str) (vs := [(.string b)]) (r' := [(.string b)]) (l' := (Ge e p0.at_ b)) Z Z Z Z Z .here a an Z Z Z (RowR.set p0.at_ a Z) (fun b8 => ⟨In0, ?_⟩)
       have gT := Gw an (v := [(.string b)])
       refine Ad<|Shift.settle (T := Ty.str) .here b8 rfl<|?_
       intro fT hR eO
       exact Pu1<|Re1<|Sd<|⟨_, by exact R2, true, g, (Ge e p0.at_ b), Z, Z, H, eO⟩
      ·obtain ⟨ja, ao, dt⟩ := RowR.at a h
       obtain rfl := dt
       refine id (Jyq Z (F6 (T := Ty.str) Mb0 a ao (FSq h).1 Z Z Z Z Z) ⟨In0, ?_⟩)
       refine Gf 3 17 (by kernel_rfl) ?_ ?_
       ·refine id (Jyq Z (FI (v := (sv g)) Z Z Z (Rb1 Z)) ⟨In0, ?_⟩)
        refine FP 17 (by kernel_rfl) (Jyq Z (FI (v := (.string j)) Z Z Z (Gj (T := Ty.str) Mb0 a ao Z Z)) ⟨In0, ?_⟩)
        refine Jq 18 Z (Gs i Z Z Z) ?_
        obtain ⟨jb, ap, du⟩ := RowR.at a f
        obtain rfl := du
        refine FP 19 (by kernel_rfl) (Jyq Z (F6 (T := Ty.str) Mb0 a ap (FSq f).1 Z Z Z Z Z) ⟨In0, ?_⟩)
        refine Ao 20 Z ?_
        refine FX (T := Ty.str) (vs := [(.string b)]) (r' := [(.string b)]) (l' := (Ge e p0.at_ b)) Z Z Z Z Z .here a ap Z Z Z (RowR.set p0.at_ a Z) (fun b9 => ⟨In0, ?_⟩)
        have gU := Gw ap (v := [(.string b)])
        refine Ad<|Shift.settle (T := Ty.str) .here b9 rfl<|?_
        intro fU hS eP
        exact Pu1<|Re1<|Sd<|⟨_, by exact R2, true, g, (Ge e p0.at_ b), Z, Z, H, eP⟩
       ·refine id (Jyq Z (FI (v := (.string j)) Z Z Z (Gj (T := Ty.str) Mb0 a ao Z Z)) ⟨In0, ?_⟩)
        refine Jq 18 Z (Gs i Z Z Z) ?_
        refine FP 3 (by kernel_rfl) (Jyq Z (FI (v := (sv g)) Z Z Z (Rb1 Z)) ⟨In0, ?_⟩)
        obtain ⟨jc, aq, dv⟩ := RowR.at a f
        obtain rfl := dv
        refine FP 19 (by kernel_rfl) (Jyq Z (F6 (T := Ty.str) Mb0 a aq (FSq f).1 Z Z Z Z Z) ⟨In0, ?_⟩)
        refine Ao 20 Z ?_
        refine FX (T := Ty.str) (vs := [(.string b)]) (r' := [(.string b)]) (l' := (Ge e p0.at_ b)) Z Z Z Z Z .here a aq Z Z Z (RowR.set p0.at_ a Z) (fun ca => ⟨In0, ?_⟩)
        have gV := Gw aq (v := [(.string b)])
        refine Ad<|Shift.settle (T := Ty.str) .here ca rfl<|?_
        intro fV hT eQ
        exact Pu1<|Re1<|Sd<|⟨_, by exact R2, true, g, (Ge e p0.at_ b), Z, Z, H, eQ⟩
   ·refine id (Jyq Z (FI (v := (sv g)) Z Z Z (Rb1 Z)) ⟨In0, ?_⟩)
    refine GG 3 7 15 (by kernel_rfl) ?_ ?_ ?_
    ·refine id (Jyq Z (FI (v := (sv g)) Z Z Z (Rb1 Z)) ⟨In0, ?_⟩)
     refine Gf 7 15 (by kernel_rfl) ?_ ?_
     ·refine id (Jyq Z (FI (v := (Vi p0.at_)) Z Z Z (Rb1 Z)) ⟨In0, ?_⟩)
      refine FP 15 (by kernel_rfl) (Jyq Z (FI (v := (Vi p0.at_)) Z Z Z (Rb1 Z)) ⟨In0, ?_⟩)
      obtain ⟨jd, bx, dw⟩ := RowR.at a h
      obtain rfl := dw
      refine FP 16 (by kernel_rfl) (Jyq Z (F6 (T := Ty.str) Mb0 a bx (FSq h).1 Z Z Z Z Z) ⟨In0, ?_⟩)
      refine FP 17 (by kernel_rfl) (Jyq Z (FI (v := (.string j)) Z Z Z (Gj (T := Ty.str) Mb0 a bx Z Z)) ⟨In0, ?_⟩)
      refine Jq 18 Z (Gs i Z Z Z) ?_
      obtain ⟨je, ar, dx⟩ := RowR.at a f
      obtain rfl := dx
      refine FP 19 (by kernel_rfl) (Jyq Z (F6 (T := Ty.str) Mb0 a ar (FSq f).1 Z Z Z Z Z) ⟨In0, ?_⟩)
      refine Ao 20 Z ?_
      refine FX (T := Ty.str) (vs := [(.string b)]) (r' := [(.string b)]) (l' := (Ge e p0.at_ b)) Z Z Z Z Z .here a ar Z Z Z (RowR.set p0.at_ a Z) (fun cb => ⟨In0, ?_⟩)
      have gW := Gw ar (v := [(.string b)])
      refine Ad<|Shift.settle (T := Ty.str) .here cb rfl<|?_
      intro fW hU eR
      exact Pu1<|Re1<|Sd<|⟨_, by exact R2, true, g, (Ge e p0.at_ b), Z, Z, H, eR⟩
     ·refine id (Jyq Z (FI (v := (Vi p0.at_)) Z Z Z (Rb1 Z)) ⟨In0, ?_⟩)
      refine Gf 7 16 (by kernel_rfl) ?_ ?_
      ·refine id (Jyq Z (FI (v := (Vi p0.at_)) Z Z Z (Rb1 Z)) ⟨In0, ?_⟩)
       obtain ⟨jf, bz, dy⟩ := RowR.at a h
       obtain rfl := dy
       refine FP 16 (by kernel_rfl) (Jyq Z (F6 (T := Ty.str) Mb0 a bz (FSq h).1 Z Z Z Z Z) ⟨In0, ?_⟩)
       refine FP 17 (by kernel_rfl) (Jyq Z (FI (v := (.string j)) Z Z Z (Gj (T := Ty.str) Mb0 a bz Z Z)) ⟨In0, ?_⟩)
       refine Jq 18 Z (Gs i Z Z Z) ?_
       obtain ⟨jg, au, dz⟩ := RowR.at a f
       obtain rfl := dz
       refine FP 19 (by kernel_rfl) (Jyq Z (F6 (T := Ty.str) Mb0 a au (FSq f).1 Z Z Z Z Z) ⟨In0, ?_⟩)
       refine Ao 20 Z ?_
       refine FX (T := Ty.str) (vs := [(.string b)]) (r' := [(.string b)]) (l' := (Ge e p0.at_ b)) Z Z Z Z Z .here a au Z Z Z (RowR.set p0.at_ a Z) (fun cc => ⟨In0, ?_⟩)
       have gX := Gw au (v := [(.string b)])
       refine Ad<|Shift.settle (T := Ty.str) .here cc rfl<|?_
       intro fX hV eS
       exact Pu1<|Re1<|Sd<|⟨_, by exact R2, true, g, (Ge e p0.at_ b), Z, Z, H, eS⟩
      ·obtain ⟨jh, av, dA⟩ := RowR.at a h
       obtain rfl := dA
       refine id (Jyq Z (F6 (T := Ty.str) Mb0 a av (FSq h).1 Z Z Z Z Z) ⟨In0, ?_⟩)
       refine Gf 7 17 (by kernel_rfl) ?_ ?_
       ·refine id (Jyq Z (FI (v := (Vi p0.at_)) Z Z Z (Rb1 Z)) ⟨In0, ?_⟩)
        refine FP 17 (by kernel_rfl) (Jyq Z (FI (v := (.string j)) Z Z Z (Gj (T := Ty.str) Mb0 a av Z Z)) ⟨In0, ?_⟩)
        refine Jq 18 Z (Gs i Z Z Z) ?_
        obtain ⟨ji, aw, dB⟩ := RowR.at a f
        obtain rfl := dB
        refine FP 19 (by kernel_rfl) (Jyq Z (F6 (T := Ty.str) Mb0 a aw (FSq f).1 Z Z Z Z Z) ⟨In0, ?_⟩)
        refine Ao 20 Z ?_
        refine FX (T := Ty.str) (vs := [(.string b)]) (r' := [(.string b)]) (l' := (Ge e p0.at_ b)) Z Z Z Z Z .here a aw Z Z Z (RowR.set p0.at_ a Z) (fun cd => ⟨In0, ?_⟩)
        have gY := Gw aw (v := [(.string b)])
        refine Ad<|Shift.settle (T := Ty.str) .here cd rfl<|?_
        intro fY hW eT
        exact Pu1<|Re1<|Sd<|⟨_, by exact R2, true, g, (Ge e p0.at_ b), Z, Z, H, eT⟩
       ·refine id (Jyq Z (FI (v := (.string j)) Z Z Z (Gj (T := Ty.str) Mb0 a av Z Z)) ⟨In0, ?_⟩)
        refine Jq 18 Z (Gs i Z Z Z) ?_
        refine FP 7 (by kernel_rfl) (Jyq Z (FI (v := (Vi p0.at_)) Z Z Z (Rb1 Z)) ⟨In0, ?_⟩)
        obtain ⟨jj, ax, dC⟩ := RowR.at a f
        obtain rfl := dC
        refine FP 19 (by kernel_rfl) (Jyq Z (F6 (T := Ty.str) Mb0 a ax (FSq f).1 Z Z Z Z Z) ⟨In0, ?_⟩)
        refine Ao 20 Z ?_
        refine FX (T := Ty.str) (vs := [(.string b)]) (r' := [(.string b)]) (l' := (Ge e p0.at_ b)) Z Z Z Z Z .here a ax Z Z Z (RowR.set p0.at_ a Z) (fun ce => ⟨In0, ?_⟩)
        have gZ := Gw ax (v := [(.string b)])
        refine Ad<|Shift.settle (T := Ty.str) .here ce rfl<|?_
        intro fZ hX eU
        exact Pu1<|Re1<|Sd<|⟨_, by exact R2, true, g, (Ge e p0.at_ b), Z, Z, H, eU⟩
    ·refine id (Jyq Z (FI (v := (Vi p0.at_)) Z Z Z (Rb1 Z)) ⟨In0, ?_⟩)
     refine Gf 3 15 (by kernel_rfl) ?_ ?_
     ·refine id (Jyq Z (FI (v := (sv g)) Z Z Z (Rb1 Z)) ⟨In0, ?_⟩)
      refine FP 15 (by kernel_rfl) (Jyq Z (FI (v := (Vi p0.at_)) Z Z Z (Rb1 Z)) ⟨In0, ?_⟩)
      obtain ⟨jk, bA, dD⟩ := RowR.at a h
      obtain rfl := dD
      refine FP 16 (by kernel_rfl) (Jyq Z (F6 (T := Ty.str) Mb0 a bA (FSq h).1 Z Z Z Z Z) ⟨In0, ?_⟩)
      refine FP 17 (by kernel_rfl) (Jyq Z (FI (v := (.string j)) Z Z Z (Gj (T := Ty.str) Mb0 a bA Z Z)) ⟨In0, ?_⟩)
      refine Jq 18 Z (Gs i Z Z Z) ?_
      obtain ⟨jl, ay, dE⟩ := RowR.at a f
      obtain rfl := dE
      refine FP 19 (by kernel_rfl) (Jyq Z (F6 (T := Ty.str) Mb0 a ay (FSq f).1 Z Z Z Z Z) ⟨In0, ?_⟩)
      refine Ao 20 Z ?_
      refine FX (T := Ty.str) (vs := [(.string b)]) (r' := [(.string b)]) (l' := (Ge e p0.at_ b)) Z Z Z Z Z .here a ay Z Z Z (RowR.set p0.at_ a Z) (fun cf => ⟨In0, ?_⟩)
      have g0 := Gw ay (v := [(.string b)])
      refine Ad<|Shift.settle (T := Ty.str) .here cf rfl<|?_
      intro f0 hY eV
      exact Pu1<|Re1<|Sd<|⟨_, by exact R2, true, g, (Ge e p0.at_ b), Z, Z, H, eV⟩
     ·refine id (Jyq Z (FI (v := (Vi p0.at_)) Z Z Z (Rb1 Z)) ⟨In0, ?_⟩)
      refine Gf 3 16 (by kernel_rfl) ?_ ?_
      ·refine id (Jyq Z (FI (v := (sv g)) Z Z Z (Rb1 Z)) ⟨In0, ?_⟩)
       obtain ⟨jm, bB, dF⟩ := RowR.at a h
       obtain rfl := dF
       refine FP 16 (by kernel_rfl) (Jyq Z (F6 (T := Ty.str) Mb0 a bB (FSq h).1 Z Z Z Z Z) ⟨In0, ?_⟩)
       refine FP 17 (by kernel_rfl) (Jyq Z (FI (v := (.string j)) Z Z Z (Gj (T := Ty.str) Mb0 a bB Z Z)) ⟨In0, ?_⟩)
       refine Jq 18 Z (Gs i Z Z Z) ?_
       obtain ⟨jn, az, dG⟩ := RowR.at a f
       obtain rfl := dG
       refine FP 19 (by kernel_rfl) (Jyq Z (F6 (T := Ty.str) Mb0 a az (FSq f).1 Z Z Z Z Z) ⟨In0, ?_⟩)
       refine Ao 20 Z ?_
       refine FX (T := Ty.str) (vs := [(.string b)]) (r' := [(.string b)]) (l' := (Ge e p0.at_ b)) Z Z Z Z Z .here a az Z Z Z (RowR.set p0.at_ a Z) (fun cg => ⟨In0, ?_⟩)
       have g1 := Gw az (v := [(.string b)])
       refine Ad<|Shift.settle (T := Ty.str) .here cg rfl<|?_
       intro f1 hZ eW
       exact Pu1<|Re1<|Sd<|⟨_, by exact R2, true, g, (Ge e p0.at_ b), Z, Z, H, eW⟩
      ·obtain ⟨jo, aA, dH⟩ := RowR.at a h
       obtain rfl := dH
       refine id (Jyq Z (F6 (T := Ty.str) Mb0 a aA (FSq h).1 Z Z Z Z Z) ⟨In0, ?_⟩)
       refine Gf 3 17 (by kernel_rfl) ?_ ?_
       ·refine id (Jyq Z (FI (v := (sv g)) Z Z Z (Rb1 Z)) ⟨In0, ?_⟩)
        refine FP 17 (by kernel_rfl) (Jyq Z (FI (v := (.string j)) Z Z Z (Gj (T := Ty.str) Mb0 a aA Z Z)) ⟨In0, ?_⟩)
        refine Jq 18 Z (Gs i Z Z Z) ?_
        obtain ⟨jp, aB, dI⟩ := RowR.at a f
        obtain rfl := dI
        refine FP 19 (by kernel_rfl) (Jyq Z (F6 (T := Ty.str) Mb0 a aB (FSq f).1 Z Z Z Z Z) ⟨In0, ?_⟩)
        refine Ao 20 Z ?_
        refine FX (T := Ty.str) (vs := [(.string b)]) (r' := [(.string b)]) (l' := (Ge e p0.at_ b)) Z Z Z Z Z .here a aB Z Z Z (RowR.set p0.at_ a Z) (fun ch => ⟨In0, ?_⟩)
        have g2 := Gw aB (v := [(.string b)])
        refine Ad<|Shift.settle (T := Ty.str) .here ch rfl<|?_
        intro f2 h0 eX
        exact Pu1<|Re1<|Sd<|⟨_, by exact R2, true, g, (Ge e p0.at_ b), Z, Z, H, eX⟩
       ·refine id (Jyq Z (FI (v := (.string j)) Z Z Z (Gj (T := Ty.str) Mb0 a aA Z Z)) ⟨In0, ?_⟩)
        refine Jq 18 Z (Gs i Z Z Z) ?_
        refine FP 3 (by kernel_rfl) (Jyq Z (FI (v := (sv g)) Z Z Z (Rb1 Z)) ⟨In0, ?_⟩)
        obtain ⟨jq, aC, dJ⟩ := RowR.at a f
        obtain rfl := dJ
        refine FP 19 (by kernel_rfl) (Jyq Z (F6 (T := Ty.str) Mb0 a aC (FSq f).1 Z Z Z Z Z) ⟨In0, ?_⟩)
        refine Ao 20 Z ?_
        refine FX (T := Ty.str) (vs := [(.string b)]) (r' := [(.string b)]) (l' := (Ge e p0.at_ b)) Z Z Z Z Z .here a aC Z Z Z (RowR.set p0.at_ a Z) (fun ci => ⟨In0, ?_⟩)
        have g3 := Gw aC (v := [(.string b)])
        refine Ad<|Shift.settle (T := Ty.str) .here ci rfl<|?_
        intro f3 h1 eY
        exact Pu1<|Re1<|Sd<|⟨_, by exact R2, true, g, (Ge e p0.at_ b), Z, Z, H, eY⟩
    ·refine id (Jyq Z (FI (v := (Vi p0.at_)) Z Z Z (Rb1 Z)) ⟨In0, ?_⟩)
     refine GG 3 7 16 (by kernel_rfl) ?_ ?_ ?_
     ·refine id (Jyq Z (FI (v := (sv g)) Z Z Z (Rb1 Z)) ⟨In0, ?_⟩)
      refine Gf 7 16 (by kernel_rfl) ?_ ?_
      ·refine id (Jyq Z (FI (v := (Vi p0.at_)) Z Z Z (Rb1 Z)) ⟨In0, ?_⟩)
       obtain ⟨jr, bC, dK⟩ := RowR.at a h
       obtain rfl := dK
       refine FP 16 (by kernel_rfl) (Jyq Z (F6 (T := Ty.str) Mb0 a bC (FSq h).1 Z Z Z Z Z) ⟨In0, ?_⟩)
       refine FP 17 (by kernel_rfl) (Jyq Z (FI (v := (.string j)) Z Z Z (Gj (T := Ty.str) Mb0 a bC Z Z)) ⟨In0, ?_⟩)
       refine Jq 18 Z (Gs i Z Z Z) ?_
       obtain ⟨js, aD, dL⟩ := RowR.at a f
       obtain rfl := dL
       refine FP 19 (by kernel_rfl) (Jyq Z (F6 (T := Ty.str) Mb0 a aD (FSq f).1 Z Z Z Z Z) ⟨In0, ?_⟩)
       refine Ao 20 Z ?_
       refine FX (T := Ty.str) (vs := [(.string b)]) (r' := [(.string b)]) (l' := (Ge e p0.at_ b)) Z Z Z Z Z .here a aD Z Z Z (RowR.set p0.at_ a Z) (fun cj => ⟨In0, ?_⟩)
       have g4 := Gw aD (v := [(.string b)])
       refine Ad<|Shift.settle (T := Ty.str) .here cj rfl<|?_
       intro f4 h2 eZ
       exact Pu1<|Re1<|Sd<|⟨_, by exact R2, true, g, (Ge e p0.at_ b), Z, Z, H, eZ⟩
      ·obtain ⟨jt, aE, dM⟩ := RowR.at a h
       obtain rfl := dM
       refine id (Jyq Z (F6 (T := Ty.str) Mb0 a aE (FSq h).1 Z Z Z Z Z) ⟨In0, ?_⟩)
       refine Gf 7 17 (by kernel_rfl) ?_ ?_
       ·refine id (Jyq Z (FI (v := (Vi p0.at_)) Z Z Z (Rb1 Z)) ⟨In0, ?_⟩)
        refine FP 17 (by kernel_rfl) (Jyq Z (FI (v := (.string j)) Z Z Z (Gj (T := Ty.str) Mb0 a aE Z Z)) ⟨In0, ?_⟩)
        refine Jq 18 Z (Gs i Z Z Z) ?_
        obtain ⟨ju, aF, dN⟩ := RowR.at a f
        obtain rfl := dN
        refine FP 19 (by kernel_rfl) (Jyq Z (F6 (T := Ty.str) Mb0 a aF (FSq f).1 Z Z Z Z Z) ⟨In0, ?_⟩)
        refine Ao 20 Z ?_
        refine FX (T := Ty.str) (vs := [(.string b)]) (r' := [(.string b)]) (l' := (Ge e p0.at_ b)) Z Z Z Z Z .here a aF Z Z Z (RowR.set p0.at_ a Z) (fun ck => ⟨In0, ?_⟩)
        have g5 := Gw aF (v := [(.string b)])
        refine Ad<|Shift.settle (T := Ty.str) .here ck rfl<|?_
        intro f5 h3 e0
        exact Pu1<|Re1<|Sd<|⟨_, by exact R2, true, g, (Ge e p0.at_ b), Z, Z, H, e0⟩
       ·refine id (Jyq Z (FI (v := (.string j)) Z Z Z (Gj (T := Ty.str) Mb0 a aE Z Z)) ⟨In0, ?_⟩)
        refine Jq 18 Z (Gs i Z Z Z) ?_
        refine FP 7 (by kernel_rfl) (Jyq Z (FI (v := (Vi p0.at_)) Z Z Z (Rb1 Z)) ⟨In0, ?_⟩)
        obtain ⟨jv, aG, dO⟩ := RowR.at a f
        obtain rfl := dO
        refine FP 19 (by kernel_rfl) (Jyq Z (F6 (T := Ty.str) Mb0 a aG (FSq f).1 Z Z Z Z Z) ⟨In0, ?_⟩)
        refine Ao 20 Z ?_
        refine FX (T := Ty.str) (vs := [(.string b)]) (r' := [(.string b)]) (l' := (Ge e p0.at_ b)) Z Z Z Z Z .here a aG Z Z Z (RowR.set p0.at_ a Z) (fun cl => ⟨In0, ?_⟩)
        have g6 := Gw aG (v := [(.string b)])
        refine Ad<|Shift.settle (T := Ty.str) .here cl rfl<|?_
        intro f6 h4 e1
        exact Pu1<|Re1<|Sd<|⟨_, by exact R2, true, g, (Ge e p0.at_ b), Z, Z, H, e1⟩
     ·refine id (Jyq Z (FI (v := (Vi p0.at_)) Z Z Z (Rb1 Z)) ⟨In0, ?_⟩)
      refine Gf 3 16 (by kernel_rfl) ?_ ?_
      ·refine id (Jyq Z (FI (v := (sv g)) Z Z Z (Rb1 Z)) ⟨In0, ?_⟩)
       obtain ⟨jw, bD, dP⟩ := RowR.at a h
       obtain rfl := dP
       refine FP 16 (by kernel_rfl) (Jyq Z (F6 (T := Ty.str) Mb0 a bD (FSq h).1 Z Z Z Z Z) ⟨In0, ?_⟩)
       refine FP 17 (by kernel_rfl) (Jyq Z (FI (v := (.string j)) Z Z Z (Gj (T := Ty.str) Mb0 a bD Z Z)) ⟨In0, ?_⟩)
       refine Jq 18 Z (Gs i Z Z Z) ?_
       obtain ⟨jx, aH, dQ⟩ := RowR.at a f
       obtain rfl := dQ
       refine FP 19 (by kernel_rfl) (Jyq Z (F6 (T := Ty.str) Mb0 a aH (FSq f).1 Z Z Z Z Z) ⟨In0, ?_⟩)
       refine Ao 20 Z ?_
       refine FX (T := Ty.str) (vs := [(.string b)]) (r' := [(.string b)]) (l' := (Ge e p0.at_ b)) Z Z Z Z Z .here a aH Z Z Z (RowR.set p0.at_ a Z) (fun cm => ⟨In0, ?_⟩)
       have g7 := Gw aH (v := [(.string b)])
       refine Ad<|Shift.settle (T := Ty.str) .here cm rfl<|?_
       intro f7 h5 e2
       exact Pu1<|Re1<|Sd<|⟨_, by exact R2, true, g, (Ge e p0.at_ b), Z, Z, H, e2⟩
      ·obtain ⟨jy, aI, dR⟩ := RowR.at a h
       obtain rfl := dR
       refine id (Jyq Z (F6 (T := Ty.str) Mb0 a aI (FSq h).1 Z Z Z Z Z) ⟨In0, ?_⟩)
       refine Gf 3 17 (by kernel_rfl) ?_ ?_
       ·refine id (Jyq Z (FI (v := (sv g)) Z Z Z (Rb1 Z)) ⟨In0, ?_⟩)
        refine FP 17 (by kernel_rfl) (Jyq Z (FI (v := (.string j)) Z Z Z (Gj (T := Ty.str) Mb0 a aI Z Z)) ⟨In0, ?_⟩)
        refine Jq 18 Z (Gs i Z Z Z) ?_
        obtain ⟨jz, aJ, dS⟩ := RowR.at a f
        obtain rfl := dS
        refine FP 19 (by kernel_rfl) (Jyq Z (F6 (T := Ty.str) Mb0 a aJ (FSq f).1 Z Z Z Z Z) ⟨In0, ?_⟩)
        refine Ao 20 Z ?_
        refine FX (T := Ty.str) (vs := [(.string b)]) (r' := [(.string b)]) (l' := (Ge e p0.at_ b)) Z Z Z Z Z .here a aJ Z Z Z (RowR.set p0.at_ a Z) (fun cn => ⟨In0, ?_⟩)
        have g8 := Gw aJ (v := [(.string b)])
        refine Ad<|Shift.settle (T := Ty.str) .here cn rfl<|?_
        intro f8 h6 e3
        exact Pu1<|Re1<|Sd<|⟨_, by exact R2, true, g, (Ge e p0.at_ b), Z, Z, H, e3⟩
       ·refine id (Jyq Z (FI (v := (.string j)) Z Z Z (Gj (T := Ty.str) Mb0 a aI Z Z)) ⟨In0, ?_⟩)
        refine Jq 18 Z (Gs i Z Z Z) ?_
        refine FP 3 (by kernel_rfl) (Jyq Z (FI (v := (sv g)) Z Z Z (Rb1 Z)) ⟨In0, ?_⟩)
        obtain ⟨jA, aK, dT⟩ := RowR.at a f
        obtain rfl := dT
        refine FP 19 (by kernel_rfl) (Jyq Z (F6 (T := Ty.str) Mb0 a aK (FSq f).1 Z Z Z Z Z) ⟨In0, ?_⟩)
        refine Ao 20 Z ?_
        refine FX (T := Ty.str) (vs := [(.string b)]) (r' := [(.string b)]) (l' := (Ge e p0.at_ b)) Z Z Z Z Z .here a aK Z Z Z (RowR.set p0.at_ a Z) (fun co => ⟨In0, ?_⟩)
        have g9 := Gw aK (v := [(.string b)])
        refine Ad<|Shift.settle (T := Ty.str) .here co rfl<|?_
        intro f9 h7 e4
        exact Pu1<|Re1<|Sd<|⟨_, by exact R2, true, g, (Ge e p0.at_ b), Z, Z, H, e4⟩
     ·obtain ⟨jB, A, dU⟩ := RowR.at a h
      obtain rfl := dU
      refine id (Jyq Z (F6 (T := Ty.str) Mb0 a A (FSq h).1 Z Z Z Z Z) ⟨In0, ?_⟩)
      refine GG 3 7 17 (by kernel_rfl) ?_ ?_ ?_
      ·refine id (Jyq Z (FI (v := (sv g)) Z Z Z (Rb1 Z)) ⟨In0, ?_⟩)
       refine Gf 7 17 (by kernel_rfl) ?_ ?_
       ·refine id (Jyq Z (FI (v := (Vi p0.at_)) Z Z Z (Rb1 Z)) ⟨In0, ?_⟩)
        refine FP 17 (by kernel_rfl) (Jyq Z (FI (v := (.string j)) Z Z Z (Gj (T := Ty.str) Mb0 a A Z Z)) ⟨In0, ?_⟩)
        refine Jq 18 Z (Gs i Z Z Z) ?_
        obtain ⟨jC, aL, dV⟩ := RowR.at a f
        obtain rfl := dV
        refine FP 19 (by kernel_rfl) (Jyq Z (F6 (T := Ty.str) Mb0 a aL (FSq f).1 Z Z Z Z Z) ⟨In0, ?_⟩)
        refine Ao 20 Z ?_
        refine FX (T := Ty.str) (vs := [(.string b)]) (r' := [(.string b)]) (l' := (Ge e p0.at_ b)) Z Z Z Z Z .here a aL Z Z Z (RowR.set p0.at_ a Z) (fun cp => ⟨In0, ?_⟩)
        have ha := Gw aL (v := [(.string b)])
        refine Ad<|Shift.settle (T := Ty.str) .here cp rfl<|?_
        intro ga h8 e5
        exact Pu1<|Re1<|Sd<|⟨_, by exact R2, true, g, (Ge e p0.at_ b), Z, Z, H, e5⟩
       ·refine id (Jyq Z (FI (v := (.string j)) Z Z Z (Gj (T := Ty.str) Mb0 a A Z Z)) ⟨In0, ?_⟩)
        refine Jq 18 Z (Gs i Z Z Z) ?_
        refine FP 7 (by kernel_rfl) (Jyq Z (FI (v := (Vi p0.at_)) Z Z Z (Rb1 Z)) ⟨In0, ?_⟩)
        obtain ⟨jD, aM, dW⟩ := RowR.at a f
        obtain rfl := dW
        refine FP 19 (by kernel_rfl) (Jyq Z (F6 (T := Ty.str) Mb0 a aM (FSq f).1 Z Z Z Z Z) ⟨In0, ?_⟩)
        refine Ao 20 Z ?_
        refine FX (T := Ty.str) (vs := [(.string b)]) (r' := [(.string b)]) (l' := (Ge e p0.at_ b)) Z Z Z Z Z .here a aM Z Z Z (RowR.set p0.at_ a Z) (fun cq => ⟨In0, ?_⟩)
        have hb := Gw aM (v := [(.string b)])
        refine Ad<|Shift.settle (T := Ty.str) .here cq rfl<|?_
        intro gb h9 e6
        exact Pu1<|Re1<|Sd<|⟨_, by exact R2, true, g, (Ge e p0.at_ b), Z, Z, H, e6⟩
      ·refine id (Jyq Z (FI (v := (Vi p0.at_)) Z Z Z (Rb1 Z)) ⟨In0, ?_⟩)
       refine Gf 3 17 (by kernel_rfl) ?_ ?_
       ·refine id (Jyq Z (FI (v := (sv g)) Z Z Z (Rb1 Z)) ⟨In0, ?_⟩)
        refine FP 17 (by kernel_rfl) (Jyq Z (FI (v := (.string j)) Z Z Z (Gj (T := Ty.str) Mb0 a A Z Z)) ⟨In0, ?_⟩)
        refine Jq 18 Z (Gs i Z Z Z) ?_
        obtain ⟨jE, aN, dX⟩ := RowR.at a f
        obtain rfl := dX
        refine FP 19 (by kernel_rfl) (Jyq Z (F6 (T := Ty.str) Mb0 a aN (FSq f).1 Z Z Z Z Z) ⟨In0, ?_⟩)
        refine Ao 20 Z ?_
        refine FX (T := Ty.str) (vs := [(.string b)]) (r' := [(.string b)]) (l' := (Ge e p0.at_ b)) Z Z Z Z Z .here a aN Z Z Z (RowR.set p0.at_ a Z) (fun cr => ⟨In0, ?_⟩)
        have hc := Gw aN (v := [(.string b)])
        refine Ad<|Shift.settle (T := Ty.str) .here cr rfl<|?_
        intro gc ia e7
        exact Pu1<|Re1<|Sd<|⟨_, by exact R2, true, g, (Ge e p0.at_ b), Z, Z, H, e7⟩
       ·refine id (Jyq Z (FI (v := (.string j)) Z Z Z (Gj (T := Ty.str) Mb0 a A Z Z)) ⟨In0, ?_⟩)
        refine Jq 18 Z (Gs i Z Z Z) ?_
        refine FP 3 (by kernel_rfl) (Jyq Z (FI (v := (sv g)) Z Z Z (Rb1 Z)) ⟨In0, ?_⟩)
        obtain ⟨jF, aO, dY⟩ := RowR.at a f
        obtain rfl := dY
        refine FP 19 (by kernel_rfl) (Jyq Z (F6 (T := Ty.str) Mb0 a aO (FSq f).1 Z Z Z Z Z) ⟨In0, ?_⟩)
        refine Ao 20 Z ?_
        refine FX (T := Ty.str) (vs := [(.string b)]) (r' := [(.string b)]) (l' := (Ge e p0.at_ b)) Z Z Z Z Z .here a aO Z Z Z (RowR.set p0.at_ a Z) (fun cs => ⟨In0, ?_⟩)
        have hd := Gw aO (v := [(.string b)])
        refine Ad<|Shift.settle (T := Ty.str) .here cs rfl<|?_
        intro gd ib e8
        exact Pu1<|Re1<|Sd<|⟨_, by exact R2, true, g, (Ge e p0.at_ b), Z, Z, H, e8⟩
      ·refine id (Jyq Z (FI (v := (.string j)) Z Z Z (Gj (T := Ty.str) Mb0 a A Z Z)) ⟨In0, ?_⟩)
       refine Jq 18 Z (Gs i Z Z Z) ?_
       refine Gf 3 7 (by kernel_rfl) ?_ ?_
       ·refine id (Jyq Z (FI (v := (sv g)) Z Z Z (Rb1 Z)) ⟨In0, ?_⟩)
        refine FP 7 (by kernel_rfl) (Jyq Z (FI (v := (Vi p0.at_)) Z Z Z (Rb1 Z)) ⟨In0, ?_⟩)
        obtain ⟨jG, aP, dZ⟩ := RowR.at a f
        obtain rfl := dZ
        refine FP 19 (by kernel_rfl) (Jyq Z (F6 (T := Ty.str) Mb0 a aP (FSq f).1 Z Z Z Z Z) ⟨In0, ?_⟩)
        refine Ao 20 Z ?_
        refine FX (T := Ty.str) (vs := [(.string b)]) (r' := [(.string b)]) (l' := (Ge e p0.at_ b)) Z Z Z Z Z .here a aP Z Z Z (RowR.set p0.at_ a Z) (fun ct => ⟨In0, ?_⟩)
        have he := Gw aP (v := [(.string b)])
        refine Ad<|Shift.settle (T := Ty.str) .here ct rfl<|?_
        intro ge ic e9
        exact Pu1<|Re1<|Sd<|⟨_, by exact R2, true, g, (Ge e p0.at_ b), Z, Z, H, e9⟩
       ·refine id (Jyq Z (FI (v := (Vi p0.at_)) Z Z Z (Rb1 Z)) ⟨In0, ?_⟩)
        refine FP 3 (by kernel_rfl) (Jyq Z (FI (v := (sv g)) Z Z Z (Rb1 Z)) ⟨In0, ?_⟩)
        obtain ⟨jH, aQ, d0⟩ := RowR.at a f
        obtain rfl := d0
        refine FP 19 (by kernel_rfl) (Jyq Z (F6 (T := Ty.str) Mb0 a aQ (FSq f).1 Z Z Z Z Z) ⟨In0, ?_⟩)
        refine Ao 20 Z ?_
        refine FX (T := Ty.str) (vs := [(.string b)]) (r' := [(.string b)]) (l' := (Ge e p0.at_ b)) Z Z Z Z Z .here a aQ Z Z Z (RowR.set p0.at_ a Z) (fun cu => ⟨In0, ?_⟩)
        have hf := Gw aQ (v := [(.string b)])
        refine Ad<|Shift.settle (T := Ty.str) .here cu rfl<|?_
        intro gf ie fa
        exact Pu1<|Re1<|Sd<|⟨_, by exact R2, true, g, (Ge e p0.at_ b), Z, Z, H, fa⟩
   ·refine id (Jyq Z (FI (v := (Vi p0.at_)) Z Z Z (Rb1 Z)) ⟨In0, ?_⟩)
    refine GG 3 7 11 (by kernel_rfl) ?_ ?_ ?_
    ·refine id (Jyq Z (FI (v := (sv g)) Z Z Z (Rb1 Z)) ⟨In0, ?_⟩)
     refine Gf 7 11 (by kernel_rfl) ?_ ?_
     ·refine id (Jyq Z (FI (v := (Vi p0.at_)) Z Z Z (Rb1 Z)) ⟨In0, ?_⟩)
      refine FP 11 (by kernel_rfl) (Jyq Z (FI (v := (sv g)) Z Z Z (Rb1 Z)) ⟨In0, ?_⟩)
      obtain ⟨jI, bE, d1⟩ := RowR.at a h
      obtain rfl := d1
      refine FP 16 (by kernel_rfl) (Jyq Z (F6 (T := Ty.str) Mb0 a bE (FSq h).1 Z Z Z Z Z) ⟨In0, ?_⟩)
      refine FP 17 (by kernel_rfl) (Jyq Z (FI (v := (.string j)) Z Z Z (Gj (T := Ty.str) Mb0 a bE Z Z)) ⟨In0, ?_⟩)
      refine Jq 18 Z (Gs i Z Z Z) ?_
      obtain ⟨jJ, aR, d2⟩ := RowR.at a f
      obtain rfl := d2
      refine FP 19 (by kernel_rfl) (Jyq Z (F6 (T := Ty.str) Mb0 a aR (FSq f).1 Z Z Z Z Z) ⟨In0, ?_⟩)
      refine Ao 20 Z ?_
      refine FX (T := Ty.str) (vs := [(.string b)]) (r' := [(.string b)]) (l' := (Ge e p0.at_ b)) Z Z Z Z Z .here a aR Z Z Z (RowR.set p0.at_ a Z) (fun cv => ⟨In0, ?_⟩)
      have hg := Gw aR (v := [(.string b)])
      refine Ad<|Shift.settle (T := Ty.str) .here cv rfl<|?_
      intro gg ig fb
      exact Pu1<|Re1<|Sd<|⟨_, by exact R2, true, g, (Ge e p0.at_ b), Z, Z, H, fb⟩
     ·refine id (Jyq Z (FI (v := (sv g)) Z Z Z (Rb1 Z)) ⟨In0, ?_⟩)
      refine Gf 7 16 (by kernel_rfl) ?_ ?_
      ·refine id (Jyq Z (FI (v := (Vi p0.at_)) Z Z Z (Rb1 Z)) ⟨In0, ?_⟩)
       obtain ⟨jK, bF, d3⟩ := RowR.at a h
       obtain rfl := d3
       refine FP 16 (by kernel_rfl) (Jyq Z (F6 (T := Ty.str) Mb0 a bF (FSq h).1 Z Z Z Z Z) ⟨In0, ?_⟩)
       refine FP 17 (by kernel_rfl) (Jyq Z (FI (v := (.string j)) Z Z Z (Gj (T := Ty.str) Mb0 a bF Z Z)) ⟨In0, ?_⟩)
       refine Jq 18 Z (Gs i Z Z Z) ?_
       obtain ⟨jL, aS, d4⟩ := RowR.at a f
       obtain rfl := d4
       refine FP 19 (by kernel_rfl) (Jyq Z (F6 (T := Ty.str) Mb0 a aS (FSq f).1 Z Z Z Z Z) ⟨In0, ?_⟩)
       refine Ao 20 Z ?_
       refine FX (T := Ty.str) (vs := [(.string b)]) (r' := [(.string b)]) (l' := (Ge e p0.at_ b)) Z Z Z Z Z .here a aS Z Z Z (RowR.set p0.at_ a Z) (fun cw => ⟨In0, ?_⟩)
       have hh := Gw aS (v := [(.string b)])
       refine Ad<|Shift.settle (T := Ty.str) .here cw rfl<|?_
       intro gh ih fc
       exact Pu1<|Re1<|Sd<|⟨_, by exact R2, true, g, (Ge e p0.at_ b), Z, Z, H, fc⟩
      ·obtain ⟨jM, aT, d5⟩ := RowR.at a h
       obtain rfl := d5
       refine id (Jyq Z (F6 (T := Ty.str) Mb0 a aT (FSq h).1 Z Z Z Z Z) ⟨In0, ?_⟩)
       refine Gf 7 17 (by kernel_rfl) ?_ ?_
       ·refine id (Jyq Z (FI (v := (Vi p0.at_)) Z Z Z (Rb1 Z)) ⟨In0, ?_⟩)
        refine FP 17 (by kernel_rfl) (Jyq Z (FI (v := (.string j)) Z Z Z (Gj (T := Ty.str) Mb0 a aT Z Z)) ⟨In0, ?_⟩)
        refine Jq 18 Z (Gs i Z Z Z) ?_
        obtain ⟨jN, aU, d6⟩ := RowR.at a f
        obtain rfl := d6
        refine FP 19 (by kernel_rfl) (Jyq Z (F6 (T := Ty.str) Mb0 a aU (FSq f).1 Z Z Z Z Z) ⟨In0, ?_⟩)
        refine Ao 20 Z ?_
        refine FX (T := Ty.str) (vs := [(.string b)]) (r' := [(.string b)]) (l' := (Ge e p0.at_ b)) Z Z Z Z Z .here a aU Z Z Z (RowR.set p0.at_ a Z) (fun cx => ⟨In0, ?_⟩)
        have hi := Gw aU (v := [(.string b)])
        refine Ad<|Shift.settle (T := Ty.str) .here cx rfl<|?_
        intro gi ii fd
        exact Pu1<|Re1<|Sd<|⟨_, by exact R2, true, g, (Ge e p0.at_ b), Z, Z, H, fd⟩
       ·refine id (Jyq Z (FI (v := (.string j)) Z Z Z (Gj (T := Ty.str) Mb0 a aT Z Z)) ⟨In0, ?_⟩)
        refine Jq 18 Z (Gs i Z Z Z) ?_
        refine FP 7 (by kernel_rfl) (Jyq Z (FI (v := (Vi p0.at_)) Z Z Z (Rb1 Z)) ⟨In0, ?_⟩)
        obtain ⟨jO, aV, d7⟩ := RowR.at a f
        obtain rfl := d7
        refine FP 19 (by kernel_rfl) (Jyq Z (F6 (T := Ty.str) Mb0 a aV (FSq f).1 Z Z Z Z Z) ⟨In0, ?_⟩)
        refine Ao 20 Z ?_
        refine FX (T := Ty.str) (vs := [(.string b)]) (r' := [(.string b)]) (l' := (Ge e p0.at_ b)) Z Z Z Z Z .here a aV Z Z Z (RowR.set p0.at_ a Z) (fun cy => ⟨In0, ?_⟩)
        have hj := Gw aV (v := [(.string b)])
        refine Ad<|Shift.settle (T := Ty.str) .here cy rfl<|?_
        intro gj ij fe
        exact Pu1<|Re1<|Sd<|⟨_, by exact R2, true, g, (Ge e p0.at_ b), Z, Z, H, fe⟩
    ·refine id (Jyq Z (FI (v := (Vi p0.at_)) Z Z Z (Rb1 Z)) ⟨In0, ?_⟩)
     refine Gf 3 11 (by kernel_rfl) ?_ ?_
     ·refine id (Jyq Z (FI (v := (sv g)) Z Z Z (Rb1 Z)) ⟨In0, ?_⟩)
      refine FP 11 (by kernel_rfl) (Jyq Z (FI (v := (sv g)) Z Z Z (Rb1 Z)) ⟨In0, ?_⟩)
      obtain ⟨jP, bG, d8⟩ := RowR.at a h
      obtain rfl := d8
      refine FP 16 (by kernel_rfl) (Jyq Z (F6 (T := Ty.str) Mb0 a bG (FSq h).1 Z Z Z Z Z) ⟨In0, ?_⟩)
      refine FP 17 (by kernel_rfl) (Jyq Z (FI (v := (.string j)) Z Z Z (Gj (T := Ty.str) Mb0 a bG Z Z)) ⟨In0, ?_⟩)
      refine Jq 18 Z (Gs i Z Z Z) ?_
      obtain ⟨jQ, aW, d9⟩ := RowR.at a f
      obtain rfl := d9
      refine FP 19 (by kernel_rfl) (Jyq Z (F6 (T := Ty.str) Mb0 a aW (FSq f).1 Z Z Z Z Z) ⟨In0, ?_⟩)
      refine Ao 20 Z ?_
      refine FX (T := Ty.str) (vs := [(.string b)]) (r' := [(.string b)]) (l' := (Ge e p0.at_ b)) Z Z Z Z Z .here a aW Z Z Z (RowR.set p0.at_ a Z) (fun cz => ⟨In0, ?_⟩)
      have hk := Gw aW (v := [(.string b)])
      refine Ad<|Shift.settle (T := Ty.str) .here cz rfl<|?_
      intro gk ik ff
      exact Pu1<|Re1<|Sd<|⟨_, by exact R2, true, g, (Ge e p0.at_ b), Z, Z, H, ff⟩
     ·refine id (Jyq Z (FI (v := (sv g)) Z Z Z (Rb1 Z)) ⟨In0, ?_⟩)
      refine Gf 3 16 (by kernel_rfl) ?_ ?_
      ·refine id (Jyq Z (FI (v := (sv g)) Z Z Z (Rb1 Z)) ⟨In0, ?_⟩)
       obtain ⟨jR, bH, ea⟩ := RowR.at a h
       obtain rfl := ea
       refine FP 16 (by kernel_rfl) (Jyq Z (F6 (T := Ty.str) Mb0 a bH (FSq h).1 Z Z Z Z Z) ⟨In0, ?_⟩)
       refine FP 17 (by kernel_rfl) (Jyq Z (FI (v := (.string j)) Z Z Z (Gj (T := Ty.str) Mb0 a bH Z Z)) ⟨In0, ?_⟩)
       refine Jq 18 Z (Gs i Z Z Z) ?_
       obtain ⟨jS, aX, eb⟩ := RowR.at a f
       obtain rfl := eb
       refine FP 19 (by kernel_rfl) (Jyq Z (F6 (T := Ty.str) Mb0 a aX (FSq f).1 Z Z Z Z Z) ⟨In0, ?_⟩)
       refine Ao 20 Z ?_
       refine FX (T := Ty.str) (vs := [(.string b)]) (r' := [(.string b)]) (l' := (Ge e p0.at_ b)) Z Z Z Z Z .here a aX Z Z Z (RowR.set p0.at_ a Z) (fun cA => ⟨In0, ?_⟩)
       have hl := Gw aX (v := [(.string b)])
       refine Ad<|Shift.settle (T := Ty.str) .here cA rfl<|?_
       intro gl il fg
       exact Pu1<|Re1<|Sd<|⟨_, by exact R2, true, g, (Ge e p0.at_ b), Z, Z, H, fg⟩
      ·obtain ⟨jT, aY, ec⟩ := RowR.at a h
       obtain rfl := ec
       refine id (Jyq Z (F6 (T := Ty.str) Mb0 a aY (FSq h).1 Z Z Z Z Z) ⟨In0, ?_⟩)
       refine Gf 3 17 (by kernel_rfl) ?_ ?_
       ·refine id (Jyq Z (FI (v := (sv g)) Z Z Z (Rb1 Z)) ⟨In0, ?_⟩)
        refine FP 17 (by kernel_rfl) (Jyq Z (FI (v := (.string j)) Z Z Z (Gj (T := Ty.str) Mb0 a aY Z Z)) ⟨In0, ?_⟩)
        refine Jq 18 Z (Gs i Z Z Z) ?_
        obtain ⟨jU, aZ, ed⟩ := RowR.at a f
        obtain rfl := ed
        refine FP 19 (by kernel_rfl) (Jyq Z (F6 (T := Ty.str) Mb0 a aZ (FSq f).1 Z Z Z Z Z) ⟨In0, ?_⟩)
        refine Ao 20 Z ?_
        refine FX (T := Ty.str) (vs := [(.string b)]) (r' := [(.string b)]) (l' := (Ge e p0.at_ b)) Z Z Z Z Z .here a aZ Z Z Z (RowR.set p0.at_ a Z) (fun cB => ⟨In0, ?_⟩)
        have hm := Gw aZ (v := [(.string b)])
        refine Ad<|Shift.settle (T := Ty.str) .here cB rfl<|?_
        intro gm im fh
        exact Pu1<|Re1<|Sd<|⟨_, by exact R2, true, g, (Ge e p0.at_ b), Z, Z, H, fh⟩
       ·refine id (Jyq Z (FI (v := (.string j)) Z Z Z (Gj (T := Ty.str) Mb0 a aY Z Z)) ⟨In0, ?_⟩)
        refine Jq 18 Z (Gs i Z Z Z) ?_
        refine FP 3 (by kernel_rfl) (Jyq Z (FI (v := (sv g)) Z Z Z (Rb1 Z)) ⟨In0, ?_⟩)
        obtain ⟨jV, a0, ee⟩ := RowR.at a f
        obtain rfl := ee
        refine FP 19 (by kernel_rfl) (Jyq Z (F6 (T := Ty.str) Mb0 a a0 (FSq f).1 Z Z Z Z Z) ⟨In0, ?_⟩)
        refine Ao 20 Z ?_
        refine FX (T := Ty.str) (vs := [(.string b)]) (r' := [(.string b)]) (l' := (Ge e p0.at_ b)) Z Z Z Z Z .here a a0 Z Z Z (RowR.set p0.at_ a Z) (fun cC => ⟨In0, ?_⟩)
        have hn := Gw a0 (v := [(.string b)])
        refine Ad<|Shift.settle (T := Ty.str) .here cC rfl<|?_
        intro gn io fi
        exact Pu1<|Re1<|Sd<|⟨_, by exact R2, true, g, (Ge e p0.at_ b), Z, Z, H, fi⟩
    ·refine id (Jyq Z (FI (v := (sv g)) Z Z Z (Rb1 Z)) ⟨In0, ?_⟩)
     refine GG 3 7 16 (by kernel_rfl) ?_ ?_ ?_
     ·refine id (Jyq Z (FI (v := (sv g)) Z Z Z (Rb1 Z)) ⟨In0, ?_⟩)
      refine Gf 7 16 (by kernel_rfl) ?_ ?_
      ·refine id (Jyq Z (FI (v := (Vi p0.at_)) Z Z Z (Rb1 Z)) ⟨In0, ?_⟩)
       obtain ⟨jW, bI, ef⟩ := RowR.at a h
       obtain rfl := ef
       refine FP 16 (by kernel_rfl) (Jyq Z (F6 (T := Ty.str) Mb0 a bI (FSq h).1 Z Z Z Z Z) ⟨In0, ?_⟩)
       refine FP 17 (by kernel_rfl) (Jyq Z (FI (v := (.string j)) Z Z Z (Gj (T := Ty.str) Mb0 a bI Z Z)) ⟨In0, ?_⟩)
       refine Jq 18 Z (Gs i Z Z Z) ?_
       obtain ⟨jX, a1, eg⟩ := RowR.at a f
       obtain rfl := eg
       refine FP 19 (by kernel_rfl) (Jyq Z (F6 (T := Ty.str) Mb0 a a1 (FSq f).1 Z Z Z Z Z) ⟨In0, ?_⟩)
       refine Ao 20 Z ?_
       refine FX (T := Ty.str) (vs := [(.string b)]) (r' := [(.string b)]) (l' := (Ge e p0.at_ b)) Z Z Z Z Z .here a a1 Z Z Z (RowR.set p0.at_ a Z) (fun cD => ⟨In0, ?_⟩)
       have ho := Gw a1 (v := [(.string b)])
       refine Ad<|Shift.settle (T := Ty.str) .here cD rfl<|?_
       intro go ip fj
       exact Pu1<|Re1<|Sd<|⟨_, by exact R2, true, g, (Ge e p0.at_ b), Z, Z, H, fj⟩
      ·obtain ⟨jY, a2, eh⟩ := RowR.at a h
       obtain rfl := eh
       refine id (Jyq Z (F6 (T := Ty.str) Mb0 a a2 (FSq h).1 Z Z Z Z Z) ⟨In0, ?_⟩)
       refine Gf 7 17 (by kernel_rfl) ?_ ?_
       ·refine id (Jyq Z (FI (v := (Vi p0.at_)) Z Z Z (Rb1 Z)) ⟨In0, ?_⟩)
        refine FP 17 (by kernel_rfl) (Jyq Z (FI (v := (.string j)) Z Z Z (Gj (T := Ty.str) Mb0 a a2 Z Z)) ⟨In0, ?_⟩)
        refine Jq 18 Z (Gs i Z Z Z) ?_
        obtain ⟨jZ, a3, ei⟩ := RowR.at a f
        obtain rfl := ei
        refine FP 19 (by kernel_rfl) (Jyq Z (F6 (T := Ty.str) Mb0 a a3 (FSq f).1 Z Z Z Z Z) ⟨In0, ?_⟩)
        refine Ao 20 Z ?_
        refine FX (T := Ty.str) (vs := [(.string b)]) (r' := [(.string b)]) (l' := (Ge e p0.at_ b)) Z Z Z Z Z .here a a3 Z Z Z (RowR.set p0.at_ a Z) (fun cE => ⟨In0, ?_⟩)
        have hp := Gw a3 (v := [(.string b)])
        refine Ad<|Shift.settle (T := Ty.str) .here cE rfl<|?_
        intro gp iq fk
        exact Pu1<|Re1<|Sd<|⟨_, by exact R2, true, g, (Ge e p0.at_ b), Z, Z, H, fk⟩
       ·refine id (Jyq Z (FI (v := (.string j)) Z Z Z (Gj (T := Ty.str) Mb0 a a2 Z Z)) ⟨In0, ?_⟩)
        refine Jq 18 Z (Gs i Z Z Z) ?_
        refine FP 7 (by kernel_rfl) (Jyq Z (FI (v := (Vi p0.at_)) Z Z Z (Rb1 Z)) ⟨In0, ?_⟩)
        obtain ⟨j0, a4, ej⟩ := RowR.at a f
        obtain rfl := ej
        refine FP 19 (by kernel_rfl) (Jyq Z (F6 (T := Ty.str) Mb0 a a4 (FSq f).1 Z Z Z Z Z) ⟨In0, ?_⟩)
        refine Ao 20 Z ?_
        refine FX (T := Ty.str) (vs := [(.string b)]) (r' := [(.string b)]) (l' := (Ge e p0.at_ b)) Z Z Z Z Z .here a a4 Z Z Z (RowR.set p0.at_ a Z) (fun cF => ⟨In0, ?_⟩)
        have hq := Gw a4 (v := [(.string b)])
        refine Ad<|Shift.settle (T := Ty.str) .here cF rfl<|?_
        intro gq ir fl
        exact Pu1<|Re1<|Sd<|⟨_, by exact R2, true, g, (Ge e p0.at_ b), Z, Z, H, fl⟩
     ·refine id (Jyq Z (FI (v := (Vi p0.at_)) Z Z Z (Rb1 Z)) ⟨In0, ?_⟩)
      refine Gf 3 16 (by kernel_rfl) ?_ ?_
      ·refine id (Jyq Z (FI (v := (sv g)) Z Z Z (Rb1 Z)) ⟨In0, ?_⟩)
       obtain ⟨j1, bJ, ek⟩ := RowR.at a h
       obtain rfl := ek
       refine FP 16 (by kernel_rfl) (Jyq Z (F6 (T := Ty.str) Mb0 a bJ (FSq h).1 Z Z Z Z Z) ⟨In0, ?_⟩)
       refine FP 17 (by kernel_rfl) (Jyq Z (FI (v := (.string j)) Z Z Z (Gj (T := Ty.str) Mb0 a bJ Z Z)) ⟨In0, ?_⟩)
       refine Jq 18 Z (Gs i Z Z Z) ?_
       obtain ⟨j2, a5, el⟩ := RowR.at a f
       obtain rfl := el
       refine FP 19 (by kernel_rfl) (Jyq Z (F6 (T := Ty.str) Mb0 a a5 (FSq f).1 Z Z Z Z Z) ⟨In0, ?_⟩)
       refine Ao 20 Z ?_
       refine FX (T := Ty.str) (vs := [(.string b)]) (r' := [(.string b)]) (l' := (Ge e p0.at_ b)) Z Z Z Z Z .here a a5 Z Z Z (RowR.set p0.at_ a Z) (fun cG => ⟨In0, ?_⟩)
       have hr := Gw a5 (v := [(.string b)])
       refine Ad<|Shift.settle (T := Ty.str) .here cG rfl<|?_
       intro gr it fm
       exact Pu1<|Re1<|Sd<|⟨_, by exact R2, true, g, (Ge e p0.at_ b), Z, Z, H, fm⟩
      ·obtain ⟨j3, a6, em⟩ := RowR.at a h
       obtain rfl := em
       refine id (Jyq Z (F6 (T := Ty.str) Mb0 a a6 (FSq h).1 Z Z Z Z Z) ⟨In0, ?_⟩)
       refine Gf 3 17 (by kernel_rfl) ?_ ?_
       ·refine id (Jyq Z (FI (v := (sv g)) Z Z Z (Rb1 Z)) ⟨In0, ?_⟩)
        refine FP 17 (by kernel_rfl) (Jyq Z (FI (v := (.string j)) Z Z Z (Gj (T := Ty.str) Mb0 a a6 Z Z)) ⟨In0, ?_⟩)
        refine Jq 18 Z (Gs i Z Z Z) ?_
        obtain ⟨j4, a7, en⟩ := RowR.at a f
        obtain rfl := en
        refine FP 19 (by kernel_rfl) (Jyq Z (F6 (T := Ty.str) Mb0 a a7 (FSq f).1 Z Z Z Z Z) ⟨In0, ?_⟩)
        refine Ao 20 Z ?_
        refine FX (T := Ty.str) (vs := [(.string b)]) (r' := [(.string b)]) (l' := (Ge e p0.at_ b)) Z Z Z Z Z .here a a7 Z Z Z (RowR.set p0.at_ a Z) (fun cH => ⟨In0, ?_⟩)
        have hs := Gw a7 (v := [(.string b)])
        refine Ad<|Shift.settle (T := Ty.str) .here cH rfl<|?_
        intro gs iu fn
        exact Pu1<|Re1<|Sd<|⟨_, by exact R2, true, g, (Ge e p0.at_ b), Z, Z, H, fn⟩
       ·refine id (Jyq Z (FI (v := (.string j)) Z Z Z (Gj (T := Ty.str) Mb0 a a6 Z Z)) ⟨In0, ?_⟩)
        refine Jq 18 Z (Gs i Z Z Z) ?_
        refine FP 3 (by kernel_rfl) (Jyq Z (FI (v := (sv g)) Z Z Z (Rb1 Z)) ⟨In0, ?_⟩)
        obtain ⟨j5, a8, eo⟩ := RowR.at a f
        obtain rfl := eo
        refine FP 19 (by kernel_rfl) (Jyq Z (F6 (T := Ty.str) Mb0 a a8 (FSq f).1 Z Z Z Z Z) ⟨In0, ?_⟩)
        refine Ao 20 Z ?_
        refine FX (T := Ty.str) (vs := [(.string b)]) (r' := [(.string b)]) (l' := (Ge e p0.at_ b)) Z Z Z Z Z .here a a8 Z Z Z (RowR.set p0.at_ a Z) (fun cI => ⟨In0, ?_⟩)
        have ht := Gw a8 (v := [(.string b)])
        refine Ad<|Shift.settle (T := Ty.str) .here cI rfl<|?_
        intro gt iv fo
        exact Pu1<|Re1<|Sd<|⟨_, by exact R2, true, g, (Ge e p0.at_ b), Z, Z, H, fo⟩
     ·obtain ⟨j6, B, ep⟩ := RowR.at a h
      obtain rfl := ep
      refine id (Jyq Z (F6 (T := Ty.str) Mb0 a B (FSq h).1 Z Z Z Z Z) ⟨In0, ?_⟩)
      refine GG 3 7 17 (by kernel_rfl) ?_ ?_ ?_
      ·refine id (Jyq Z (FI (v := (sv g)) Z Z Z (Rb1 Z)) ⟨In0, ?_⟩)
       refine Gf 7 17 (by kernel_rfl) ?_ ?_
       ·refine id (Jyq Z (FI (v := (Vi p0.at_)) Z Z Z (Rb1 Z)) ⟨In0, ?_⟩)
        refine FP 17 (by kernel_rfl) (Jyq Z (FI (v := (.string j)) Z Z Z (Gj (T := Ty.str) Mb0 a B Z Z)) ⟨In0, ?_⟩)
        refine Jq 18 Z (Gs i Z Z Z) ?_
        obtain ⟨j7, a9, er⟩ := RowR.at a f
        obtain rfl := er
        refine FP 19 (by kernel_rfl) (Jyq Z (F6 (T := Ty.str) Mb0 a a9 (FSq f).1 Z Z Z Z Z) ⟨In0, ?_⟩)
        refine Ao 20 Z ?_
        refine FX (T := Ty.str) (vs := [(.string b)]) (r' := [(.string b)]) (l' := (Ge e p0.at_ b)) Z Z Z Z Z .here a a9 Z Z Z (RowR.set p0.at_ a Z) (fun cJ => ⟨In0, ?_⟩)
        have hu := Gw a9 (v := [(.string b)])
        refine Ad<|Shift.settle (T := Ty.str) .here cJ rfl<|?_
        intro gu iw fp
        exact Pu1<|Re1<|Sd<|⟨_, by exact R2, true, g, (Ge e p0.at_ b), Z, Z, H, fp⟩
       ·refine id (Jyq Z (FI (v := (.string j)) Z Z Z (Gj (T := Ty.str) Mb0 a B Z Z)) ⟨In0, ?_⟩)
        refine Jq 18 Z (Gs i Z Z Z) ?_
        refine FP 7 (by kernel_rfl) (Jyq Z (FI (v := (Vi p0.at_)) Z Z Z (Rb1 Z)) ⟨In0, ?_⟩)
        obtain ⟨j8, ba, es⟩ := RowR.at a f
        obtain rfl := es
        refine FP 19 (by kernel_rfl) (Jyq Z (F6 (T := Ty.str) Mb0 a ba (FSq f).1 Z Z Z Z Z) ⟨In0, ?_⟩)
        refine Ao 20 Z ?_
        refine FX (T := Ty.str) (vs := [(.string b)]) (r' := [(.string b)]) (l' := (Ge e p0.at_ b)) Z Z Z Z Z .here a ba Z Z Z (RowR.set p0.at_ a Z) (fun cK => ⟨In0, ?_⟩)
        have hv := Gw ba (v := [(.string b)])
        refine Ad<|Shift.settle (T := Ty.str) .here cK rfl<|?_
        intro gv ix fq
        exact Pu1<|Re1<|Sd<|⟨_, by exact R2, true, g, (Ge e p0.at_ b), Z, Z, H, fq⟩
      ·refine id (Jyq Z (FI (v := (Vi p0.at_)) Z Z Z (Rb1 Z)) ⟨In0, ?_⟩)
       refine Gf 3 17 (by kernel_rfl) ?_ ?_
       ·refine id (Jyq Z (FI (v := (sv g)) Z Z Z (Rb1 Z)) ⟨In0, ?_⟩)
        refine FP 17 (by kernel_rfl) (Jyq Z (FI (v := (.string j)) Z Z Z (Gj (T := Ty.str) Mb0 a B Z Z)) ⟨In0, ?_⟩)
        refine Jq 18 Z (Gs i Z Z Z) ?_
        obtain ⟨j9, bb, et⟩ := RowR.at a f
        obtain rfl := et
        refine FP 19 (by kernel_rfl) (Jyq Z (F6 (T := Ty.str) Mb0 a bb (FSq f).1 Z Z Z Z Z) ⟨In0, ?_⟩)
        refine Ao 20 Z ?_
        refine FX (T := Ty.str) (vs := [(.string b)]) (r' := [(.string b)]) (l' := (Ge e p0.at_ b)) Z Z Z Z Z .here a bb Z Z Z (RowR.set p0.at_ a Z) (fun cL => ⟨In0, ?_⟩)
        have hw := Gw bb (v := [(.string b)])
        refine Ad<|Shift.settle (T := Ty.str) .here cL rfl<|?_
        intro gw iy fr
        exact Pu1<|Re1<|Sd<|⟨_, by exact R2, true, g, (Ge e p0.at_ b), Z, Z, H, fr⟩
       ·refine id (Jyq Z (FI (v := (.string j)) Z Z Z (Gj (T := Ty.str) Mb0 a B Z Z)) ⟨In0, ?_⟩)
        refine Jq 18 Z (Gs i Z Z Z) ?_
        refine FP 3 (by kernel_rfl) (Jyq Z (FI (v := (sv g)) Z Z Z (Rb1 Z)) ⟨In0, ?_⟩)
        obtain ⟨ka, bc, eu⟩ := RowR.at a f
        obtain rfl := eu
        refine FP 19 (by kernel_rfl) (Jyq Z (F6 (T := Ty.str) Mb0 a bc (FSq f).1 Z Z Z Z Z) ⟨In0, ?_⟩)
        refine Ao 20 Z ?_
        refine FX (T := Ty.str) (vs := [(.string b)]) (r' := [(.string b)]) (l' := (Ge e p0.at_ b)) Z Z Z Z Z .here a bc Z Z Z (RowR.set p0.at_ a Z) (fun cM => ⟨In0, ?_⟩)
        have hx := Gw bc (v := [(.string b)])
        refine Ad<|Shift.settle (T := Ty.str) .here cM rfl<|?_
        intro gx iz fs
        exact Pu1<|Re1<|Sd<|⟨_, by exact R2, true, g, (Ge e p0.at_ b), Z, Z, H, fs⟩
      ·refine id (Jyq Z (FI (v := (.string j)) Z Z Z (Gj (T := Ty.str) Mb0 a B Z Z)) ⟨In0, ?_⟩)
       refine Jq 18 Z (Gs i Z Z Z) ?_
       refine Gf 3 7 (by kernel_rfl) ?_ ?_
       ·refine id (Jyq Z (FI (v := (sv g)) Z Z Z (Rb1 Z)) ⟨In0, ?_⟩)
        refine FP 7 (by kernel_rfl) (Jyq Z (FI (v := (Vi p0.at_)) Z Z Z (Rb1 Z)) ⟨In0, ?_⟩)
        obtain ⟨kb, bd, ev⟩ := RowR.at a f
        obtain rfl := ev
        refine FP 19 (by kernel_rfl) (Jyq Z (F6 (T := Ty.str) Mb0 a bd (FSq f).1 Z Z Z Z Z) ⟨In0, ?_⟩)
        refine Ao 20 Z ?_
        refine FX (T := Ty.str) (vs := [(.string b)]) (r' := [(.string b)]) (l' := (Ge e p0.at_ b)) Z Z Z Z Z .here a bd Z Z Z (RowR.set p0.at_ a Z) (fun cN => ⟨In0, ?_⟩)
        have hy := Gw bd (v := [(.string b)])
        refine Ad<|Shift.settle (T := Ty.str) .here cN rfl<|?_
        intro gy iA ft
        exact Pu1<|Re1<|Sd<|⟨_, by exact R2, true, g, (Ge e p0.at_ b), Z, Z, H, ft⟩
       ·refine id (Jyq Z (FI (v := (Vi p0.at_)) Z Z Z (Rb1 Z)) ⟨In0, ?_⟩)
        refine FP 3 (by kernel_rfl) (Jyq Z (FI (v := (sv g)) Z Z Z (Rb1 Z)) ⟨In0, ?_⟩)
        obtain ⟨kc, be, ew⟩ := RowR.at a f
        obtain rfl := ew
        refine FP 19 (by kernel_rfl) (Jyq Z (F6 (T := Ty.str) Mb0 a be (FSq f).1 Z Z Z Z Z) ⟨In0, ?_⟩)
        refine Ao 20 Z ?_
        refine FX (T := Ty.str) (vs := [(.string b)]) (r' := [(.string b)]) (l' := (Ge e p0.at_ b)) Z Z Z Z Z .here a be Z Z Z (RowR.set p0.at_ a Z) (fun cO => ⟨In0, ?_⟩)
        have hz := Gw be (v := [(.string b)])
        refine Ad<|Shift.settle (T := Ty.str) .here cO rfl<|?_
        intro gz iB fu
        exact Pu1<|Re1<|Sd<|⟨_, by exact R2, true, g, (Ge e p0.at_ b), Z, Z, H, fu⟩
  ·intro O
   have H := Gu (btf O) H
   exact F8<|Sd<|⟨_, by exact R2, false, n, p0.l, Z, Z, H, m⟩
 rintro _ gA _ iC ⟨bg, s, D, rfl, rfl, H, J⟩
 unfold J9 at H
 refine FK<|FD<|Em Z<|?_
 obtain ⟨t, bP, fB, fz, H⟩ := Ix H
 refine FT Z (Ek Tryz.call59 Z (Ku p (FO.mk D p0.at_ p0.bad) s t bP fB fz _ _ J) ?_)
 rintro _ gB _ Q ⟨rfl, rfl⟩
 refine Ea Z<|FH<|FK<|FK<|FD<|Em Z<|Ec Z<|FH<|?_
 refine F2 Z ?_ ?_
 ·intro I
  obtain ⟨I, H⟩ := It I H
  refine FK<|FD<|Em Z<|Eq Z (FN Z)<|EF 2 Z<|?_
  refine FT Z (So [(.bool true)] (F5 (FO.mk D bP true) s) Z .here Z ?_)
  refine FH<|FK<|FD<|Ea Z<|FH<|Gg<|?_
  obtain ⟨bh, bk, bi, bj⟩ := K9 H
  subst x u y z
  refine ⟨(.inl Z), [(Vi 0)], ⟨(Vi 0), _, Z, Z, Z⟩, ?_⟩
  have fv := J.mono Q
  exact Sd ⟨s, Z, Z, fv⟩
 ·intro I
  obtain ⟨I, H⟩ := If I H
  refine F8<|FK<|FK<|FD<|Em Z<|FH<|?_
  refine F2 Z ?_ ?_
  ·intro P
   have H := ift P H
   refine FK<|FD<|Em Z<|Eq Z (LO (c := wI t) Z Z Z Z)<|Eq Z (WP (c := wI (0 - (wI t))) Z Z)<|Ea Z<|FH<|Gg<|?_
   obtain ⟨bh, bk, bi, bj⟩ := K9 H
   subst x u y z
   refine ⟨(.inl Z), [(Vi (wI (0 - (wI t))))], ⟨(Vi (wI (0 - (wI t)))), _, Z, Z, Z⟩, ?_⟩
   have fw := J.mono Q
   exact Sd ⟨s, Z, Z, fw⟩
  ·intro P
   have H := Gu (btf P) H
   refine F8<|FK<|FD<|Em Z<|Eq Z (LO (c := wI t) Z Z Z Z)<|Ea Z<|FH<|Gg<|?_
   obtain ⟨bh, bk, bi, bj⟩ := K9 H
   subst x u y z
   refine ⟨(.inl Z), [(Vi (wI t))], ⟨(Vi (wI t)), _, Z, Z, Z⟩, ?_⟩
   have fx := J.mono Q
   exact Sd ⟨s, Z, Z, fx⟩
theorem UM (b : Nat) (p0 : FO) (F : SV) (o : ad8) (k : ad7) (p : Int) (q : Bool) (H : M1 p0 = some (o, k, p, q)) (K : Kp) (G : List Ent) (af : Slr Ty.str K (sv F) p0.l) :
  Fc Tryz.prog 60 #[(Vp b)] K ((.blk b 97 (F5 p0 F)) :: G) (fun v a h => ∃ (O : SV) (N : List (List Value)) (P : SV), v = (sv O) ∧ (.blk b 97 (F5 (FO.mk k p q) P)) :: (.row (sv O) 3 1 N.flatten) :: G = h ∧ RowR Ty.i64 a N o ∧ Slr Ty.str a (sv P) k) := by
 refine Gx Tryz.func60 Z Tryz.ntmps60 Tryz.results60 Z ?_
 unfold M1 at H
 refine FK<|FD<|Ea Z<|FH<|FK<|FD<|Em Z<|?_
 obtain ⟨j, U, V, W, am, H⟩ := IN H
 refine FT Z (Ek Tryz.call58 Z (HU b p0 F j U V W am _ _ af) ?_)
 rintro _ aa _ aD ⟨ar, rfl, rfl, aj⟩
 have L : RowR Ty.i64 aa [[(Vi j)]] [j] := RowR.cons Z (RowR.nil)
 refine FT Z (Gl (T := Ty.i64) (rows := [[(Vi j)]]) (l := [j]) Z Z Z L Z Z Z Z Z Z Z Z (fun au => ?_))
 refine Ea Z<|FH<|?_
 refine Gk (fun r a h => ∃ (m : SV) (C : ad8) (y : List (List Value)) (z : SV) (x : ad7) (B : Int) (D : Bool), [(3, (sv m))] = r ∧ (.blk b 97 (F5 (FO.mk x B D) z)) :: (.row (sv m) 3 1 y.flatten) :: G = h ∧ RI C x B D = some (o, k, p, q) ∧ RowR Ty.i64 a y C ∧ Slr Ty.str a (sv z) x) ?_ ?_
 ·refine Gh ?_
  refine Gv (fun n241 r a h => ∃ (n : SV) (s : ad8) (t : List (List Value)) (g : SV) (e : ad7) (c : Int) (f : Bool), [(0, (Vp b)), (3, (sv n))] = r ∧ (.blk b 97 (F5 (FO.mk e c f) g)) :: (.row (sv n) 3 1 t.flatten) :: G = h ∧ lp4 (Lx) n241 s e c f = some (o, k, p, q) ∧ RowR Ty.i64 a t s ∧ Slr Ty.str a (sv g) e) BIG ?_ ?_
  ·exact Pu1<|Sd<|⟨_, by exact R2, au, [j], [[(Vi j)]], ar, U, V, W, Z, Z, H, L, aj⟩
  rintro n241 _ X _ aB ⟨n, s, t, g, e, c, f, rfl, rfl, H, I, w⟩
  obtain ⟨aE, an, rfl, ae, H⟩ := Wc H
  unfold Lx at H
  refine FK ?_
  refine Gk (fun r a h => ∃ (E : Bool), [(0, (Vp b)), (3, (sv n)), (23, (.bool E))] = r ∧ X = a ∧ (.blk b 97 (F5 (FO.mk e c f) g)) :: (.row (sv n) 3 1 t.flatten) :: G = h ∧ OX s e c f an E = some (o, k, p, q)) ?_ ?_
  ·rcases Ia (dcd (c < (e.length : Int))) with M | M <;> revert M
   ·intro i
    obtain ⟨i, H⟩ := It i H
    exact Gm _ Z (Ic Mb0 (Ic Mb1 In0))<|Jm 0 Z<|Jq 1 Z (FN Z)<|JF 2 1 Z<|Jl 3 (Vi c) Z (Rb0 Z)<|Jm 4 Z<|Jq 5 Z (FN Z)<|JF 6 0 Z<|Jl 7 (sv g) Z (Rb0 Z)<|Jq 8 Z (Gt (T := Ty.str) w Z Z)<|Jc 9 Z<|Jm 10 Z<|Aw.known (d := 17) Z (HE i)<|Bm 11 Z<|Bq 12 Z (FN Z)<|BF 13 2 Z<|Bl 14 (.bool f) Z (Rb0 Z)<|Bq 15 Z (GW Z)<|Jt 16 Z<|Ad<|Pu1<|Pu1<|Sd ⟨_, by exact R3, (!(f)), Z, Z, Z, H⟩
   ·intro i
    obtain ⟨i, H⟩ := If i H
    exact Gm _ Z (Ic Mb0 (Ic Mb1 In0))<|Jm 0 Z<|Jq 1 Z (FN Z)<|JF 2 1 Z<|Jl 3 (Vi c) Z (Rb0 Z)<|Jm 4 Z<|Jq 5 Z (FN Z)<|JF 6 0 Z<|Jl 7 (sv g) Z (Rb0 Z)<|Jq 8 Z (Gt (T := Ty.str) w Z Z)<|Jc 9 Z<|Jm 10 Z<|Aw.known (d := 17) Z (Ib i)<|Jz 11 Z<|Jz 12 Z<|Jz 13 Z<|Jz 14 Z<|Jz 15 Z<|Jf 16 Z<|Ad<|Pu1<|Pu1<|Sd ⟨_, by exact R3, false, Z, Z, Z, H⟩
  rintro _ _ _ - ⟨E, rfl, rfl, rfl, H⟩
  unfold OX at H
  refine F2 Z ?_ ?_
  ·intro A
   have H := ift A H
   refine F8<|Gh<|FD<|Em Z<|Em Z<|?_
   obtain ⟨u, Q, R, S, ak, H⟩ := IN H
   refine FT Z (Ek Tryz.call58 Z (HU b (FO.mk e c f) g u Q R S ak _ _ w) ?_)
   rintro _ Y _ ab ⟨ap, rfl, rfl, ah⟩
   have J : RowR Ty.i64 Y [[(Vi u)]] [u] := RowR.cons Z (RowR.nil)
   refine FT Z (Gl (T := Ty.i64) (rows := [[(Vi u)]]) (l := [u]) Z Z Z J Z Z Z Z Z Z Z Z (fun aF => ?_))
   obtain ⟨av, al, H⟩ := bnd H
   have ai := I.mono ab
   refine FT Z (Gi (T := Ty.i64) (bytes := 8) Z Z Z Mb2 ai (SrcT.row Mb0 J Z) al Z Z Z Z Z Z Z Z (fun aq ao ad => ⟨_, (.there (.there .here)), ?_⟩))
   refine Ow.shift (Re0 (Sd ?_))
   exact Ea Z<|FH<|Pu1<|Pu1<|Sd<|⟨_, by exact R2, _, Nat.lt_succ_self _, aq, av, ao, ap, Q, R, S, Z, Z, (ae ▸ H), ad, ah⟩
  ·intro A
   have H := Gu (btf A) H
   exact Gy<|Pu1<|Pu1<|Sd<|⟨_, by exact R1, n, s, t, g, e, c, f, Z, Z, H, I, w⟩
 rintro _ aw _ aC ⟨m, C, y, z, x, B, D, rfl, rfl, H, ac, ag⟩
 unfold RI at H
 refine FK<|FD<|Em Z<|Ea Z<|FH<|Gg<|?_
 obtain ⟨ax, aA, ay, az⟩ := K9 H
 subst o k p q
 refine ⟨(.inl Z), [(sv m)], ⟨(sv m), _, Z, Z, Z⟩, ?_⟩
 exact Pu1<|Pu1<|Sd<|⟨m, y, z, Z, Z, ac, ag⟩
theorem Js (e : Nat) (p0 : FO) (f : SV) (p1 : Op) (a b : SV) (g : Op) (j : ad7) (o : Int) (p : Bool) (H : I9 p0 p1 = some (g, j, o, p)) (K : Kp) (G : List Ent) (i : Slr Ty.str K (sv f) p0.l) (L : Slr Gp K (sv a) p1.cases) (M : Slr Ty.i64 K (sv b) p1.draws) :
  Fc Tryz.prog 82 #[(Vp e), (.agg (FM p1 a b).toArray)] K ((.blk e 97 (F5 p0 f)) :: G) (fun v h q => ∃ (B C D : SV), v = (.agg (FM g B C).toArray) ∧ (.blk e 97 (F5 (FO.mk j o p) D)) :: G = q ∧ Slr Gp h (sv B) g.cases ∧ Slr Ty.i64 h (sv C) g.draws ∧ Slr Ty.str h (sv D) j) := by
 refine Gx Tryz.func82 Z Tryz.ntmps82 Tryz.results82 Z ?_
 unfold I9 at H
 refine FK<|FD<|?_
 refine FT Z (GX (cs := (FM p1 a b)) Z Z Z (fun y => ?_))
 refine FT Z (GE (cs := (FM (Op.mk 0 0 0 0 0 [] []) FZ FZ)) Z Z Z Z (fun z => ?_))
 refine FH ?_
 refine Gk (fun J h q => ∃ (m : SV) (k : ad7) (t : Int) (u : Bool) (c d : Int), [(3, (Vp y)), (4, (Vp z))] = J ∧ (.blk e 97 (F5 (FO.mk k t u) m)) :: (.blk z 70 (FM (Op.mk 0 0 0 0 0 [] []) FZ FZ)) :: (.blk y 70 (FM (Op.mk p1.kind c p1.channel p1.value d p1.cases p1.draws) a b)) :: G = q ∧ OY p1 k t u c d = some (g, j, o, p) ∧ Slr Ty.str h (sv m) k) ?_ ?_
 ·refine Gh<|FK<|FD<|Em Z<|?_
  obtain ⟨V, w, R, H⟩ := Ig H
  refine Ow.shift (Pu2 (Sd ?_))
  refine FT Z (Ek Tryz.call57 Z (HN e p0 f (⟨#[116, 114, 121]⟩ : ByteArray) V w R _ _ i) ?_)
  rintro _ _ _ - ⟨rfl, rfl, rfl⟩
  refine Ea Z<|FH<|?_
  refine F2 Z ?_ ?_
  ·intro r
   have H := ift r H
   refine FD<|EF 1 Z<|?_
   refine FT rfl (So [(Vi 1)] (FM (Op.mk p1.kind 1 p1.channel p1.value p1.deadline p1.cases p1.draws) a b) Z (.there (.there .here)) Z ?_)
   exact FH<|Pu2<|Pu2<|Pu2<|Sd<|⟨_, by exact R2, f, p0.l, w, p0.bad, 1, p1.deadline, Z, Z, H, i⟩
  ·intro r
   have H := Gu (btf r) H
   refine FK<|FD<|Em Z<|?_
   obtain ⟨W, x, S, H⟩ := Ig H
   refine FT Z (Ek Tryz.call57 Z (HN e (FO.mk p0.l w p0.bad) f (⟨#[117, 110, 116, 105, 108]⟩ : ByteArray) W x S _ _ i) ?_)
   rintro _ _ _ - ⟨rfl, rfl, rfl⟩
   refine Ea Z<|FH<|?_
   refine F2 Z ?_ ?_
   ·intro s
    have H := ift s H
    refine FK<|FD<|EF 1 Z<|?_
    refine FT rfl (So [(Vi 2)] (FM (Op.mk p1.kind 2 p1.channel p1.value p1.deadline p1.cases p1.draws) a b) Z (.there (.there .here)) Z ?_)
    refine FH<|FD<|Em Z<|?_
    obtain ⟨n, E, F, I, T, H⟩ := IN H
    refine FT Z (Ek Tryz.call58 Z (HU e (FO.mk p0.l x p0.bad) f n E F I T _ _ i) ?_)
    rintro _ X _ ae ⟨U, rfl, rfl, O⟩
    refine EF 4 Z ?_
    refine FT rfl (So [(Vi n)] (FM (Op.mk p1.kind 2 p1.channel p1.value n p1.cases p1.draws) a b) Z (.there (.there .here)) Z ?_)
    exact FH<|Pu2<|Pu2<|Pu2<|Sd<|⟨_, by exact R2, U, E, F, I, 2, n, Z, Z, H, O⟩
   ·intro s
    have H := Gu (btf s) H
    exact F8<|Pu2<|Pu2<|Pu2<|Sd<|⟨_, by exact R2, f, p0.l, x, p0.bad, p1.mode, p1.deadline, Z, Z, H, i⟩
 rintro _ Y _ A ⟨m, k, t, u, c, d, rfl, rfl, H, N⟩
 unfold OY at H
 refine FK<|FD<|EL 7 (FM (Op.mk p1.kind c p1.channel p1.value d p1.cases p1.draws) a b) Z (Rb2 Z)<|?_
 refine FT rfl (Sa (FM (Op.mk p1.kind c p1.channel p1.value d p1.cases p1.draws) a b) Z (.there .here) Z ?_)
 refine FH<|Gg<|?_
 obtain ⟨aa, ad, ab, ac⟩ := K9 H
 subst g j o p
 refine ⟨(.inl rfl), [(.agg (FM (Op.mk p1.kind c p1.channel p1.value d p1.cases p1.draws) a b).toArray)], ⟨(.agg (FM (Op.mk p1.kind c p1.channel p1.value d p1.cases p1.draws) a b).toArray), _, rfl, ⟨_, 7, (FM (Op.mk p1.kind c p1.channel p1.value d p1.cases p1.draws) a b), rfl, rfl, rfl, rfl, ⟨rfl, Rb1 Z⟩, rfl⟩, rfl⟩, ?_⟩
 refine Re1<|Re1<|?_
 have P := L.mono A
 have Q := M.mono A
 exact Sd ⟨a, b, m, Z, Z, P, Q, N⟩
theorem Hh (a : Nat) (p0 : FO) (j : SV) (f : Op) (h : ad7) (m : Int) (n : Bool) (H : M4 p0 = some (f, h, m, n)) (K : Kp) (G : List Ent) (w : Slr Ty.str K (sv j) p0.l) :
  Fc Tryz.prog 61 #[(Vp a)] K ((.blk a 97 (F5 p0 j)) :: G) (fun v c r => ∃ (b6 b7 b8 : SV), v = (.agg (FM f b6 b7).toArray) ∧ (.blk a 97 (F5 (FO.mk h m n) b8)) :: G = r ∧ Slr Gp c (sv b6) f.cases ∧ Slr Ty.i64 c (sv b7) f.draws ∧ Slr Ty.str c (sv b8) h) := by
 refine Gx Tryz.func61 Z Tryz.ntmps61 Tryz.results61 Z ?_
 unfold M4 at H
 refine FK<|FD<|?_
 refine FT Z (GE (cs := (FM (Op.mk 0 0 0 0 0 [] []) FZ FZ)) Z Z Z Z (fun s => ?_))
 refine FH ?_
 refine Gk (fun u c r => ∃ (aZ : Int), [(0, (Vp a)), (2, (Vp s))] = u ∧ K = c ∧ (.blk a 97 (F5 (FO.mk p0.l aZ p0.bad) j)) :: (.blk s 70 (FM (Op.mk 0 0 0 0 0 [] []) FZ FZ)) :: G = r ∧ P1 p0 aZ = some (f, h, m, n)) ?_ ?_
 ·refine Gh<|FK<|FD<|Em Z<|?_
  obtain ⟨eh, br, dG, H⟩ := Ig H
  refine Ow.shift (Pu1 (Sd ?_))
  refine FT Z (Ek Tryz.call57 Z (HN a p0 j (⟨#[115, 101, 110, 100]⟩ : ByteArray) eh br dG _ _ w) ?_)
  rintro _ _ _ - ⟨rfl, rfl, rfl⟩
  refine Ea Z<|FH<|?_
  refine F2 Z ?_ ?_
  ·intro a6
   have H := ift a6 H
   refine FK<|FD<|Em Z<|?_
   obtain ⟨am, bs, b9, ca, dH, H⟩ := IN H
   refine FT Z (Ek Tryz.call58 Z (HU a (FO.mk p0.l br p0.bad) j am bs b9 ca dH _ _ w) ?_)
   rintro _ eJ _ e9 ⟨b2, rfl, rfl, bT⟩
   refine Eq Z (GH (cs := (FM (Op.mk 1 0 am 0 0 [] []) FZ FZ)) Z Z Z Z Z Z) ?_
   refine FT Z (GE (cs := (FM (Op.mk 0 0 0 0 0 [] []) FZ FZ)) Z Z Z Z (fun e7 => ?_))
   refine FT Z (Sa (FM (Op.mk 1 0 am 0 0 [] []) FZ FZ) Z .here Z ?_)
   refine FH<|FK<|FD<|Em Z<|?_
   obtain ⟨aH, cb, cc, dI, H⟩ := Ix H
   refine Ow.shift (Pu1 (Sd ?_))
   refine FT Z (Ek Tryz.call59 Z (Ku a (FO.mk bs b9 ca) b2 aH cb cc dI _ _ bT) ?_)
   rintro _ eK _ cz ⟨rfl, rfl⟩
   refine EF 3 Z ?_
   refine FT Z (So [(.int .u64 aH)] (FM (Op.mk 1 0 am aH 0 [] []) FZ FZ) Z (.there .here) Z ?_)
   refine FH<|FK<|FD<|Em Z<|EL 7 (FM (Op.mk 1 0 am aH 0 [] []) FZ FZ) Z (Rb1 Z)<|?_
   obtain ⟨aI, ei, ej, ek, dJ, H⟩ := IN H
   have cR := bT.mono cz
   refine FT Z (Ek Tryz.call82 Z (Js a (FO.mk bs cb cc) b2 (Op.mk 1 0 am aH 0 [] []) FZ FZ aI ei ej ek dJ _ _ cR (Slr.nil Gp _) (Slr.nil Ty.i64 _)) ?_)
   rintro _ eL _ fa ⟨av, aw, d5, rfl, rfl, cS, cT, cU⟩
   refine FT Z (Sa (FM aI av aw) Z (.there (.there .here)) Z ?_)
   refine FH<|Gg<|?_
   obtain ⟨Q, U, R, S⟩ := K9 H
   subst f h m n
   refine ⟨(.inl Z), [(.agg (FM aI av aw).toArray)], ⟨(.agg (FM aI av aw).toArray), _, Z, ⟨_, 7, (FM aI av aw), Z, Z, Z, Z, ⟨Z, Rb2 Z⟩, Z⟩, Z⟩, ?_⟩
   exact Re1<|Re1<|Sd<|⟨av, aw, d5, Z, Z, cS, cT, cU⟩
  ·intro a6
   have H := Gu (btf a6) H
   refine FK<|FD<|Em Z<|?_
   obtain ⟨el, bt, dK, H⟩ := Ig H
   refine FT Z (Ek Tryz.call57 Z (HN a (FO.mk p0.l br p0.bad) j (⟨#[114, 101, 99, 118]⟩ : ByteArray) el bt dK _ _ w) ?_)
   rintro _ _ _ - ⟨rfl, rfl, rfl⟩
   refine Ea Z<|FH<|?_
   refine F2 Z ?_ ?_
   ·intro a7
    have H := ift a7 H
    refine FK<|FD<|Em Z<|Em Z<|?_
    obtain ⟨bu, cd, ce, cf, dL, H⟩ := IN H
    refine FT Z (Ek Tryz.call58 Z (HU a (FO.mk p0.l bt p0.bad) j bu cd ce cf dL _ _ w) ?_)
    rintro _ eM _ fb ⟨d6, rfl, rfl, cV⟩
    refine Eq Z (GH (cs := (FM (Op.mk 2 0 bu 0 0 [] []) FZ FZ)) Z Z Z Z Z Z) ?_
    obtain ⟨aJ, em, en, eo, dM, H⟩ := IN H
    refine FT Z (Ek Tryz.call82 Z (Js a (FO.mk cd ce cf) d6 (Op.mk 2 0 bu 0 0 [] []) FZ FZ aJ em en eo dM _ _ cV (Slr.nil Gp _) (Slr.nil Ty.i64 _)) ?_)
    rintro _ eN _ fc ⟨ax, ay, d7, rfl, rfl, cW, cX, cY⟩
    refine FT Z (Sa (FM aJ ax ay) Z (.there .here) Z ?_)
    refine FH<|Gg<|?_
    obtain ⟨Q, U, R, S⟩ := K9 H
    subst f h m n
    refine ⟨(.inl Z), [(.agg (FM aJ ax ay).toArray)], ⟨(.agg (FM aJ ax ay).toArray), _, Z, ⟨_, 7, (FM aJ ax ay), Z, Z, Z, Z, ⟨Z, Rb1 Z⟩, Z⟩, Z⟩, ?_⟩
    exact Re1<|Sd<|⟨ax, ay, d7, Z, Z, cW, cX, cY⟩
   ·intro a7
    have H := Gu (btf a7) H
    refine FK<|FD<|Em Z<|?_
    obtain ⟨ep, bv, dN, H⟩ := Ig H
    refine FT Z (Ek Tryz.call57 Z (HN a (FO.mk p0.l bt p0.bad) j (⟨#[99, 108, 111, 115, 101]⟩ : ByteArray) ep bv dN _ _ w) ?_)
    rintro _ _ _ - ⟨rfl, rfl, rfl⟩
    refine Ea Z<|FH<|?_
    refine F2 Z ?_ ?_
    ·intro a8
     have H := ift a8 H
     refine FK<|FD<|Em Z<|Em Z<|?_
     obtain ⟨bw, cg, ch, ci, dO, H⟩ := IN H
     refine FT Z (Ek Tryz.call58 Z (HU a (FO.mk p0.l bv p0.bad) j bw cg ch ci dO _ _ w) ?_)
     rintro _ eO _ fd ⟨d8, rfl, rfl, cZ⟩
     refine Eq Z (GH (cs := (FM (Op.mk 3 0 bw 0 0 [] []) FZ FZ)) Z Z Z Z Z Z) ?_
     obtain ⟨aK, er, es, et, dP, H⟩ := IN H
     refine FT Z (Ek Tryz.call82 Z (Js a (FO.mk cg ch ci) d8 (Op.mk 3 0 bw 0 0 [] []) FZ FZ aK er es et dP _ _ cZ (Slr.nil Gp _) (Slr.nil Ty.i64 _)) ?_)
     rintro _ eP _ fe ⟨az, aA, d9, rfl, rfl, c0, c1, c2⟩
     refine FT Z (Sa (FM aK az aA) Z (.there .here) Z ?_)
     refine FH<|Gg<|?_
     obtain ⟨Q, U, R, S⟩ := K9 H
     subst f h m n
     refine ⟨(.inl Z), [(.agg (FM aK az aA).toArray)], ⟨(.agg (FM aK az aA).toArray), _, Z, ⟨_, 7, (FM aK az aA), Z, Z, Z, Z, ⟨Z, Rb1 Z⟩, Z⟩, Z⟩, ?_⟩
     exact Re1<|Sd<|⟨az, aA, d9, Z, Z, c0, c1, c2⟩
    ·intro a8
     have H := Gu (btf a8) H
     refine FK<|FD<|Em Z<|?_
     obtain ⟨eu, bx, dQ, H⟩ := Ig H
     refine FT Z (Ek Tryz.call57 Z (HN a (FO.mk p0.l bv p0.bad) j (⟨#[108, 101, 110]⟩ : ByteArray) eu bx dQ _ _ w) ?_)
     rintro _ _ _ - ⟨rfl, rfl, rfl⟩
     refine Ea Z<|FH<|?_
     refine F2 Z ?_ ?_
     ·intro a9
      have H := ift a9 H
      refine FK<|FD<|Em Z<|Em Z<|?_
      obtain ⟨bz, cj, ck, cl, dR, H⟩ := IN H
      refine FT Z (Ek Tryz.call58 Z (HU a (FO.mk p0.l bx p0.bad) j bz cj ck cl dR _ _ w) ?_)
      rintro _ eQ _ ff ⟨ea, rfl, rfl, c3⟩
      refine Eq Z (GH (cs := (FM (Op.mk 5 0 bz 0 0 [] []) FZ FZ)) Z Z Z Z Z Z) ?_
      obtain ⟨aL, ev, ew, ex, dS, H⟩ := IN H
      refine FT Z (Ek Tryz.call82 Z (Js a (FO.mk cj ck cl) ea (Op.mk 5 0 bz 0 0 [] []) FZ FZ aL ev ew ex dS _ _ c3 (Slr.nil Gp _) (Slr.nil Ty.i64 _)) ?_)
      rintro _ eR _ fg ⟨aB, aC, eb, rfl, rfl, c4, c5, c6⟩
      refine FT Z (Sa (FM aL aB aC) Z (.there .here) Z ?_)
      refine FH<|Gg<|?_
      obtain ⟨Q, U, R, S⟩ := K9 H
      subst f h m n
      refine ⟨(.inl Z), [(.agg (FM aL aB aC).toArray)], ⟨(.agg (FM aL aB aC).toArray), _, Z, ⟨_, 7, (FM aL aB aC), Z, Z, Z, Z, ⟨Z, Rb1 Z⟩, Z⟩, Z⟩, ?_⟩
      exact Re1<|Sd<|⟨aB, aC, eb, Z, Z, c4, c5, c6⟩
     ·intro a9
      have H := Gu (btf a9) H
      refine FK<|FD<|Em Z<|?_
      obtain ⟨ey, bA, dT, H⟩ := Ig H
      refine FT Z (Ek Tryz.call57 Z (HN a (FO.mk p0.l bx p0.bad) j (⟨#[99, 97, 112]⟩ : ByteArray) ey bA dT _ _ w) ?_)
      rintro _ _ _ - ⟨rfl, rfl, rfl⟩
      refine Ea Z<|FH<|?_
      refine F2 Z ?_ ?_
      ·intro ba
       have H := ift ba H
       refine FK<|FD<|Em Z<|Em Z<|?_
       obtain ⟨bB, cm, cn, co, dU, H⟩ := IN H
       refine FT Z (Ek Tryz.call58 Z (HU a (FO.mk p0.l bA p0.bad) j bB cm cn co dU _ _ w) ?_)
       rintro _ eS _ fh ⟨ec, rfl, rfl, c7⟩
       refine Eq Z (GH (cs := (FM (Op.mk 6 0 bB 0 0 [] []) FZ FZ)) Z Z Z Z Z Z) ?_
       obtain ⟨aM, ez, eA, eB, dV, H⟩ := IN H
       refine FT Z (Ek Tryz.call82 Z (Js a (FO.mk cm cn co) ec (Op.mk 6 0 bB 0 0 [] []) FZ FZ aM ez eA eB dV _ _ c7 (Slr.nil Gp _) (Slr.nil Ty.i64 _)) ?_)
       rintro _ eT _ fi ⟨aD, aE, ed, rfl, rfl, c8, c9, da⟩
       refine FT Z (Sa (FM aM aD aE) Z (.there .here) Z ?_)
       refine FH<|Gg<|?_
       obtain ⟨Q, U, R, S⟩ := K9 H
       subst f h m n
       refine ⟨(.inl Z), [(.agg (FM aM aD aE).toArray)], ⟨(.agg (FM aM aD aE).toArray), _, Z, ⟨_, 7, (FM aM aD aE), Z, Z, Z, Z, ⟨Z, Rb1 Z⟩, Z⟩, Z⟩, ?_⟩
       exact Re1<|Sd<|⟨aD, aE, ed, Z, Z, c8, c9, da⟩
      ·intro ba
       have H := Gu (btf ba) H
       refine FK<|FD<|Em Z<|?_
       obtain ⟨eC, bC, dW, H⟩ := Ig H
       refine FT Z (Ek Tryz.call57 Z (HN a (FO.mk p0.l bA p0.bad) j (⟨#[115, 101, 108, 101, 99, 116]⟩ : ByteArray) eC bC dW _ _ w) ?_)
       rintro _ _ _ - ⟨rfl, rfl, rfl⟩
       refine Ea Z<|FH<|?_
       refine F2 Z ?_ ?_
       ·intro bb
        have H := ift bb H
        refine FK<|FD<|Eq Z (GH (cs := (FM (Op.mk 4 0 0 0 0 [] []) FZ FZ)) Z Z Z Z Z Z)<|?_
        refine FT Z (GE (cs := (FM (Op.mk 0 0 0 0 0 [] []) FZ FZ)) Z Z Z Z (fun x => ?_))
        refine FT Z (Sa (FM (Op.mk 4 0 0 0 0 [] []) FZ FZ) Z .here Z ?_)
        refine FH ?_
        refine Gk (fun u c r => ∃ (O : SV) (N : ad7) (aq : Int) (aj : Bool) (b : SV) (e : ae3), [(0, (Vp a)), (2, (Vp s)), (4, (Vp x))] = u ∧ (.blk a 97 (F5 (FO.mk N aq aj) O)) :: (.blk x 70 (FM (Op.mk 4 0 0 0 0 e []) b FZ)) :: (.blk s 70 (FM (Op.mk 0 0 0 0 0 [] []) FZ FZ)) :: (.tok 101 3 [(sv b)]) :: G = r ∧ OZ N aq aj e = some (f, h, m, n) ∧ Slr Ty.str c (sv O) N ∧ Slr Gp c (sv b) e) ?_ ?_
        ·refine Gh ?_
         refine Gv (fun b0 u c r => ∃ (D : SV) (y : ad7) (ar : Int) (z : Bool) (E : SV) (ag : ae3), [(0, (Vp a)), (2, (Vp s)), (4, (Vp x))] = u ∧ (.blk a 97 (F5 (FO.mk y ar z) D)) :: (.blk x 70 (FM (Op.mk 4 0 0 0 0 ag []) E FZ)) :: (.blk s 70 (FM (Op.mk 0 0 0 0 0 [] []) FZ FZ)) :: (.tok 101 3 [(sv E)]) :: G = r ∧ lp4 (Ly) b0 y ar z ag = some (f, h, m, n) ∧ Slr Ty.str c (sv D) y ∧ Slr Gp c (sv E) ag) BIG ?_ ?_
         ·exact Shift.nilTok1 101 3<|Pu3<|Pu2<|Pu3<|Sd<|⟨_, by exact R3, j, p0.l, bC, p0.bad, FZ, ([] : ae3), Z, Z, H, w, (Slr.nil Gp _)⟩
         rintro b0 _ eU _ fj ⟨D, y, ar, z, E, ag, rfl, rfl, H, Y, ad⟩
         obtain ⟨fo, fn, rfl, aU, H⟩ := Wc H
         unfold Ly at H
         refine FK<|FK<|FD<|Em Z<|Eq Z (FN Z)<|EF 2 Z<|El (.bool z) Z (Rb0 Z)<|Eq Z (GW Z)<|FH<|?_
         refine F2 Z ?_ ?_
         ·intro V
          have V := GR V
          have H := Gu (btf V) H
          refine F8<|Gh<|FK<|FD<|Em Z<|?_
          obtain ⟨eD, bD, dX, H⟩ := Ig H
          refine FT Z (Ek Tryz.call57 Z (HN a (FO.mk y ar z) D (⟨#[115, 101, 110, 100]⟩ : ByteArray) eD bD dX _ _ Y) ?_)
          rintro _ _ _ - ⟨rfl, rfl, rfl⟩
          refine FH ?_
          refine F2 Z ?_ ?_
          ·intro bc
           have H := ift bc H
           refine FK<|FD<|Em Z<|?_
           obtain ⟨L, bE, cp, cq, dY, H⟩ := IN H
           refine FT Z (Ek Tryz.call58 Z (HU a (FO.mk y bD z) D L bE cp cq dY _ _ Y) ?_)
           rintro _ eV _ cA ⟨b3, rfl, rfl, bU⟩
           refine Eq Z (GH (cs := (Gn (Case.mk true L 0))) Z Z Z Z Z Z) ?_
           refine FT Z (GE (cs := (Gn (Case.mk false 0 0))) Z Z Z Z (fun e8 => ?_))
           refine FT Z (Sa (Gn (Case.mk true L 0)) Z .here Z ?_)
           refine FH<|FK<|FD<|Em Z<|?_
           obtain ⟨P, cr, ct, dZ, H⟩ := Ix H
           refine Ow.shift (Pu1 (Sd ?_))
           refine FT Z (Ek Tryz.call59 Z (Ku a (FO.mk bE cp cq) b3 P cr ct dZ _ _ bU) ?_)
           rintro _ cv _ bJ ⟨rfl, rfl⟩
           refine EF 2 Z ?_
           refine FT Z (So [(.int .u64 P)] (Gn (Case.mk true L P)) Z (.there .here) Z ?_)
           refine FH<|FD<|EF 5 Z<|El (sv E) Z (Rb2 Z)<|EL 3 (Gn (Case.mk true L P)) Z (Rb1 Z)<|?_
           have bM : RowR Gp cv [(Gn (Case.mk true L P))] [(Case.mk true L P)] := RowR.cons Z (RowR.nil)
           refine FT Z (Gl (T := Gp) (rows := [(Gn (Case.mk true L P))]) (l := [(Case.mk true L P)]) Z Z Z bM Z Z Z Z Z Z Z Z (fun fq => ?_))
           obtain ⟨cu, d0, H⟩ := bnd H
           have dc := (ad.mono cA).mono bJ
           refine FT Z (F7 (T := Gp) (bytes := 24) (q := 0) Z Z Z dc Mb5 Z (SrcT.row Mb0 bM Z) d0 Z Z Z Z Z Z Z Z (fun bk eW cB db => ⟨_, (.there (.there (.there (.there (.there .here))))), ?_⟩))
           refine Ow.shift (Re0 (Sd ?_))
           refine EF 5 Z ?_
           refine FT Z (So [(sv bk)] (FM (Op.mk 4 0 0 0 0 cu []) bk FZ) Z (.there (.there .here)) Z ?_)
           refine FH<|Pu4<|Pu4<|Pu4<|Pu3<|Re4<|?_
           have dd := (bU.mono bJ).mono cB
           exact Sd ⟨_, by exact R3, _, Nat.lt_succ_self _, b3, bE, cr, ct, bk, cu, Z, Z, (aU ▸ H), dd, db⟩
          ·intro bc
           have H := Gu (btf bc) H
           refine FK<|FD<|Em Z<|?_
           obtain ⟨eE, a4, d1, H⟩ := Ig H
           refine FT Z (Ek Tryz.call57 Z (HN a (FO.mk y bD z) D (⟨#[114, 101, 99, 118]⟩ : ByteArray) eE a4 d1 _ _ Y) ?_)
           rintro _ _ _ - ⟨rfl, rfl, rfl⟩
           refine FH ?_
           refine F2 Z ?_ ?_
           ·intro bd
            have H := ift bd H
            obtain ⟨p, aN, aO, aP, bY, H⟩ := IN H
            obtain ⟨an, bh, H⟩ := bnd H
            refine Gm _ Z (Ic Mb2 In0)<|JF 0 5 Z<|Jm 2 Z<|?_
            refine Gf 1 3 (by kernel_rfl) ?_ ?_
            ·refine id (Jyq Z (FI (v := (sv E)) Z Z Z (Rb1 Z)) ⟨(Ic Mb2 In0), ?_⟩)
             refine Ao 3 Z ?_
             refine Ek Tryz.call58 Z (HU a (FO.mk y a4 z) D p aN aO aP bY _ _ Y) ?_
             rintro _ cw _ cC ⟨ee, rfl, rfl, de⟩
             refine ⟨(Ic Mb2 In0), ?_⟩
             refine Jq 4 Z (GH (cs := (Gn (Case.mk false p 0))) Z Z Z Z Z Z) ?_
             refine Ao 5 Z ?_
             have bN : RowR Gp cw [(Gn (Case.mk false p 0))] [(Case.mk false p 0)] := RowR.cons Z (RowR.nil)
             refine Gl (T := Gp) (rows := [(Gn (Case.mk false p 0))]) (l := [(Case.mk false p 0)]) Z Z Z bN Z Z Z Z Z Z Z Z (fun fr => ⟨(Ic Mb3 In0), ?_⟩)
             refine Ao 6 Z ?_
             have dg := ad.mono cC
             refine F7 (T := Gp) (bytes := 24) (q := 0) Z Z Z dg Mb4 Z (SrcT.row Mb0 bN Z) bh Z Z Z Z Z Z Z Z (fun bl eX cD df => ⟨_, (.there (.there (.there (.there .here)))), ⟨(Ic Mb3 In0), ?_⟩⟩)
             refine Aw.shift (Re0 (Sd ⟨(Ic Mb2 In0), ?_⟩))
             refine JF 7 5 Z ?_
             refine Ao 8 Z ?_
             refine So [(sv bl)] (FM (Op.mk 4 0 0 0 0 an []) bl FZ) Z (.there .here) Z ⟨(Ic Mb2 In0), ?_⟩
             refine Ad<|Pu3<|Pu3<|Pu3<|Pu3<|?_
             have dh := de.mono cD
             exact Sd ⟨_, by exact R3, _, Nat.lt_succ_self _, ee, aN, aO, aP, bl, an, Z, Z, (aU ▸ H), dh, df⟩
            ·refine id (Jy Z ?_)
             refine Ek Tryz.call58 Z (HU a (FO.mk y a4 z) D p aN aO aP bY _ _ Y) ?_
             rintro _ bH _ bK ⟨b4, rfl, rfl, bV⟩
             refine ⟨(Ic Mb2 In0), ?_⟩
             refine Jq 4 Z (GH (cs := (Gn (Case.mk false p 0))) Z Z Z Z Z Z) ?_
             refine Gf 1 5 (by kernel_rfl) ?_ ?_
             ·refine id (Jyq Z (FI (v := (sv E)) Z Z Z (Rb1 Z)) ⟨(Ic Mb2 In0), ?_⟩)
              refine Ao 5 Z ?_
              have bO : RowR Gp bH [(Gn (Case.mk false p 0))] [(Case.mk false p 0)] := RowR.cons Z (RowR.nil)
              refine Gl (T := Gp) (rows := [(Gn (Case.mk false p 0))]) (l := [(Case.mk false p 0)]) Z Z Z bO Z Z Z Z Z Z Z Z (fun fs => ⟨(Ic Mb3 In0), ?_⟩)
              refine Ao 6 Z ?_
              have dj := ad.mono bK
              refine F7 (T := Gp) (bytes := 24) (q := 0) Z Z Z dj Mb4 Z (SrcT.row Mb0 bO Z) bh Z Z Z Z Z Z Z Z (fun bm eY cE di => ⟨_, (.there (.there (.there (.there .here)))), ⟨(Ic Mb3 In0), ?_⟩⟩)
              refine Aw.shift (Re0 (Sd ⟨(Ic Mb2 In0), ?_⟩))
              refine JF 7 5 Z ?_
              refine Ao 8 Z ?_
              refine So [(sv bm)] (FM (Op.mk 4 0 0 0 0 an []) bm FZ) Z (.there .here) Z ⟨(Ic Mb2 In0), ?_⟩
              refine Ad<|Pu3<|Pu3<|Pu3<|Pu3<|?_
              have dk := bV.mono cE
              exact Sd ⟨_, by exact R3, _, Nat.lt_succ_self _, b4, aN, aO, aP, bm, an, Z, Z, (aU ▸ H), dk, di⟩
             ·refine id (Jy Z ?_)
              have bP : RowR Gp bH [(Gn (Case.mk false p 0))] [(Case.mk false p 0)] := RowR.cons Z (RowR.nil)
              refine Gl (T := Gp) (rows := [(Gn (Case.mk false p 0))]) (l := [(Case.mk false p 0)]) Z Z Z bP Z Z Z Z Z Z Z Z (fun ft => ⟨(Ic Mb3 In0), ?_⟩)
              refine FP 1 (by kernel_rfl) (Jyq Z (FI (v := (sv E)) Z Z Z (Rb2 Z)) ⟨(Ic Mb3 In0), ?_⟩)
              refine Ao 6 Z ?_
              have dm := ad.mono bK
              refine F7 (T := Gp) (bytes := 24) (q := 0) Z Z Z dm Mb4 Z (SrcT.row Mb0 bP Z) bh Z Z Z Z Z Z Z Z (fun bn eZ cF dl => ⟨_, (.there (.there (.there (.there .here)))), ⟨(Ic Mb3 In0), ?_⟩⟩)
              refine Aw.shift (Re0 (Sd ⟨(Ic Mb2 In0), ?_⟩))
              refine JF 7 5 Z ?_
              refine Ao 8 Z ?_
              refine So [(sv bn)] (FM (Op.mk 4 0 0 0 0 an []) bn FZ) Z (.there .here) Z ⟨(Ic Mb2 In0), ?_⟩
              refine Ad<|Pu3<|Pu3<|Pu3<|Pu3<|?_
              have dn := bV.mono cF
              exact Sd ⟨_, by exact R3, _, Nat.lt_succ_self _, b4, aN, aO, aP, bn, an, Z, Z, (aU ▸ H), dn, dl⟩
           ·intro bd
            have H := Gu (btf bd) H
            exact Gy<|Pu3<|Pu3<|Pu3<|Pu3<|Sd<|⟨_, by exact R3, D, y, a4, z, E, ag, Z, Z, H, Y, ad⟩
         ·intro V
          have V := GQ V
          have H := ift V H
          exact Gy<|Pu3<|Pu3<|Pu3<|Pu3<|Sd<|⟨_, by exact R3, D, y, ar, z, E, ag, Z, Z, H, Y, ad⟩
        rintro _ e0 _ fk ⟨O, N, aq, aj, b, e, rfl, rfl, H, aV, aW⟩
        unfold OZ at H
        refine Gk (fun u c r => ∃ (a3 : SV) (au : ad7) (a0 : Int) (a1 : Bool) (ak : SV) (ah : ad8), [(0, (Vp a)), (2, (Vp s)), (4, (Vp x))] = u ∧ (.blk a 97 (F5 (FO.mk au a0 a1) a3)) :: (.blk x 70 (FM (Op.mk 4 0 0 0 0 e ah) b ak)) :: (.blk s 70 (FM (Op.mk 0 0 0 0 0 [] []) FZ FZ)) :: (.tok 3 1 [(sv ak)]) :: (.tok 101 3 [(sv b)]) :: G = r ∧ NL e au a0 a1 ah = some (f, h, m, n) ∧ Slr Ty.str c (sv a3) au ∧ Slr Ty.i64 c (sv ak) ah) ?_ ?_
        ·refine FK<|FD<|EF 5 Z<|El (sv b) Z (Rb1 Z)<|Eq Z (Gt (T := Gp) aW Z Z)<|Ec Z<|FH<|?_
         refine F2 Z ?_ ?_
         ·intro ap
          obtain ⟨ap, H⟩ := It ap H
          refine FK<|FK<|FD<|Em Z<|?_
          obtain ⟨eF, bF, d2, H⟩ := Ig H
          refine FT Z (Ek Tryz.call57 Z (HN a (FO.mk N aq aj) O (⟨#[100, 114, 97, 119, 115]⟩ : ByteArray) eF bF d2 _ _ aV) ?_)
          rintro _ _ _ - ⟨rfl, rfl, rfl⟩
          refine Eq Z (GW Z)<|FH<|?_
          refine F2 Z ?_ ?_
          ·intro W
           have W := GR W
           have H := Gu (btf W) H
           refine FK<|FD<|Em Z<|Eq Z (FN Z)<|EF 2 Z<|?_
           refine FT Z (So [(.bool true)] (F5 (FO.mk N bF true) O) Z .here Z ?_)
           refine FH<|FK<|FD<|EL 7 (FM (Op.mk 4 0 0 0 0 e []) b FZ) Z (Rb1 Z)<|?_
           refine FT Z (Sa (FM (Op.mk 4 0 0 0 0 e []) b FZ) Z (.there (.there .here)) Z ?_)
           refine FH<|Gg<|?_
           obtain ⟨Q, U, R, S⟩ := K9 H
           subst f h m n
           refine ⟨(.inl Z), [(.agg (FM (Op.mk 4 0 0 0 0 e []) b FZ).toArray)], ⟨(.agg (FM (Op.mk 4 0 0 0 0 e []) b FZ).toArray), _, Z, ⟨_, 7, (FM (Op.mk 4 0 0 0 0 e []) b FZ), Z, Z, Z, Z, ⟨Z, Rb2 Z⟩, Z⟩, Z⟩, ?_⟩
           exact Re1<|Re1<|Re1<|Sd<|⟨b, FZ, O, Z, Z, aW, (Slr.nil Ty.i64 _), aV⟩
          ·intro W
           have W := GQ W
           have H := ift W H
           refine F8 ?_
           refine Gk (fun u c r => ∃ (al : SV) (aa : ad7) (af : Int) (a2 : Bool) (ac : SV) (ai : ad8), [(0, (Vp a)), (2, (Vp s)), (4, (Vp x))] = u ∧ (.blk a 97 (F5 (FO.mk aa af a2) al)) :: (.blk x 70 (FM (Op.mk 4 0 0 0 0 e ai) b ac)) :: (.blk s 70 (FM (Op.mk 0 0 0 0 0 [] []) FZ FZ)) :: (.tok 3 1 [(sv ac)]) :: (.tok 101 3 [(sv b)]) :: G = r ∧ M3 e aa af a2 ai = some (f, h, m, n) ∧ Slr Ty.str c (sv al) aa ∧ Slr Ty.i64 c (sv ac) ai) ?_ ?_
           ·refine Gh ?_
            refine Gv (fun b1 u c r => ∃ (o : SV) (B : ad7) (g : Int) (C : Bool) (F : SV) (ab : ad8), [(0, (Vp a)), (2, (Vp s)), (4, (Vp x))] = u ∧ (.blk a 97 (F5 (FO.mk B g C) o)) :: (.blk x 70 (FM (Op.mk 4 0 0 0 0 e ab) b F)) :: (.blk s 70 (FM (Op.mk 0 0 0 0 0 [] []) FZ FZ)) :: (.tok 3 1 [(sv F)]) :: (.tok 101 3 [(sv b)]) :: G = r ∧ lp4 (KV e) b1 B g C ab = some (f, h, m, n) ∧ Slr Ty.str c (sv o) B ∧ Slr Ty.i64 c (sv F) ab) BIG ?_ ?_
            ·exact Shift.nilTok1 3 1<|Pu4<|Pu1<|Pu4<|Pu4<|Pu4<|Sd<|⟨_, by exact R3, O, N, bF, aj, FZ, ([] : ad8), Z, Z, H, aV, (Slr.nil Ty.i64 _)⟩
            rintro b1 _ cx _ fl ⟨o, B, g, C, F, ab, rfl, rfl, H, i, aX⟩
            obtain ⟨fp, d4, rfl, bf, H⟩ := Wc H
            unfold KV at H
            refine FK ?_
            refine Gk (fun u c r => ∃ (bj : Bool), [(0, (Vp a)), (2, (Vp s)), (4, (Vp x)), (136, (.bool bj))] = u ∧ cx = c ∧ (.blk a 97 (F5 (FO.mk B g C) o)) :: (.blk x 70 (FM (Op.mk 4 0 0 0 0 e ab) b F)) :: (.blk s 70 (FM (Op.mk 0 0 0 0 0 [] []) FZ FZ)) :: (.tok 3 1 [(sv F)]) :: (.tok 101 3 [(sv b)]) :: G = r ∧ Jb B g C e ab d4 bj = some (f, h, m, n)) ?_ ?_
            ·rcases Ia (dcd (g < (B.length : Int))) with M | M <;> revert M
             ·intro I
              obtain ⟨I, H⟩ := It I H
              obtain ⟨a5, ae, H⟩ := bnd H
              rcases Ia (!(dcd (a5 = (⟨#[116, 114, 121]⟩ : ByteArray)))) with M | M <;> revert M
              ·intro A
               have A := GL (GR (A))
               have H := Gu A H
               obtain ⟨bG, aY, H⟩ := bnd H
               rcases Ia (!(dcd (bG = (⟨#[117, 110, 116, 105, 108]⟩ : ByteArray)))) with M | M <;> revert M
               ·intro J
                have J := GL (GR (J))
                have H := Gu J H
                refine Gm _ Z (Ic Mb0 (Ic Mb1 (Ic Mb2 (Ic Mb3 (Ic Mb4 In0)))))<|Jm 0 Z<|Jq 1 Z (FN Z)<|JF 2 1 Z<|Jl 3 (Vi g) Z (Rb0 Z)<|Jm 4 Z<|Jq 5 Z (FN Z)<|JF 6 0 Z<|Jl 7 (sv o) Z (Rb0 Z)<|Jq 8 Z (Gt (T := Ty.str) i Z Z)<|Jc 9 Z<|Jm 10 Z<|Aw.known (d := 104) Z (HE I)<|Bm 11 Z<|Bq 12 Z (FN Z)<|BF 13 0 Z<|Bl 14 (sv o) Z (Rb0 Z)<|Bm 15 Z<|Bq 16 Z (FN Z)<|BF 17 1 Z<|Bl 18 (Vi g) Z (Rb0 Z)<|?_
                obtain ⟨_, rfl, cM⟩ := Slr.at i ae
                refine Bq 19 Z (Qi (T := Ty.str) i ae Z)<|Bl 20 (.string a5) Z (Rdc.k cM Z)<|Bq 21 Z (HG Z Z)<|Jt 22 Z<|Jm 23 Z<|Aw.known (d := 117) Z (TB (Ib A))<|Bm 24 Z<|Bq 25 Z (FN Z)<|BF 26 0 Z<|Bl 27 (sv o) Z (Rb0 Z)<|Bm 28 Z<|Bq 29 Z (FN Z)<|BF 30 1 Z<|Bl 31 (Vi g) Z (Rb0 Z)<|?_
                obtain ⟨_, rfl, cN⟩ := Slr.at i aY
                exact Bq 32 Z (Qi (T := Ty.str) i aY Z)<|Bl 33 (.string bG) Z (Rdc.k cN Z)<|Bq 34 Z (HG Z Z)<|Jt 35 Z<|Jm 36 Z<|Aw.known (d := 130) Z (TB (Ib J))<|Bm 37 Z<|Bq 38 Z (FN Z)<|BF 39 2 Z<|Bl 40 (.bool C) Z (Rb0 Z)<|Bq 41 Z (GW Z)<|Jt 42 Z<|Ad<|Pu4<|Pu4<|Pu4<|Pu4<|Pu4<|Sd<|⟨_, by exact R4, (!(C)), Z, Z, Z, H⟩
               ·intro J
                have J := GM (GQ (J))
                have H := ift J H
                refine Gm _ Z (Ic Mb0 (Ic Mb1 (Ic Mb2 (Ic Mb3 (Ic Mb4 In0)))))<|Jm 0 Z<|Jq 1 Z (FN Z)<|JF 2 1 Z<|Jl 3 (Vi g) Z (Rb0 Z)<|Jm 4 Z<|Jq 5 Z (FN Z)<|JF 6 0 Z<|Jl 7 (sv o) Z (Rb0 Z)<|Jq 8 Z (Gt (T := Ty.str) i Z Z)<|Jc 9 Z<|Jm 10 Z<|Aw.known (d := 104) Z (HE I)<|Bm 11 Z<|Bq 12 Z (FN Z)<|BF 13 0 Z<|Bl 14 (sv o) Z (Rb0 Z)<|Bm 15 Z<|Bq 16 Z (FN Z)<|BF 17 1 Z<|Bl 18 (Vi g) Z (Rb0 Z)<|?_
                obtain ⟨_, rfl, cO⟩ := Slr.at i ae
                refine Bq 19 Z (Qi (T := Ty.str) i ae Z)<|Bl 20 (.string a5) Z (Rdc.k cO Z)<|Bq 21 Z (HG Z Z)<|Jt 22 Z<|Jm 23 Z<|Aw.known (d := 117) Z (TB (Ib A))<|Bm 24 Z<|Bq 25 Z (FN Z)<|BF 26 0 Z<|Bl 27 (sv o) Z (Rb0 Z)<|Bm 28 Z<|Bq 29 Z (FN Z)<|BF 30 1 Z<|Bl 31 (Vi g) Z (Rb0 Z)<|?_
                obtain ⟨_, rfl, cP⟩ := Slr.at i aY
                exact Bq 32 Z (Qi (T := Ty.str) i aY Z)<|Bl 33 (.string bG) Z (Rdc.k cP Z)<|Bq 34 Z (HG Z Z)<|Jt 35 Z<|Jm 36 Z<|Aw.known (d := 130) Z (Vn (HE J))<|Jz 37 Z<|Jz 38 Z<|Jz 39 Z<|Jz 40 Z<|Jz 41 Z<|Jf 42 Z<|Ad<|Pu4<|Pu4<|Pu4<|Pu4<|Pu4<|Sd<|⟨_, by exact R4, false, Z, Z, Z, H⟩
              ·intro A
               have A := GM (GQ (A))
               have H := ift A H
               refine Gm _ Z (Ic Mb0 (Ic Mb1 (Ic Mb2 (Ic Mb3 (Ic Mb4 In0)))))<|Jm 0 Z<|Jq 1 Z (FN Z)<|JF 2 1 Z<|Jl 3 (Vi g) Z (Rb0 Z)<|Jm 4 Z<|Jq 5 Z (FN Z)<|JF 6 0 Z<|Jl 7 (sv o) Z (Rb0 Z)<|Jq 8 Z (Gt (T := Ty.str) i Z Z)<|Jc 9 Z<|Jm 10 Z<|Aw.known (d := 104) Z (HE I)<|Bm 11 Z<|Bq 12 Z (FN Z)<|BF 13 0 Z<|Bl 14 (sv o) Z (Rb0 Z)<|Bm 15 Z<|Bq 16 Z (FN Z)<|BF 17 1 Z<|Bl 18 (Vi g) Z (Rb0 Z)<|?_
               obtain ⟨_, rfl, cQ⟩ := Slr.at i ae
               refine Bq 19 Z (Qi (T := Ty.str) i ae Z)<|Bl 20 (.string a5) Z (Rdc.k cQ Z)<|Bq 21 Z (HG Z Z)<|Jt 22 Z<|Jm 23 Z<|Aw.known (d := 117) Z (Vn (HE A))<|Jz 24 Z<|Jz 25 Z<|Jz 26 Z<|Jz 27 Z<|Jz 28 Z<|Jz 29 Z<|Jz 30 Z<|Jz 31 Z<|Jz 32 Z<|Jz 33 Z<|Jz 34 Z<|Jf 35 Z<|Jm 36 Z<|Jz 37 Z<|Jz 38 Z<|Jz 39 Z<|?_
               exact Jz 40 Z<|Jz 41 Z<|Jf 42 Z<|Ad<|Pu4<|Pu4<|Pu4<|Pu4<|Pu4<|Sd<|⟨_, by exact R4, false, Z, Z, Z, H⟩
             ·intro I
              obtain ⟨I, H⟩ := If I H
              refine Gm _ Z (Ic Mb0 (Ic Mb1 (Ic Mb2 (Ic Mb3 (Ic Mb4 In0)))))<|Jm 0 Z<|Jq 1 Z (FN Z)<|JF 2 1 Z<|Jl 3 (Vi g) Z (Rb0 Z)<|Jm 4 Z<|Jq 5 Z (FN Z)<|JF 6 0 Z<|Jl 7 (sv o) Z (Rb0 Z)<|Jq 8 Z (Gt (T := Ty.str) i Z Z)<|Jc 9 Z<|Jm 10 Z<|Aw.known (d := 104) Z (Ib I)<|Jz 11 Z<|Jz 12 Z<|Jz 13 Z<|Jz 14 Z<|Jz 15 Z<|Jz 16 Z<|Jz 17 Z<|Jz 18 Z<|Jz 19 Z<|?_
              refine Jz 20 Z<|Jz 21 Z<|Jf 22 Z<|Jm 23 Z<|Jz 24 Z<|Jz 25 Z<|Jz 26 Z<|Jz 27 Z<|Jz 28 Z<|Jz 29 Z<|Jz 30 Z<|Jz 31 Z<|Jz 32 Z<|Jz 33 Z<|Jz 34 Z<|Jf 35 Z<|Jm 36 Z<|Jz 37 Z<|Jz 38 Z<|Jz 39 Z<|Jz 40 Z<|Jz 41 Z<|?_
              exact Jf 42 Z<|Ad<|Pu4<|Pu4<|Pu4<|Pu4<|Pu4<|Sd<|⟨_, by exact R4, false, Z, Z, Z, H⟩
            rintro _ _ _ - ⟨bj, rfl, rfl, rfl, H⟩
            unfold Jb at H
            refine F2 Z ?_ ?_
            ·intro be
             have H := ift be H
             refine F8<|Gh<|?_
             obtain ⟨t, aQ, aR, aS, bZ, H⟩ := IN H
             obtain ⟨ao, bi, H⟩ := bnd H
             refine Gm _ Z (Ic Mb2 (Ic Mb4 In0))<|JF 0 6 Z<|Jm 2 Z<|?_
             refine Gf 1 3 (by kernel_rfl) ?_ ?_
             ·refine id (Jyq Z (FI (v := (sv F)) Z Z Z (Rb1 Z)) ⟨(Ic Mb2 (Ic Mb4 In0)), ?_⟩)
              refine Ao 3 Z ?_
              refine Ek Tryz.call58 Z (HU a (FO.mk B g C) o t aQ aR aS bZ _ _ i) ?_
              rintro _ cy _ cG ⟨ef, rfl, rfl, dr⟩
              refine ⟨(Ic Mb2 (Ic Mb4 In0)), ?_⟩
              refine Ao 4 Z ?_
              have bQ : RowR Ty.i64 cy [[(Vi t)]] [t] := RowR.cons Z (RowR.nil)
              refine Gl (T := Ty.i64) (rows := [[(Vi t)]]) (l := [t]) Z Z Z bQ Z Z Z Z Z Z Z Z (fun fu => ⟨(Ic Mb3 (Ic Mb5 In0)), ?_⟩)
              refine Ao 5 Z ?_
              have dt := aX.mono cG
              refine F7 (T := Ty.i64) (bytes := 8) (q := 0) Z Z Z dt Mb4 Z (SrcT.row Mb0 bQ Z) bi Z Z Z Z Z Z Z Z (fun bo e1 cH ds => ⟨_, (.there (.there (.there (.there .here)))), ⟨(Ic Mb3 (Ic Mb5 In0)), ?_⟩⟩)
              refine Aw.shift (Re0 (Sd ⟨(Ic Mb2 (Ic Mb4 In0)), ?_⟩))
              refine JF 6 6 Z ?_
              refine Ao 7 Z ?_
              refine So [(sv bo)] (FM (Op.mk 4 0 0 0 0 e ao) b bo) Z (.there .here) Z ⟨(Ic Mb2 (Ic Mb4 In0)), ?_⟩
              refine Ad<|Pu4<|Pu4<|Pu4<|Pu4<|Pu4<|?_
              have du := dr.mono cH
              exact Sd ⟨_, by exact R3, _, Nat.lt_succ_self _, ef, aQ, aR, aS, bo, ao, Z, Z, (bf ▸ H), du, ds⟩
             ·refine id (Jy Z ?_)
              refine Ek Tryz.call58 Z (HU a (FO.mk B g C) o t aQ aR aS bZ _ _ i) ?_
              rintro _ bI _ bL ⟨b5, rfl, rfl, bX⟩
              refine ⟨(Ic Mb2 (Ic Mb4 In0)), ?_⟩
              refine Gf 1 4 (by kernel_rfl) ?_ ?_
              ·refine id (Jyq Z (FI (v := (sv F)) Z Z Z (Rb1 Z)) ⟨(Ic Mb2 (Ic Mb4 In0)), ?_⟩)
               refine Ao 4 Z ?_
               have bR : RowR Ty.i64 bI [[(Vi t)]] [t] := RowR.cons Z (RowR.nil)
               refine Gl (T := Ty.i64) (rows := [[(Vi t)]]) (l := [t]) Z Z Z bR Z Z Z Z Z Z Z Z (fun fv => ⟨(Ic Mb3 (Ic Mb5 In0)), ?_⟩)
               refine Ao 5 Z ?_
               have dw := aX.mono bL
               refine F7 (T := Ty.i64) (bytes := 8) (q := 0) Z Z Z dw Mb4 Z (SrcT.row Mb0 bR Z) bi Z Z Z Z Z Z Z Z (fun bp e2 cI dv => ⟨_, (.there (.there (.there (.there .here)))), ⟨(Ic Mb3 (Ic Mb5 In0)), ?_⟩⟩)
               refine Aw.shift (Re0 (Sd ⟨(Ic Mb2 (Ic Mb4 In0)), ?_⟩))
               refine JF 6 6 Z ?_
               refine Ao 7 Z ?_
               refine So [(sv bp)] (FM (Op.mk 4 0 0 0 0 e ao) b bp) Z (.there .here) Z ⟨(Ic Mb2 (Ic Mb4 In0)), ?_⟩
               refine Ad<|Pu4<|Pu4<|Pu4<|Pu4<|Pu4<|?_
               have dx := bX.mono cI
               exact Sd ⟨_, by exact R3, _, Nat.lt_succ_self _, b5, aQ, aR, aS, bp, ao, Z, Z, (bf ▸ H), dx, dv⟩
              ·refine id (Jy Z ?_)
               have bS : RowR Ty.i64 bI [[(Vi t)]] [t] := RowR.cons Z (RowR.nil)
               refine Gl (T := Ty.i64) (rows := [[(Vi t)]]) (l := [t]) Z Z Z bS Z Z Z Z Z Z Z Z (fun fw => ⟨(Ic Mb3 (Ic Mb5 In0)), ?_⟩)
               refine FP 1 (by kernel_rfl) (Jyq Z (FI (v := (sv F)) Z Z Z (Rb2 Z)) ⟨(Ic Mb3 (Ic Mb5 In0)), ?_⟩)
               refine Ao 5 Z ?_
               have dz := aX.mono bL
               refine F7 (T := Ty.i64) (bytes := 8) (q := 0) Z Z Z dz Mb4 Z (SrcT.row Mb0 bS Z) bi Z Z Z Z Z Z Z Z (fun bq e3 cJ dy => ⟨_, (.there (.there (.there (.there .here)))), ⟨(Ic Mb3 (Ic Mb5 In0)), ?_⟩⟩)
               refine Aw.shift (Re0 (Sd ⟨(Ic Mb2 (Ic Mb4 In0)), ?_⟩))
               refine JF 6 6 Z ?_
               refine Ao 7 Z ?_
               refine So [(sv bq)] (FM (Op.mk 4 0 0 0 0 e ao) b bq) Z (.there .here) Z ⟨(Ic Mb2 (Ic Mb4 In0)), ?_⟩
               refine Ad<|Pu4<|Pu4<|Pu4<|Pu4<|Pu4<|?_
               have dA := bX.mono cJ
               exact Sd ⟨_, by exact R3, _, Nat.lt_succ_self _, b5, aQ, aR, aS, bq, ao, Z, Z, (bf ▸ H), dA, dy⟩
            ·intro be
             have H := Gu (btf be) H
             exact Gy<|Pu4<|Pu4<|Pu4<|Pu4<|Pu4<|Sd<|⟨_, by exact R3, o, B, g, C, F, ab, Z, Z, H, i, aX⟩
           rintro _ e4 _ cK ⟨al, aa, af, a2, ac, ai, rfl, rfl, H, bW, bg⟩
           unfold M3 at H
           refine FK<|FD<|EF 6 Z<|El (sv ac) Z (Rb1 Z)<|Eq Z (Gt (T := Ty.i64) bg Z Z)<|EF 5 Z<|El (sv b) Z (Rb1 Z)<|?_
           have dB := aW.mono cK
           refine Eq Z (Gt (T := Gp) dB Z Z)<|Ec Z<|FH<|?_
           refine F2 Z ?_ ?_
           ·intro X
            have X := GL (GR (X))
            have H := Gu X H
            refine FD<|Em Z<|Eq Z (FN Z)<|EF 2 Z<|?_
            refine FT Z (So [(.bool true)] (F5 (FO.mk aa af true) al) Z .here Z ?_)
            exact FH<|Pu4<|Pu4<|Pu4<|Pu4<|Pu4<|Sd<|⟨_, by exact R3, al, aa, af, true, ac, ai, Z, Z, H, bW, bg⟩
           ·intro X
            have X := GM (GQ (X))
            have H := ift X H
            exact F8<|Pu4<|Pu4<|Pu4<|Pu4<|Pu4<|Sd<|⟨_, by exact R3, al, aa, af, a2, ac, ai, Z, Z, H, bW, bg⟩
         ·intro ap
          obtain ⟨ap, H⟩ := If ap H
          exact F8<|Shift.nilTok1 3 1<|Pu4<|Pu1<|Pu4<|Pu4<|Pu4<|Sd<|⟨_, by exact R3, O, N, aq, aj, FZ, ([] : ad8), Z, Z, H, aV, (Slr.nil Ty.i64 _)⟩
        rintro _ e5 _ cL ⟨a3, au, a0, a1, ak, ah, rfl, rfl, H, dp, dq⟩
        unfold NL at H
        refine FK<|FD<|Em Z<|EL 7 (FM (Op.mk 4 0 0 0 0 e ah) b ak) Z (Rb1 Z)<|?_
        obtain ⟨aT, eG, eH, eI, d3, H⟩ := IN H
        have dC := aW.mono cL
        refine FT Z (Ek Tryz.call82 Z (Js a (FO.mk au a0 a1) a3 (Op.mk 4 0 0 0 0 e ah) b ak aT eG eH eI d3 _ _ dp dC dq) ?_)
        rintro _ e6 _ fm ⟨aF, aG, eg, rfl, rfl, dD, dE, dF⟩
        refine FT Z (Sa (FM aT aF aG) Z (.there (.there .here)) Z ?_)
        refine FH<|Gg<|?_
        obtain ⟨Q, U, R, S⟩ := K9 H
        subst f h m n
        refine ⟨(.inl Z), [(.agg (FM aT aF aG).toArray)], ⟨(.agg (FM aT aF aG).toArray), _, Z, ⟨_, 7, (FM aT aF aG), Z, Z, Z, Z, ⟨Z, Rb2 Z⟩, Z⟩, Z⟩, ?_⟩
        exact Re1<|Re1<|Re1<|Re1<|Sd<|⟨aF, aG, eg, Z, Z, dD, dE, dF⟩
       ·intro bb
        have H := Gu (btf bb) H
        exact F8<|Pu1<|Pu1<|Sd<|⟨_, by exact R2, bC, Z, Z, Z, H⟩
 rintro _ _ _ - ⟨aZ, rfl, rfl, rfl, H⟩
 unfold P1 at H
 refine FK<|FD<|Em Z<|Eq Z (FN Z)<|EF 2 Z<|?_
 refine FT Z (So [(.bool true)] (F5 (FO.mk p0.l aZ true) j) Z .here Z ?_)
 refine FH<|FK<|FD<|Eq Z (GH (cs := (FM (Op.mk 0 0 0 0 0 [] []) FZ FZ)) Z Z Z Z Z Z)<|?_
 refine FT Z (Sa (FM (Op.mk 0 0 0 0 0 [] []) FZ FZ) Z (.there .here) Z ?_)
 refine FH<|Gg<|?_
 obtain ⟨Q, U, R, S⟩ := K9 H
 subst f h m n
 refine ⟨(.inl Z), [(.agg (FM (Op.mk 0 0 0 0 0 [] []) FZ FZ).toArray)], ⟨(.agg (FM (Op.mk 0 0 0 0 0 [] []) FZ FZ).toArray), _, Z, ⟨_, 7, (FM (Op.mk 0 0 0 0 0 [] []) FZ FZ), Z, Z, Z, Z, ⟨Z, Rb1 Z⟩, Z⟩, Z⟩, ?_⟩
 exact Re1<|Sd<|⟨FZ, FZ, j, Z, Z, (Slr.nil Gp _), (Slr.nil Ty.i64 _), w⟩
end Go.Hx
