
import Derived.Test.YtcopfjjpiobclaaGreatDoorXSM
import Derived.Test.YtcopfjjpiobclaaGreatDoorXSWCases
import Derived.Test.YtcopfjjpiobclaaGreatDoorXSWScript1
import Derived.Test.YtcopfjjpiobclaaGreatDoorXSWStrings
import Derived.Test.YtcopfjjpiobclaaGreatDoorXSWStrconv
set_option linter.unusedVariables false
set_option linter.unusedSimpArgs false
namespace Go.Hx
open Go Go.Proofs
set_option maxRecDepth 10000
set_option maxHeartbeats 1000000
theorem UA (N : Nat) (p0 : FQ) (u : SV) (P : List (List Value)) (f : SV) (Q : List (List Value)) (a : SV) (h : List Value) (c : SV) (L : List (List Value)) (p1 : ByteArray) (F : Bool) (B E : ad8) (I : Int) (C : ae8) (D : ad8) (H : L9 p0 p1 = some (F, B, E, I, C, D)) (K : Kp) (G : List Ent) (t : RowR Ty.i64 K P p0.cnfg.capacities) (p : RowR Ty.u64 K Q p0.cnfg.starts) (ac : RowR (Ty.sl FU) K (h.map one) p0.ops) (Y : RowR Ty.i64 K L p0.picks) (hT : TabK K) :
  Fc Tryz.prog 27 #[(Vp N), (.string p1)] K ((.blk N 33 (FG p0 u f a c)) :: (.row (sv u) 3 1 P.flatten) :: (.row (sv f) 53 1 Q.flatten) :: (.row (sv a) 51 1 (h.map one).flatten) :: (.tok 70 7 h) :: (.row (sv c) 3 1 L.flatten) :: G) (fun v y J => ∃ (fP : SV) (fG : List (List Value)) (fS : SV) (fI : List (List Value)) (fQ : SV) (ek : List Value) (fR : SV) (fH : List (List Value)), v = (.bool F) ∧ (.blk N 33 (FG (FQ.mk (FW.mk B E I) C D) fP fS fQ fR)) :: (.row (sv fP) 3 1 fG.flatten) :: (.row (sv fS) 53 1 fI.flatten) :: (.row (sv fQ) 51 1 (ek.map one).flatten) :: (.tok 70 7 ek) :: (.row (sv fR) 3 1 fH.flatten) :: G = J ∧ RowR Ty.i64 y fG B ∧ RowR Ty.u64 y fI E ∧ RowR (Ty.sl FU) y (ek.map one) C ∧ RowR Ty.i64 y fH D) := by
 refine Gx Tryz.func27 Z Tryz.ntmps27 Tryz.results27 Z ?_
 unfold L9 at H
 refine FK<|FD<|Ea Z<|FH<|FK<|FK<|FD<|Em Z<|?_
 obtain ⟨fT, mt, kT, H⟩ := Ig H
 refine FT Z (Ek Tryz.call50 Z (V4 p1 (⟨#[32, 32]⟩ : ByteArray) fT mt kT _ _ hT) ?_)
 rintro _ _ _ - ⟨rfl, rfl, rfl⟩
 refine Em Z<|Ex Z<|Ex Z<|Ea Z<|Ea Z<|FH<|FK<|FD<|Em Z<|FH<|?_
 refine F2 Z ?_ ?_
 ·intro c7
  have H := ift c7 H
  refine FK<|FD<|Em Z<|?_
  obtain ⟨c4, kU, H⟩ := bnd H
  refine FT Z (Ek Tryz.call51 Z (QR fT (⟨#[32]⟩ : ByteArray) c4 kU _ _ hT) ?_)
  rintro _ _ _ - ⟨dA, oN, rfl, rfl, rfl, ik⟩
  refine Ow.shift (Shift.settle (T := Ty.str) .here ik Z (fun mx X il => Sd ?_))
  refine Eq Z (GH (cs := (F9 (FR.mk c4 false) dA)) Z Z Z Z Z Z) ?_
  refine FT Z (GX (cs := (F9 (FR.mk c4 false) dA)) Z Z Z (fun fX => ?_))
  refine Ea Z<|FH<|FK<|FD<|Em Z<|?_
  obtain ⟨k, mu, fU, kV, H⟩ := Ix H
  have im := hT.mono X
  refine FT Z (Ek Tryz.call52 Z (Uz fX (FR.mk c4 false) dA k mu fU kV _ _ il im) ?_)
  rintro _ M _ aa ⟨r, s, mj, rfl, rfl, R, S, io⟩
  refine FT Z (GE (cs := (FM (Op.mk 0 0 0 0 0 [] []) FZ FZ)) Z Z Z Z (fun em => ?_))
  refine FT Z (Sa (FM k r s) Z .here Z ?_)
  refine FH<|FK<|?_
  refine Gk (fun O y J => ∃ (dy : Bool), [(0, (Vp N)), (8, (Vp em)), (52, (.bool dy))] = O ∧ M = y ∧ (.blk N 33 (FG p0 u f a c)) :: (.blk em 70 (FM k r s)) :: (.tok 101 3 [(sv r)]) :: (.tok 3 1 [(sv s)]) :: (.row (sv u) 3 1 P.flatten) :: (.row (sv f) 53 1 Q.flatten) :: (.row (sv a) 51 1 (h.map one).flatten) :: (.tok 70 7 h) :: (.row (sv c) 3 1 L.flatten) :: G = J ∧ Lp p0 k dy = some (F, B, E, I, C, D)) ?_ ?_
  ·refine FD<|Em Z<|Eq Z (FN Z)<|EF 1 Z<|El (.bool fU) Z (Rb1 Z)<|Em Z<|?_
   refine Ee Z ?_ ?_
   ·intro c8
    have H := ift c8 H
    refine Ez Z<|Ez Z<|Ez Z<|Ez Z<|Ez Z<|Ez Z<|Et Z<|Em Z<|Ez Z<|Ez Z<|Ez Z<|Ez Z<|Ez Z<|Ez Z<|Et Z<|Em Z<|Ez Z<|Ez Z<|Ez Z<|Ez Z<|Ez Z<|Ez Z<|?_
    exact Et Z<|FH<|Im<|Im<|Im<|Im<|Im<|Pu8<|Pu8<|Pu7<|Im<|Re9<|Re9<|Sd<|⟨_, by exact R3, true, Z, Z, Z, H⟩
   ·intro c8
    have H := Gu (btf c8) H
    refine Vm Z<|Vq Z (FN Z)<|VF 0 Z<|Vl (sv mj) Z (Rb1 Z)<|Vq Z (Gt (T := Ty.str) io Z Z)<|Vc Z<|Ef Z<|Em Z<|?_
    refine Ee Z ?_ ?_
    ·intro a2
     obtain ⟨a2, H⟩ := It a2 H
     refine Ez Z<|Ez Z<|Ez Z<|Ez Z<|Ez Z<|Ez Z<|Et Z<|Em Z<|Ez Z<|Ez Z<|Ez Z<|Ez Z<|Ez Z<|Ez Z<|Et Z<|FH<|Im<|Im<|Im<|Im<|Im<|Pu8<|?_
     exact Pu8<|Pu7<|Im<|Re9<|Re9<|Sd<|⟨_, by exact R3, true, Z, Z, Z, H⟩
    ·intro a2
     obtain ⟨a2, H⟩ := If a2 H
     refine Vm Z<|Vq Z (FN Z)<|VF 3 Z<|Vl (sv a) Z (Rb5 Z)<|?_
     have ip := (ac.mono X).mono aa
     refine Vq Z (Ik (T := (Ty.sl FU)) Mb8 ip Z Z Z)<|Vc Z<|Ef Z<|Em Z<|?_
     refine Ee Z ?_ ?_
     ·intro a3
      obtain ⟨a3, H⟩ := It a3 H
      exact Ez Z<|Ez Z<|Ez Z<|Ez Z<|Ez Z<|Ez Z<|Et Z<|FH<|Im<|Im<|Im<|Im<|Im<|Pu8<|Pu8<|Pu7<|Im<|Re9<|Re9<|Sd<|⟨_, by exact R3, true, Z, Z, Z, H⟩
     ·intro a3
      obtain ⟨a3, H⟩ := If a3 H
      refine Vm Z<|Vq Z (FN Z)<|VF 4 Z<|Vl (sv c) Z (Rb5 Z)<|?_
      have iq := (Y.mono X).mono aa
      exact Vq Z (Ik (T := Ty.i64) Mb10 iq Z Z Z)<|Vc Z<|Ef Z<|FH<|Im<|Im<|Im<|Im<|Im<|Pu8<|Pu8<|Pu7<|Im<|Re9<|Re9<|Sd<|⟨_, by exact R3, (dcd ((p0.picks.length : Int) > 0)), Z, Z, Z, H⟩
  rintro _ _ _ - ⟨dy, rfl, rfl, rfl, H⟩
  unfold Lp at H
  refine F2 Z ?_ ?_
  ·intro c9
   have H := ift c9 H
   refine FK<|FD<|Ea Z<|FH<|Gg<|?_
   obtain ⟨ah, ai, al, am, aj, ak⟩ := Q7 H
   subst F B E I C D
   refine ⟨(.inl Z), [(.bool false)], ⟨(.bool false), _, Z, Z, Z⟩, ?_⟩
   refine Pu8<|Pu8<|Pu8<|Pu8<|Pu8<|Pu5<|Re6<|Re6<|Re6<|?_
   have ir := (t.mono X).mono aa
   have it := (p.mono X).mono aa
   have iu := (ac.mono X).mono aa
   have iv := (Y.mono X).mono aa
   exact Sd ⟨u, P, f, Q, a, h, c, L, Z, Z, ir, it, iu, iv⟩
  ·intro c9
   have H := Gu (btf c9) H
   refine F8<|FK<|FD<|Em Z<|Eq Z (FN Z)<|EF 3 Z<|El (sv a) Z (Rb0 Z)<|?_
   have i := (ac.mono X).mono aa
   refine Eq Z (Ik (T := (Ty.sl FU)) Mb6 i Z Z Z)<|Er (wI ((p0.ops.length : Int) - 1)) Z<|Ea Z<|FH<|?_
   refine Gk (fun O y J => ∃ (cm : ae8) (bj : List Value), [] = O ∧ (.blk N 33 (FG (FQ.mk p0.cnfg cm p0.picks) u f a c)) :: (.row (sv a) 51 1 (bj.map one).flatten) :: (.tok 70 7 bj) :: (.row (sv u) 3 1 P.flatten) :: (.row (sv f) 53 1 Q.flatten) :: (.row (sv c) 3 1 L.flatten) :: G = J ∧ RF p0 cm = some (F, B, E, I, C, D) ∧ RowR (Ty.sl FU) y (bj.map one) cm) ?_ ?_
   ·obtain ⟨qd, A, H⟩ := bnd H
    obtain ⟨o, z, H⟩ := bnd H
    obtain ⟨qe, n, H⟩ := bnd H
    refine Gm _ Z (Ic Mb1 (Ic Mb2 (Ic Mb3 (Ic Mb4 (Ic Mb5 (Ic Mb8 In0))))))<|Jm 0 Z<|Jq 1 Z (FN Z)<|JF 2 3 Z<|Jm 4 Z<|Jm 5 Z<|Jq 6 Z (FN Z)<|JF 7 3 Z<|Jm 9 Z<|JL 12 7 (FM k r s) Z (Rb0 Z)<|?_
    refine GG 3 8 13 (by kernel_rfl) ?_ ?_ ?_
    ·refine id (Jyq Z (FI (v := (sv a)) Z Z Z (Rb0 Z)) ⟨(Ic Mb1 (Ic Mb2 (Ic Mb3 (Ic Mb4 (Ic Mb5 (Ic Mb8 In0)))))), ?_⟩)
     refine Gf 8 13 (by kernel_rfl) ?_ ?_
     ·refine id (Jyq Z (FI (v := (sv a)) Z Z Z (Rb0 Z)) ⟨(Ic Mb1 (Ic Mb2 (Ic Mb3 (Ic Mb4 (Ic Mb5 (Ic Mb8 In0)))))), ?_⟩)
      refine Gf 10 13 (by kernel_rfl) ?_ ?_
      ·obtain ⟨od, bt, hH⟩ := RowR.at i A
       obtain ⟨fJ, rfl, fv⟩ := hH
       have fA := FV bt
       refine id (Jyq Z (F6 (T := (Ty.sl FU)) Mb6 i bt (FSq A).1 Z Z Z Z Z) ⟨(Ic Mb1 (Ic Mb2 (Ic Mb3 (Ic Mb4 (Ic Mb5 (Ic Mb8 In0)))))), ?_⟩)
       refine Gf 11 13 (by kernel_rfl) ?_ ?_
       ·refine id (Jyq Z (FI (v := (sv fJ)) Z Z Z (Gj (T := (Ty.sl FU)) Mb6 i bt Z Z)) ⟨(Ic Mb1 (Ic Mb2 (Ic Mb3 (Ic Mb4 (Ic Mb5 (Ic Mb8 In0)))))), ?_⟩)
        refine Ao 13 Z ?_
        have en : RowR FU M [(FM k r s)] [k] := RowR.cons ⟨r, s, Z, R, S⟩ (RowR.nil)
        refine Gl (T := FU) (rows := [(FM k r s)]) (l := [k]) Z Z Z en Z Z Z Z Z Z Z Z (fun oP => ⟨(Ic Mb2 (Ic Mb3 (Ic Mb4 (Ic Mb5 (Ic Mb6 (Ic Mb9 In0)))))), ?_⟩)
        refine Ao 14 Z ?_
        refine F7 (T := FU) (bytes := 88) (q := (wI ((p0.ops.length : Int) - 1)).toNat) Z Z Z fv Mb8 fA (SrcT.row Mb0 en Z) z Z Z Z Z Z Z Z Z (fun aA my fY iw => ⟨_, (.there (.there (.there (.there (.there (.there (.there (.there .here)))))))), ⟨(Ic Mb2 (Ic Mb3 (Ic Mb4 (Ic Mb5 (Ic Mb6 (Ic Mb9 In0)))))), ?_⟩⟩)
        refine Aw.shift (Re0 (Sd ⟨(Ic Mb1 (Ic Mb2 (Ic Mb3 (Ic Mb4 (Ic Mb5 (Ic Mb8 In0)))))), ?_⟩))
        have bW := i.mono fY
        obtain ⟨oe, bu, hI⟩ := RowR.at bW n
        obtain ⟨oQ, rfl, nn⟩ := hI
        have nN := FV bu
        refine FP 15 (by kernel_rfl) (Jyq Z (F6 (T := (Ty.sl FU)) Mb6 bW bu (FSq n).1 Z Z Z Z Z) ⟨(Ic Mb1 (Ic Mb2 (Ic Mb3 (Ic Mb4 (Ic Mb5 (Ic Mb8 In0)))))), ?_⟩)
        refine Ao 16 Z ?_
        refine FX (T := (Ty.sl FU)) (vs := [(sv aA)]) (r' := [(sv aA)]) (l' := (Ge p0.ops (wI ((p0.ops.length : Int) - 1)) o)) Z Z Z Z Z (.there (.there (.there (.there (.there (.there .here)))))) bW bu Z Z Z (RowR.set (wI ((p0.ops.length : Int) - 1)) bW ⟨aA, Z, iw⟩) (fun eo => ⟨(Ic Mb1 (Ic Mb2 (Ic Mb3 (Ic Mb4 (Ic Mb5 (Ic Mb8 In0)))))), ?_⟩)
        have hse := FY h (wI ((p0.ops.length : Int) - 1)).toNat (sv aA)
        rw [hse] at eo ⊢
        clear hse
        have mY := F3 bu (v := (sv aA))
        exact Ad<|Pu8<|Pu6<|Pu6<|Pu8<|Pu8<|Pu5<|Re6<|Re6<|Re6<|Sd<|⟨[], trivial, (Ge p0.ops (wI ((p0.ops.length : Int) - 1)) o), (h.set (wI ((p0.ops.length : Int) - 1)).toNat (sv aA)), Z, Z, H, eo⟩
       ·refine id (Jy Z ?_)
        have ep : RowR FU M [(FM k r s)] [k] := RowR.cons ⟨r, s, Z, R, S⟩ (RowR.nil)
        refine Gl (T := FU) (rows := [(FM k r s)]) (l := [k]) Z Z Z ep Z Z Z Z Z Z Z Z (fun oR => ⟨(Ic Mb2 (Ic Mb3 (Ic Mb4 (Ic Mb5 (Ic Mb6 (Ic Mb9 In0)))))), ?_⟩)
        refine FP 11 (by kernel_rfl) (Jyq Z (FI (v := (sv fJ)) Z Z Z (Gj (T := (Ty.sl FU)) Mb7 i bt Z Z)) ⟨(Ic Mb2 (Ic Mb3 (Ic Mb4 (Ic Mb5 (Ic Mb6 (Ic Mb9 In0)))))), ?_⟩)
        refine Ao 14 Z ?_
        refine F7 (T := FU) (bytes := 88) (q := (wI ((p0.ops.length : Int) - 1)).toNat) Z Z Z fv Mb8 fA (SrcT.row Mb0 ep Z) z Z Z Z Z Z Z Z Z (fun aB mz fZ ix => ⟨_, (.there (.there (.there (.there (.there (.there (.there (.there .here)))))))), ⟨(Ic Mb2 (Ic Mb3 (Ic Mb4 (Ic Mb5 (Ic Mb6 (Ic Mb9 In0)))))), ?_⟩⟩)
        refine Aw.shift (Re0 (Sd ⟨(Ic Mb1 (Ic Mb2 (Ic Mb3 (Ic Mb4 (Ic Mb5 (Ic Mb8 In0)))))), ?_⟩))
        have bX := i.mono fZ
        obtain ⟨of, bv, hJ⟩ := RowR.at bX n
        obtain ⟨oS, rfl, np⟩ := hJ
        have nO := FV bv
        refine FP 15 (by kernel_rfl) (Jyq Z (F6 (T := (Ty.sl FU)) Mb6 bX bv (FSq n).1 Z Z Z Z Z) ⟨(Ic Mb1 (Ic Mb2 (Ic Mb3 (Ic Mb4 (Ic Mb5 (Ic Mb8 In0)))))), ?_⟩)
        refine Ao 16 Z ?_
        refine FX (T := (Ty.sl FU)) (vs := [(sv aB)]) (r' := [(sv aB)]) (l' := (Ge p0.ops (wI ((p0.ops.length : Int) - 1)) o)) Z Z Z Z Z (.there (.there (.there (.there (.there (.there .here)))))) bX bv Z Z Z (RowR.set (wI ((p0.ops.length : Int) - 1)) bX ⟨aB, Z, ix⟩) (fun er => ⟨(Ic Mb1 (Ic Mb2 (Ic Mb3 (Ic Mb4 (Ic Mb5 (Ic Mb8 In0)))))), ?_⟩)
        have hse := FY h (wI ((p0.ops.length : Int) - 1)).toNat (sv aB)
        rw [hse] at er ⊢
        clear hse
        have mZ := F3 bv (v := (sv aB))
        exact Ad<|Pu8<|Pu6<|Pu6<|Pu8<|Pu8<|Pu5<|Re6<|Re6<|Re6<|Sd<|⟨[], trivial, (Ge p0.ops (wI ((p0.ops.length : Int) - 1)) o), (h.set (wI ((p0.ops.length : Int) - 1)).toNat (sv aB)), Z, Z, H, er⟩
      ·refine id (Jy Z ?_)
       have es : RowR FU M [(FM k r s)] [k] := RowR.cons ⟨r, s, Z, R, S⟩ (RowR.nil)
       refine Gl (T := FU) (rows := [(FM k r s)]) (l := [k]) Z Z Z es Z Z Z Z Z Z Z Z (fun oT => ⟨(Ic Mb2 (Ic Mb3 (Ic Mb4 (Ic Mb5 (Ic Mb6 (Ic Mb9 In0)))))), ?_⟩)
       obtain ⟨og, dm, hK⟩ := RowR.at i A
       obtain ⟨ml, rfl, iy⟩ := hK
       have kN := FV dm
       refine FP 10 (by kernel_rfl) (Jyq Z (F6 (T := (Ty.sl FU)) Mb7 i dm (FSq A).1 Z Z Z Z Z) ⟨(Ic Mb2 (Ic Mb3 (Ic Mb4 (Ic Mb5 (Ic Mb6 (Ic Mb9 In0)))))), ?_⟩)
       refine FP 11 (by kernel_rfl) (Jyq Z (FI (v := (sv ml)) Z Z Z (Gj (T := (Ty.sl FU)) Mb7 i dm Z Z)) ⟨(Ic Mb2 (Ic Mb3 (Ic Mb4 (Ic Mb5 (Ic Mb6 (Ic Mb9 In0)))))), ?_⟩)
       refine Ao 14 Z ?_
       refine F7 (T := FU) (bytes := 88) (q := (wI ((p0.ops.length : Int) - 1)).toNat) Z Z Z iy Mb8 kN (SrcT.row Mb0 es Z) z Z Z Z Z Z Z Z Z (fun aC mA f0 iz => ⟨_, (.there (.there (.there (.there (.there (.there (.there (.there .here)))))))), ⟨(Ic Mb2 (Ic Mb3 (Ic Mb4 (Ic Mb5 (Ic Mb6 (Ic Mb9 In0)))))), ?_⟩⟩)
       refine Aw.shift (Re0 (Sd ⟨(Ic Mb1 (Ic Mb2 (Ic Mb3 (Ic Mb4 (Ic Mb5 (Ic Mb8 In0)))))), ?_⟩))
       have bY := i.mono f0
       obtain ⟨oh, bw, hL⟩ := RowR.at bY n
       obtain ⟨oU, rfl, nq⟩ := hL
       have nP := FV bw
       refine FP 15 (by kernel_rfl) (Jyq Z (F6 (T := (Ty.sl FU)) Mb6 bY bw (FSq n).1 Z Z Z Z Z) ⟨(Ic Mb1 (Ic Mb2 (Ic Mb3 (Ic Mb4 (Ic Mb5 (Ic Mb8 In0)))))), ?_⟩)
       refine Ao 16 Z ?_
       refine FX (T := (Ty.sl FU)) (vs := [(sv aC)]) (r' := [(sv aC)]) (l' := (Ge p0.ops (wI ((p0.ops.length : Int) - 1)) o)) Z Z Z Z Z (.there (.there (.there (.there (.there (.there .here)))))) bY bw Z Z Z (RowR.set (wI ((p0.ops.length : Int) - 1)) bY ⟨aC, Z, iz⟩) (fun et => ⟨(Ic Mb1 (Ic Mb2 (Ic Mb3 (Ic Mb4 (Ic Mb5 (Ic Mb8 In0)))))), ?_⟩)
       have hse := FY h (wI ((p0.ops.length : Int) - 1)).toNat (sv aC)
       rw [hse] at et ⊢
       clear hse
       have m0 := F3 bw (v := (sv aC))
       exact Ad<|Pu8<|Pu6<|Pu6<|Pu8<|Pu8<|Pu5<|Re6<|Re6<|Re6<|Sd<|⟨[], trivial, (Ge p0.ops (wI ((p0.ops.length : Int) - 1)) o), (h.set (wI ((p0.ops.length : Int) - 1)).toNat (sv aC)), Z, Z, H, et⟩
     ·refine id (Jy Z ?_)
      have eu : RowR FU M [(FM k r s)] [k] := RowR.cons ⟨r, s, Z, R, S⟩ (RowR.nil)
      refine Gl (T := FU) (rows := [(FM k r s)]) (l := [k]) Z Z Z eu Z Z Z Z Z Z Z Z (fun oV => ⟨(Ic Mb2 (Ic Mb3 (Ic Mb4 (Ic Mb5 (Ic Mb6 (Ic Mb9 In0)))))), ?_⟩)
      refine FP 8 (by kernel_rfl) (Jyq Z (FI (v := (sv a)) Z Z Z (Rb1 Z)) ⟨(Ic Mb2 (Ic Mb3 (Ic Mb4 (Ic Mb5 (Ic Mb6 (Ic Mb9 In0)))))), ?_⟩)
      obtain ⟨oi, dn, hM⟩ := RowR.at i A
      obtain ⟨mm, rfl, iA⟩ := hM
      have kO := FV dn
      refine FP 10 (by kernel_rfl) (Jyq Z (F6 (T := (Ty.sl FU)) Mb7 i dn (FSq A).1 Z Z Z Z Z) ⟨(Ic Mb2 (Ic Mb3 (Ic Mb4 (Ic Mb5 (Ic Mb6 (Ic Mb9 In0)))))), ?_⟩)
      refine FP 11 (by kernel_rfl) (Jyq Z (FI (v := (sv mm)) Z Z Z (Gj (T := (Ty.sl FU)) Mb7 i dn Z Z)) ⟨(Ic Mb2 (Ic Mb3 (Ic Mb4 (Ic Mb5 (Ic Mb6 (Ic Mb9 In0)))))), ?_⟩)
      refine Ao 14 Z ?_
      refine F7 (T := FU) (bytes := 88) (q := (wI ((p0.ops.length : Int) - 1)).toNat) Z Z Z iA Mb8 kO (SrcT.row Mb0 eu Z) z Z Z Z Z Z Z Z Z (fun aD mB f1 iB => ⟨_, (.there (.there (.there (.there (.there (.there (.there (.there .here)))))))), ⟨(Ic Mb2 (Ic Mb3 (Ic Mb4 (Ic Mb5 (Ic Mb6 (Ic Mb9 In0)))))), ?_⟩⟩)
      refine Aw.shift (Re0 (Sd ⟨(Ic Mb1 (Ic Mb2 (Ic Mb3 (Ic Mb4 (Ic Mb5 (Ic Mb8 In0)))))), ?_⟩))
      have bZ := i.mono f1
      obtain ⟨oj, bx, hN⟩ := RowR.at bZ n
      obtain ⟨oW, rfl, nr⟩ := hN
      have nQ := FV bx
      refine FP 15 (by kernel_rfl) (Jyq Z (F6 (T := (Ty.sl FU)) Mb6 bZ bx (FSq n).1 Z Z Z Z Z) ⟨(Ic Mb1 (Ic Mb2 (Ic Mb3 (Ic Mb4 (Ic Mb5 (Ic Mb8 In0)))))), ?_⟩)
      refine Ao 16 Z ?_
      refine FX (T := (Ty.sl FU)) (vs := [(sv aD)]) (r' := [(sv aD)]) (l' := (Ge p0.ops (wI ((p0.ops.length : Int) - 1)) o)) Z Z Z Z Z (.there (.there (.there (.there (.there (.there .here)))))) bZ bx Z Z Z (RowR.set (wI ((p0.ops.length : Int) - 1)) bZ ⟨aD, Z, iB⟩) (fun ev => ⟨(Ic Mb1 (Ic Mb2 (Ic Mb3 (Ic Mb4 (Ic Mb5 (Ic Mb8 In0)))))), ?_⟩)
      have hse := FY h (wI ((p0.ops.length : Int) - 1)).toNat (sv aD)
      rw [hse] at ev ⊢
      clear hse
      have m1 := F3 bx (v := (sv aD))
      exact Ad<|Pu8<|Pu6<|Pu6<|Pu8<|Pu8<|Pu5<|Re6<|Re6<|Re6<|Sd<|⟨[], trivial, (Ge p0.ops (wI ((p0.ops.length : Int) - 1)) o), (h.set (wI ((p0.ops.length : Int) - 1)).toNat (sv aD)), Z, Z, H, ev⟩
    ·refine id (Jyq Z (FI (v := (sv a)) Z Z Z (Rb0 Z)) ⟨(Ic Mb1 (Ic Mb2 (Ic Mb3 (Ic Mb4 (Ic Mb5 (Ic Mb8 In0)))))), ?_⟩)
     refine GG 3 10 13 (by kernel_rfl) ?_ ?_ ?_
     ·refine id (Jyq Z (FI (v := (sv a)) Z Z Z (Rb0 Z)) ⟨(Ic Mb1 (Ic Mb2 (Ic Mb3 (Ic Mb4 (Ic Mb5 (Ic Mb8 In0)))))), ?_⟩)
      refine Gf 10 13 (by kernel_rfl) ?_ ?_
      ·obtain ⟨ol, bz, hO⟩ := RowR.at i A
       obtain ⟨fK, rfl, fw⟩ := hO
       have fB := FV bz
       refine id (Jyq Z (F6 (T := (Ty.sl FU)) Mb6 i bz (FSq A).1 Z Z Z Z Z) ⟨(Ic Mb1 (Ic Mb2 (Ic Mb3 (Ic Mb4 (Ic Mb5 (Ic Mb8 In0)))))), ?_⟩)
       refine Gf 11 13 (by kernel_rfl) ?_ ?_
       ·refine id (Jyq Z (FI (v := (sv fK)) Z Z Z (Gj (T := (Ty.sl FU)) Mb6 i bz Z Z)) ⟨(Ic Mb1 (Ic Mb2 (Ic Mb3 (Ic Mb4 (Ic Mb5 (Ic Mb8 In0)))))), ?_⟩)
        refine Ao 13 Z ?_
        have ew : RowR FU M [(FM k r s)] [k] := RowR.cons ⟨r, s, Z, R, S⟩ (RowR.nil)
        refine Gl (T := FU) (rows := [(FM k r s)]) (l := [k]) Z Z Z ew Z Z Z Z Z Z Z Z (fun oX => ⟨(Ic Mb2 (Ic Mb3 (Ic Mb4 (Ic Mb5 (Ic Mb6 (Ic Mb9 In0)))))), ?_⟩)
        refine Ao 14 Z ?_
        refine F7 (T := FU) (bytes := 88) (q := (wI ((p0.ops.length : Int) - 1)).toNat) Z Z Z fw Mb8 fB (SrcT.row Mb0 ew Z) z Z Z Z Z Z Z Z Z (fun aE mC f2 iC => ⟨_, (.there (.there (.there (.there (.there (.there (.there (.there .here)))))))), ⟨(Ic Mb2 (Ic Mb3 (Ic Mb4 (Ic Mb5 (Ic Mb6 (Ic Mb9 In0)))))), ?_⟩⟩)
        refine Aw.shift (Re0 (Sd ⟨(Ic Mb1 (Ic Mb2 (Ic Mb3 (Ic Mb4 (Ic Mb5 (Ic Mb8 In0)))))), ?_⟩))
        have b0 := i.mono f2
        obtain ⟨om, bA, hP⟩ := RowR.at b0 n
        obtain ⟨oY, rfl, ns⟩ := hP
        have nR := FV bA
        refine FP 15 (by kernel_rfl) (Jyq Z (F6 (T := (Ty.sl FU)) Mb6 b0 bA (FSq n).1 Z Z Z Z Z) ⟨(Ic Mb1 (Ic Mb2 (Ic Mb3 (Ic Mb4 (Ic Mb5 (Ic Mb8 In0)))))), ?_⟩)
        refine Ao 16 Z ?_
        refine FX (T := (Ty.sl FU)) (vs := [(sv aE)]) (r' := [(sv aE)]) (l' := (Ge p0.ops (wI ((p0.ops.length : Int) - 1)) o)) Z Z Z Z Z (.there (.there (.there (.there (.there (.there .here)))))) b0 bA Z Z Z (RowR.set (wI ((p0.ops.length : Int) - 1)) b0 ⟨aE, Z, iC⟩) (fun ex => ⟨(Ic Mb1 (Ic Mb2 (Ic Mb3 (Ic Mb4 (Ic Mb5 (Ic Mb8 In0)))))), ?_⟩)
        have hse := FY h (wI ((p0.ops.length : Int) - 1)).toNat (sv aE)
        rw [hse] at ex ⊢
        clear hse
        have m2 := F3 bA (v := (sv aE))
        exact Ad<|Pu8<|Pu6<|Pu6<|Pu8<|Pu8<|Pu5<|Re6<|Re6<|Re6<|Sd<|⟨[], trivial, (Ge p0.ops (wI ((p0.ops.length : Int) - 1)) o), (h.set (wI ((p0.ops.length : Int) - 1)).toNat (sv aE)), Z, Z, H, ex⟩
       ·refine id (Jy Z ?_)
        have ey : RowR FU M [(FM k r s)] [k] := RowR.cons ⟨r, s, Z, R, S⟩ (RowR.nil)
        refine Gl (T := FU) (rows := [(FM k r s)]) (l := [k]) Z Z Z ey Z Z Z Z Z Z Z Z (fun oZ => ⟨(Ic Mb2 (Ic Mb3 (Ic Mb4 (Ic Mb5 (Ic Mb6 (Ic Mb9 In0)))))), ?_⟩)
        refine FP 11 (by kernel_rfl) (Jyq Z (FI (v := (sv fK)) Z Z Z (Gj (T := (Ty.sl FU)) Mb7 i bz Z Z)) ⟨(Ic Mb2 (Ic Mb3 (Ic Mb4 (Ic Mb5 (Ic Mb6 (Ic Mb9 In0)))))), ?_⟩)
        refine Ao 14 Z ?_
        refine F7 (T := FU) (bytes := 88) (q := (wI ((p0.ops.length : Int) - 1)).toNat) Z Z Z fw Mb8 fB (SrcT.row Mb0 ey Z) z Z Z Z Z Z Z Z Z (fun aF mD f3 iD => ⟨_, (.there (.there (.there (.there (.there (.there (.there (.there .here)))))))), ⟨(Ic Mb2 (Ic Mb3 (Ic Mb4 (Ic Mb5 (Ic Mb6 (Ic Mb9 In0)))))), ?_⟩⟩)
        refine Aw.shift (Re0 (Sd ⟨(Ic Mb1 (Ic Mb2 (Ic Mb3 (Ic Mb4 (Ic Mb5 (Ic Mb8 In0)))))), ?_⟩))
        have b1 := i.mono f3
        obtain ⟨on, bB, hQ⟩ := RowR.at b1 n
        obtain ⟨o0, rfl, nt⟩ := hQ
        have nS := FV bB
        refine FP 15 (by kernel_rfl) (Jyq Z (F6 (T := (Ty.sl FU)) Mb6 b1 bB (FSq n).1 Z Z Z Z Z) ⟨(Ic Mb1 (Ic Mb2 (Ic Mb3 (Ic Mb4 (Ic Mb5 (Ic Mb8 In0)))))), ?_⟩)
        refine Ao 16 Z ?_
        refine FX (T := (Ty.sl FU)) (vs := [(sv aF)]) (r' := [(sv aF)]) (l' := (Ge p0.ops (wI ((p0.ops.length : Int) - 1)) o)) Z Z Z Z Z (.there (.there (.there (.there (.there (.there .here)))))) b1 bB Z Z Z (RowR.set (wI ((p0.ops.length : Int) - 1)) b1 ⟨aF, Z, iD⟩) (fun ez => ⟨(Ic Mb1 (Ic Mb2 (Ic Mb3 (Ic Mb4 (Ic Mb5 (Ic Mb8 In0)))))), ?_⟩)
        have hse := FY h (wI ((p0.ops.length : Int) - 1)).toNat (sv aF)
        rw [hse] at ez ⊢
        clear hse
        have m3 := F3 bB (v := (sv aF))
        exact Ad<|Pu8<|Pu6<|Pu6<|Pu8<|Pu8<|Pu5<|Re6<|Re6<|Re6<|Sd<|⟨[], trivial, (Ge p0.ops (wI ((p0.ops.length : Int) - 1)) o), (h.set (wI ((p0.ops.length : Int) - 1)).toNat (sv aF)), Z, Z, H, ez⟩
      ·refine id (Jy Z ?_)
       have eA : RowR FU M [(FM k r s)] [k] := RowR.cons ⟨r, s, Z, R, S⟩ (RowR.nil)
       refine Gl (T := FU) (rows := [(FM k r s)]) (l := [k]) Z Z Z eA Z Z Z Z Z Z Z Z (fun o1 => ⟨(Ic Mb2 (Ic Mb3 (Ic Mb4 (Ic Mb5 (Ic Mb6 (Ic Mb9 In0)))))), ?_⟩)
       obtain ⟨oo, dp, hR⟩ := RowR.at i A
       obtain ⟨mn, rfl, iE⟩ := hR
       have kP := FV dp
       refine FP 10 (by kernel_rfl) (Jyq Z (F6 (T := (Ty.sl FU)) Mb7 i dp (FSq A).1 Z Z Z Z Z) ⟨(Ic Mb2 (Ic Mb3 (Ic Mb4 (Ic Mb5 (Ic Mb6 (Ic Mb9 In0)))))), ?_⟩)
       refine FP 11 (by kernel_rfl) (Jyq Z (FI (v := (sv mn)) Z Z Z (Gj (T := (Ty.sl FU)) Mb7 i dp Z Z)) ⟨(Ic Mb2 (Ic Mb3 (Ic Mb4 (Ic Mb5 (Ic Mb6 (Ic Mb9 In0)))))), ?_⟩)
       refine Ao 14 Z ?_
       refine F7 (T := FU) (bytes := 88) (q := (wI ((p0.ops.length : Int) - 1)).toNat) Z Z Z iE Mb8 kP (SrcT.row Mb0 eA Z) z Z Z Z Z Z Z Z Z (fun aG mE f4 iF => ⟨_, (.there (.there (.there (.there (.there (.there (.there (.there .here)))))))), ⟨(Ic Mb2 (Ic Mb3 (Ic Mb4 (Ic Mb5 (Ic Mb6 (Ic Mb9 In0)))))), ?_⟩⟩)
       refine Aw.shift (Re0 (Sd ⟨(Ic Mb1 (Ic Mb2 (Ic Mb3 (Ic Mb4 (Ic Mb5 (Ic Mb8 In0)))))), ?_⟩))
       have b2 := i.mono f4
       obtain ⟨op, bC, hS⟩ := RowR.at b2 n
       obtain ⟨o2, rfl, nu⟩ := hS
       have nT := FV bC
       refine FP 15 (by kernel_rfl) (Jyq Z (F6 (T := (Ty.sl FU)) Mb6 b2 bC (FSq n).1 Z Z Z Z Z) ⟨(Ic Mb1 (Ic Mb2 (Ic Mb3 (Ic Mb4 (Ic Mb5 (Ic Mb8 In0)))))), ?_⟩)
       refine Ao 16 Z ?_
       refine FX (T := (Ty.sl FU)) (vs := [(sv aG)]) (r' := [(sv aG)]) (l' := (Ge p0.ops (wI ((p0.ops.length : Int) - 1)) o)) Z Z Z Z Z (.there (.there (.there (.there (.there (.there .here)))))) b2 bC Z Z Z (RowR.set (wI ((p0.ops.length : Int) - 1)) b2 ⟨aG, Z, iF⟩) (fun eB => ⟨(Ic Mb1 (Ic Mb2 (Ic Mb3 (Ic Mb4 (Ic Mb5 (Ic Mb8 In0)))))), ?_⟩)
       have hse := FY h (wI ((p0.ops.length : Int) - 1)).toNat (sv aG)
       rw [hse] at eB ⊢
       clear hse
       have m4 := F3 bC (v := (sv aG))
       exact Ad<|Pu8<|Pu6<|Pu6<|Pu8<|Pu8<|Pu5<|Re6<|Re6<|Re6<|Sd<|⟨[], trivial, (Ge p0.ops (wI ((p0.ops.length : Int) - 1)) o), (h.set (wI ((p0.ops.length : Int) - 1)).toNat (sv aG)), Z, Z, H, eB⟩
     ·obtain ⟨oq, ao, hU⟩ := RowR.at i A
      obtain ⟨bh, rfl, ad⟩ := hU
      have ae := FV ao
      refine id (Jyq Z (F6 (T := (Ty.sl FU)) Mb6 i ao (FSq A).1 Z Z Z Z Z) ⟨(Ic Mb1 (Ic Mb2 (Ic Mb3 (Ic Mb4 (Ic Mb5 (Ic Mb8 In0)))))), ?_⟩)
      refine GG 3 11 13 (by kernel_rfl) ?_ ?_ ?_
      ·refine id (Jyq Z (FI (v := (sv a)) Z Z Z (Rb0 Z)) ⟨(Ic Mb1 (Ic Mb2 (Ic Mb3 (Ic Mb4 (Ic Mb5 (Ic Mb8 In0)))))), ?_⟩)
       refine Gf 11 13 (by kernel_rfl) ?_ ?_
       ·refine id (Jyq Z (FI (v := (sv bh)) Z Z Z (Gj (T := (Ty.sl FU)) Mb6 i ao Z Z)) ⟨(Ic Mb1 (Ic Mb2 (Ic Mb3 (Ic Mb4 (Ic Mb5 (Ic Mb8 In0)))))), ?_⟩)
        refine Ao 13 Z ?_
        have eC : RowR FU M [(FM k r s)] [k] := RowR.cons ⟨r, s, Z, R, S⟩ (RowR.nil)
        refine Gl (T := FU) (rows := [(FM k r s)]) (l := [k]) Z Z Z eC Z Z Z Z Z Z Z Z (fun o3 => ⟨(Ic Mb2 (Ic Mb3 (Ic Mb4 (Ic Mb5 (Ic Mb6 (Ic Mb9 In0)))))), ?_⟩)
        refine Ao 14 Z ?_
        refine F7 (T := FU) (bytes := 88) (q := (wI ((p0.ops.length : Int) - 1)).toNat) Z Z Z ad Mb8 ae (SrcT.row Mb0 eC Z) z Z Z Z Z Z Z Z Z (fun aH mF f5 iG => ⟨_, (.there (.there (.there (.there (.there (.there (.there (.there .here)))))))), ⟨(Ic Mb2 (Ic Mb3 (Ic Mb4 (Ic Mb5 (Ic Mb6 (Ic Mb9 In0)))))), ?_⟩⟩)
        refine Aw.shift (Re0 (Sd ⟨(Ic Mb1 (Ic Mb2 (Ic Mb3 (Ic Mb4 (Ic Mb5 (Ic Mb8 In0)))))), ?_⟩))
        have b3 := i.mono f5
        obtain ⟨or, bD, hV⟩ := RowR.at b3 n
        obtain ⟨o4, rfl, nv⟩ := hV
        have nU := FV bD
        refine FP 15 (by kernel_rfl) (Jyq Z (F6 (T := (Ty.sl FU)) Mb6 b3 bD (FSq n).1 Z Z Z Z Z) ⟨(Ic Mb1 (Ic Mb2 (Ic Mb3 (Ic Mb4 (Ic Mb5 (Ic Mb8 In0)))))), ?_⟩)
        refine Ao 16 Z ?_
        refine FX (T := (Ty.sl FU)) (vs := [(sv aH)]) (r' := [(sv aH)]) (l' := (Ge p0.ops (wI ((p0.ops.length : Int) - 1)) o)) Z Z Z Z Z (.there (.there (.there (.there (.there (.there .here)))))) b3 bD Z Z Z (RowR.set (wI ((p0.ops.length : Int) - 1)) b3 ⟨aH, Z, iG⟩) (fun eD => ⟨(Ic Mb1 (Ic Mb2 (Ic Mb3 (Ic Mb4 (Ic Mb5 (Ic Mb8 In0)))))), ?_⟩)
        have hse := FY h (wI ((p0.ops.length : Int) - 1)).toNat (sv aH)
        rw [hse] at eD ⊢
        clear hse
        have m5 := F3 bD (v := (sv aH))
        exact Ad<|Pu8<|Pu6<|Pu6<|Pu8<|Pu8<|Pu5<|Re6<|Re6<|Re6<|Sd<|⟨[], trivial, (Ge p0.ops (wI ((p0.ops.length : Int) - 1)) o), (h.set (wI ((p0.ops.length : Int) - 1)).toNat (sv aH)), Z, Z, H, eD⟩
       ·refine id (Jy Z ?_)
        have eE : RowR FU M [(FM k r s)] [k] := RowR.cons ⟨r, s, Z, R, S⟩ (RowR.nil)
        refine Gl (T := FU) (rows := [(FM k r s)]) (l := [k]) Z Z Z eE Z Z Z Z Z Z Z Z (fun o5 => ⟨(Ic Mb2 (Ic Mb3 (Ic Mb4 (Ic Mb5 (Ic Mb6 (Ic Mb9 In0)))))), ?_⟩)
        refine FP 11 (by kernel_rfl) (Jyq Z (FI (v := (sv bh)) Z Z Z (Gj (T := (Ty.sl FU)) Mb7 i ao Z Z)) ⟨(Ic Mb2 (Ic Mb3 (Ic Mb4 (Ic Mb5 (Ic Mb6 (Ic Mb9 In0)))))), ?_⟩)
        refine Ao 14 Z ?_
        refine F7 (T := FU) (bytes := 88) (q := (wI ((p0.ops.length : Int) - 1)).toNat) Z Z Z ad Mb8 ae (SrcT.row Mb0 eE Z) z Z Z Z Z Z Z Z Z (fun aI mG f6 iH => ⟨_, (.there (.there (.there (.there (.there (.there (.there (.there .here)))))))), ⟨(Ic Mb2 (Ic Mb3 (Ic Mb4 (Ic Mb5 (Ic Mb6 (Ic Mb9 In0)))))), ?_⟩⟩)
        refine Aw.shift (Re0 (Sd ⟨(Ic Mb1 (Ic Mb2 (Ic Mb3 (Ic Mb4 (Ic Mb5 (Ic Mb8 In0)))))), ?_⟩))
        have b4 := i.mono f6
        obtain ⟨os, bE, hW⟩ := RowR.at b4 n
        obtain ⟨o6, rfl, nw⟩ := hW
        have nV := FV bE
        refine FP 15 (by kernel_rfl) (Jyq Z (F6 (T := (Ty.sl FU)) Mb6 b4 bE (FSq n).1 Z Z Z Z Z) ⟨(Ic Mb1 (Ic Mb2 (Ic Mb3 (Ic Mb4 (Ic Mb5 (Ic Mb8 In0)))))), ?_⟩)
        refine Ao 16 Z ?_
        refine FX (T := (Ty.sl FU)) (vs := [(sv aI)]) (r' := [(sv aI)]) (l' := (Ge p0.ops (wI ((p0.ops.length : Int) - 1)) o)) Z Z Z Z Z (.there (.there (.there (.there (.there (.there .here)))))) b4 bE Z Z Z (RowR.set (wI ((p0.ops.length : Int) - 1)) b4 ⟨aI, Z, iH⟩) (fun eF => ⟨(Ic Mb1 (Ic Mb2 (Ic Mb3 (Ic Mb4 (Ic Mb5 (Ic Mb8 In0)))))), ?_⟩)
        have hse := FY h (wI ((p0.ops.length : Int) - 1)).toNat (sv aI)
        rw [hse] at eF ⊢
        clear hse
        have m6 := F3 bE (v := (sv aI))
        exact Ad<|Pu8<|Pu6<|Pu6<|Pu8<|Pu8<|Pu5<|Re6<|Re6<|Re6<|Sd<|⟨[], trivial, (Ge p0.ops (wI ((p0.ops.length : Int) - 1)) o), (h.set (wI ((p0.ops.length : Int) - 1)).toNat (sv aI)), Z, Z, H, eF⟩
      ·refine id (Jyq Z (FI (v := (sv bh)) Z Z Z (Gj (T := (Ty.sl FU)) Mb6 i ao Z Z)) ⟨(Ic Mb1 (Ic Mb2 (Ic Mb3 (Ic Mb4 (Ic Mb5 (Ic Mb8 In0)))))), ?_⟩)
       refine Gf 3 13 (by kernel_rfl) ?_ ?_
       ·refine id (Jyq Z (FI (v := (sv a)) Z Z Z (Rb0 Z)) ⟨(Ic Mb1 (Ic Mb2 (Ic Mb3 (Ic Mb4 (Ic Mb5 (Ic Mb8 In0)))))), ?_⟩)
        refine Ao 13 Z ?_
        have eG : RowR FU M [(FM k r s)] [k] := RowR.cons ⟨r, s, Z, R, S⟩ (RowR.nil)
        refine Gl (T := FU) (rows := [(FM k r s)]) (l := [k]) Z Z Z eG Z Z Z Z Z Z Z Z (fun o7 => ⟨(Ic Mb2 (Ic Mb3 (Ic Mb4 (Ic Mb5 (Ic Mb6 (Ic Mb9 In0)))))), ?_⟩)
        refine Ao 14 Z ?_
        refine F7 (T := FU) (bytes := 88) (q := (wI ((p0.ops.length : Int) - 1)).toNat) Z Z Z ad Mb8 ae (SrcT.row Mb0 eG Z) z Z Z Z Z Z Z Z Z (fun aJ mH f7 iI => ⟨_, (.there (.there (.there (.there (.there (.there (.there (.there .here)))))))), ⟨(Ic Mb2 (Ic Mb3 (Ic Mb4 (Ic Mb5 (Ic Mb6 (Ic Mb9 In0)))))), ?_⟩⟩)
        refine Aw.shift (Re0 (Sd ⟨(Ic Mb1 (Ic Mb2 (Ic Mb3 (Ic Mb4 (Ic Mb5 (Ic Mb8 In0)))))), ?_⟩))
        have b5 := i.mono f7
        obtain ⟨ot, bF, hX⟩ := RowR.at b5 n
        obtain ⟨o8, rfl, nx⟩ := hX
        have nW := FV bF
        refine FP 15 (by kernel_rfl) (Jyq Z (F6 (T := (Ty.sl FU)) Mb6 b5 bF (FSq n).1 Z Z Z Z Z) ⟨(Ic Mb1 (Ic Mb2 (Ic Mb3 (Ic Mb4 (Ic Mb5 (Ic Mb8 In0)))))), ?_⟩)
        refine Ao 16 Z ?_
        refine FX (T := (Ty.sl FU)) (vs := [(sv aJ)]) (r' := [(sv aJ)]) (l' := (Ge p0.ops (wI ((p0.ops.length : Int) - 1)) o)) Z Z Z Z Z (.there (.there (.there (.there (.there (.there .here)))))) b5 bF Z Z Z (RowR.set (wI ((p0.ops.length : Int) - 1)) b5 ⟨aJ, Z, iI⟩) (fun eH => ⟨(Ic Mb1 (Ic Mb2 (Ic Mb3 (Ic Mb4 (Ic Mb5 (Ic Mb8 In0)))))), ?_⟩)
        have hse := FY h (wI ((p0.ops.length : Int) - 1)).toNat (sv aJ)
        rw [hse] at eH ⊢
        clear hse
        have m7 := F3 bF (v := (sv aJ))
        exact Ad<|Pu8<|Pu6<|Pu6<|Pu8<|Pu8<|Pu5<|Re6<|Re6<|Re6<|Sd<|⟨[], trivial, (Ge p0.ops (wI ((p0.ops.length : Int) - 1)) o), (h.set (wI ((p0.ops.length : Int) - 1)).toNat (sv aJ)), Z, Z, H, eH⟩
       ·refine id (Jy Z ?_)
        have dd : RowR FU M [(FM k r s)] [k] := RowR.cons ⟨r, s, Z, R, S⟩ (RowR.nil)
        refine Gl (T := FU) (rows := [(FM k r s)]) (l := [k]) Z Z Z dd Z Z Z Z Z Z Z Z (fun o9 => ⟨(Ic Mb2 (Ic Mb3 (Ic Mb4 (Ic Mb5 (Ic Mb6 (Ic Mb9 In0)))))), ?_⟩)
        refine Gf 3 14 (by kernel_rfl) ?_ ?_
        ·refine id (Jyq Z (FI (v := (sv a)) Z Z Z (Rb1 Z)) ⟨(Ic Mb2 (Ic Mb3 (Ic Mb4 (Ic Mb5 (Ic Mb6 (Ic Mb9 In0)))))), ?_⟩)
         refine Ao 14 Z ?_
         refine F7 (T := FU) (bytes := 88) (q := (wI ((p0.ops.length : Int) - 1)).toNat) Z Z Z ad Mb8 ae (SrcT.row Mb0 dd Z) z Z Z Z Z Z Z Z Z (fun aK mI f8 iJ => ⟨_, (.there (.there (.there (.there (.there (.there (.there (.there .here)))))))), ⟨(Ic Mb2 (Ic Mb3 (Ic Mb4 (Ic Mb5 (Ic Mb6 (Ic Mb9 In0)))))), ?_⟩⟩)
         refine Aw.shift (Re0 (Sd ⟨(Ic Mb1 (Ic Mb2 (Ic Mb3 (Ic Mb4 (Ic Mb5 (Ic Mb8 In0)))))), ?_⟩))
         have b6 := i.mono f8
         obtain ⟨ou, bG, hY⟩ := RowR.at b6 n
         obtain ⟨pa, rfl, ny⟩ := hY
         have nX := FV bG
         refine FP 15 (by kernel_rfl) (Jyq Z (F6 (T := (Ty.sl FU)) Mb6 b6 bG (FSq n).1 Z Z Z Z Z) ⟨(Ic Mb1 (Ic Mb2 (Ic Mb3 (Ic Mb4 (Ic Mb5 (Ic Mb8 In0)))))), ?_⟩)
         refine Ao 16 Z ?_
         refine FX (T := (Ty.sl FU)) (vs := [(sv aK)]) (r' := [(sv aK)]) (l' := (Ge p0.ops (wI ((p0.ops.length : Int) - 1)) o)) Z Z Z Z Z (.there (.there (.there (.there (.there (.there .here)))))) b6 bG Z Z Z (RowR.set (wI ((p0.ops.length : Int) - 1)) b6 ⟨aK, Z, iJ⟩) (fun eI => ⟨(Ic Mb1 (Ic Mb2 (Ic Mb3 (Ic Mb4 (Ic Mb5 (Ic Mb8 In0)))))), ?_⟩)
         have hse := FY h (wI ((p0.ops.length : Int) - 1)).toNat (sv aK)
         rw [hse] at eI ⊢
         clear hse
         have m8 := F3 bG (v := (sv aK))
         exact Ad<|Pu8<|Pu6<|Pu6<|Pu8<|Pu8<|Pu5<|Re6<|Re6<|Re6<|Sd<|⟨[], trivial, (Ge p0.ops (wI ((p0.ops.length : Int) - 1)) o), (h.set (wI ((p0.ops.length : Int) - 1)).toNat (sv aK)), Z, Z, H, eI⟩
        ·refine id (Jy Z ?_)
         refine F7 (T := FU) (bytes := 88) (q := (wI ((p0.ops.length : Int) - 1)).toNat) Z Z Z ad Mb8 ae (SrcT.row Mb0 dd Z) z Z Z Z Z Z Z Z Z (fun aL mJ f9 iK => ⟨_, (.there (.there (.there (.there (.there (.there (.there (.there .here)))))))), ⟨(Ic Mb2 (Ic Mb3 (Ic Mb4 (Ic Mb5 (Ic Mb6 (Ic Mb9 In0)))))), ?_⟩⟩)
         refine Aw.shift (Re0 (Sd ⟨(Ic Mb1 (Ic Mb2 (Ic Mb3 (Ic Mb4 (Ic Mb5 (Ic Mb8 In0)))))), ?_⟩))
         refine FP 3 (by kernel_rfl) (Jyq Z (FI (v := (sv a)) Z Z Z (Rb0 Z)) ⟨(Ic Mb1 (Ic Mb2 (Ic Mb3 (Ic Mb4 (Ic Mb5 (Ic Mb8 In0)))))), ?_⟩)
         have b7 := i.mono f9
         obtain ⟨ov, bH, hZ⟩ := RowR.at b7 n
         obtain ⟨pb, rfl, nz⟩ := hZ
         have nY := FV bH
         refine FP 15 (by kernel_rfl) (Jyq Z (F6 (T := (Ty.sl FU)) Mb6 b7 bH (FSq n).1 Z Z Z Z Z) ⟨(Ic Mb1 (Ic Mb2 (Ic Mb3 (Ic Mb4 (Ic Mb5 (Ic Mb8 In0)))))), ?_⟩)
         refine Ao 16 Z ?_
         refine FX (T := (Ty.sl FU)) (vs := [(sv aL)]) (r' := [(sv aL)]) (l' := (Ge p0.ops (wI ((p0.ops.length : Int) - 1)) o)) Z Z Z Z Z (.there (.there (.there (.there (.there (.there .here)))))) b7 bH Z Z Z (RowR.set (wI ((p0.ops.length : Int) - 1)) b7 ⟨aL, Z, iK⟩) (fun eJ => ⟨(Ic Mb1 (Ic Mb2 (Ic Mb3 (Ic Mb4 (Ic Mb5 (Ic Mb8 In0)))))), ?_⟩)
         have hse := FY h (wI ((p0.ops.length : Int) - 1)).toNat (sv aL)
         rw [hse] at eJ ⊢
         clear hse
         have m9 := F3 bH (v := (sv aL))
         exact Ad<|Pu8<|Pu6<|Pu6<|Pu8<|Pu8<|Pu5<|Re6<|Re6<|Re6<|Sd<|⟨[], trivial, (Ge p0.ops (wI ((p0.ops.length : Int) - 1)) o), (h.set (wI ((p0.ops.length : Int) - 1)).toNat (sv aL)), Z, Z, H, eJ⟩
      ·refine id (Jy Z ?_)
       have bn : RowR FU M [(FM k r s)] [k] := RowR.cons ⟨r, s, Z, R, S⟩ (RowR.nil)
       refine Gl (T := FU) (rows := [(FM k r s)]) (l := [k]) Z Z Z bn Z Z Z Z Z Z Z Z (fun pc => ⟨(Ic Mb2 (Ic Mb3 (Ic Mb4 (Ic Mb5 (Ic Mb6 (Ic Mb9 In0)))))), ?_⟩)
       refine Gf 3 11 (by kernel_rfl) ?_ ?_
       ·refine id (Jyq Z (FI (v := (sv a)) Z Z Z (Rb1 Z)) ⟨(Ic Mb2 (Ic Mb3 (Ic Mb4 (Ic Mb5 (Ic Mb6 (Ic Mb9 In0)))))), ?_⟩)
        refine FP 11 (by kernel_rfl) (Jyq Z (FI (v := (sv bh)) Z Z Z (Gj (T := (Ty.sl FU)) Mb7 i ao Z Z)) ⟨(Ic Mb2 (Ic Mb3 (Ic Mb4 (Ic Mb5 (Ic Mb6 (Ic Mb9 In0)))))), ?_⟩)
        refine Ao 14 Z ?_
        refine F7 (T := FU) (bytes := 88) (q := (wI ((p0.ops.length : Int) - 1)).toNat) Z Z Z ad Mb8 ae (SrcT.row Mb0 bn Z) z Z Z Z Z Z Z Z Z (fun aM mK ga iL => ⟨_, (.there (.there (.there (.there (.there (.there (.there (.there .here)))))))), ⟨(Ic Mb2 (Ic Mb3 (Ic Mb4 (Ic Mb5 (Ic Mb6 (Ic Mb9 In0)))))), ?_⟩⟩)
        refine Aw.shift (Re0 (Sd ⟨(Ic Mb1 (Ic Mb2 (Ic Mb3 (Ic Mb4 (Ic Mb5 (Ic Mb8 In0)))))), ?_⟩))
        have b8 := i.mono ga
        obtain ⟨ow, bI, h0⟩ := RowR.at b8 n
        obtain ⟨pd, rfl, nA⟩ := h0
        have nZ := FV bI
        refine FP 15 (by kernel_rfl) (Jyq Z (F6 (T := (Ty.sl FU)) Mb6 b8 bI (FSq n).1 Z Z Z Z Z) ⟨(Ic Mb1 (Ic Mb2 (Ic Mb3 (Ic Mb4 (Ic Mb5 (Ic Mb8 In0)))))), ?_⟩)
        refine Ao 16 Z ?_
        refine FX (T := (Ty.sl FU)) (vs := [(sv aM)]) (r' := [(sv aM)]) (l' := (Ge p0.ops (wI ((p0.ops.length : Int) - 1)) o)) Z Z Z Z Z (.there (.there (.there (.there (.there (.there .here)))))) b8 bI Z Z Z (RowR.set (wI ((p0.ops.length : Int) - 1)) b8 ⟨aM, Z, iL⟩) (fun eK => ⟨(Ic Mb1 (Ic Mb2 (Ic Mb3 (Ic Mb4 (Ic Mb5 (Ic Mb8 In0)))))), ?_⟩)
        have hse := FY h (wI ((p0.ops.length : Int) - 1)).toNat (sv aM)
        rw [hse] at eK ⊢
        clear hse
        have na := F3 bI (v := (sv aM))
        exact Ad<|Pu8<|Pu6<|Pu6<|Pu8<|Pu8<|Pu5<|Re6<|Re6<|Re6<|Sd<|⟨[], trivial, (Ge p0.ops (wI ((p0.ops.length : Int) - 1)) o), (h.set (wI ((p0.ops.length : Int) - 1)).toNat (sv aM)), Z, Z, H, eK⟩
       ·refine id (Jyq Z (FI (v := (sv bh)) Z Z Z (Gj (T := (Ty.sl FU)) Mb7 i ao Z Z)) ⟨(Ic Mb2 (Ic Mb3 (Ic Mb4 (Ic Mb5 (Ic Mb6 (Ic Mb9 In0)))))), ?_⟩)
        refine Gf 3 14 (by kernel_rfl) ?_ ?_
        ·refine id (Jyq Z (FI (v := (sv a)) Z Z Z (Rb1 Z)) ⟨(Ic Mb2 (Ic Mb3 (Ic Mb4 (Ic Mb5 (Ic Mb6 (Ic Mb9 In0)))))), ?_⟩)
         refine Ao 14 Z ?_
         refine F7 (T := FU) (bytes := 88) (q := (wI ((p0.ops.length : Int) - 1)).toNat) Z Z Z ad Mb8 ae (SrcT.row Mb0 bn Z) z Z Z Z Z Z Z Z Z (fun aN mL gb iM => ⟨_, (.there (.there (.there (.there (.there (.there (.there (.there .here)))))))), ⟨(Ic Mb2 (Ic Mb3 (Ic Mb4 (Ic Mb5 (Ic Mb6 (Ic Mb9 In0)))))), ?_⟩⟩)
         refine Aw.shift (Re0 (Sd ⟨(Ic Mb1 (Ic Mb2 (Ic Mb3 (Ic Mb4 (Ic Mb5 (Ic Mb8 In0)))))), ?_⟩))
         have b9 := i.mono gb
         obtain ⟨ox, bJ, h1⟩ := RowR.at b9 n
         obtain ⟨pe, rfl, nB⟩ := h1
         have n0 := FV bJ
         refine FP 15 (by kernel_rfl) (Jyq Z (F6 (T := (Ty.sl FU)) Mb6 b9 bJ (FSq n).1 Z Z Z Z Z) ⟨(Ic Mb1 (Ic Mb2 (Ic Mb3 (Ic Mb4 (Ic Mb5 (Ic Mb8 In0)))))), ?_⟩)
         refine Ao 16 Z ?_
         refine FX (T := (Ty.sl FU)) (vs := [(sv aN)]) (r' := [(sv aN)]) (l' := (Ge p0.ops (wI ((p0.ops.length : Int) - 1)) o)) Z Z Z Z Z (.there (.there (.there (.there (.there (.there .here)))))) b9 bJ Z Z Z (RowR.set (wI ((p0.ops.length : Int) - 1)) b9 ⟨aN, Z, iM⟩) (fun eL => ⟨(Ic Mb1 (Ic Mb2 (Ic Mb3 (Ic Mb4 (Ic Mb5 (Ic Mb8 In0)))))), ?_⟩)
         have hse := FY h (wI ((p0.ops.length : Int) - 1)).toNat (sv aN)
         rw [hse] at eL ⊢
         clear hse
         have nb := F3 bJ (v := (sv aN))
         exact Ad<|Pu8<|Pu6<|Pu6<|Pu8<|Pu8<|Pu5<|Re6<|Re6<|Re6<|Sd<|⟨[], trivial, (Ge p0.ops (wI ((p0.ops.length : Int) - 1)) o), (h.set (wI ((p0.ops.length : Int) - 1)).toNat (sv aN)), Z, Z, H, eL⟩
        ·refine id (Jy Z ?_)
         refine F7 (T := FU) (bytes := 88) (q := (wI ((p0.ops.length : Int) - 1)).toNat) Z Z Z ad Mb8 ae (SrcT.row Mb0 bn Z) z Z Z Z Z Z Z Z Z (fun aO mM gc iN => ⟨_, (.there (.there (.there (.there (.there (.there (.there (.there .here)))))))), ⟨(Ic Mb2 (Ic Mb3 (Ic Mb4 (Ic Mb5 (Ic Mb6 (Ic Mb9 In0)))))), ?_⟩⟩)
         refine Aw.shift (Re0 (Sd ⟨(Ic Mb1 (Ic Mb2 (Ic Mb3 (Ic Mb4 (Ic Mb5 (Ic Mb8 In0)))))), ?_⟩))
         refine FP 3 (by kernel_rfl) (Jyq Z (FI (v := (sv a)) Z Z Z (Rb0 Z)) ⟨(Ic Mb1 (Ic Mb2 (Ic Mb3 (Ic Mb4 (Ic Mb5 (Ic Mb8 In0)))))), ?_⟩)
         have ca := i.mono gc
         obtain ⟨oy, bK, h2⟩ := RowR.at ca n
         obtain ⟨pf, rfl, nC⟩ := h2
         have n1 := FV bK
         refine FP 15 (by kernel_rfl) (Jyq Z (F6 (T := (Ty.sl FU)) Mb6 ca bK (FSq n).1 Z Z Z Z Z) ⟨(Ic Mb1 (Ic Mb2 (Ic Mb3 (Ic Mb4 (Ic Mb5 (Ic Mb8 In0)))))), ?_⟩)
         refine Ao 16 Z ?_
         refine FX (T := (Ty.sl FU)) (vs := [(sv aO)]) (r' := [(sv aO)]) (l' := (Ge p0.ops (wI ((p0.ops.length : Int) - 1)) o)) Z Z Z Z Z (.there (.there (.there (.there (.there (.there .here)))))) ca bK Z Z Z (RowR.set (wI ((p0.ops.length : Int) - 1)) ca ⟨aO, Z, iN⟩) (fun eM => ⟨(Ic Mb1 (Ic Mb2 (Ic Mb3 (Ic Mb4 (Ic Mb5 (Ic Mb8 In0)))))), ?_⟩)
         have hse := FY h (wI ((p0.ops.length : Int) - 1)).toNat (sv aO)
         rw [hse] at eM ⊢
         clear hse
         have nc := F3 bK (v := (sv aO))
         exact Ad<|Pu8<|Pu6<|Pu6<|Pu8<|Pu8<|Pu5<|Re6<|Re6<|Re6<|Sd<|⟨[], trivial, (Ge p0.ops (wI ((p0.ops.length : Int) - 1)) o), (h.set (wI ((p0.ops.length : Int) - 1)).toNat (sv aO)), Z, Z, H, eM⟩
     ·refine id (Jy Z ?_)
      have bc : RowR FU M [(FM k r s)] [k] := RowR.cons ⟨r, s, Z, R, S⟩ (RowR.nil)
      refine Gl (T := FU) (rows := [(FM k r s)]) (l := [k]) Z Z Z bc Z Z Z Z Z Z Z Z (fun pg => ⟨(Ic Mb2 (Ic Mb3 (Ic Mb4 (Ic Mb5 (Ic Mb6 (Ic Mb9 In0)))))), ?_⟩)
      refine Gf 3 10 (by kernel_rfl) ?_ ?_
      ·refine id (Jyq Z (FI (v := (sv a)) Z Z Z (Rb1 Z)) ⟨(Ic Mb2 (Ic Mb3 (Ic Mb4 (Ic Mb5 (Ic Mb6 (Ic Mb9 In0)))))), ?_⟩)
       obtain ⟨oz, dq, h3⟩ := RowR.at i A
       obtain ⟨mo, rfl, iO⟩ := h3
       have kQ := FV dq
       refine FP 10 (by kernel_rfl) (Jyq Z (F6 (T := (Ty.sl FU)) Mb7 i dq (FSq A).1 Z Z Z Z Z) ⟨(Ic Mb2 (Ic Mb3 (Ic Mb4 (Ic Mb5 (Ic Mb6 (Ic Mb9 In0)))))), ?_⟩)
       refine FP 11 (by kernel_rfl) (Jyq Z (FI (v := (sv mo)) Z Z Z (Gj (T := (Ty.sl FU)) Mb7 i dq Z Z)) ⟨(Ic Mb2 (Ic Mb3 (Ic Mb4 (Ic Mb5 (Ic Mb6 (Ic Mb9 In0)))))), ?_⟩)
       refine Ao 14 Z ?_
       refine F7 (T := FU) (bytes := 88) (q := (wI ((p0.ops.length : Int) - 1)).toNat) Z Z Z iO Mb8 kQ (SrcT.row Mb0 bc Z) z Z Z Z Z Z Z Z Z (fun aP mN gd iP => ⟨_, (.there (.there (.there (.there (.there (.there (.there (.there .here)))))))), ⟨(Ic Mb2 (Ic Mb3 (Ic Mb4 (Ic Mb5 (Ic Mb6 (Ic Mb9 In0)))))), ?_⟩⟩)
       refine Aw.shift (Re0 (Sd ⟨(Ic Mb1 (Ic Mb2 (Ic Mb3 (Ic Mb4 (Ic Mb5 (Ic Mb8 In0)))))), ?_⟩))
       have cb := i.mono gd
       obtain ⟨oA, bL, h4⟩ := RowR.at cb n
       obtain ⟨ph, rfl, nD⟩ := h4
       have n2 := FV bL
       refine FP 15 (by kernel_rfl) (Jyq Z (F6 (T := (Ty.sl FU)) Mb6 cb bL (FSq n).1 Z Z Z Z Z) ⟨(Ic Mb1 (Ic Mb2 (Ic Mb3 (Ic Mb4 (Ic Mb5 (Ic Mb8 In0)))))), ?_⟩)
       refine Ao 16 Z ?_
       refine FX (T := (Ty.sl FU)) (vs := [(sv aP)]) (r' := [(sv aP)]) (l' := (Ge p0.ops (wI ((p0.ops.length : Int) - 1)) o)) Z Z Z Z Z (.there (.there (.there (.there (.there (.there .here)))))) cb bL Z Z Z (RowR.set (wI ((p0.ops.length : Int) - 1)) cb ⟨aP, Z, iP⟩) (fun eN => ⟨(Ic Mb1 (Ic Mb2 (Ic Mb3 (Ic Mb4 (Ic Mb5 (Ic Mb8 In0)))))), ?_⟩)
       have hse := FY h (wI ((p0.ops.length : Int) - 1)).toNat (sv aP)
       rw [hse] at eN ⊢
       clear hse
       have nd := F3 bL (v := (sv aP))
       exact Ad<|Pu8<|Pu6<|Pu6<|Pu8<|Pu8<|Pu5<|Re6<|Re6<|Re6<|Sd<|⟨[], trivial, (Ge p0.ops (wI ((p0.ops.length : Int) - 1)) o), (h.set (wI ((p0.ops.length : Int) - 1)).toNat (sv aP)), Z, Z, H, eN⟩
      ·obtain ⟨oB, bM, h5⟩ := RowR.at i A
       obtain ⟨fL, rfl, dt⟩ := h5
       have dv := FV bM
       refine id (Jyq Z (F6 (T := (Ty.sl FU)) Mb7 i bM (FSq A).1 Z Z Z Z Z) ⟨(Ic Mb2 (Ic Mb3 (Ic Mb4 (Ic Mb5 (Ic Mb6 (Ic Mb9 In0)))))), ?_⟩)
       refine Gf 3 11 (by kernel_rfl) ?_ ?_
       ·refine id (Jyq Z (FI (v := (sv a)) Z Z Z (Rb1 Z)) ⟨(Ic Mb2 (Ic Mb3 (Ic Mb4 (Ic Mb5 (Ic Mb6 (Ic Mb9 In0)))))), ?_⟩)
        refine FP 11 (by kernel_rfl) (Jyq Z (FI (v := (sv fL)) Z Z Z (Gj (T := (Ty.sl FU)) Mb7 i bM Z Z)) ⟨(Ic Mb2 (Ic Mb3 (Ic Mb4 (Ic Mb5 (Ic Mb6 (Ic Mb9 In0)))))), ?_⟩)
        refine Ao 14 Z ?_
        refine F7 (T := FU) (bytes := 88) (q := (wI ((p0.ops.length : Int) - 1)).toNat) Z Z Z dt Mb8 dv (SrcT.row Mb0 bc Z) z Z Z Z Z Z Z Z Z (fun aQ mO ge iQ => ⟨_, (.there (.there (.there (.there (.there (.there (.there (.there .here)))))))), ⟨(Ic Mb2 (Ic Mb3 (Ic Mb4 (Ic Mb5 (Ic Mb6 (Ic Mb9 In0)))))), ?_⟩⟩)
        refine Aw.shift (Re0 (Sd ⟨(Ic Mb1 (Ic Mb2 (Ic Mb3 (Ic Mb4 (Ic Mb5 (Ic Mb8 In0)))))), ?_⟩))
        have cc := i.mono ge
        obtain ⟨oC, bN, h6⟩ := RowR.at cc n
        obtain ⟨pi, rfl, nE⟩ := h6
        have n3 := FV bN
        refine FP 15 (by kernel_rfl) (Jyq Z (F6 (T := (Ty.sl FU)) Mb6 cc bN (FSq n).1 Z Z Z Z Z) ⟨(Ic Mb1 (Ic Mb2 (Ic Mb3 (Ic Mb4 (Ic Mb5 (Ic Mb8 In0)))))), ?_⟩)
        refine Ao 16 Z ?_
        refine FX (T := (Ty.sl FU)) (vs := [(sv aQ)]) (r' := [(sv aQ)]) (l' := (Ge p0.ops (wI ((p0.ops.length : Int) - 1)) o)) Z Z Z Z Z (.there (.there (.there (.there (.there (.there .here)))))) cc bN Z Z Z (RowR.set (wI ((p0.ops.length : Int) - 1)) cc ⟨aQ, Z, iQ⟩) (fun eO => ⟨(Ic Mb1 (Ic Mb2 (Ic Mb3 (Ic Mb4 (Ic Mb5 (Ic Mb8 In0)))))), ?_⟩)
        have hse := FY h (wI ((p0.ops.length : Int) - 1)).toNat (sv aQ)
        rw [hse] at eO ⊢
        clear hse
        have nf := F3 bN (v := (sv aQ))
        exact Ad<|Pu8<|Pu6<|Pu6<|Pu8<|Pu8<|Pu5<|Re6<|Re6<|Re6<|Sd<|⟨[], trivial, (Ge p0.ops (wI ((p0.ops.length : Int) - 1)) o), (h.set (wI ((p0.ops.length : Int) - 1)).toNat (sv aQ)), Z, Z, H, eO⟩
       ·refine id (Jyq Z (FI (v := (sv fL)) Z Z Z (Gj (T := (Ty.sl FU)) Mb7 i bM Z Z)) ⟨(Ic Mb2 (Ic Mb3 (Ic Mb4 (Ic Mb5 (Ic Mb6 (Ic Mb9 In0)))))), ?_⟩)
        refine Gf 3 14 (by kernel_rfl) ?_ ?_
        ·refine id (Jyq Z (FI (v := (sv a)) Z Z Z (Rb1 Z)) ⟨(Ic Mb2 (Ic Mb3 (Ic Mb4 (Ic Mb5 (Ic Mb6 (Ic Mb9 In0)))))), ?_⟩)
         refine Ao 14 Z ?_
         refine F7 (T := FU) (bytes := 88) (q := (wI ((p0.ops.length : Int) - 1)).toNat) Z Z Z dt Mb8 dv (SrcT.row Mb0 bc Z) z Z Z Z Z Z Z Z Z (fun aR mP gf iR => ⟨_, (.there (.there (.there (.there (.there (.there (.there (.there .here)))))))), ⟨(Ic Mb2 (Ic Mb3 (Ic Mb4 (Ic Mb5 (Ic Mb6 (Ic Mb9 In0)))))), ?_⟩⟩)
         refine Aw.shift (Re0 (Sd ⟨(Ic Mb1 (Ic Mb2 (Ic Mb3 (Ic Mb4 (Ic Mb5 (Ic Mb8 In0)))))), ?_⟩))
         have cd := i.mono gf
         obtain ⟨oD, bO, h7⟩ := RowR.at cd n
         obtain ⟨pj, rfl, nF⟩ := h7
         have n4 := FV bO
         refine FP 15 (by kernel_rfl) (Jyq Z (F6 (T := (Ty.sl FU)) Mb6 cd bO (FSq n).1 Z Z Z Z Z) ⟨(Ic Mb1 (Ic Mb2 (Ic Mb3 (Ic Mb4 (Ic Mb5 (Ic Mb8 In0)))))), ?_⟩)
         refine Ao 16 Z ?_
         refine FX (T := (Ty.sl FU)) (vs := [(sv aR)]) (r' := [(sv aR)]) (l' := (Ge p0.ops (wI ((p0.ops.length : Int) - 1)) o)) Z Z Z Z Z (.there (.there (.there (.there (.there (.there .here)))))) cd bO Z Z Z (RowR.set (wI ((p0.ops.length : Int) - 1)) cd ⟨aR, Z, iR⟩) (fun eP => ⟨(Ic Mb1 (Ic Mb2 (Ic Mb3 (Ic Mb4 (Ic Mb5 (Ic Mb8 In0)))))), ?_⟩)
         have hse := FY h (wI ((p0.ops.length : Int) - 1)).toNat (sv aR)
         rw [hse] at eP ⊢
         clear hse
         have ng := F3 bO (v := (sv aR))
         exact Ad<|Pu8<|Pu6<|Pu6<|Pu8<|Pu8<|Pu5<|Re6<|Re6<|Re6<|Sd<|⟨[], trivial, (Ge p0.ops (wI ((p0.ops.length : Int) - 1)) o), (h.set (wI ((p0.ops.length : Int) - 1)).toNat (sv aR)), Z, Z, H, eP⟩
        ·refine id (Jy Z ?_)
         refine F7 (T := FU) (bytes := 88) (q := (wI ((p0.ops.length : Int) - 1)).toNat) Z Z Z dt Mb8 dv (SrcT.row Mb0 bc Z) z Z Z Z Z Z Z Z Z (fun aS mQ gg iS => ⟨_, (.there (.there (.there (.there (.there (.there (.there (.there .here)))))))), ⟨(Ic Mb2 (Ic Mb3 (Ic Mb4 (Ic Mb5 (Ic Mb6 (Ic Mb9 In0)))))), ?_⟩⟩)
         refine Aw.shift (Re0 (Sd ⟨(Ic Mb1 (Ic Mb2 (Ic Mb3 (Ic Mb4 (Ic Mb5 (Ic Mb8 In0)))))), ?_⟩))
         refine FP 3 (by kernel_rfl) (Jyq Z (FI (v := (sv a)) Z Z Z (Rb0 Z)) ⟨(Ic Mb1 (Ic Mb2 (Ic Mb3 (Ic Mb4 (Ic Mb5 (Ic Mb8 In0)))))), ?_⟩)
         have ce := i.mono gg
         obtain ⟨oE, bP, h8⟩ := RowR.at ce n
         obtain ⟨pk, rfl, nG⟩ := h8
         have n5 := FV bP
         refine FP 15 (by kernel_rfl) (Jyq Z (F6 (T := (Ty.sl FU)) Mb6 ce bP (FSq n).1 Z Z Z Z Z) ⟨(Ic Mb1 (Ic Mb2 (Ic Mb3 (Ic Mb4 (Ic Mb5 (Ic Mb8 In0)))))), ?_⟩)
         refine Ao 16 Z ?_
         refine FX (T := (Ty.sl FU)) (vs := [(sv aS)]) (r' := [(sv aS)]) (l' := (Ge p0.ops (wI ((p0.ops.length : Int) - 1)) o)) Z Z Z Z Z (.there (.there (.there (.there (.there (.there .here)))))) ce bP Z Z Z (RowR.set (wI ((p0.ops.length : Int) - 1)) ce ⟨aS, Z, iS⟩) (fun eQ => ⟨(Ic Mb1 (Ic Mb2 (Ic Mb3 (Ic Mb4 (Ic Mb5 (Ic Mb8 In0)))))), ?_⟩)
         have hse := FY h (wI ((p0.ops.length : Int) - 1)).toNat (sv aS)
         rw [hse] at eQ ⊢
         clear hse
         have nh := F3 bP (v := (sv aS))
         exact Ad<|Pu8<|Pu6<|Pu6<|Pu8<|Pu8<|Pu5<|Re6<|Re6<|Re6<|Sd<|⟨[], trivial, (Ge p0.ops (wI ((p0.ops.length : Int) - 1)) o), (h.set (wI ((p0.ops.length : Int) - 1)).toNat (sv aS)), Z, Z, H, eQ⟩
    ·refine id (Jy Z ?_)
     have au : RowR FU M [(FM k r s)] [k] := RowR.cons ⟨r, s, Z, R, S⟩ (RowR.nil)
     refine Gl (T := FU) (rows := [(FM k r s)]) (l := [k]) Z Z Z au Z Z Z Z Z Z Z Z (fun pl => ⟨(Ic Mb2 (Ic Mb3 (Ic Mb4 (Ic Mb5 (Ic Mb6 (Ic Mb9 In0)))))), ?_⟩)
     refine Gf 3 8 (by kernel_rfl) ?_ ?_
     ·refine id (Jyq Z (FI (v := (sv a)) Z Z Z (Rb1 Z)) ⟨(Ic Mb2 (Ic Mb3 (Ic Mb4 (Ic Mb5 (Ic Mb6 (Ic Mb9 In0)))))), ?_⟩)
      refine FP 8 (by kernel_rfl) (Jyq Z (FI (v := (sv a)) Z Z Z (Rb1 Z)) ⟨(Ic Mb2 (Ic Mb3 (Ic Mb4 (Ic Mb5 (Ic Mb6 (Ic Mb9 In0)))))), ?_⟩)
      obtain ⟨oF, dr, h9⟩ := RowR.at i A
      obtain ⟨mp, rfl, iT⟩ := h9
      have kR := FV dr
      refine FP 10 (by kernel_rfl) (Jyq Z (F6 (T := (Ty.sl FU)) Mb7 i dr (FSq A).1 Z Z Z Z Z) ⟨(Ic Mb2 (Ic Mb3 (Ic Mb4 (Ic Mb5 (Ic Mb6 (Ic Mb9 In0)))))), ?_⟩)
      refine FP 11 (by kernel_rfl) (Jyq Z (FI (v := (sv mp)) Z Z Z (Gj (T := (Ty.sl FU)) Mb7 i dr Z Z)) ⟨(Ic Mb2 (Ic Mb3 (Ic Mb4 (Ic Mb5 (Ic Mb6 (Ic Mb9 In0)))))), ?_⟩)
      refine Ao 14 Z ?_
      refine F7 (T := FU) (bytes := 88) (q := (wI ((p0.ops.length : Int) - 1)).toNat) Z Z Z iT Mb8 kR (SrcT.row Mb0 au Z) z Z Z Z Z Z Z Z Z (fun aT mR gh iU => ⟨_, (.there (.there (.there (.there (.there (.there (.there (.there .here)))))))), ⟨(Ic Mb2 (Ic Mb3 (Ic Mb4 (Ic Mb5 (Ic Mb6 (Ic Mb9 In0)))))), ?_⟩⟩)
      refine Aw.shift (Re0 (Sd ⟨(Ic Mb1 (Ic Mb2 (Ic Mb3 (Ic Mb4 (Ic Mb5 (Ic Mb8 In0)))))), ?_⟩))
      have cf := i.mono gh
      obtain ⟨oG, bQ, ia⟩ := RowR.at cf n
      obtain ⟨pm, rfl, nH⟩ := ia
      have n6 := FV bQ
      refine FP 15 (by kernel_rfl) (Jyq Z (F6 (T := (Ty.sl FU)) Mb6 cf bQ (FSq n).1 Z Z Z Z Z) ⟨(Ic Mb1 (Ic Mb2 (Ic Mb3 (Ic Mb4 (Ic Mb5 (Ic Mb8 In0)))))), ?_⟩)
      refine Ao 16 Z ?_
      refine FX (T := (Ty.sl FU)) (vs := [(sv aT)]) (r' := [(sv aT)]) (l' := (Ge p0.ops (wI ((p0.ops.length : Int) - 1)) o)) Z Z Z Z Z (.there (.there (.there (.there (.there (.there .here)))))) cf bQ Z Z Z (RowR.set (wI ((p0.ops.length : Int) - 1)) cf ⟨aT, Z, iU⟩) (fun eR => ⟨(Ic Mb1 (Ic Mb2 (Ic Mb3 (Ic Mb4 (Ic Mb5 (Ic Mb8 In0)))))), ?_⟩)
      have hse := FY h (wI ((p0.ops.length : Int) - 1)).toNat (sv aT)
      rw [hse] at eR ⊢
      clear hse
      have ni := F3 bQ (v := (sv aT))
      exact Ad<|Pu8<|Pu6<|Pu6<|Pu8<|Pu8<|Pu5<|Re6<|Re6<|Re6<|Sd<|⟨[], trivial, (Ge p0.ops (wI ((p0.ops.length : Int) - 1)) o), (h.set (wI ((p0.ops.length : Int) - 1)).toNat (sv aT)), Z, Z, H, eR⟩
     ·refine id (Jyq Z (FI (v := (sv a)) Z Z Z (Rb1 Z)) ⟨(Ic Mb2 (Ic Mb3 (Ic Mb4 (Ic Mb5 (Ic Mb6 (Ic Mb9 In0)))))), ?_⟩)
      refine Gf 3 10 (by kernel_rfl) ?_ ?_
      ·refine id (Jyq Z (FI (v := (sv a)) Z Z Z (Rb1 Z)) ⟨(Ic Mb2 (Ic Mb3 (Ic Mb4 (Ic Mb5 (Ic Mb6 (Ic Mb9 In0)))))), ?_⟩)
       obtain ⟨oH, ds, ib⟩ := RowR.at i A
       obtain ⟨mq, rfl, iV⟩ := ib
       have kS := FV ds
       refine FP 10 (by kernel_rfl) (Jyq Z (F6 (T := (Ty.sl FU)) Mb7 i ds (FSq A).1 Z Z Z Z Z) ⟨(Ic Mb2 (Ic Mb3 (Ic Mb4 (Ic Mb5 (Ic Mb6 (Ic Mb9 In0)))))), ?_⟩)
       refine FP 11 (by kernel_rfl) (Jyq Z (FI (v := (sv mq)) Z Z Z (Gj (T := (Ty.sl FU)) Mb7 i ds Z Z)) ⟨(Ic Mb2 (Ic Mb3 (Ic Mb4 (Ic Mb5 (Ic Mb6 (Ic Mb9 In0)))))), ?_⟩)
       refine Ao 14 Z ?_
       refine F7 (T := FU) (bytes := 88) (q := (wI ((p0.ops.length : Int) - 1)).toNat) Z Z Z iV Mb8 kS (SrcT.row Mb0 au Z) z Z Z Z Z Z Z Z Z (fun aU mS gi iW => ⟨_, (.there (.there (.there (.there (.there (.there (.there (.there .here)))))))), ⟨(Ic Mb2 (Ic Mb3 (Ic Mb4 (Ic Mb5 (Ic Mb6 (Ic Mb9 In0)))))), ?_⟩⟩)
       refine Aw.shift (Re0 (Sd ⟨(Ic Mb1 (Ic Mb2 (Ic Mb3 (Ic Mb4 (Ic Mb5 (Ic Mb8 In0)))))), ?_⟩))
       have cg := i.mono gi
       obtain ⟨oI, bR, ic⟩ := RowR.at cg n
       obtain ⟨pn, rfl, nI⟩ := ic
       have n7 := FV bR
       refine FP 15 (by kernel_rfl) (Jyq Z (F6 (T := (Ty.sl FU)) Mb6 cg bR (FSq n).1 Z Z Z Z Z) ⟨(Ic Mb1 (Ic Mb2 (Ic Mb3 (Ic Mb4 (Ic Mb5 (Ic Mb8 In0)))))), ?_⟩)
       refine Ao 16 Z ?_
       refine FX (T := (Ty.sl FU)) (vs := [(sv aU)]) (r' := [(sv aU)]) (l' := (Ge p0.ops (wI ((p0.ops.length : Int) - 1)) o)) Z Z Z Z Z (.there (.there (.there (.there (.there (.there .here)))))) cg bR Z Z Z (RowR.set (wI ((p0.ops.length : Int) - 1)) cg ⟨aU, Z, iW⟩) (fun eS => ⟨(Ic Mb1 (Ic Mb2 (Ic Mb3 (Ic Mb4 (Ic Mb5 (Ic Mb8 In0)))))), ?_⟩)
       have hse := FY h (wI ((p0.ops.length : Int) - 1)).toNat (sv aU)
       rw [hse] at eS ⊢
       clear hse
       have nj := F3 bR (v := (sv aU))
       exact Ad<|Pu8<|Pu6<|Pu6<|Pu8<|Pu8<|Pu5<|Re6<|Re6<|Re6<|Sd<|⟨[], trivial, (Ge p0.ops (wI ((p0.ops.length : Int) - 1)) o), (h.set (wI ((p0.ops.length : Int) - 1)).toNat (sv aU)), Z, Z, H, eS⟩
      ·obtain ⟨oJ, bS, ie⟩ := RowR.at i A
       obtain ⟨fM, rfl, du⟩ := ie
       have dw := FV bS
       refine id (Jyq Z (F6 (T := (Ty.sl FU)) Mb7 i bS (FSq A).1 Z Z Z Z Z) ⟨(Ic Mb2 (Ic Mb3 (Ic Mb4 (Ic Mb5 (Ic Mb6 (Ic Mb9 In0)))))), ?_⟩)
       refine Gf 3 11 (by kernel_rfl) ?_ ?_
       ·refine id (Jyq Z (FI (v := (sv a)) Z Z Z (Rb1 Z)) ⟨(Ic Mb2 (Ic Mb3 (Ic Mb4 (Ic Mb5 (Ic Mb6 (Ic Mb9 In0)))))), ?_⟩)
        refine FP 11 (by kernel_rfl) (Jyq Z (FI (v := (sv fM)) Z Z Z (Gj (T := (Ty.sl FU)) Mb7 i bS Z Z)) ⟨(Ic Mb2 (Ic Mb3 (Ic Mb4 (Ic Mb5 (Ic Mb6 (Ic Mb9 In0)))))), ?_⟩)
        refine Ao 14 Z ?_
        refine F7 (T := FU) (bytes := 88) (q := (wI ((p0.ops.length : Int) - 1)).toNat) Z Z Z du Mb8 dw (SrcT.row Mb0 au Z) z Z Z Z Z Z Z Z Z (fun aV mT gj iX => ⟨_, (.there (.there (.there (.there (.there (.there (.there (.there .here)))))))), ⟨(Ic Mb2 (Ic Mb3 (Ic Mb4 (Ic Mb5 (Ic Mb6 (Ic Mb9 In0)))))), ?_⟩⟩)
        refine Aw.shift (Re0 (Sd ⟨(Ic Mb1 (Ic Mb2 (Ic Mb3 (Ic Mb4 (Ic Mb5 (Ic Mb8 In0)))))), ?_⟩))
        have ch := i.mono gj
        obtain ⟨oK, bT, ig⟩ := RowR.at ch n
        obtain ⟨po, rfl, nJ⟩ := ig
        have n8 := FV bT
        refine FP 15 (by kernel_rfl) (Jyq Z (F6 (T := (Ty.sl FU)) Mb6 ch bT (FSq n).1 Z Z Z Z Z) ⟨(Ic Mb1 (Ic Mb2 (Ic Mb3 (Ic Mb4 (Ic Mb5 (Ic Mb8 In0)))))), ?_⟩)
        refine Ao 16 Z ?_
        refine FX (T := (Ty.sl FU)) (vs := [(sv aV)]) (r' := [(sv aV)]) (l' := (Ge p0.ops (wI ((p0.ops.length : Int) - 1)) o)) Z Z Z Z Z (.there (.there (.there (.there (.there (.there .here)))))) ch bT Z Z Z (RowR.set (wI ((p0.ops.length : Int) - 1)) ch ⟨aV, Z, iX⟩) (fun eT => ⟨(Ic Mb1 (Ic Mb2 (Ic Mb3 (Ic Mb4 (Ic Mb5 (Ic Mb8 In0)))))), ?_⟩)
        have hse := FY h (wI ((p0.ops.length : Int) - 1)).toNat (sv aV)
        rw [hse] at eT ⊢
        clear hse
        have nk := F3 bT (v := (sv aV))
        exact Ad<|Pu8<|Pu6<|Pu6<|Pu8<|Pu8<|Pu5<|Re6<|Re6<|Re6<|Sd<|⟨[], trivial, (Ge p0.ops (wI ((p0.ops.length : Int) - 1)) o), (h.set (wI ((p0.ops.length : Int) - 1)).toNat (sv aV)), Z, Z, H, eT⟩
       ·refine id (Jyq Z (FI (v := (sv fM)) Z Z Z (Gj (T := (Ty.sl FU)) Mb7 i bS Z Z)) ⟨(Ic Mb2 (Ic Mb3 (Ic Mb4 (Ic Mb5 (Ic Mb6 (Ic Mb9 In0)))))), ?_⟩)
        refine Gf 3 14 (by kernel_rfl) ?_ ?_
        ·refine id (Jyq Z (FI (v := (sv a)) Z Z Z (Rb1 Z)) ⟨(Ic Mb2 (Ic Mb3 (Ic Mb4 (Ic Mb5 (Ic Mb6 (Ic Mb9 In0)))))), ?_⟩)
         refine Ao 14 Z ?_
         refine F7 (T := FU) (bytes := 88) (q := (wI ((p0.ops.length : Int) - 1)).toNat) Z Z Z du Mb8 dw (SrcT.row Mb0 au Z) z Z Z Z Z Z Z Z Z (fun aW mU gk iY => ⟨_, (.there (.there (.there (.there (.there (.there (.there (.there .here)))))))), ⟨(Ic Mb2 (Ic Mb3 (Ic Mb4 (Ic Mb5 (Ic Mb6 (Ic Mb9 In0)))))), ?_⟩⟩)
         refine Aw.shift (Re0 (Sd ⟨(Ic Mb1 (Ic Mb2 (Ic Mb3 (Ic Mb4 (Ic Mb5 (Ic Mb8 In0)))))), ?_⟩))
         have ci := i.mono gk
         obtain ⟨oL, bU, ih⟩ := RowR.at ci n
         obtain ⟨pp, rfl, nK⟩ := ih
         have n9 := FV bU
         refine FP 15 (by kernel_rfl) (Jyq Z (F6 (T := (Ty.sl FU)) Mb6 ci bU (FSq n).1 Z Z Z Z Z) ⟨(Ic Mb1 (Ic Mb2 (Ic Mb3 (Ic Mb4 (Ic Mb5 (Ic Mb8 In0)))))), ?_⟩)
         refine Ao 16 Z ?_
         refine FX (T := (Ty.sl FU)) (vs := [(sv aW)]) (r' := [(sv aW)]) (l' := (Ge p0.ops (wI ((p0.ops.length : Int) - 1)) o)) Z Z Z Z Z (.there (.there (.there (.there (.there (.there .here)))))) ci bU Z Z Z (RowR.set (wI ((p0.ops.length : Int) - 1)) ci ⟨aW, Z, iY⟩) (fun eU => ⟨(Ic Mb1 (Ic Mb2 (Ic Mb3 (Ic Mb4 (Ic Mb5 (Ic Mb8 In0)))))), ?_⟩)
         have hse := FY h (wI ((p0.ops.length : Int) - 1)).toNat (sv aW)
         rw [hse] at eU ⊢
         clear hse
         have nl := F3 bU (v := (sv aW))
         exact Ad<|Pu8<|Pu6<|Pu6<|Pu8<|Pu8<|Pu5<|Re6<|Re6<|Re6<|Sd<|⟨[], trivial, (Ge p0.ops (wI ((p0.ops.length : Int) - 1)) o), (h.set (wI ((p0.ops.length : Int) - 1)).toNat (sv aW)), Z, Z, H, eU⟩
        ·refine id (Jy Z ?_)
         refine F7 (T := FU) (bytes := 88) (q := (wI ((p0.ops.length : Int) - 1)).toNat) Z Z Z du Mb8 dw (SrcT.row Mb0 au Z) z Z Z Z Z Z Z Z Z (fun aX mV gl iZ => ⟨_, (.there (.there (.there (.there (.there (.there (.there (.there .here)))))))), ⟨(Ic Mb2 (Ic Mb3 (Ic Mb4 (Ic Mb5 (Ic Mb6 (Ic Mb9 In0)))))), ?_⟩⟩)
         refine Aw.shift (Re0 (Sd ⟨(Ic Mb1 (Ic Mb2 (Ic Mb3 (Ic Mb4 (Ic Mb5 (Ic Mb8 In0)))))), ?_⟩))
         refine FP 3 (by kernel_rfl) (Jyq Z (FI (v := (sv a)) Z Z Z (Rb0 Z)) ⟨(Ic Mb1 (Ic Mb2 (Ic Mb3 (Ic Mb4 (Ic Mb5 (Ic Mb8 In0)))))), ?_⟩)
         have cj := i.mono gl
         obtain ⟨oM, bV, ii⟩ := RowR.at cj n
         obtain ⟨pq, rfl, nL⟩ := ii
         have oa := FV bV
         refine FP 15 (by kernel_rfl) (Jyq Z (F6 (T := (Ty.sl FU)) Mb6 cj bV (FSq n).1 Z Z Z Z Z) ⟨(Ic Mb1 (Ic Mb2 (Ic Mb3 (Ic Mb4 (Ic Mb5 (Ic Mb8 In0)))))), ?_⟩)
         refine Ao 16 Z ?_
         refine FX (T := (Ty.sl FU)) (vs := [(sv aX)]) (r' := [(sv aX)]) (l' := (Ge p0.ops (wI ((p0.ops.length : Int) - 1)) o)) Z Z Z Z Z (.there (.there (.there (.there (.there (.there .here)))))) cj bV Z Z Z (RowR.set (wI ((p0.ops.length : Int) - 1)) cj ⟨aX, Z, iZ⟩) (fun eV => ⟨(Ic Mb1 (Ic Mb2 (Ic Mb3 (Ic Mb4 (Ic Mb5 (Ic Mb8 In0)))))), ?_⟩)
         have hse := FY h (wI ((p0.ops.length : Int) - 1)).toNat (sv aX)
         rw [hse] at eV ⊢
         clear hse
         have nm := F3 bV (v := (sv aX))
         exact Ad<|Pu8<|Pu6<|Pu6<|Pu8<|Pu8<|Pu5<|Re6<|Re6<|Re6<|Sd<|⟨[], trivial, (Ge p0.ops (wI ((p0.ops.length : Int) - 1)) o), (h.set (wI ((p0.ops.length : Int) - 1)).toNat (sv aX)), Z, Z, H, eV⟩
   rintro _ mW _ db ⟨cm, bj, rfl, rfl, H, gm⟩
   unfold RF at H
   refine FK<|FD<|Ea Z<|FH<|Gg<|?_
   obtain ⟨ah, ai, al, am, aj, ak⟩ := Q7 H
   subst F B E I C D
   refine ⟨(.inl Z), [(.bool true)], ⟨(.bool true), _, Z, Z, Z⟩, ?_⟩
   refine Pu5<|Pu3<|Pu3<|Pu5<|Pu5<|Pu5<|?_
   have i0 := ((t.mono X).mono aa).mono db
   have i1 := ((p.mono X).mono aa).mono db
   have i2 := ((Y.mono X).mono aa).mono db
   exact Sd ⟨u, P, f, Q, a, bj, c, L, Z, Z, i0, i1, gm, i2⟩
 ·intro c7
  have H := Gu (btf c7) H
  refine F8<|FK<|FD<|Em Z<|?_
  obtain ⟨c5, kW, H⟩ := bnd H
  refine FT Z (Ek Tryz.call51 Z (QR p1 (⟨#[32]⟩ : ByteArray) c5 kW _ _ hT) ?_)
  rintro _ _ _ - ⟨dB, oO, rfl, rfl, rfl, i3⟩
  refine Ow.shift (Shift.settle (T := Ty.str) .here i3 Z (fun m d i4 => Sd ?_))
  refine Eq Z (GH (cs := (F9 (FR.mk c5 false) dB)) Z Z Z Z Z Z) ?_
  refine FT Z (GX (cs := (F9 (FR.mk c5 false) dB)) Z Z Z (fun V => ?_))
  refine Ea Z<|FH<|?_
  refine Gk (fun O y J => [] = O ∧ m = y ∧ (.blk N 33 (FG p0 u f a c)) :: (.row (sv u) 3 1 P.flatten) :: (.row (sv f) 53 1 Q.flatten) :: (.row (sv a) 51 1 (h.map one).flatten) :: (.tok 70 7 h) :: (.row (sv c) 3 1 L.flatten) :: G = J ∧ PP p0 = some (F, B, E, I, C, D)) ?_ ?_
  ·refine FK<|FD<|Em Z<|?_
   obtain ⟨mv, a0, bk, kX, H⟩ := Ix H
   refine FT Z (Ek Tryz.call53 Z (LQ V (FR.mk c5 false) dB mv a0 bk kX _ _ i4) ?_)
   rintro _ _ _ - ⟨bi, rfl, rfl, rfl, ck⟩
   refine FH<|Gh<|FK<|FD<|Eq Z (Is Z Z)<|Ea Z<|FH<|?_
   refine F2 Z ?_ ?_
   ·intro a4
    obtain ⟨a4, H⟩ := It a4 H
    refine FK<|FD<|Em Z<|?_
    obtain ⟨j, fV, fW, kY, H⟩ := Ix H
    have fx := hT.mono d
    refine FT Z (Ek Tryz.call54 Z (Iy V (FR.mk a0 bk) bi j fV fW kY _ _ ck fx) ?_)
    rintro _ _ _ - ⟨mr, rfl, rfl, rfl, i5⟩
    refine Em Z ?_
    obtain ⟨e, el, c6, kZ, H⟩ := Ix H
    refine FT Z (Ek Tryz.call55 Z (Kw V (FR.mk fV fW) mr e el c6 kZ _ _ i5 fx) ?_)
    rintro _ _ _ - ⟨fN, rfl, rfl, rfl, i6⟩
    refine Ea Z<|Ea Z<|FH<|?_
    refine Gk (fun O y J => ∃ (aY : SV) (aw : ad8) (be : List (List Value)) (aZ : SV) (ax : ad8) (bf : List (List Value)), [(0, (Vp N)), (10, (Vp V))] = O ∧ m = y ∧ (.blk N 33 (FG (FQ.mk (FW.mk aw ax p0.cnfg.threads) p0.ops p0.picks) aY aZ a c)) :: (.blk V 90 (F9 (FR.mk el c6) fN)) :: (.row (sv aY) 3 1 be.flatten) :: (.row (sv aZ) 53 1 bf.flatten) :: (.row (sv a) 51 1 (h.map one).flatten) :: (.tok 70 7 h) :: (.row (sv c) 3 1 L.flatten) :: G = J ∧ PQ p0 el c6 aw ax = some (F, B, E, I, C, D) ∧ RowR Ty.i64 y be aw ∧ RowR Ty.u64 y bf ax) ?_ ?_
    ·obtain ⟨b, x, H⟩ := bnd H
     obtain ⟨g, w, H⟩ := bnd H
     refine Gm _ Z (Ic Mb0 (Ic Mb1 (Ic Mb5 (Ic Mb6 (Ic Mb7 In0)))))<|Jm 0 Z<|Jm 1 Z<|Jm 2 Z<|Jq 3 Z (FN Z)<|JF 4 0 Z<|JF 5 0 Z<|Jm 7 Z<|Jm 10 Z<|Jq 11 Z (FN Z)<|JF 12 0 Z<|JF 13 1 Z<|Jm 15 Z<|?_
     refine S0 6 8 14 16 (by kernel_rfl) ?_ ?_ ?_ ?_
     ·refine id (Jyq Z (FI (v := (sv u)) Z Z Z (Rb2 Z)) ⟨(Ic Mb0 (Ic Mb1 (Ic Mb5 (Ic Mb6 (Ic Mb7 In0))))), ?_⟩)
      refine GG 8 14 16 (by kernel_rfl) ?_ ?_ ?_
      ·refine id (Jy Z ?_)
       have av : RowR Ty.i64 m [[(Vi j)]] [j] := RowR.cons Z (RowR.nil)
       refine Gl (T := Ty.i64) (rows := [[(Vi j)]]) (l := [j]) Z Z Z av Z Z Z Z Z Z Z Z (fun pr => ⟨(Ic Mb1 (Ic Mb2 (Ic Mb6 (Ic Mb7 (Ic Mb8 In0))))), ?_⟩)
       refine GG 9 14 16 (by kernel_rfl) ?_ ?_ ?_
       ·refine id (Jy Z ?_)
        have i7 := t.mono d
        refine Gi (T := Ty.i64) (bytes := 8) Z Z Z Mb4 i7 (SrcT.row Mb0 av Z) x Z Z Z Z Z Z Z Z (fun af fE eW => ⟨_, (.there (.there (.there (.there .here)))), ⟨(Ic Mb1 (Ic Mb2 (Ic Mb6 (Ic Mb7 (Ic Mb8 In0))))), ?_⟩⟩)
        refine Aw.shift (Re0 (Sd ⟨(Ic Mb0 (Ic Mb1 (Ic Mb5 (Ic Mb6 (Ic Mb7 In0))))), ?_⟩))
        refine Gf 14 16 (by kernel_rfl) ?_ ?_
        ·refine id (Jyq Z (FI (v := (sv f)) Z Z Z (Rb2 Z)) ⟨(Ic Mb0 (Ic Mb1 (Ic Mb5 (Ic Mb6 (Ic Mb7 In0))))), ?_⟩)
         refine Ao 16 Z ?_
         have eX : RowR Ty.u64 m [[(.int .u64 e)]] [e] := RowR.cons Z (RowR.nil)
         refine Gl (T := Ty.u64) (rows := [[(.int .u64 e)]]) (l := [e]) Z Z Z eX Z Z Z Z Z Z Z Z (fun ps => ⟨(Ic Mb1 (Ic Mb2 (Ic Mb6 (Ic Mb7 (Ic Mb8 In0))))), ?_⟩)
         refine Ao 17 Z ?_
         have i8 := p.mono d
         refine Gi (T := Ty.u64) (bytes := 8) Z Z Z Mb5 i8 (SrcT.row Mb0 eX Z) w Z Z Z Z Z Z Z Z (fun dC k1 gp => ⟨_, (.there (.there (.there (.there (.there .here))))), ⟨(Ic Mb1 (Ic Mb2 (Ic Mb6 (Ic Mb7 (Ic Mb8 In0))))), ?_⟩⟩)
         refine Aw.shift (Re0 (Sd ⟨(Ic Mb0 (Ic Mb1 (Ic Mb5 (Ic Mb6 (Ic Mb7 In0))))), ?_⟩))
         refine Jq 18 Z (FN Z)<|JF 19 0 Z<|JF 20 0 Z<|?_
         refine Ao 21 Z ?_
         refine So [(sv af)] (FG (FQ.mk (FW.mk b p0.cnfg.starts p0.cnfg.threads) p0.ops p0.picks) af f a c) Z (.there (.there .here)) Z ⟨(Ic Mb0 (Ic Mb1 (Ic Mb5 (Ic Mb6 (Ic Mb7 In0))))), ?_⟩
         refine Jq 22 Z (FN Z)<|JF 23 0 Z<|JF 24 1 Z<|?_
         refine Ao 25 Z ?_
         refine So [(sv dC)] (FG (FQ.mk (FW.mk b g p0.cnfg.threads) p0.ops p0.picks) af dC a c) Z (.there (.there .here)) Z ⟨(Ic Mb0 (Ic Mb1 (Ic Mb5 (Ic Mb6 (Ic Mb7 In0))))), ?_⟩
         exact Ad<|Pu7<|Pu7<|Pu7<|Pu7<|Pu7<|Pu5<|Pu7<|Re7<|Sd<|⟨_, by exact R2, af, b, fE, dC, g, k1, Z, Z, Z, H, eW, gp⟩
        ·refine id (Jy Z ?_)
         have eY : RowR Ty.u64 m [[(.int .u64 e)]] [e] := RowR.cons Z (RowR.nil)
         refine Gl (T := Ty.u64) (rows := [[(.int .u64 e)]]) (l := [e]) Z Z Z eY Z Z Z Z Z Z Z Z (fun pt => ⟨(Ic Mb1 (Ic Mb2 (Ic Mb6 (Ic Mb7 (Ic Mb8 In0))))), ?_⟩)
         refine FP 14 (by kernel_rfl) (Jyq Z (FI (v := (sv f)) Z Z Z (Rb3 Z)) ⟨(Ic Mb1 (Ic Mb2 (Ic Mb6 (Ic Mb7 (Ic Mb8 In0))))), ?_⟩)
         refine Ao 17 Z ?_
         have i9 := p.mono d
         refine Gi (T := Ty.u64) (bytes := 8) Z Z Z Mb5 i9 (SrcT.row Mb0 eY Z) w Z Z Z Z Z Z Z Z (fun dD k2 gq => ⟨_, (.there (.there (.there (.there (.there .here))))), ⟨(Ic Mb1 (Ic Mb2 (Ic Mb6 (Ic Mb7 (Ic Mb8 In0))))), ?_⟩⟩)
         refine Aw.shift (Re0 (Sd ⟨(Ic Mb0 (Ic Mb1 (Ic Mb5 (Ic Mb6 (Ic Mb7 In0))))), ?_⟩))
         refine Jq 18 Z (FN Z)<|JF 19 0 Z<|JF 20 0 Z<|?_
         refine Ao 21 Z ?_
         refine So [(sv af)] (FG (FQ.mk (FW.mk b p0.cnfg.starts p0.cnfg.threads) p0.ops p0.picks) af f a c) Z (.there (.there .here)) Z ⟨(Ic Mb0 (Ic Mb1 (Ic Mb5 (Ic Mb6 (Ic Mb7 In0))))), ?_⟩
         refine Jq 22 Z (FN Z)<|JF 23 0 Z<|JF 24 1 Z<|?_
         refine Ao 25 Z ?_
         refine So [(sv dD)] (FG (FQ.mk (FW.mk b g p0.cnfg.threads) p0.ops p0.picks) af dD a c) Z (.there (.there .here)) Z ⟨(Ic Mb0 (Ic Mb1 (Ic Mb5 (Ic Mb6 (Ic Mb7 In0))))), ?_⟩
         exact Ad<|Pu7<|Pu7<|Pu7<|Pu7<|Pu7<|Pu5<|Pu7<|Re7<|Sd<|⟨_, by exact R2, af, b, fE, dD, g, k2, Z, Z, Z, H, eW, gq⟩
       ·refine id (Jyq Z (FI (v := (sv f)) Z Z Z (Rb3 Z)) ⟨(Ic Mb1 (Ic Mb2 (Ic Mb6 (Ic Mb7 (Ic Mb8 In0))))), ?_⟩)
        refine Gf 9 16 (by kernel_rfl) ?_ ?_
        ·refine id (Jy Z ?_)
         have ja := t.mono d
         refine Gi (T := Ty.i64) (bytes := 8) Z Z Z Mb4 ja (SrcT.row Mb0 av Z) x Z Z Z Z Z Z Z Z (fun cr k3 gr => ⟨_, (.there (.there (.there (.there .here)))), ⟨(Ic Mb1 (Ic Mb2 (Ic Mb6 (Ic Mb7 (Ic Mb8 In0))))), ?_⟩⟩)
         refine Aw.shift (Re0 (Sd ⟨(Ic Mb0 (Ic Mb1 (Ic Mb5 (Ic Mb6 (Ic Mb7 In0))))), ?_⟩))
         refine Ao 16 Z ?_
         have eZ : RowR Ty.u64 m [[(.int .u64 e)]] [e] := RowR.cons Z (RowR.nil)
         refine Gl (T := Ty.u64) (rows := [[(.int .u64 e)]]) (l := [e]) Z Z Z eZ Z Z Z Z Z Z Z Z (fun pu => ⟨(Ic Mb1 (Ic Mb2 (Ic Mb6 (Ic Mb7 (Ic Mb8 In0))))), ?_⟩)
         refine Ao 17 Z ?_
         have jb := p.mono d
         refine Gi (T := Ty.u64) (bytes := 8) Z Z Z Mb5 jb (SrcT.row Mb0 eZ Z) w Z Z Z Z Z Z Z Z (fun dE k4 gs => ⟨_, (.there (.there (.there (.there (.there .here))))), ⟨(Ic Mb1 (Ic Mb2 (Ic Mb6 (Ic Mb7 (Ic Mb8 In0))))), ?_⟩⟩)
         refine Aw.shift (Re0 (Sd ⟨(Ic Mb0 (Ic Mb1 (Ic Mb5 (Ic Mb6 (Ic Mb7 In0))))), ?_⟩))
         refine Jq 18 Z (FN Z)<|JF 19 0 Z<|JF 20 0 Z<|?_
         refine Ao 21 Z ?_
         refine So [(sv cr)] (FG (FQ.mk (FW.mk b p0.cnfg.starts p0.cnfg.threads) p0.ops p0.picks) cr f a c) Z (.there (.there .here)) Z ⟨(Ic Mb0 (Ic Mb1 (Ic Mb5 (Ic Mb6 (Ic Mb7 In0))))), ?_⟩
         refine Jq 22 Z (FN Z)<|JF 23 0 Z<|JF 24 1 Z<|?_
         refine Ao 25 Z ?_
         refine So [(sv dE)] (FG (FQ.mk (FW.mk b g p0.cnfg.threads) p0.ops p0.picks) cr dE a c) Z (.there (.there .here)) Z ⟨(Ic Mb0 (Ic Mb1 (Ic Mb5 (Ic Mb6 (Ic Mb7 In0))))), ?_⟩
         exact Ad<|Pu7<|Pu7<|Pu7<|Pu7<|Pu7<|Pu5<|Pu7<|Re7<|Sd<|⟨_, by exact R2, cr, b, k3, dE, g, k4, Z, Z, Z, H, gr, gs⟩
        ·refine id (Jy Z ?_)
         have e0 : RowR Ty.u64 m [[(.int .u64 e)]] [e] := RowR.cons Z (RowR.nil)
         refine Gl (T := Ty.u64) (rows := [[(.int .u64 e)]]) (l := [e]) Z Z Z e0 Z Z Z Z Z Z Z Z (fun pv => ⟨(Ic Mb2 (Ic Mb3 (Ic Mb7 (Ic Mb8 (Ic Mb9 In0))))), ?_⟩)
         refine Ao 9 Z ?_
         have jc := t.mono d
         refine Gi (T := Ty.i64) (bytes := 8) Z Z Z Mb5 jc (SrcT.row Mb1 av Z) x Z Z Z Z Z Z Z Z (fun ct k5 gt => ⟨_, (.there (.there (.there (.there (.there .here))))), ⟨(Ic Mb2 (Ic Mb3 (Ic Mb7 (Ic Mb8 (Ic Mb9 In0))))), ?_⟩⟩)
         refine Aw.shift (Re1 (Sd ⟨(Ic Mb1 (Ic Mb2 (Ic Mb6 (Ic Mb7 (Ic Mb8 In0))))), ?_⟩))
         refine Ao 17 Z ?_
         have jd := p.mono d
         refine Gi (T := Ty.u64) (bytes := 8) Z Z Z Mb5 jd (SrcT.row Mb0 e0 Z) w Z Z Z Z Z Z Z Z (fun dF k6 gu => ⟨_, (.there (.there (.there (.there (.there .here))))), ⟨(Ic Mb1 (Ic Mb2 (Ic Mb6 (Ic Mb7 (Ic Mb8 In0))))), ?_⟩⟩)
         refine Aw.shift (Re0 (Sd ⟨(Ic Mb0 (Ic Mb1 (Ic Mb5 (Ic Mb6 (Ic Mb7 In0))))), ?_⟩))
         refine Jq 18 Z (FN Z)<|JF 19 0 Z<|JF 20 0 Z<|?_
         refine Ao 21 Z ?_
         refine So [(sv ct)] (FG (FQ.mk (FW.mk b p0.cnfg.starts p0.cnfg.threads) p0.ops p0.picks) ct f a c) Z (.there (.there .here)) Z ⟨(Ic Mb0 (Ic Mb1 (Ic Mb5 (Ic Mb6 (Ic Mb7 In0))))), ?_⟩
         refine Jq 22 Z (FN Z)<|JF 23 0 Z<|JF 24 1 Z<|?_
         refine Ao 25 Z ?_
         refine So [(sv dF)] (FG (FQ.mk (FW.mk b g p0.cnfg.threads) p0.ops p0.picks) ct dF a c) Z (.there (.there .here)) Z ⟨(Ic Mb0 (Ic Mb1 (Ic Mb5 (Ic Mb6 (Ic Mb7 In0))))), ?_⟩
         exact Ad<|Pu7<|Pu7<|Pu7<|Pu7<|Pu7<|Pu5<|Pu7<|Re7<|Sd<|⟨_, by exact R2, ct, b, k5, dF, g, k6, Z, Z, Z, H, gt, gu⟩
       ·refine id (Jy Z ?_)
        have de : RowR Ty.u64 m [[(.int .u64 e)]] [e] := RowR.cons Z (RowR.nil)
        refine Gl (T := Ty.u64) (rows := [[(.int .u64 e)]]) (l := [e]) Z Z Z de Z Z Z Z Z Z Z Z (fun pw => ⟨(Ic Mb2 (Ic Mb3 (Ic Mb7 (Ic Mb8 (Ic Mb9 In0))))), ?_⟩)
        refine Gf 9 14 (by kernel_rfl) ?_ ?_
        ·refine id (Jy Z ?_)
         have je := t.mono d
         refine Gi (T := Ty.i64) (bytes := 8) Z Z Z Mb5 je (SrcT.row Mb1 av Z) x Z Z Z Z Z Z Z Z (fun cu k7 gv => ⟨_, (.there (.there (.there (.there (.there .here))))), ⟨(Ic Mb2 (Ic Mb3 (Ic Mb7 (Ic Mb8 (Ic Mb9 In0))))), ?_⟩⟩)
         refine Aw.shift (Re1 (Sd ⟨(Ic Mb1 (Ic Mb2 (Ic Mb6 (Ic Mb7 (Ic Mb8 In0))))), ?_⟩))
         refine FP 14 (by kernel_rfl) (Jyq Z (FI (v := (sv f)) Z Z Z (Rb3 Z)) ⟨(Ic Mb1 (Ic Mb2 (Ic Mb6 (Ic Mb7 (Ic Mb8 In0))))), ?_⟩)
         refine Ao 17 Z ?_
         have jf := p.mono d
         refine Gi (T := Ty.u64) (bytes := 8) Z Z Z Mb5 jf (SrcT.row Mb0 de Z) w Z Z Z Z Z Z Z Z (fun dG k8 gw => ⟨_, (.there (.there (.there (.there (.there .here))))), ⟨(Ic Mb1 (Ic Mb2 (Ic Mb6 (Ic Mb7 (Ic Mb8 In0))))), ?_⟩⟩)
         refine Aw.shift (Re0 (Sd ⟨(Ic Mb0 (Ic Mb1 (Ic Mb5 (Ic Mb6 (Ic Mb7 In0))))), ?_⟩))
         refine Jq 18 Z (FN Z)<|JF 19 0 Z<|JF 20 0 Z<|?_
         refine Ao 21 Z ?_
         refine So [(sv cu)] (FG (FQ.mk (FW.mk b p0.cnfg.starts p0.cnfg.threads) p0.ops p0.picks) cu f a c) Z (.there (.there .here)) Z ⟨(Ic Mb0 (Ic Mb1 (Ic Mb5 (Ic Mb6 (Ic Mb7 In0))))), ?_⟩
         refine Jq 22 Z (FN Z)<|JF 23 0 Z<|JF 24 1 Z<|?_
         refine Ao 25 Z ?_
         refine So [(sv dG)] (FG (FQ.mk (FW.mk b g p0.cnfg.threads) p0.ops p0.picks) cu dG a c) Z (.there (.there .here)) Z ⟨(Ic Mb0 (Ic Mb1 (Ic Mb5 (Ic Mb6 (Ic Mb7 In0))))), ?_⟩
         exact Ad<|Pu7<|Pu7<|Pu7<|Pu7<|Pu7<|Pu5<|Pu7<|Re7<|Sd<|⟨_, by exact R2, cu, b, k7, dG, g, k8, Z, Z, Z, H, gv, gw⟩
        ·refine id (Jyq Z (FI (v := (sv f)) Z Z Z (Rb4 Z)) ⟨(Ic Mb2 (Ic Mb3 (Ic Mb7 (Ic Mb8 (Ic Mb9 In0))))), ?_⟩)
         refine Ao 9 Z ?_
         have jg := t.mono d
         refine Gi (T := Ty.i64) (bytes := 8) Z Z Z Mb5 jg (SrcT.row Mb1 av Z) x Z Z Z Z Z Z Z Z (fun cv k9 gx => ⟨_, (.there (.there (.there (.there (.there .here))))), ⟨(Ic Mb2 (Ic Mb3 (Ic Mb7 (Ic Mb8 (Ic Mb9 In0))))), ?_⟩⟩)
         refine Aw.shift (Re1 (Sd ⟨(Ic Mb1 (Ic Mb2 (Ic Mb6 (Ic Mb7 (Ic Mb8 In0))))), ?_⟩))
         refine Ao 17 Z ?_
         have jh := p.mono d
         refine Gi (T := Ty.u64) (bytes := 8) Z Z Z Mb5 jh (SrcT.row Mb0 de Z) w Z Z Z Z Z Z Z Z (fun dH la gy => ⟨_, (.there (.there (.there (.there (.there .here))))), ⟨(Ic Mb1 (Ic Mb2 (Ic Mb6 (Ic Mb7 (Ic Mb8 In0))))), ?_⟩⟩)
         refine Aw.shift (Re0 (Sd ⟨(Ic Mb0 (Ic Mb1 (Ic Mb5 (Ic Mb6 (Ic Mb7 In0))))), ?_⟩))
         refine Jq 18 Z (FN Z)<|JF 19 0 Z<|JF 20 0 Z<|?_
         refine Ao 21 Z ?_
         refine So [(sv cv)] (FG (FQ.mk (FW.mk b p0.cnfg.starts p0.cnfg.threads) p0.ops p0.picks) cv f a c) Z (.there (.there .here)) Z ⟨(Ic Mb0 (Ic Mb1 (Ic Mb5 (Ic Mb6 (Ic Mb7 In0))))), ?_⟩
         refine Jq 22 Z (FN Z)<|JF 23 0 Z<|JF 24 1 Z<|?_
         refine Ao 25 Z ?_
         refine So [(sv dH)] (FG (FQ.mk (FW.mk b g p0.cnfg.threads) p0.ops p0.picks) cv dH a c) Z (.there (.there .here)) Z ⟨(Ic Mb0 (Ic Mb1 (Ic Mb5 (Ic Mb6 (Ic Mb7 In0))))), ?_⟩
         exact Ad<|Pu7<|Pu7<|Pu7<|Pu7<|Pu7<|Pu5<|Pu7<|Re7<|Sd<|⟨_, by exact R2, cv, b, k9, dH, g, la, Z, Z, Z, H, gx, gy⟩
      ·refine id (Jyq Z (FI (v := (sv f)) Z Z Z (Rb2 Z)) ⟨(Ic Mb0 (Ic Mb1 (Ic Mb5 (Ic Mb6 (Ic Mb7 In0))))), ?_⟩)
       refine Gf 8 16 (by kernel_rfl) ?_ ?_
       ·refine id (Jy Z ?_)
        have df : RowR Ty.i64 m [[(Vi j)]] [j] := RowR.cons Z (RowR.nil)
        refine Gl (T := Ty.i64) (rows := [[(Vi j)]]) (l := [j]) Z Z Z df Z Z Z Z Z Z Z Z (fun px => ⟨(Ic Mb1 (Ic Mb2 (Ic Mb6 (Ic Mb7 (Ic Mb8 In0))))), ?_⟩)
        refine Gf 9 16 (by kernel_rfl) ?_ ?_
        ·refine id (Jy Z ?_)
         have ji := t.mono d
         refine Gi (T := Ty.i64) (bytes := 8) Z Z Z Mb4 ji (SrcT.row Mb0 df Z) x Z Z Z Z Z Z Z Z (fun cw lb gz => ⟨_, (.there (.there (.there (.there .here)))), ⟨(Ic Mb1 (Ic Mb2 (Ic Mb6 (Ic Mb7 (Ic Mb8 In0))))), ?_⟩⟩)
         refine Aw.shift (Re0 (Sd ⟨(Ic Mb0 (Ic Mb1 (Ic Mb5 (Ic Mb6 (Ic Mb7 In0))))), ?_⟩))
         refine Ao 16 Z ?_
         have e1 : RowR Ty.u64 m [[(.int .u64 e)]] [e] := RowR.cons Z (RowR.nil)
         refine Gl (T := Ty.u64) (rows := [[(.int .u64 e)]]) (l := [e]) Z Z Z e1 Z Z Z Z Z Z Z Z (fun py => ⟨(Ic Mb1 (Ic Mb2 (Ic Mb6 (Ic Mb7 (Ic Mb8 In0))))), ?_⟩)
         refine Ao 17 Z ?_
         have jj := p.mono d
         refine Gi (T := Ty.u64) (bytes := 8) Z Z Z Mb5 jj (SrcT.row Mb0 e1 Z) w Z Z Z Z Z Z Z Z (fun dI lc gA => ⟨_, (.there (.there (.there (.there (.there .here))))), ⟨(Ic Mb1 (Ic Mb2 (Ic Mb6 (Ic Mb7 (Ic Mb8 In0))))), ?_⟩⟩)
         refine Aw.shift (Re0 (Sd ⟨(Ic Mb0 (Ic Mb1 (Ic Mb5 (Ic Mb6 (Ic Mb7 In0))))), ?_⟩))
         refine Jq 18 Z (FN Z)<|JF 19 0 Z<|JF 20 0 Z<|?_
         refine Ao 21 Z ?_
         refine So [(sv cw)] (FG (FQ.mk (FW.mk b p0.cnfg.starts p0.cnfg.threads) p0.ops p0.picks) cw f a c) Z (.there (.there .here)) Z ⟨(Ic Mb0 (Ic Mb1 (Ic Mb5 (Ic Mb6 (Ic Mb7 In0))))), ?_⟩
         refine Jq 22 Z (FN Z)<|JF 23 0 Z<|JF 24 1 Z<|?_
         refine Ao 25 Z ?_
         refine So [(sv dI)] (FG (FQ.mk (FW.mk b g p0.cnfg.threads) p0.ops p0.picks) cw dI a c) Z (.there (.there .here)) Z ⟨(Ic Mb0 (Ic Mb1 (Ic Mb5 (Ic Mb6 (Ic Mb7 In0))))), ?_⟩
         exact Ad<|Pu7<|Pu7<|Pu7<|Pu7<|Pu7<|Pu5<|Pu7<|Re7<|Sd<|⟨_, by exact R2, cw, b, lb, dI, g, lc, Z, Z, Z, H, gz, gA⟩
        ·refine id (Jy Z ?_)
         have e2 : RowR Ty.u64 m [[(.int .u64 e)]] [e] := RowR.cons Z (RowR.nil)
         refine Gl (T := Ty.u64) (rows := [[(.int .u64 e)]]) (l := [e]) Z Z Z e2 Z Z Z Z Z Z Z Z (fun pz => ⟨(Ic Mb2 (Ic Mb3 (Ic Mb7 (Ic Mb8 (Ic Mb9 In0))))), ?_⟩)
         refine Ao 9 Z ?_
         have jk := t.mono d
         refine Gi (T := Ty.i64) (bytes := 8) Z Z Z Mb5 jk (SrcT.row Mb1 df Z) x Z Z Z Z Z Z Z Z (fun cx ld gB => ⟨_, (.there (.there (.there (.there (.there .here))))), ⟨(Ic Mb2 (Ic Mb3 (Ic Mb7 (Ic Mb8 (Ic Mb9 In0))))), ?_⟩⟩)
         refine Aw.shift (Re1 (Sd ⟨(Ic Mb1 (Ic Mb2 (Ic Mb6 (Ic Mb7 (Ic Mb8 In0))))), ?_⟩))
         refine Ao 17 Z ?_
         have jl := p.mono d
         refine Gi (T := Ty.u64) (bytes := 8) Z Z Z Mb5 jl (SrcT.row Mb0 e2 Z) w Z Z Z Z Z Z Z Z (fun dJ le gC => ⟨_, (.there (.there (.there (.there (.there .here))))), ⟨(Ic Mb1 (Ic Mb2 (Ic Mb6 (Ic Mb7 (Ic Mb8 In0))))), ?_⟩⟩)
         refine Aw.shift (Re0 (Sd ⟨(Ic Mb0 (Ic Mb1 (Ic Mb5 (Ic Mb6 (Ic Mb7 In0))))), ?_⟩))
         refine Jq 18 Z (FN Z)<|JF 19 0 Z<|JF 20 0 Z<|?_
         refine Ao 21 Z ?_
         refine So [(sv cx)] (FG (FQ.mk (FW.mk b p0.cnfg.starts p0.cnfg.threads) p0.ops p0.picks) cx f a c) Z (.there (.there .here)) Z ⟨(Ic Mb0 (Ic Mb1 (Ic Mb5 (Ic Mb6 (Ic Mb7 In0))))), ?_⟩
         refine Jq 22 Z (FN Z)<|JF 23 0 Z<|JF 24 1 Z<|?_
         refine Ao 25 Z ?_
         refine So [(sv dJ)] (FG (FQ.mk (FW.mk b g p0.cnfg.threads) p0.ops p0.picks) cx dJ a c) Z (.there (.there .here)) Z ⟨(Ic Mb0 (Ic Mb1 (Ic Mb5 (Ic Mb6 (Ic Mb7 In0))))), ?_⟩
         exact Ad<|Pu7<|Pu7<|Pu7<|Pu7<|Pu7<|Pu5<|Pu7<|Re7<|Sd<|⟨_, by exact R2, cx, b, ld, dJ, g, le, Z, Z, Z, H, gB, gC⟩
       ·refine id (Jy Z ?_)
        have e3 : RowR Ty.u64 m [[(.int .u64 e)]] [e] := RowR.cons Z (RowR.nil)
        refine Gl (T := Ty.u64) (rows := [[(.int .u64 e)]]) (l := [e]) Z Z Z e3 Z Z Z Z Z Z Z Z (fun pA => ⟨(Ic Mb1 (Ic Mb2 (Ic Mb6 (Ic Mb7 (Ic Mb8 In0))))), ?_⟩)
        refine Ao 8 Z ?_
        have e4 : RowR Ty.i64 m [[(Vi j)]] [j] := RowR.cons Z (RowR.nil)
        refine Gl (T := Ty.i64) (rows := [[(Vi j)]]) (l := [j]) Z Z Z e4 Z Z Z Z Z Z Z Z (fun pB => ⟨(Ic Mb2 (Ic Mb3 (Ic Mb7 (Ic Mb8 (Ic Mb9 In0))))), ?_⟩)
        refine Ao 9 Z ?_
        have jm := t.mono d
        refine Gi (T := Ty.i64) (bytes := 8) Z Z Z Mb5 jm (SrcT.row Mb0 e4 Z) x Z Z Z Z Z Z Z Z (fun cy lf gD => ⟨_, (.there (.there (.there (.there (.there .here))))), ⟨(Ic Mb2 (Ic Mb3 (Ic Mb7 (Ic Mb8 (Ic Mb9 In0))))), ?_⟩⟩)
        refine Aw.shift (Re0 (Sd ⟨(Ic Mb1 (Ic Mb2 (Ic Mb6 (Ic Mb7 (Ic Mb8 In0))))), ?_⟩))
        refine Ao 17 Z ?_
        have jn := p.mono d
        refine Gi (T := Ty.u64) (bytes := 8) Z Z Z Mb5 jn (SrcT.row Mb0 e3 Z) w Z Z Z Z Z Z Z Z (fun dK lg gE => ⟨_, (.there (.there (.there (.there (.there .here))))), ⟨(Ic Mb1 (Ic Mb2 (Ic Mb6 (Ic Mb7 (Ic Mb8 In0))))), ?_⟩⟩)
        refine Aw.shift (Re0 (Sd ⟨(Ic Mb0 (Ic Mb1 (Ic Mb5 (Ic Mb6 (Ic Mb7 In0))))), ?_⟩))
        refine Jq 18 Z (FN Z)<|JF 19 0 Z<|JF 20 0 Z<|?_
        refine Ao 21 Z ?_
        refine So [(sv cy)] (FG (FQ.mk (FW.mk b p0.cnfg.starts p0.cnfg.threads) p0.ops p0.picks) cy f a c) Z (.there (.there .here)) Z ⟨(Ic Mb0 (Ic Mb1 (Ic Mb5 (Ic Mb6 (Ic Mb7 In0))))), ?_⟩
        refine Jq 22 Z (FN Z)<|JF 23 0 Z<|JF 24 1 Z<|?_
        refine Ao 25 Z ?_
        refine So [(sv dK)] (FG (FQ.mk (FW.mk b g p0.cnfg.threads) p0.ops p0.picks) cy dK a c) Z (.there (.there .here)) Z ⟨(Ic Mb0 (Ic Mb1 (Ic Mb5 (Ic Mb6 (Ic Mb7 In0))))), ?_⟩
        exact Ad<|Pu7<|Pu7<|Pu7<|Pu7<|Pu7<|Pu5<|Pu7<|Re7<|Sd<|⟨_, by exact R2, cy, b, lf, dK, g, lg, Z, Z, Z, H, gD, gE⟩
      ·refine id (Jy Z ?_)
       have bo : RowR Ty.u64 m [[(.int .u64 e)]] [e] := RowR.cons Z (RowR.nil)
       refine Gl (T := Ty.u64) (rows := [[(.int .u64 e)]]) (l := [e]) Z Z Z bo Z Z Z Z Z Z Z Z (fun pC => ⟨(Ic Mb1 (Ic Mb2 (Ic Mb6 (Ic Mb7 (Ic Mb8 In0))))), ?_⟩)
       refine Gf 8 14 (by kernel_rfl) ?_ ?_
       ·refine id (Jy Z ?_)
        have dg : RowR Ty.i64 m [[(Vi j)]] [j] := RowR.cons Z (RowR.nil)
        refine Gl (T := Ty.i64) (rows := [[(Vi j)]]) (l := [j]) Z Z Z dg Z Z Z Z Z Z Z Z (fun pD => ⟨(Ic Mb2 (Ic Mb3 (Ic Mb7 (Ic Mb8 (Ic Mb9 In0))))), ?_⟩)
        refine Gf 9 14 (by kernel_rfl) ?_ ?_
        ·refine id (Jy Z ?_)
         have jo := t.mono d
         refine Gi (T := Ty.i64) (bytes := 8) Z Z Z Mb5 jo (SrcT.row Mb0 dg Z) x Z Z Z Z Z Z Z Z (fun cz lh gF => ⟨_, (.there (.there (.there (.there (.there .here))))), ⟨(Ic Mb2 (Ic Mb3 (Ic Mb7 (Ic Mb8 (Ic Mb9 In0))))), ?_⟩⟩)
         refine Aw.shift (Re0 (Sd ⟨(Ic Mb1 (Ic Mb2 (Ic Mb6 (Ic Mb7 (Ic Mb8 In0))))), ?_⟩))
         refine FP 14 (by kernel_rfl) (Jyq Z (FI (v := (sv f)) Z Z Z (Rb3 Z)) ⟨(Ic Mb1 (Ic Mb2 (Ic Mb6 (Ic Mb7 (Ic Mb8 In0))))), ?_⟩)
         refine Ao 17 Z ?_
         have jp := p.mono d
         refine Gi (T := Ty.u64) (bytes := 8) Z Z Z Mb5 jp (SrcT.row Mb0 bo Z) w Z Z Z Z Z Z Z Z (fun dL li gG => ⟨_, (.there (.there (.there (.there (.there .here))))), ⟨(Ic Mb1 (Ic Mb2 (Ic Mb6 (Ic Mb7 (Ic Mb8 In0))))), ?_⟩⟩)
         refine Aw.shift (Re0 (Sd ⟨(Ic Mb0 (Ic Mb1 (Ic Mb5 (Ic Mb6 (Ic Mb7 In0))))), ?_⟩))
         refine Jq 18 Z (FN Z)<|JF 19 0 Z<|JF 20 0 Z<|?_
         refine Ao 21 Z ?_
         refine So [(sv cz)] (FG (FQ.mk (FW.mk b p0.cnfg.starts p0.cnfg.threads) p0.ops p0.picks) cz f a c) Z (.there (.there .here)) Z ⟨(Ic Mb0 (Ic Mb1 (Ic Mb5 (Ic Mb6 (Ic Mb7 In0))))), ?_⟩
         refine Jq 22 Z (FN Z)<|JF 23 0 Z<|JF 24 1 Z<|?_
         refine Ao 25 Z ?_
         refine So [(sv dL)] (FG (FQ.mk (FW.mk b g p0.cnfg.threads) p0.ops p0.picks) cz dL a c) Z (.there (.there .here)) Z ⟨(Ic Mb0 (Ic Mb1 (Ic Mb5 (Ic Mb6 (Ic Mb7 In0))))), ?_⟩
         exact Ad<|Pu7<|Pu7<|Pu7<|Pu7<|Pu7<|Pu5<|Pu7<|Re7<|Sd<|⟨_, by exact R2, cz, b, lh, dL, g, li, Z, Z, Z, H, gF, gG⟩
        ·refine id (Jyq Z (FI (v := (sv f)) Z Z Z (Rb4 Z)) ⟨(Ic Mb2 (Ic Mb3 (Ic Mb7 (Ic Mb8 (Ic Mb9 In0))))), ?_⟩)
         refine Ao 9 Z ?_
         have jq := t.mono d
         refine Gi (T := Ty.i64) (bytes := 8) Z Z Z Mb5 jq (SrcT.row Mb0 dg Z) x Z Z Z Z Z Z Z Z (fun cA lj gH => ⟨_, (.there (.there (.there (.there (.there .here))))), ⟨(Ic Mb2 (Ic Mb3 (Ic Mb7 (Ic Mb8 (Ic Mb9 In0))))), ?_⟩⟩)
         refine Aw.shift (Re0 (Sd ⟨(Ic Mb1 (Ic Mb2 (Ic Mb6 (Ic Mb7 (Ic Mb8 In0))))), ?_⟩))
         refine Ao 17 Z ?_
         have jr := p.mono d
         refine Gi (T := Ty.u64) (bytes := 8) Z Z Z Mb5 jr (SrcT.row Mb0 bo Z) w Z Z Z Z Z Z Z Z (fun dM lk gI => ⟨_, (.there (.there (.there (.there (.there .here))))), ⟨(Ic Mb1 (Ic Mb2 (Ic Mb6 (Ic Mb7 (Ic Mb8 In0))))), ?_⟩⟩)
         refine Aw.shift (Re0 (Sd ⟨(Ic Mb0 (Ic Mb1 (Ic Mb5 (Ic Mb6 (Ic Mb7 In0))))), ?_⟩))
         refine Jq 18 Z (FN Z)<|JF 19 0 Z<|JF 20 0 Z<|?_
         refine Ao 21 Z ?_
         refine So [(sv cA)] (FG (FQ.mk (FW.mk b p0.cnfg.starts p0.cnfg.threads) p0.ops p0.picks) cA f a c) Z (.there (.there .here)) Z ⟨(Ic Mb0 (Ic Mb1 (Ic Mb5 (Ic Mb6 (Ic Mb7 In0))))), ?_⟩
         refine Jq 22 Z (FN Z)<|JF 23 0 Z<|JF 24 1 Z<|?_
         refine Ao 25 Z ?_
         refine So [(sv dM)] (FG (FQ.mk (FW.mk b g p0.cnfg.threads) p0.ops p0.picks) cA dM a c) Z (.there (.there .here)) Z ⟨(Ic Mb0 (Ic Mb1 (Ic Mb5 (Ic Mb6 (Ic Mb7 In0))))), ?_⟩
         exact Ad<|Pu7<|Pu7<|Pu7<|Pu7<|Pu7<|Pu5<|Pu7<|Re7<|Sd<|⟨_, by exact R2, cA, b, lj, dM, g, lk, Z, Z, Z, H, gH, gI⟩
       ·refine id (Jyq Z (FI (v := (sv f)) Z Z Z (Rb3 Z)) ⟨(Ic Mb1 (Ic Mb2 (Ic Mb6 (Ic Mb7 (Ic Mb8 In0))))), ?_⟩)
        refine Ao 8 Z ?_
        have e5 : RowR Ty.i64 m [[(Vi j)]] [j] := RowR.cons Z (RowR.nil)
        refine Gl (T := Ty.i64) (rows := [[(Vi j)]]) (l := [j]) Z Z Z e5 Z Z Z Z Z Z Z Z (fun pE => ⟨(Ic Mb2 (Ic Mb3 (Ic Mb7 (Ic Mb8 (Ic Mb9 In0))))), ?_⟩)
        refine Ao 9 Z ?_
        have js := t.mono d
        refine Gi (T := Ty.i64) (bytes := 8) Z Z Z Mb5 js (SrcT.row Mb0 e5 Z) x Z Z Z Z Z Z Z Z (fun cB ll gJ => ⟨_, (.there (.there (.there (.there (.there .here))))), ⟨(Ic Mb2 (Ic Mb3 (Ic Mb7 (Ic Mb8 (Ic Mb9 In0))))), ?_⟩⟩)
        refine Aw.shift (Re0 (Sd ⟨(Ic Mb1 (Ic Mb2 (Ic Mb6 (Ic Mb7 (Ic Mb8 In0))))), ?_⟩))
        refine Ao 17 Z ?_
        have jt := p.mono d
        refine Gi (T := Ty.u64) (bytes := 8) Z Z Z Mb5 jt (SrcT.row Mb0 bo Z) w Z Z Z Z Z Z Z Z (fun dN lm gK => ⟨_, (.there (.there (.there (.there (.there .here))))), ⟨(Ic Mb1 (Ic Mb2 (Ic Mb6 (Ic Mb7 (Ic Mb8 In0))))), ?_⟩⟩)
        refine Aw.shift (Re0 (Sd ⟨(Ic Mb0 (Ic Mb1 (Ic Mb5 (Ic Mb6 (Ic Mb7 In0))))), ?_⟩))
        refine Jq 18 Z (FN Z)<|JF 19 0 Z<|JF 20 0 Z<|?_
        refine Ao 21 Z ?_
        refine So [(sv cB)] (FG (FQ.mk (FW.mk b p0.cnfg.starts p0.cnfg.threads) p0.ops p0.picks) cB f a c) Z (.there (.there .here)) Z ⟨(Ic Mb0 (Ic Mb1 (Ic Mb5 (Ic Mb6 (Ic Mb7 In0))))), ?_⟩
        refine Jq 22 Z (FN Z)<|JF 23 0 Z<|JF 24 1 Z<|?_
        refine Ao 25 Z ?_
        refine So [(sv dN)] (FG (FQ.mk (FW.mk b g p0.cnfg.threads) p0.ops p0.picks) cB dN a c) Z (.there (.there .here)) Z ⟨(Ic Mb0 (Ic Mb1 (Ic Mb5 (Ic Mb6 (Ic Mb7 In0))))), ?_⟩
        exact Ad<|Pu7<|Pu7<|Pu7<|Pu7<|Pu7<|Pu5<|Pu7<|Re7<|Sd<|⟨_, by exact R2, cB, b, ll, dN, g, lm, Z, Z, Z, H, gJ, gK⟩
     ·refine id (Jy Z ?_)
      have W : RowR Ty.i64 m [[(Vi j)]] [j] := RowR.cons Z (RowR.nil)
      refine Gl (T := Ty.i64) (rows := [[(Vi j)]]) (l := [j]) Z Z Z W Z Z Z Z Z Z Z Z (fun pF => ⟨(Ic Mb1 (Ic Mb2 (Ic Mb6 (Ic Mb7 (Ic Mb8 In0))))), ?_⟩)
      refine GG 6 14 16 (by kernel_rfl) ?_ ?_ ?_
      ·refine id (Jyq Z (FI (v := (sv u)) Z Z Z (Rb3 Z)) ⟨(Ic Mb1 (Ic Mb2 (Ic Mb6 (Ic Mb7 (Ic Mb8 In0))))), ?_⟩)
       refine GG 9 14 16 (by kernel_rfl) ?_ ?_ ?_
       ·refine id (Jy Z ?_)
        have ju := t.mono d
        refine Gi (T := Ty.i64) (bytes := 8) Z Z Z Mb4 ju (SrcT.row Mb0 W Z) x Z Z Z Z Z Z Z Z (fun ag fF e6 => ⟨_, (.there (.there (.there (.there .here)))), ⟨(Ic Mb1 (Ic Mb2 (Ic Mb6 (Ic Mb7 (Ic Mb8 In0))))), ?_⟩⟩)
        refine Aw.shift (Re0 (Sd ⟨(Ic Mb0 (Ic Mb1 (Ic Mb5 (Ic Mb6 (Ic Mb7 In0))))), ?_⟩))
        refine Gf 14 16 (by kernel_rfl) ?_ ?_
        ·refine id (Jyq Z (FI (v := (sv f)) Z Z Z (Rb2 Z)) ⟨(Ic Mb0 (Ic Mb1 (Ic Mb5 (Ic Mb6 (Ic Mb7 In0))))), ?_⟩)
         refine Ao 16 Z ?_
         have e7 : RowR Ty.u64 m [[(.int .u64 e)]] [e] := RowR.cons Z (RowR.nil)
         refine Gl (T := Ty.u64) (rows := [[(.int .u64 e)]]) (l := [e]) Z Z Z e7 Z Z Z Z Z Z Z Z (fun pG => ⟨(Ic Mb1 (Ic Mb2 (Ic Mb6 (Ic Mb7 (Ic Mb8 In0))))), ?_⟩)
         refine Ao 17 Z ?_
         have jv := p.mono d
         refine Gi (T := Ty.u64) (bytes := 8) Z Z Z Mb5 jv (SrcT.row Mb0 e7 Z) w Z Z Z Z Z Z Z Z (fun dO ln gL => ⟨_, (.there (.there (.there (.there (.there .here))))), ⟨(Ic Mb1 (Ic Mb2 (Ic Mb6 (Ic Mb7 (Ic Mb8 In0))))), ?_⟩⟩)
         refine Aw.shift (Re0 (Sd ⟨(Ic Mb0 (Ic Mb1 (Ic Mb5 (Ic Mb6 (Ic Mb7 In0))))), ?_⟩))
         refine Jq 18 Z (FN Z)<|JF 19 0 Z<|JF 20 0 Z<|?_
         refine Ao 21 Z ?_
         refine So [(sv ag)] (FG (FQ.mk (FW.mk b p0.cnfg.starts p0.cnfg.threads) p0.ops p0.picks) ag f a c) Z (.there (.there .here)) Z ⟨(Ic Mb0 (Ic Mb1 (Ic Mb5 (Ic Mb6 (Ic Mb7 In0))))), ?_⟩
         refine Jq 22 Z (FN Z)<|JF 23 0 Z<|JF 24 1 Z<|?_
         refine Ao 25 Z ?_
         refine So [(sv dO)] (FG (FQ.mk (FW.mk b g p0.cnfg.threads) p0.ops p0.picks) ag dO a c) Z (.there (.there .here)) Z ⟨(Ic Mb0 (Ic Mb1 (Ic Mb5 (Ic Mb6 (Ic Mb7 In0))))), ?_⟩
         exact Ad<|Pu7<|Pu7<|Pu7<|Pu7<|Pu7<|Pu5<|Pu7<|Re7<|Sd<|⟨_, by exact R2, ag, b, fF, dO, g, ln, Z, Z, Z, H, e6, gL⟩
        ·refine id (Jy Z ?_)
         have e8 : RowR Ty.u64 m [[(.int .u64 e)]] [e] := RowR.cons Z (RowR.nil)
         refine Gl (T := Ty.u64) (rows := [[(.int .u64 e)]]) (l := [e]) Z Z Z e8 Z Z Z Z Z Z Z Z (fun pH => ⟨(Ic Mb1 (Ic Mb2 (Ic Mb6 (Ic Mb7 (Ic Mb8 In0))))), ?_⟩)
         refine FP 14 (by kernel_rfl) (Jyq Z (FI (v := (sv f)) Z Z Z (Rb3 Z)) ⟨(Ic Mb1 (Ic Mb2 (Ic Mb6 (Ic Mb7 (Ic Mb8 In0))))), ?_⟩)
         refine Ao 17 Z ?_
         have jw := p.mono d
         refine Gi (T := Ty.u64) (bytes := 8) Z Z Z Mb5 jw (SrcT.row Mb0 e8 Z) w Z Z Z Z Z Z Z Z (fun dP lo gM => ⟨_, (.there (.there (.there (.there (.there .here))))), ⟨(Ic Mb1 (Ic Mb2 (Ic Mb6 (Ic Mb7 (Ic Mb8 In0))))), ?_⟩⟩)
         refine Aw.shift (Re0 (Sd ⟨(Ic Mb0 (Ic Mb1 (Ic Mb5 (Ic Mb6 (Ic Mb7 In0))))), ?_⟩))
         refine Jq 18 Z (FN Z)<|JF 19 0 Z<|JF 20 0 Z<|?_
         refine Ao 21 Z ?_
         refine So [(sv ag)] (FG (FQ.mk (FW.mk b p0.cnfg.starts p0.cnfg.threads) p0.ops p0.picks) ag f a c) Z (.there (.there .here)) Z ⟨(Ic Mb0 (Ic Mb1 (Ic Mb5 (Ic Mb6 (Ic Mb7 In0))))), ?_⟩
         refine Jq 22 Z (FN Z)<|JF 23 0 Z<|JF 24 1 Z<|?_
         refine Ao 25 Z ?_
         refine So [(sv dP)] (FG (FQ.mk (FW.mk b g p0.cnfg.threads) p0.ops p0.picks) ag dP a c) Z (.there (.there .here)) Z ⟨(Ic Mb0 (Ic Mb1 (Ic Mb5 (Ic Mb6 (Ic Mb7 In0))))), ?_⟩
         exact Ad<|Pu7<|Pu7<|Pu7<|Pu7<|Pu7<|Pu5<|Pu7<|Re7<|Sd<|⟨_, by exact R2, ag, b, fF, dP, g, lo, Z, Z, Z, H, e6, gM⟩
       ·refine id (Jyq Z (FI (v := (sv f)) Z Z Z (Rb3 Z)) ⟨(Ic Mb1 (Ic Mb2 (Ic Mb6 (Ic Mb7 (Ic Mb8 In0))))), ?_⟩)
        refine Gf 9 16 (by kernel_rfl) ?_ ?_
        ·refine id (Jy Z ?_)
         have jx := t.mono d
         refine Gi (T := Ty.i64) (bytes := 8) Z Z Z Mb4 jx (SrcT.row Mb0 W Z) x Z Z Z Z Z Z Z Z (fun cC lp gN => ⟨_, (.there (.there (.there (.there .here)))), ⟨(Ic Mb1 (Ic Mb2 (Ic Mb6 (Ic Mb7 (Ic Mb8 In0))))), ?_⟩⟩)
         refine Aw.shift (Re0 (Sd ⟨(Ic Mb0 (Ic Mb1 (Ic Mb5 (Ic Mb6 (Ic Mb7 In0))))), ?_⟩))
         refine Ao 16 Z ?_
         have e9 : RowR Ty.u64 m [[(.int .u64 e)]] [e] := RowR.cons Z (RowR.nil)
         refine Gl (T := Ty.u64) (rows := [[(.int .u64 e)]]) (l := [e]) Z Z Z e9 Z Z Z Z Z Z Z Z (fun pI => ⟨(Ic Mb1 (Ic Mb2 (Ic Mb6 (Ic Mb7 (Ic Mb8 In0))))), ?_⟩)
         refine Ao 17 Z ?_
         have jy := p.mono d
         refine Gi (T := Ty.u64) (bytes := 8) Z Z Z Mb5 jy (SrcT.row Mb0 e9 Z) w Z Z Z Z Z Z Z Z (fun dQ lq gO => ⟨_, (.there (.there (.there (.there (.there .here))))), ⟨(Ic Mb1 (Ic Mb2 (Ic Mb6 (Ic Mb7 (Ic Mb8 In0))))), ?_⟩⟩)
         refine Aw.shift (Re0 (Sd ⟨(Ic Mb0 (Ic Mb1 (Ic Mb5 (Ic Mb6 (Ic Mb7 In0))))), ?_⟩))
         refine Jq 18 Z (FN Z)<|JF 19 0 Z<|JF 20 0 Z<|?_
         refine Ao 21 Z ?_
         refine So [(sv cC)] (FG (FQ.mk (FW.mk b p0.cnfg.starts p0.cnfg.threads) p0.ops p0.picks) cC f a c) Z (.there (.there .here)) Z ⟨(Ic Mb0 (Ic Mb1 (Ic Mb5 (Ic Mb6 (Ic Mb7 In0))))), ?_⟩
         refine Jq 22 Z (FN Z)<|JF 23 0 Z<|JF 24 1 Z<|?_
         refine Ao 25 Z ?_
         refine So [(sv dQ)] (FG (FQ.mk (FW.mk b g p0.cnfg.threads) p0.ops p0.picks) cC dQ a c) Z (.there (.there .here)) Z ⟨(Ic Mb0 (Ic Mb1 (Ic Mb5 (Ic Mb6 (Ic Mb7 In0))))), ?_⟩
         exact Ad<|Pu7<|Pu7<|Pu7<|Pu7<|Pu7<|Pu5<|Pu7<|Re7<|Sd<|⟨_, by exact R2, cC, b, lp, dQ, g, lq, Z, Z, Z, H, gN, gO⟩
        ·refine id (Jy Z ?_)
         have fa : RowR Ty.u64 m [[(.int .u64 e)]] [e] := RowR.cons Z (RowR.nil)
         refine Gl (T := Ty.u64) (rows := [[(.int .u64 e)]]) (l := [e]) Z Z Z fa Z Z Z Z Z Z Z Z (fun pJ => ⟨(Ic Mb2 (Ic Mb3 (Ic Mb7 (Ic Mb8 (Ic Mb9 In0))))), ?_⟩)
         refine Ao 9 Z ?_
         have jz := t.mono d
         refine Gi (T := Ty.i64) (bytes := 8) Z Z Z Mb5 jz (SrcT.row Mb1 W Z) x Z Z Z Z Z Z Z Z (fun cD lr gP => ⟨_, (.there (.there (.there (.there (.there .here))))), ⟨(Ic Mb2 (Ic Mb3 (Ic Mb7 (Ic Mb8 (Ic Mb9 In0))))), ?_⟩⟩)
         refine Aw.shift (Re1 (Sd ⟨(Ic Mb1 (Ic Mb2 (Ic Mb6 (Ic Mb7 (Ic Mb8 In0))))), ?_⟩))
         refine Ao 17 Z ?_
         have jA := p.mono d
         refine Gi (T := Ty.u64) (bytes := 8) Z Z Z Mb5 jA (SrcT.row Mb0 fa Z) w Z Z Z Z Z Z Z Z (fun dR ls gQ => ⟨_, (.there (.there (.there (.there (.there .here))))), ⟨(Ic Mb1 (Ic Mb2 (Ic Mb6 (Ic Mb7 (Ic Mb8 In0))))), ?_⟩⟩)
         refine Aw.shift (Re0 (Sd ⟨(Ic Mb0 (Ic Mb1 (Ic Mb5 (Ic Mb6 (Ic Mb7 In0))))), ?_⟩))
         refine Jq 18 Z (FN Z)<|JF 19 0 Z<|JF 20 0 Z<|?_
         refine Ao 21 Z ?_
         refine So [(sv cD)] (FG (FQ.mk (FW.mk b p0.cnfg.starts p0.cnfg.threads) p0.ops p0.picks) cD f a c) Z (.there (.there .here)) Z ⟨(Ic Mb0 (Ic Mb1 (Ic Mb5 (Ic Mb6 (Ic Mb7 In0))))), ?_⟩
         refine Jq 22 Z (FN Z)<|JF 23 0 Z<|JF 24 1 Z<|?_
         refine Ao 25 Z ?_
         refine So [(sv dR)] (FG (FQ.mk (FW.mk b g p0.cnfg.threads) p0.ops p0.picks) cD dR a c) Z (.there (.there .here)) Z ⟨(Ic Mb0 (Ic Mb1 (Ic Mb5 (Ic Mb6 (Ic Mb7 In0))))), ?_⟩
         exact Ad<|Pu7<|Pu7<|Pu7<|Pu7<|Pu7<|Pu5<|Pu7<|Re7<|Sd<|⟨_, by exact R2, cD, b, lr, dR, g, ls, Z, Z, Z, H, gP, gQ⟩
       ·refine id (Jy Z ?_)
        have dh : RowR Ty.u64 m [[(.int .u64 e)]] [e] := RowR.cons Z (RowR.nil)
        refine Gl (T := Ty.u64) (rows := [[(.int .u64 e)]]) (l := [e]) Z Z Z dh Z Z Z Z Z Z Z Z (fun pK => ⟨(Ic Mb2 (Ic Mb3 (Ic Mb7 (Ic Mb8 (Ic Mb9 In0))))), ?_⟩)
        refine Gf 9 14 (by kernel_rfl) ?_ ?_
        ·refine id (Jy Z ?_)
         have jB := t.mono d
         refine Gi (T := Ty.i64) (bytes := 8) Z Z Z Mb5 jB (SrcT.row Mb1 W Z) x Z Z Z Z Z Z Z Z (fun cE lt gR => ⟨_, (.there (.there (.there (.there (.there .here))))), ⟨(Ic Mb2 (Ic Mb3 (Ic Mb7 (Ic Mb8 (Ic Mb9 In0))))), ?_⟩⟩)
         refine Aw.shift (Re1 (Sd ⟨(Ic Mb1 (Ic Mb2 (Ic Mb6 (Ic Mb7 (Ic Mb8 In0))))), ?_⟩))
         refine FP 14 (by kernel_rfl) (Jyq Z (FI (v := (sv f)) Z Z Z (Rb3 Z)) ⟨(Ic Mb1 (Ic Mb2 (Ic Mb6 (Ic Mb7 (Ic Mb8 In0))))), ?_⟩)
         refine Ao 17 Z ?_
         have jC := p.mono d
         refine Gi (T := Ty.u64) (bytes := 8) Z Z Z Mb5 jC (SrcT.row Mb0 dh Z) w Z Z Z Z Z Z Z Z (fun dS lu gS => ⟨_, (.there (.there (.there (.there (.there .here))))), ⟨(Ic Mb1 (Ic Mb2 (Ic Mb6 (Ic Mb7 (Ic Mb8 In0))))), ?_⟩⟩)
         refine Aw.shift (Re0 (Sd ⟨(Ic Mb0 (Ic Mb1 (Ic Mb5 (Ic Mb6 (Ic Mb7 In0))))), ?_⟩))
         refine Jq 18 Z (FN Z)<|JF 19 0 Z<|JF 20 0 Z<|?_
         refine Ao 21 Z ?_
         refine So [(sv cE)] (FG (FQ.mk (FW.mk b p0.cnfg.starts p0.cnfg.threads) p0.ops p0.picks) cE f a c) Z (.there (.there .here)) Z ⟨(Ic Mb0 (Ic Mb1 (Ic Mb5 (Ic Mb6 (Ic Mb7 In0))))), ?_⟩
         refine Jq 22 Z (FN Z)<|JF 23 0 Z<|JF 24 1 Z<|?_
         refine Ao 25 Z ?_
         refine So [(sv dS)] (FG (FQ.mk (FW.mk b g p0.cnfg.threads) p0.ops p0.picks) cE dS a c) Z (.there (.there .here)) Z ⟨(Ic Mb0 (Ic Mb1 (Ic Mb5 (Ic Mb6 (Ic Mb7 In0))))), ?_⟩
         exact Ad<|Pu7<|Pu7<|Pu7<|Pu7<|Pu7<|Pu5<|Pu7<|Re7<|Sd<|⟨_, by exact R2, cE, b, lt, dS, g, lu, Z, Z, Z, H, gR, gS⟩
        ·refine id (Jyq Z (FI (v := (sv f)) Z Z Z (Rb4 Z)) ⟨(Ic Mb2 (Ic Mb3 (Ic Mb7 (Ic Mb8 (Ic Mb9 In0))))), ?_⟩)
         refine Ao 9 Z ?_
         have jD := t.mono d
         refine Gi (T := Ty.i64) (bytes := 8) Z Z Z Mb5 jD (SrcT.row Mb1 W Z) x Z Z Z Z Z Z Z Z (fun cF lv gT => ⟨_, (.there (.there (.there (.there (.there .here))))), ⟨(Ic Mb2 (Ic Mb3 (Ic Mb7 (Ic Mb8 (Ic Mb9 In0))))), ?_⟩⟩)
         refine Aw.shift (Re1 (Sd ⟨(Ic Mb1 (Ic Mb2 (Ic Mb6 (Ic Mb7 (Ic Mb8 In0))))), ?_⟩))
         refine Ao 17 Z ?_
         have jE := p.mono d
         refine Gi (T := Ty.u64) (bytes := 8) Z Z Z Mb5 jE (SrcT.row Mb0 dh Z) w Z Z Z Z Z Z Z Z (fun dT lw gU => ⟨_, (.there (.there (.there (.there (.there .here))))), ⟨(Ic Mb1 (Ic Mb2 (Ic Mb6 (Ic Mb7 (Ic Mb8 In0))))), ?_⟩⟩)
         refine Aw.shift (Re0 (Sd ⟨(Ic Mb0 (Ic Mb1 (Ic Mb5 (Ic Mb6 (Ic Mb7 In0))))), ?_⟩))
         refine Jq 18 Z (FN Z)<|JF 19 0 Z<|JF 20 0 Z<|?_
         refine Ao 21 Z ?_
         refine So [(sv cF)] (FG (FQ.mk (FW.mk b p0.cnfg.starts p0.cnfg.threads) p0.ops p0.picks) cF f a c) Z (.there (.there .here)) Z ⟨(Ic Mb0 (Ic Mb1 (Ic Mb5 (Ic Mb6 (Ic Mb7 In0))))), ?_⟩
         refine Jq 22 Z (FN Z)<|JF 23 0 Z<|JF 24 1 Z<|?_
         refine Ao 25 Z ?_
         refine So [(sv dT)] (FG (FQ.mk (FW.mk b g p0.cnfg.threads) p0.ops p0.picks) cF dT a c) Z (.there (.there .here)) Z ⟨(Ic Mb0 (Ic Mb1 (Ic Mb5 (Ic Mb6 (Ic Mb7 In0))))), ?_⟩
         exact Ad<|Pu7<|Pu7<|Pu7<|Pu7<|Pu7<|Pu5<|Pu7<|Re7<|Sd<|⟨_, by exact R2, cF, b, lv, dT, g, lw, Z, Z, Z, H, gT, gU⟩
      ·refine id (Jyq Z (FI (v := (sv f)) Z Z Z (Rb3 Z)) ⟨(Ic Mb1 (Ic Mb2 (Ic Mb6 (Ic Mb7 (Ic Mb8 In0))))), ?_⟩)
       refine Gf 6 16 (by kernel_rfl) ?_ ?_
       ·refine id (Jyq Z (FI (v := (sv u)) Z Z Z (Rb3 Z)) ⟨(Ic Mb1 (Ic Mb2 (Ic Mb6 (Ic Mb7 (Ic Mb8 In0))))), ?_⟩)
        refine Gf 9 16 (by kernel_rfl) ?_ ?_
        ·refine id (Jy Z ?_)
         have jF := t.mono d
         refine Gi (T := Ty.i64) (bytes := 8) Z Z Z Mb4 jF (SrcT.row Mb0 W Z) x Z Z Z Z Z Z Z Z (fun cG lx gV => ⟨_, (.there (.there (.there (.there .here)))), ⟨(Ic Mb1 (Ic Mb2 (Ic Mb6 (Ic Mb7 (Ic Mb8 In0))))), ?_⟩⟩)
         refine Aw.shift (Re0 (Sd ⟨(Ic Mb0 (Ic Mb1 (Ic Mb5 (Ic Mb6 (Ic Mb7 In0))))), ?_⟩))
         refine Ao 16 Z ?_
         have fb : RowR Ty.u64 m [[(.int .u64 e)]] [e] := RowR.cons Z (RowR.nil)
         refine Gl (T := Ty.u64) (rows := [[(.int .u64 e)]]) (l := [e]) Z Z Z fb Z Z Z Z Z Z Z Z (fun pL => ⟨(Ic Mb1 (Ic Mb2 (Ic Mb6 (Ic Mb7 (Ic Mb8 In0))))), ?_⟩)
         refine Ao 17 Z ?_
         have jG := p.mono d
         refine Gi (T := Ty.u64) (bytes := 8) Z Z Z Mb5 jG (SrcT.row Mb0 fb Z) w Z Z Z Z Z Z Z Z (fun dU ly gW => ⟨_, (.there (.there (.there (.there (.there .here))))), ⟨(Ic Mb1 (Ic Mb2 (Ic Mb6 (Ic Mb7 (Ic Mb8 In0))))), ?_⟩⟩)
         refine Aw.shift (Re0 (Sd ⟨(Ic Mb0 (Ic Mb1 (Ic Mb5 (Ic Mb6 (Ic Mb7 In0))))), ?_⟩))
         refine Jq 18 Z (FN Z)<|JF 19 0 Z<|JF 20 0 Z<|?_
         refine Ao 21 Z ?_
         refine So [(sv cG)] (FG (FQ.mk (FW.mk b p0.cnfg.starts p0.cnfg.threads) p0.ops p0.picks) cG f a c) Z (.there (.there .here)) Z ⟨(Ic Mb0 (Ic Mb1 (Ic Mb5 (Ic Mb6 (Ic Mb7 In0))))), ?_⟩
         refine Jq 22 Z (FN Z)<|JF 23 0 Z<|JF 24 1 Z<|?_
         refine Ao 25 Z ?_
         refine So [(sv dU)] (FG (FQ.mk (FW.mk b g p0.cnfg.threads) p0.ops p0.picks) cG dU a c) Z (.there (.there .here)) Z ⟨(Ic Mb0 (Ic Mb1 (Ic Mb5 (Ic Mb6 (Ic Mb7 In0))))), ?_⟩
         exact Ad<|Pu7<|Pu7<|Pu7<|Pu7<|Pu7<|Pu5<|Pu7<|Re7<|Sd<|⟨_, by exact R2, cG, b, lx, dU, g, ly, Z, Z, Z, H, gV, gW⟩
        ·refine id (Jy Z ?_)
         have fc : RowR Ty.u64 m [[(.int .u64 e)]] [e] := RowR.cons Z (RowR.nil)
         refine Gl (T := Ty.u64) (rows := [[(.int .u64 e)]]) (l := [e]) Z Z Z fc Z Z Z Z Z Z Z Z (fun pM => ⟨(Ic Mb2 (Ic Mb3 (Ic Mb7 (Ic Mb8 (Ic Mb9 In0))))), ?_⟩)
         refine Ao 9 Z ?_
         have jH := t.mono d
         refine Gi (T := Ty.i64) (bytes := 8) Z Z Z Mb5 jH (SrcT.row Mb1 W Z) x Z Z Z Z Z Z Z Z (fun cH lz gX => ⟨_, (.there (.there (.there (.there (.there .here))))), ⟨(Ic Mb2 (Ic Mb3 (Ic Mb7 (Ic Mb8 (Ic Mb9 In0))))), ?_⟩⟩)
         refine Aw.shift (Re1 (Sd ⟨(Ic Mb1 (Ic Mb2 (Ic Mb6 (Ic Mb7 (Ic Mb8 In0))))), ?_⟩))
         refine Ao 17 Z ?_
         have jI := p.mono d
         refine Gi (T := Ty.u64) (bytes := 8) Z Z Z Mb5 jI (SrcT.row Mb0 fc Z) w Z Z Z Z Z Z Z Z (fun dV lA gY => ⟨_, (.there (.there (.there (.there (.there .here))))), ⟨(Ic Mb1 (Ic Mb2 (Ic Mb6 (Ic Mb7 (Ic Mb8 In0))))), ?_⟩⟩)
         refine Aw.shift (Re0 (Sd ⟨(Ic Mb0 (Ic Mb1 (Ic Mb5 (Ic Mb6 (Ic Mb7 In0))))), ?_⟩))
         refine Jq 18 Z (FN Z)<|JF 19 0 Z<|JF 20 0 Z<|?_
         refine Ao 21 Z ?_
         refine So [(sv cH)] (FG (FQ.mk (FW.mk b p0.cnfg.starts p0.cnfg.threads) p0.ops p0.picks) cH f a c) Z (.there (.there .here)) Z ⟨(Ic Mb0 (Ic Mb1 (Ic Mb5 (Ic Mb6 (Ic Mb7 In0))))), ?_⟩
         refine Jq 22 Z (FN Z)<|JF 23 0 Z<|JF 24 1 Z<|?_
         refine Ao 25 Z ?_
         refine So [(sv dV)] (FG (FQ.mk (FW.mk b g p0.cnfg.threads) p0.ops p0.picks) cH dV a c) Z (.there (.there .here)) Z ⟨(Ic Mb0 (Ic Mb1 (Ic Mb5 (Ic Mb6 (Ic Mb7 In0))))), ?_⟩
         exact Ad<|Pu7<|Pu7<|Pu7<|Pu7<|Pu7<|Pu5<|Pu7<|Re7<|Sd<|⟨_, by exact R2, cH, b, lz, dV, g, lA, Z, Z, Z, H, gX, gY⟩
       ·refine id (Jy Z ?_)
        have fd : RowR Ty.u64 m [[(.int .u64 e)]] [e] := RowR.cons Z (RowR.nil)
        refine Gl (T := Ty.u64) (rows := [[(.int .u64 e)]]) (l := [e]) Z Z Z fd Z Z Z Z Z Z Z Z (fun pN => ⟨(Ic Mb2 (Ic Mb3 (Ic Mb7 (Ic Mb8 (Ic Mb9 In0))))), ?_⟩)
        refine FP 6 (by kernel_rfl) (Jyq Z (FI (v := (sv u)) Z Z Z (Rb4 Z)) ⟨(Ic Mb2 (Ic Mb3 (Ic Mb7 (Ic Mb8 (Ic Mb9 In0))))), ?_⟩)
        refine Ao 9 Z ?_
        have jJ := t.mono d
        refine Gi (T := Ty.i64) (bytes := 8) Z Z Z Mb5 jJ (SrcT.row Mb1 W Z) x Z Z Z Z Z Z Z Z (fun cI lB gZ => ⟨_, (.there (.there (.there (.there (.there .here))))), ⟨(Ic Mb2 (Ic Mb3 (Ic Mb7 (Ic Mb8 (Ic Mb9 In0))))), ?_⟩⟩)
        refine Aw.shift (Re1 (Sd ⟨(Ic Mb1 (Ic Mb2 (Ic Mb6 (Ic Mb7 (Ic Mb8 In0))))), ?_⟩))
        refine Ao 17 Z ?_
        have jK := p.mono d
        refine Gi (T := Ty.u64) (bytes := 8) Z Z Z Mb5 jK (SrcT.row Mb0 fd Z) w Z Z Z Z Z Z Z Z (fun dW lC g0 => ⟨_, (.there (.there (.there (.there (.there .here))))), ⟨(Ic Mb1 (Ic Mb2 (Ic Mb6 (Ic Mb7 (Ic Mb8 In0))))), ?_⟩⟩)
        refine Aw.shift (Re0 (Sd ⟨(Ic Mb0 (Ic Mb1 (Ic Mb5 (Ic Mb6 (Ic Mb7 In0))))), ?_⟩))
        refine Jq 18 Z (FN Z)<|JF 19 0 Z<|JF 20 0 Z<|?_
        refine Ao 21 Z ?_
        refine So [(sv cI)] (FG (FQ.mk (FW.mk b p0.cnfg.starts p0.cnfg.threads) p0.ops p0.picks) cI f a c) Z (.there (.there .here)) Z ⟨(Ic Mb0 (Ic Mb1 (Ic Mb5 (Ic Mb6 (Ic Mb7 In0))))), ?_⟩
        refine Jq 22 Z (FN Z)<|JF 23 0 Z<|JF 24 1 Z<|?_
        refine Ao 25 Z ?_
        refine So [(sv dW)] (FG (FQ.mk (FW.mk b g p0.cnfg.threads) p0.ops p0.picks) cI dW a c) Z (.there (.there .here)) Z ⟨(Ic Mb0 (Ic Mb1 (Ic Mb5 (Ic Mb6 (Ic Mb7 In0))))), ?_⟩
        exact Ad<|Pu7<|Pu7<|Pu7<|Pu7<|Pu7<|Pu5<|Pu7<|Re7<|Sd<|⟨_, by exact R2, cI, b, lB, dW, g, lC, Z, Z, Z, H, gZ, g0⟩
      ·refine id (Jy Z ?_)
       have bp : RowR Ty.u64 m [[(.int .u64 e)]] [e] := RowR.cons Z (RowR.nil)
       refine Gl (T := Ty.u64) (rows := [[(.int .u64 e)]]) (l := [e]) Z Z Z bp Z Z Z Z Z Z Z Z (fun pO => ⟨(Ic Mb2 (Ic Mb3 (Ic Mb7 (Ic Mb8 (Ic Mb9 In0))))), ?_⟩)
       refine Gf 6 14 (by kernel_rfl) ?_ ?_
       ·refine id (Jyq Z (FI (v := (sv u)) Z Z Z (Rb4 Z)) ⟨(Ic Mb2 (Ic Mb3 (Ic Mb7 (Ic Mb8 (Ic Mb9 In0))))), ?_⟩)
        refine Gf 9 14 (by kernel_rfl) ?_ ?_
        ·refine id (Jy Z ?_)
         have jL := t.mono d
         refine Gi (T := Ty.i64) (bytes := 8) Z Z Z Mb5 jL (SrcT.row Mb1 W Z) x Z Z Z Z Z Z Z Z (fun cJ lD g1 => ⟨_, (.there (.there (.there (.there (.there .here))))), ⟨(Ic Mb2 (Ic Mb3 (Ic Mb7 (Ic Mb8 (Ic Mb9 In0))))), ?_⟩⟩)
         refine Aw.shift (Re1 (Sd ⟨(Ic Mb1 (Ic Mb2 (Ic Mb6 (Ic Mb7 (Ic Mb8 In0))))), ?_⟩))
         refine FP 14 (by kernel_rfl) (Jyq Z (FI (v := (sv f)) Z Z Z (Rb3 Z)) ⟨(Ic Mb1 (Ic Mb2 (Ic Mb6 (Ic Mb7 (Ic Mb8 In0))))), ?_⟩)
         refine Ao 17 Z ?_
         have jM := p.mono d
         refine Gi (T := Ty.u64) (bytes := 8) Z Z Z Mb5 jM (SrcT.row Mb0 bp Z) w Z Z Z Z Z Z Z Z (fun dX lE g2 => ⟨_, (.there (.there (.there (.there (.there .here))))), ⟨(Ic Mb1 (Ic Mb2 (Ic Mb6 (Ic Mb7 (Ic Mb8 In0))))), ?_⟩⟩)
         refine Aw.shift (Re0 (Sd ⟨(Ic Mb0 (Ic Mb1 (Ic Mb5 (Ic Mb6 (Ic Mb7 In0))))), ?_⟩))
         refine Jq 18 Z (FN Z)<|JF 19 0 Z<|JF 20 0 Z<|?_
         refine Ao 21 Z ?_
         refine So [(sv cJ)] (FG (FQ.mk (FW.mk b p0.cnfg.starts p0.cnfg.threads) p0.ops p0.picks) cJ f a c) Z (.there (.there .here)) Z ⟨(Ic Mb0 (Ic Mb1 (Ic Mb5 (Ic Mb6 (Ic Mb7 In0))))), ?_⟩
         refine Jq 22 Z (FN Z)<|JF 23 0 Z<|JF 24 1 Z<|?_
         refine Ao 25 Z ?_
         refine So [(sv dX)] (FG (FQ.mk (FW.mk b g p0.cnfg.threads) p0.ops p0.picks) cJ dX a c) Z (.there (.there .here)) Z ⟨(Ic Mb0 (Ic Mb1 (Ic Mb5 (Ic Mb6 (Ic Mb7 In0))))), ?_⟩
         exact Ad<|Pu7<|Pu7<|Pu7<|Pu7<|Pu7<|Pu5<|Pu7<|Re7<|Sd<|⟨_, by exact R2, cJ, b, lD, dX, g, lE, Z, Z, Z, H, g1, g2⟩
        ·refine id (Jyq Z (FI (v := (sv f)) Z Z Z (Rb4 Z)) ⟨(Ic Mb2 (Ic Mb3 (Ic Mb7 (Ic Mb8 (Ic Mb9 In0))))), ?_⟩)
         refine Ao 9 Z ?_
         have jN := t.mono d
         refine Gi (T := Ty.i64) (bytes := 8) Z Z Z Mb5 jN (SrcT.row Mb1 W Z) x Z Z Z Z Z Z Z Z (fun cK lF g3 => ⟨_, (.there (.there (.there (.there (.there .here))))), ⟨(Ic Mb2 (Ic Mb3 (Ic Mb7 (Ic Mb8 (Ic Mb9 In0))))), ?_⟩⟩)
         refine Aw.shift (Re1 (Sd ⟨(Ic Mb1 (Ic Mb2 (Ic Mb6 (Ic Mb7 (Ic Mb8 In0))))), ?_⟩))
         refine Ao 17 Z ?_
         have jO := p.mono d
         refine Gi (T := Ty.u64) (bytes := 8) Z Z Z Mb5 jO (SrcT.row Mb0 bp Z) w Z Z Z Z Z Z Z Z (fun dY lG g4 => ⟨_, (.there (.there (.there (.there (.there .here))))), ⟨(Ic Mb1 (Ic Mb2 (Ic Mb6 (Ic Mb7 (Ic Mb8 In0))))), ?_⟩⟩)
         refine Aw.shift (Re0 (Sd ⟨(Ic Mb0 (Ic Mb1 (Ic Mb5 (Ic Mb6 (Ic Mb7 In0))))), ?_⟩))
         refine Jq 18 Z (FN Z)<|JF 19 0 Z<|JF 20 0 Z<|?_
         refine Ao 21 Z ?_
         refine So [(sv cK)] (FG (FQ.mk (FW.mk b p0.cnfg.starts p0.cnfg.threads) p0.ops p0.picks) cK f a c) Z (.there (.there .here)) Z ⟨(Ic Mb0 (Ic Mb1 (Ic Mb5 (Ic Mb6 (Ic Mb7 In0))))), ?_⟩
         refine Jq 22 Z (FN Z)<|JF 23 0 Z<|JF 24 1 Z<|?_
         refine Ao 25 Z ?_
         refine So [(sv dY)] (FG (FQ.mk (FW.mk b g p0.cnfg.threads) p0.ops p0.picks) cK dY a c) Z (.there (.there .here)) Z ⟨(Ic Mb0 (Ic Mb1 (Ic Mb5 (Ic Mb6 (Ic Mb7 In0))))), ?_⟩
         exact Ad<|Pu7<|Pu7<|Pu7<|Pu7<|Pu7<|Pu5<|Pu7<|Re7<|Sd<|⟨_, by exact R2, cK, b, lF, dY, g, lG, Z, Z, Z, H, g3, g4⟩
       ·refine id (Jyq Z (FI (v := (sv f)) Z Z Z (Rb4 Z)) ⟨(Ic Mb2 (Ic Mb3 (Ic Mb7 (Ic Mb8 (Ic Mb9 In0))))), ?_⟩)
        refine FP 6 (by kernel_rfl) (Jyq Z (FI (v := (sv u)) Z Z Z (Rb4 Z)) ⟨(Ic Mb2 (Ic Mb3 (Ic Mb7 (Ic Mb8 (Ic Mb9 In0))))), ?_⟩)
        refine Ao 9 Z ?_
        have jP := t.mono d
        refine Gi (T := Ty.i64) (bytes := 8) Z Z Z Mb5 jP (SrcT.row Mb1 W Z) x Z Z Z Z Z Z Z Z (fun cL lH g5 => ⟨_, (.there (.there (.there (.there (.there .here))))), ⟨(Ic Mb2 (Ic Mb3 (Ic Mb7 (Ic Mb8 (Ic Mb9 In0))))), ?_⟩⟩)
        refine Aw.shift (Re1 (Sd ⟨(Ic Mb1 (Ic Mb2 (Ic Mb6 (Ic Mb7 (Ic Mb8 In0))))), ?_⟩))
        refine Ao 17 Z ?_
        have jQ := p.mono d
        refine Gi (T := Ty.u64) (bytes := 8) Z Z Z Mb5 jQ (SrcT.row Mb0 bp Z) w Z Z Z Z Z Z Z Z (fun dZ lI g6 => ⟨_, (.there (.there (.there (.there (.there .here))))), ⟨(Ic Mb1 (Ic Mb2 (Ic Mb6 (Ic Mb7 (Ic Mb8 In0))))), ?_⟩⟩)
        refine Aw.shift (Re0 (Sd ⟨(Ic Mb0 (Ic Mb1 (Ic Mb5 (Ic Mb6 (Ic Mb7 In0))))), ?_⟩))
        refine Jq 18 Z (FN Z)<|JF 19 0 Z<|JF 20 0 Z<|?_
        refine Ao 21 Z ?_
        refine So [(sv cL)] (FG (FQ.mk (FW.mk b p0.cnfg.starts p0.cnfg.threads) p0.ops p0.picks) cL f a c) Z (.there (.there .here)) Z ⟨(Ic Mb0 (Ic Mb1 (Ic Mb5 (Ic Mb6 (Ic Mb7 In0))))), ?_⟩
        refine Jq 22 Z (FN Z)<|JF 23 0 Z<|JF 24 1 Z<|?_
        refine Ao 25 Z ?_
        refine So [(sv dZ)] (FG (FQ.mk (FW.mk b g p0.cnfg.threads) p0.ops p0.picks) cL dZ a c) Z (.there (.there .here)) Z ⟨(Ic Mb0 (Ic Mb1 (Ic Mb5 (Ic Mb6 (Ic Mb7 In0))))), ?_⟩
        exact Ad<|Pu7<|Pu7<|Pu7<|Pu7<|Pu7<|Pu5<|Pu7<|Re7<|Sd<|⟨_, by exact R2, cL, b, lH, dZ, g, lI, Z, Z, Z, H, g5, g6⟩
     ·refine id (Jyq Z (FI (v := (sv f)) Z Z Z (Rb2 Z)) ⟨(Ic Mb0 (Ic Mb1 (Ic Mb5 (Ic Mb6 (Ic Mb7 In0))))), ?_⟩)
      refine GG 6 8 16 (by kernel_rfl) ?_ ?_ ?_
      ·refine id (Jyq Z (FI (v := (sv u)) Z Z Z (Rb2 Z)) ⟨(Ic Mb0 (Ic Mb1 (Ic Mb5 (Ic Mb6 (Ic Mb7 In0))))), ?_⟩)
       refine Gf 8 16 (by kernel_rfl) ?_ ?_
       ·refine id (Jy Z ?_)
        have di : RowR Ty.i64 m [[(Vi j)]] [j] := RowR.cons Z (RowR.nil)
        refine Gl (T := Ty.i64) (rows := [[(Vi j)]]) (l := [j]) Z Z Z di Z Z Z Z Z Z Z Z (fun pP => ⟨(Ic Mb1 (Ic Mb2 (Ic Mb6 (Ic Mb7 (Ic Mb8 In0))))), ?_⟩)
        refine Gf 9 16 (by kernel_rfl) ?_ ?_
        ·refine id (Jy Z ?_)
         have jR := t.mono d
         refine Gi (T := Ty.i64) (bytes := 8) Z Z Z Mb4 jR (SrcT.row Mb0 di Z) x Z Z Z Z Z Z Z Z (fun cM lJ g7 => ⟨_, (.there (.there (.there (.there .here)))), ⟨(Ic Mb1 (Ic Mb2 (Ic Mb6 (Ic Mb7 (Ic Mb8 In0))))), ?_⟩⟩)
         refine Aw.shift (Re0 (Sd ⟨(Ic Mb0 (Ic Mb1 (Ic Mb5 (Ic Mb6 (Ic Mb7 In0))))), ?_⟩))
         refine Ao 16 Z ?_
         have fe : RowR Ty.u64 m [[(.int .u64 e)]] [e] := RowR.cons Z (RowR.nil)
         refine Gl (T := Ty.u64) (rows := [[(.int .u64 e)]]) (l := [e]) Z Z Z fe Z Z Z Z Z Z Z Z (fun pQ => ⟨(Ic Mb1 (Ic Mb2 (Ic Mb6 (Ic Mb7 (Ic Mb8 In0))))), ?_⟩)
         refine Ao 17 Z ?_
         have jS := p.mono d
         refine Gi (T := Ty.u64) (bytes := 8) Z Z Z Mb5 jS (SrcT.row Mb0 fe Z) w Z Z Z Z Z Z Z Z (fun d0 lK g8 => ⟨_, (.there (.there (.there (.there (.there .here))))), ⟨(Ic Mb1 (Ic Mb2 (Ic Mb6 (Ic Mb7 (Ic Mb8 In0))))), ?_⟩⟩)
         refine Aw.shift (Re0 (Sd ⟨(Ic Mb0 (Ic Mb1 (Ic Mb5 (Ic Mb6 (Ic Mb7 In0))))), ?_⟩))
         refine Jq 18 Z (FN Z)<|JF 19 0 Z<|JF 20 0 Z<|?_
         refine Ao 21 Z ?_
         refine So [(sv cM)] (FG (FQ.mk (FW.mk b p0.cnfg.starts p0.cnfg.threads) p0.ops p0.picks) cM f a c) Z (.there (.there .here)) Z ⟨(Ic Mb0 (Ic Mb1 (Ic Mb5 (Ic Mb6 (Ic Mb7 In0))))), ?_⟩
         refine Jq 22 Z (FN Z)<|JF 23 0 Z<|JF 24 1 Z<|?_
         refine Ao 25 Z ?_
         refine So [(sv d0)] (FG (FQ.mk (FW.mk b g p0.cnfg.threads) p0.ops p0.picks) cM d0 a c) Z (.there (.there .here)) Z ⟨(Ic Mb0 (Ic Mb1 (Ic Mb5 (Ic Mb6 (Ic Mb7 In0))))), ?_⟩
         exact Ad<|Pu7<|Pu7<|Pu7<|Pu7<|Pu7<|Pu5<|Pu7<|Re7<|Sd<|⟨_, by exact R2, cM, b, lJ, d0, g, lK, Z, Z, Z, H, g7, g8⟩
        ·refine id (Jy Z ?_)
         have ff : RowR Ty.u64 m [[(.int .u64 e)]] [e] := RowR.cons Z (RowR.nil)
         refine Gl (T := Ty.u64) (rows := [[(.int .u64 e)]]) (l := [e]) Z Z Z ff Z Z Z Z Z Z Z Z (fun pR => ⟨(Ic Mb2 (Ic Mb3 (Ic Mb7 (Ic Mb8 (Ic Mb9 In0))))), ?_⟩)
         refine Ao 9 Z ?_
         have jT := t.mono d
         refine Gi (T := Ty.i64) (bytes := 8) Z Z Z Mb5 jT (SrcT.row Mb1 di Z) x Z Z Z Z Z Z Z Z (fun cN lL g9 => ⟨_, (.there (.there (.there (.there (.there .here))))), ⟨(Ic Mb2 (Ic Mb3 (Ic Mb7 (Ic Mb8 (Ic Mb9 In0))))), ?_⟩⟩)
         refine Aw.shift (Re1 (Sd ⟨(Ic Mb1 (Ic Mb2 (Ic Mb6 (Ic Mb7 (Ic Mb8 In0))))), ?_⟩))
         refine Ao 17 Z ?_
         have jU := p.mono d
         refine Gi (T := Ty.u64) (bytes := 8) Z Z Z Mb5 jU (SrcT.row Mb0 ff Z) w Z Z Z Z Z Z Z Z (fun d1 lM ha => ⟨_, (.there (.there (.there (.there (.there .here))))), ⟨(Ic Mb1 (Ic Mb2 (Ic Mb6 (Ic Mb7 (Ic Mb8 In0))))), ?_⟩⟩)
         refine Aw.shift (Re0 (Sd ⟨(Ic Mb0 (Ic Mb1 (Ic Mb5 (Ic Mb6 (Ic Mb7 In0))))), ?_⟩))
         refine Jq 18 Z (FN Z)<|JF 19 0 Z<|JF 20 0 Z<|?_
         refine Ao 21 Z ?_
         refine So [(sv cN)] (FG (FQ.mk (FW.mk b p0.cnfg.starts p0.cnfg.threads) p0.ops p0.picks) cN f a c) Z (.there (.there .here)) Z ⟨(Ic Mb0 (Ic Mb1 (Ic Mb5 (Ic Mb6 (Ic Mb7 In0))))), ?_⟩
         refine Jq 22 Z (FN Z)<|JF 23 0 Z<|JF 24 1 Z<|?_
         refine Ao 25 Z ?_
         refine So [(sv d1)] (FG (FQ.mk (FW.mk b g p0.cnfg.threads) p0.ops p0.picks) cN d1 a c) Z (.there (.there .here)) Z ⟨(Ic Mb0 (Ic Mb1 (Ic Mb5 (Ic Mb6 (Ic Mb7 In0))))), ?_⟩
         exact Ad<|Pu7<|Pu7<|Pu7<|Pu7<|Pu7<|Pu5<|Pu7<|Re7<|Sd<|⟨_, by exact R2, cN, b, lL, d1, g, lM, Z, Z, Z, H, g9, ha⟩
       ·refine id (Jy Z ?_)
        have fg : RowR Ty.u64 m [[(.int .u64 e)]] [e] := RowR.cons Z (RowR.nil)
        refine Gl (T := Ty.u64) (rows := [[(.int .u64 e)]]) (l := [e]) Z Z Z fg Z Z Z Z Z Z Z Z (fun pS => ⟨(Ic Mb1 (Ic Mb2 (Ic Mb6 (Ic Mb7 (Ic Mb8 In0))))), ?_⟩)
        refine Ao 8 Z ?_
        have fh : RowR Ty.i64 m [[(Vi j)]] [j] := RowR.cons Z (RowR.nil)
        refine Gl (T := Ty.i64) (rows := [[(Vi j)]]) (l := [j]) Z Z Z fh Z Z Z Z Z Z Z Z (fun pT => ⟨(Ic Mb2 (Ic Mb3 (Ic Mb7 (Ic Mb8 (Ic Mb9 In0))))), ?_⟩)
        refine Ao 9 Z ?_
        have jV := t.mono d
        refine Gi (T := Ty.i64) (bytes := 8) Z Z Z Mb5 jV (SrcT.row Mb0 fh Z) x Z Z Z Z Z Z Z Z (fun cO lN hb => ⟨_, (.there (.there (.there (.there (.there .here))))), ⟨(Ic Mb2 (Ic Mb3 (Ic Mb7 (Ic Mb8 (Ic Mb9 In0))))), ?_⟩⟩)
        refine Aw.shift (Re0 (Sd ⟨(Ic Mb1 (Ic Mb2 (Ic Mb6 (Ic Mb7 (Ic Mb8 In0))))), ?_⟩))
        refine Ao 17 Z ?_
        have jW := p.mono d
        refine Gi (T := Ty.u64) (bytes := 8) Z Z Z Mb5 jW (SrcT.row Mb0 fg Z) w Z Z Z Z Z Z Z Z (fun d2 lO hc => ⟨_, (.there (.there (.there (.there (.there .here))))), ⟨(Ic Mb1 (Ic Mb2 (Ic Mb6 (Ic Mb7 (Ic Mb8 In0))))), ?_⟩⟩)
        refine Aw.shift (Re0 (Sd ⟨(Ic Mb0 (Ic Mb1 (Ic Mb5 (Ic Mb6 (Ic Mb7 In0))))), ?_⟩))
        refine Jq 18 Z (FN Z)<|JF 19 0 Z<|JF 20 0 Z<|?_
        refine Ao 21 Z ?_
        refine So [(sv cO)] (FG (FQ.mk (FW.mk b p0.cnfg.starts p0.cnfg.threads) p0.ops p0.picks) cO f a c) Z (.there (.there .here)) Z ⟨(Ic Mb0 (Ic Mb1 (Ic Mb5 (Ic Mb6 (Ic Mb7 In0))))), ?_⟩
        refine Jq 22 Z (FN Z)<|JF 23 0 Z<|JF 24 1 Z<|?_
        refine Ao 25 Z ?_
        refine So [(sv d2)] (FG (FQ.mk (FW.mk b g p0.cnfg.threads) p0.ops p0.picks) cO d2 a c) Z (.there (.there .here)) Z ⟨(Ic Mb0 (Ic Mb1 (Ic Mb5 (Ic Mb6 (Ic Mb7 In0))))), ?_⟩
        exact Ad<|Pu7<|Pu7<|Pu7<|Pu7<|Pu7<|Pu5<|Pu7<|Re7<|Sd<|⟨_, by exact R2, cO, b, lN, d2, g, lO, Z, Z, Z, H, hb, hc⟩
      ·refine id (Jy Z ?_)
       have bq : RowR Ty.i64 m [[(Vi j)]] [j] := RowR.cons Z (RowR.nil)
       refine Gl (T := Ty.i64) (rows := [[(Vi j)]]) (l := [j]) Z Z Z bq Z Z Z Z Z Z Z Z (fun pU => ⟨(Ic Mb1 (Ic Mb2 (Ic Mb6 (Ic Mb7 (Ic Mb8 In0))))), ?_⟩)
       refine Gf 6 16 (by kernel_rfl) ?_ ?_
       ·refine id (Jyq Z (FI (v := (sv u)) Z Z Z (Rb3 Z)) ⟨(Ic Mb1 (Ic Mb2 (Ic Mb6 (Ic Mb7 (Ic Mb8 In0))))), ?_⟩)
        refine Gf 9 16 (by kernel_rfl) ?_ ?_
        ·refine id (Jy Z ?_)
         have jX := t.mono d
         refine Gi (T := Ty.i64) (bytes := 8) Z Z Z Mb4 jX (SrcT.row Mb0 bq Z) x Z Z Z Z Z Z Z Z (fun cP lP hd => ⟨_, (.there (.there (.there (.there .here)))), ⟨(Ic Mb1 (Ic Mb2 (Ic Mb6 (Ic Mb7 (Ic Mb8 In0))))), ?_⟩⟩)
         refine Aw.shift (Re0 (Sd ⟨(Ic Mb0 (Ic Mb1 (Ic Mb5 (Ic Mb6 (Ic Mb7 In0))))), ?_⟩))
         refine Ao 16 Z ?_
         have fi : RowR Ty.u64 m [[(.int .u64 e)]] [e] := RowR.cons Z (RowR.nil)
         refine Gl (T := Ty.u64) (rows := [[(.int .u64 e)]]) (l := [e]) Z Z Z fi Z Z Z Z Z Z Z Z (fun pV => ⟨(Ic Mb1 (Ic Mb2 (Ic Mb6 (Ic Mb7 (Ic Mb8 In0))))), ?_⟩)
         refine Ao 17 Z ?_
         have jY := p.mono d
         refine Gi (T := Ty.u64) (bytes := 8) Z Z Z Mb5 jY (SrcT.row Mb0 fi Z) w Z Z Z Z Z Z Z Z (fun d3 lQ he => ⟨_, (.there (.there (.there (.there (.there .here))))), ⟨(Ic Mb1 (Ic Mb2 (Ic Mb6 (Ic Mb7 (Ic Mb8 In0))))), ?_⟩⟩)
         refine Aw.shift (Re0 (Sd ⟨(Ic Mb0 (Ic Mb1 (Ic Mb5 (Ic Mb6 (Ic Mb7 In0))))), ?_⟩))
         refine Jq 18 Z (FN Z)<|JF 19 0 Z<|JF 20 0 Z<|?_
         refine Ao 21 Z ?_
         refine So [(sv cP)] (FG (FQ.mk (FW.mk b p0.cnfg.starts p0.cnfg.threads) p0.ops p0.picks) cP f a c) Z (.there (.there .here)) Z ⟨(Ic Mb0 (Ic Mb1 (Ic Mb5 (Ic Mb6 (Ic Mb7 In0))))), ?_⟩
         refine Jq 22 Z (FN Z)<|JF 23 0 Z<|JF 24 1 Z<|?_
         refine Ao 25 Z ?_
         refine So [(sv d3)] (FG (FQ.mk (FW.mk b g p0.cnfg.threads) p0.ops p0.picks) cP d3 a c) Z (.there (.there .here)) Z ⟨(Ic Mb0 (Ic Mb1 (Ic Mb5 (Ic Mb6 (Ic Mb7 In0))))), ?_⟩
         exact Ad<|Pu7<|Pu7<|Pu7<|Pu7<|Pu7<|Pu5<|Pu7<|Re7<|Sd<|⟨_, by exact R2, cP, b, lP, d3, g, lQ, Z, Z, Z, H, hd, he⟩
        ·refine id (Jy Z ?_)
         have fj : RowR Ty.u64 m [[(.int .u64 e)]] [e] := RowR.cons Z (RowR.nil)
         refine Gl (T := Ty.u64) (rows := [[(.int .u64 e)]]) (l := [e]) Z Z Z fj Z Z Z Z Z Z Z Z (fun pW => ⟨(Ic Mb2 (Ic Mb3 (Ic Mb7 (Ic Mb8 (Ic Mb9 In0))))), ?_⟩)
         refine Ao 9 Z ?_
         have jZ := t.mono d
         refine Gi (T := Ty.i64) (bytes := 8) Z Z Z Mb5 jZ (SrcT.row Mb1 bq Z) x Z Z Z Z Z Z Z Z (fun cQ lR hf => ⟨_, (.there (.there (.there (.there (.there .here))))), ⟨(Ic Mb2 (Ic Mb3 (Ic Mb7 (Ic Mb8 (Ic Mb9 In0))))), ?_⟩⟩)
         refine Aw.shift (Re1 (Sd ⟨(Ic Mb1 (Ic Mb2 (Ic Mb6 (Ic Mb7 (Ic Mb8 In0))))), ?_⟩))
         refine Ao 17 Z ?_
         have j0 := p.mono d
         refine Gi (T := Ty.u64) (bytes := 8) Z Z Z Mb5 j0 (SrcT.row Mb0 fj Z) w Z Z Z Z Z Z Z Z (fun d4 lS hg => ⟨_, (.there (.there (.there (.there (.there .here))))), ⟨(Ic Mb1 (Ic Mb2 (Ic Mb6 (Ic Mb7 (Ic Mb8 In0))))), ?_⟩⟩)
         refine Aw.shift (Re0 (Sd ⟨(Ic Mb0 (Ic Mb1 (Ic Mb5 (Ic Mb6 (Ic Mb7 In0))))), ?_⟩))
         refine Jq 18 Z (FN Z)<|JF 19 0 Z<|JF 20 0 Z<|?_
         refine Ao 21 Z ?_
         refine So [(sv cQ)] (FG (FQ.mk (FW.mk b p0.cnfg.starts p0.cnfg.threads) p0.ops p0.picks) cQ f a c) Z (.there (.there .here)) Z ⟨(Ic Mb0 (Ic Mb1 (Ic Mb5 (Ic Mb6 (Ic Mb7 In0))))), ?_⟩
         refine Jq 22 Z (FN Z)<|JF 23 0 Z<|JF 24 1 Z<|?_
         refine Ao 25 Z ?_
         refine So [(sv d4)] (FG (FQ.mk (FW.mk b g p0.cnfg.threads) p0.ops p0.picks) cQ d4 a c) Z (.there (.there .here)) Z ⟨(Ic Mb0 (Ic Mb1 (Ic Mb5 (Ic Mb6 (Ic Mb7 In0))))), ?_⟩
         exact Ad<|Pu7<|Pu7<|Pu7<|Pu7<|Pu7<|Pu5<|Pu7<|Re7<|Sd<|⟨_, by exact R2, cQ, b, lR, d4, g, lS, Z, Z, Z, H, hf, hg⟩
       ·refine id (Jy Z ?_)
        have fk : RowR Ty.u64 m [[(.int .u64 e)]] [e] := RowR.cons Z (RowR.nil)
        refine Gl (T := Ty.u64) (rows := [[(.int .u64 e)]]) (l := [e]) Z Z Z fk Z Z Z Z Z Z Z Z (fun pX => ⟨(Ic Mb2 (Ic Mb3 (Ic Mb7 (Ic Mb8 (Ic Mb9 In0))))), ?_⟩)
        refine FP 6 (by kernel_rfl) (Jyq Z (FI (v := (sv u)) Z Z Z (Rb4 Z)) ⟨(Ic Mb2 (Ic Mb3 (Ic Mb7 (Ic Mb8 (Ic Mb9 In0))))), ?_⟩)
        refine Ao 9 Z ?_
        have j1 := t.mono d
        refine Gi (T := Ty.i64) (bytes := 8) Z Z Z Mb5 j1 (SrcT.row Mb1 bq Z) x Z Z Z Z Z Z Z Z (fun cR lT hh => ⟨_, (.there (.there (.there (.there (.there .here))))), ⟨(Ic Mb2 (Ic Mb3 (Ic Mb7 (Ic Mb8 (Ic Mb9 In0))))), ?_⟩⟩)
        refine Aw.shift (Re1 (Sd ⟨(Ic Mb1 (Ic Mb2 (Ic Mb6 (Ic Mb7 (Ic Mb8 In0))))), ?_⟩))
        refine Ao 17 Z ?_
        have j2 := p.mono d
        refine Gi (T := Ty.u64) (bytes := 8) Z Z Z Mb5 j2 (SrcT.row Mb0 fk Z) w Z Z Z Z Z Z Z Z (fun d5 lU hi => ⟨_, (.there (.there (.there (.there (.there .here))))), ⟨(Ic Mb1 (Ic Mb2 (Ic Mb6 (Ic Mb7 (Ic Mb8 In0))))), ?_⟩⟩)
        refine Aw.shift (Re0 (Sd ⟨(Ic Mb0 (Ic Mb1 (Ic Mb5 (Ic Mb6 (Ic Mb7 In0))))), ?_⟩))
        refine Jq 18 Z (FN Z)<|JF 19 0 Z<|JF 20 0 Z<|?_
        refine Ao 21 Z ?_
        refine So [(sv cR)] (FG (FQ.mk (FW.mk b p0.cnfg.starts p0.cnfg.threads) p0.ops p0.picks) cR f a c) Z (.there (.there .here)) Z ⟨(Ic Mb0 (Ic Mb1 (Ic Mb5 (Ic Mb6 (Ic Mb7 In0))))), ?_⟩
        refine Jq 22 Z (FN Z)<|JF 23 0 Z<|JF 24 1 Z<|?_
        refine Ao 25 Z ?_
        refine So [(sv d5)] (FG (FQ.mk (FW.mk b g p0.cnfg.threads) p0.ops p0.picks) cR d5 a c) Z (.there (.there .here)) Z ⟨(Ic Mb0 (Ic Mb1 (Ic Mb5 (Ic Mb6 (Ic Mb7 In0))))), ?_⟩
        exact Ad<|Pu7<|Pu7<|Pu7<|Pu7<|Pu7<|Pu5<|Pu7<|Re7<|Sd<|⟨_, by exact R2, cR, b, lT, d5, g, lU, Z, Z, Z, H, hh, hi⟩
      ·refine id (Jy Z ?_)
       have dj : RowR Ty.u64 m [[(.int .u64 e)]] [e] := RowR.cons Z (RowR.nil)
       refine Gl (T := Ty.u64) (rows := [[(.int .u64 e)]]) (l := [e]) Z Z Z dj Z Z Z Z Z Z Z Z (fun pY => ⟨(Ic Mb1 (Ic Mb2 (Ic Mb6 (Ic Mb7 (Ic Mb8 In0))))), ?_⟩)
       refine Gf 6 8 (by kernel_rfl) ?_ ?_
       ·refine id (Jyq Z (FI (v := (sv u)) Z Z Z (Rb3 Z)) ⟨(Ic Mb1 (Ic Mb2 (Ic Mb6 (Ic Mb7 (Ic Mb8 In0))))), ?_⟩)
        refine Ao 8 Z ?_
        have fl : RowR Ty.i64 m [[(Vi j)]] [j] := RowR.cons Z (RowR.nil)
        refine Gl (T := Ty.i64) (rows := [[(Vi j)]]) (l := [j]) Z Z Z fl Z Z Z Z Z Z Z Z (fun pZ => ⟨(Ic Mb2 (Ic Mb3 (Ic Mb7 (Ic Mb8 (Ic Mb9 In0))))), ?_⟩)
        refine Ao 9 Z ?_
        have j3 := t.mono d
        refine Gi (T := Ty.i64) (bytes := 8) Z Z Z Mb5 j3 (SrcT.row Mb0 fl Z) x Z Z Z Z Z Z Z Z (fun cS lV hj => ⟨_, (.there (.there (.there (.there (.there .here))))), ⟨(Ic Mb2 (Ic Mb3 (Ic Mb7 (Ic Mb8 (Ic Mb9 In0))))), ?_⟩⟩)
        refine Aw.shift (Re0 (Sd ⟨(Ic Mb1 (Ic Mb2 (Ic Mb6 (Ic Mb7 (Ic Mb8 In0))))), ?_⟩))
        refine Ao 17 Z ?_
        have j4 := p.mono d
        refine Gi (T := Ty.u64) (bytes := 8) Z Z Z Mb5 j4 (SrcT.row Mb0 dj Z) w Z Z Z Z Z Z Z Z (fun d6 lW hk => ⟨_, (.there (.there (.there (.there (.there .here))))), ⟨(Ic Mb1 (Ic Mb2 (Ic Mb6 (Ic Mb7 (Ic Mb8 In0))))), ?_⟩⟩)
        refine Aw.shift (Re0 (Sd ⟨(Ic Mb0 (Ic Mb1 (Ic Mb5 (Ic Mb6 (Ic Mb7 In0))))), ?_⟩))
        refine Jq 18 Z (FN Z)<|JF 19 0 Z<|JF 20 0 Z<|?_
        refine Ao 21 Z ?_
        refine So [(sv cS)] (FG (FQ.mk (FW.mk b p0.cnfg.starts p0.cnfg.threads) p0.ops p0.picks) cS f a c) Z (.there (.there .here)) Z ⟨(Ic Mb0 (Ic Mb1 (Ic Mb5 (Ic Mb6 (Ic Mb7 In0))))), ?_⟩
        refine Jq 22 Z (FN Z)<|JF 23 0 Z<|JF 24 1 Z<|?_
        refine Ao 25 Z ?_
        refine So [(sv d6)] (FG (FQ.mk (FW.mk b g p0.cnfg.threads) p0.ops p0.picks) cS d6 a c) Z (.there (.there .here)) Z ⟨(Ic Mb0 (Ic Mb1 (Ic Mb5 (Ic Mb6 (Ic Mb7 In0))))), ?_⟩
        exact Ad<|Pu7<|Pu7<|Pu7<|Pu7<|Pu7<|Pu5<|Pu7<|Re7<|Sd<|⟨_, by exact R2, cS, b, lV, d6, g, lW, Z, Z, Z, H, hj, hk⟩
       ·refine id (Jy Z ?_)
        have fm : RowR Ty.i64 m [[(Vi j)]] [j] := RowR.cons Z (RowR.nil)
        refine Gl (T := Ty.i64) (rows := [[(Vi j)]]) (l := [j]) Z Z Z fm Z Z Z Z Z Z Z Z (fun p2 => ⟨(Ic Mb2 (Ic Mb3 (Ic Mb7 (Ic Mb8 (Ic Mb9 In0))))), ?_⟩)
        refine FP 6 (by kernel_rfl) (Jyq Z (FI (v := (sv u)) Z Z Z (Rb4 Z)) ⟨(Ic Mb2 (Ic Mb3 (Ic Mb7 (Ic Mb8 (Ic Mb9 In0))))), ?_⟩)
        refine Ao 9 Z ?_
        have j5 := t.mono d
        refine Gi (T := Ty.i64) (bytes := 8) Z Z Z Mb5 j5 (SrcT.row Mb0 fm Z) x Z Z Z Z Z Z Z Z (fun cT lX hl => ⟨_, (.there (.there (.there (.there (.there .here))))), ⟨(Ic Mb2 (Ic Mb3 (Ic Mb7 (Ic Mb8 (Ic Mb9 In0))))), ?_⟩⟩)
        refine Aw.shift (Re0 (Sd ⟨(Ic Mb1 (Ic Mb2 (Ic Mb6 (Ic Mb7 (Ic Mb8 In0))))), ?_⟩))
        refine Ao 17 Z ?_
        have j6 := p.mono d
        refine Gi (T := Ty.u64) (bytes := 8) Z Z Z Mb5 j6 (SrcT.row Mb0 dj Z) w Z Z Z Z Z Z Z Z (fun d7 lY hm => ⟨_, (.there (.there (.there (.there (.there .here))))), ⟨(Ic Mb1 (Ic Mb2 (Ic Mb6 (Ic Mb7 (Ic Mb8 In0))))), ?_⟩⟩)
        refine Aw.shift (Re0 (Sd ⟨(Ic Mb0 (Ic Mb1 (Ic Mb5 (Ic Mb6 (Ic Mb7 In0))))), ?_⟩))
        refine Jq 18 Z (FN Z)<|JF 19 0 Z<|JF 20 0 Z<|?_
        refine Ao 21 Z ?_
        refine So [(sv cT)] (FG (FQ.mk (FW.mk b p0.cnfg.starts p0.cnfg.threads) p0.ops p0.picks) cT f a c) Z (.there (.there .here)) Z ⟨(Ic Mb0 (Ic Mb1 (Ic Mb5 (Ic Mb6 (Ic Mb7 In0))))), ?_⟩
        refine Jq 22 Z (FN Z)<|JF 23 0 Z<|JF 24 1 Z<|?_
        refine Ao 25 Z ?_
        refine So [(sv d7)] (FG (FQ.mk (FW.mk b g p0.cnfg.threads) p0.ops p0.picks) cT d7 a c) Z (.there (.there .here)) Z ⟨(Ic Mb0 (Ic Mb1 (Ic Mb5 (Ic Mb6 (Ic Mb7 In0))))), ?_⟩
        exact Ad<|Pu7<|Pu7<|Pu7<|Pu7<|Pu7<|Pu5<|Pu7<|Re7<|Sd<|⟨_, by exact R2, cT, b, lX, d7, g, lY, Z, Z, Z, H, hl, hm⟩
     ·refine id (Jy Z ?_)
      have ab : RowR Ty.u64 m [[(.int .u64 e)]] [e] := RowR.cons Z (RowR.nil)
      refine Gl (T := Ty.u64) (rows := [[(.int .u64 e)]]) (l := [e]) Z Z Z ab Z Z Z Z Z Z Z Z (fun p3 => ⟨(Ic Mb1 (Ic Mb2 (Ic Mb6 (Ic Mb7 (Ic Mb8 In0))))), ?_⟩)
      refine GG 6 8 14 (by kernel_rfl) ?_ ?_ ?_
      ·refine id (Jyq Z (FI (v := (sv u)) Z Z Z (Rb3 Z)) ⟨(Ic Mb1 (Ic Mb2 (Ic Mb6 (Ic Mb7 (Ic Mb8 In0))))), ?_⟩)
       refine Gf 8 14 (by kernel_rfl) ?_ ?_
       ·refine id (Jy Z ?_)
        have dk : RowR Ty.i64 m [[(Vi j)]] [j] := RowR.cons Z (RowR.nil)
        refine Gl (T := Ty.i64) (rows := [[(Vi j)]]) (l := [j]) Z Z Z dk Z Z Z Z Z Z Z Z (fun p4 => ⟨(Ic Mb2 (Ic Mb3 (Ic Mb7 (Ic Mb8 (Ic Mb9 In0))))), ?_⟩)
        refine Gf 9 14 (by kernel_rfl) ?_ ?_
        ·refine id (Jy Z ?_)
         have j7 := t.mono d
         refine Gi (T := Ty.i64) (bytes := 8) Z Z Z Mb5 j7 (SrcT.row Mb0 dk Z) x Z Z Z Z Z Z Z Z (fun cU lZ hn => ⟨_, (.there (.there (.there (.there (.there .here))))), ⟨(Ic Mb2 (Ic Mb3 (Ic Mb7 (Ic Mb8 (Ic Mb9 In0))))), ?_⟩⟩)
         refine Aw.shift (Re0 (Sd ⟨(Ic Mb1 (Ic Mb2 (Ic Mb6 (Ic Mb7 (Ic Mb8 In0))))), ?_⟩))
         refine FP 14 (by kernel_rfl) (Jyq Z (FI (v := (sv f)) Z Z Z (Rb3 Z)) ⟨(Ic Mb1 (Ic Mb2 (Ic Mb6 (Ic Mb7 (Ic Mb8 In0))))), ?_⟩)
         refine Ao 17 Z ?_
         have j8 := p.mono d
         refine Gi (T := Ty.u64) (bytes := 8) Z Z Z Mb5 j8 (SrcT.row Mb0 ab Z) w Z Z Z Z Z Z Z Z (fun d8 l0 ho => ⟨_, (.there (.there (.there (.there (.there .here))))), ⟨(Ic Mb1 (Ic Mb2 (Ic Mb6 (Ic Mb7 (Ic Mb8 In0))))), ?_⟩⟩)
         refine Aw.shift (Re0 (Sd ⟨(Ic Mb0 (Ic Mb1 (Ic Mb5 (Ic Mb6 (Ic Mb7 In0))))), ?_⟩))
         refine Jq 18 Z (FN Z)<|JF 19 0 Z<|JF 20 0 Z<|?_
         refine Ao 21 Z ?_
         refine So [(sv cU)] (FG (FQ.mk (FW.mk b p0.cnfg.starts p0.cnfg.threads) p0.ops p0.picks) cU f a c) Z (.there (.there .here)) Z ⟨(Ic Mb0 (Ic Mb1 (Ic Mb5 (Ic Mb6 (Ic Mb7 In0))))), ?_⟩
         refine Jq 22 Z (FN Z)<|JF 23 0 Z<|JF 24 1 Z<|?_
         refine Ao 25 Z ?_
         refine So [(sv d8)] (FG (FQ.mk (FW.mk b g p0.cnfg.threads) p0.ops p0.picks) cU d8 a c) Z (.there (.there .here)) Z ⟨(Ic Mb0 (Ic Mb1 (Ic Mb5 (Ic Mb6 (Ic Mb7 In0))))), ?_⟩
         exact Ad<|Pu7<|Pu7<|Pu7<|Pu7<|Pu7<|Pu5<|Pu7<|Re7<|Sd<|⟨_, by exact R2, cU, b, lZ, d8, g, l0, Z, Z, Z, H, hn, ho⟩
        ·refine id (Jyq Z (FI (v := (sv f)) Z Z Z (Rb4 Z)) ⟨(Ic Mb2 (Ic Mb3 (Ic Mb7 (Ic Mb8 (Ic Mb9 In0))))), ?_⟩)
         refine Ao 9 Z ?_
         have j9 := t.mono d
         refine Gi (T := Ty.i64) (bytes := 8) Z Z Z Mb5 j9 (SrcT.row Mb0 dk Z) x Z Z Z Z Z Z Z Z (fun cV l1 hp => ⟨_, (.there (.there (.there (.there (.there .here))))), ⟨(Ic Mb2 (Ic Mb3 (Ic Mb7 (Ic Mb8 (Ic Mb9 In0))))), ?_⟩⟩)
         refine Aw.shift (Re0 (Sd ⟨(Ic Mb1 (Ic Mb2 (Ic Mb6 (Ic Mb7 (Ic Mb8 In0))))), ?_⟩))
         refine Ao 17 Z ?_
         have ka := p.mono d
         refine Gi (T := Ty.u64) (bytes := 8) Z Z Z Mb5 ka (SrcT.row Mb0 ab Z) w Z Z Z Z Z Z Z Z (fun d9 l2 hq => ⟨_, (.there (.there (.there (.there (.there .here))))), ⟨(Ic Mb1 (Ic Mb2 (Ic Mb6 (Ic Mb7 (Ic Mb8 In0))))), ?_⟩⟩)
         refine Aw.shift (Re0 (Sd ⟨(Ic Mb0 (Ic Mb1 (Ic Mb5 (Ic Mb6 (Ic Mb7 In0))))), ?_⟩))
         refine Jq 18 Z (FN Z)<|JF 19 0 Z<|JF 20 0 Z<|?_
         refine Ao 21 Z ?_
         refine So [(sv cV)] (FG (FQ.mk (FW.mk b p0.cnfg.starts p0.cnfg.threads) p0.ops p0.picks) cV f a c) Z (.there (.there .here)) Z ⟨(Ic Mb0 (Ic Mb1 (Ic Mb5 (Ic Mb6 (Ic Mb7 In0))))), ?_⟩
         refine Jq 22 Z (FN Z)<|JF 23 0 Z<|JF 24 1 Z<|?_
         refine Ao 25 Z ?_
         refine So [(sv d9)] (FG (FQ.mk (FW.mk b g p0.cnfg.threads) p0.ops p0.picks) cV d9 a c) Z (.there (.there .here)) Z ⟨(Ic Mb0 (Ic Mb1 (Ic Mb5 (Ic Mb6 (Ic Mb7 In0))))), ?_⟩
         exact Ad<|Pu7<|Pu7<|Pu7<|Pu7<|Pu7<|Pu5<|Pu7<|Re7<|Sd<|⟨_, by exact R2, cV, b, l1, d9, g, l2, Z, Z, Z, H, hp, hq⟩
       ·refine id (Jyq Z (FI (v := (sv f)) Z Z Z (Rb3 Z)) ⟨(Ic Mb1 (Ic Mb2 (Ic Mb6 (Ic Mb7 (Ic Mb8 In0))))), ?_⟩)
        refine Ao 8 Z ?_
        have fn : RowR Ty.i64 m [[(Vi j)]] [j] := RowR.cons Z (RowR.nil)
        refine Gl (T := Ty.i64) (rows := [[(Vi j)]]) (l := [j]) Z Z Z fn Z Z Z Z Z Z Z Z (fun p5 => ⟨(Ic Mb2 (Ic Mb3 (Ic Mb7 (Ic Mb8 (Ic Mb9 In0))))), ?_⟩)
        refine Ao 9 Z ?_
        have kb := t.mono d
        refine Gi (T := Ty.i64) (bytes := 8) Z Z Z Mb5 kb (SrcT.row Mb0 fn Z) x Z Z Z Z Z Z Z Z (fun cW l3 hr => ⟨_, (.there (.there (.there (.there (.there .here))))), ⟨(Ic Mb2 (Ic Mb3 (Ic Mb7 (Ic Mb8 (Ic Mb9 In0))))), ?_⟩⟩)
        refine Aw.shift (Re0 (Sd ⟨(Ic Mb1 (Ic Mb2 (Ic Mb6 (Ic Mb7 (Ic Mb8 In0))))), ?_⟩))
        refine Ao 17 Z ?_
        have kc := p.mono d
        refine Gi (T := Ty.u64) (bytes := 8) Z Z Z Mb5 kc (SrcT.row Mb0 ab Z) w Z Z Z Z Z Z Z Z (fun ea l4 hs => ⟨_, (.there (.there (.there (.there (.there .here))))), ⟨(Ic Mb1 (Ic Mb2 (Ic Mb6 (Ic Mb7 (Ic Mb8 In0))))), ?_⟩⟩)
        refine Aw.shift (Re0 (Sd ⟨(Ic Mb0 (Ic Mb1 (Ic Mb5 (Ic Mb6 (Ic Mb7 In0))))), ?_⟩))
        refine Jq 18 Z (FN Z)<|JF 19 0 Z<|JF 20 0 Z<|?_
        refine Ao 21 Z ?_
        refine So [(sv cW)] (FG (FQ.mk (FW.mk b p0.cnfg.starts p0.cnfg.threads) p0.ops p0.picks) cW f a c) Z (.there (.there .here)) Z ⟨(Ic Mb0 (Ic Mb1 (Ic Mb5 (Ic Mb6 (Ic Mb7 In0))))), ?_⟩
        refine Jq 22 Z (FN Z)<|JF 23 0 Z<|JF 24 1 Z<|?_
        refine Ao 25 Z ?_
        refine So [(sv ea)] (FG (FQ.mk (FW.mk b g p0.cnfg.threads) p0.ops p0.picks) cW ea a c) Z (.there (.there .here)) Z ⟨(Ic Mb0 (Ic Mb1 (Ic Mb5 (Ic Mb6 (Ic Mb7 In0))))), ?_⟩
        exact Ad<|Pu7<|Pu7<|Pu7<|Pu7<|Pu7<|Pu5<|Pu7<|Re7<|Sd<|⟨_, by exact R2, cW, b, l3, ea, g, l4, Z, Z, Z, H, hr, hs⟩
      ·refine id (Jy Z ?_)
       have br : RowR Ty.i64 m [[(Vi j)]] [j] := RowR.cons Z (RowR.nil)
       refine Gl (T := Ty.i64) (rows := [[(Vi j)]]) (l := [j]) Z Z Z br Z Z Z Z Z Z Z Z (fun p6 => ⟨(Ic Mb2 (Ic Mb3 (Ic Mb7 (Ic Mb8 (Ic Mb9 In0))))), ?_⟩)
       refine Gf 6 14 (by kernel_rfl) ?_ ?_
       ·refine id (Jyq Z (FI (v := (sv u)) Z Z Z (Rb4 Z)) ⟨(Ic Mb2 (Ic Mb3 (Ic Mb7 (Ic Mb8 (Ic Mb9 In0))))), ?_⟩)
        refine Gf 9 14 (by kernel_rfl) ?_ ?_
        ·refine id (Jy Z ?_)
         have kd := t.mono d
         refine Gi (T := Ty.i64) (bytes := 8) Z Z Z Mb5 kd (SrcT.row Mb0 br Z) x Z Z Z Z Z Z Z Z (fun cX l5 ht => ⟨_, (.there (.there (.there (.there (.there .here))))), ⟨(Ic Mb2 (Ic Mb3 (Ic Mb7 (Ic Mb8 (Ic Mb9 In0))))), ?_⟩⟩)
         refine Aw.shift (Re0 (Sd ⟨(Ic Mb1 (Ic Mb2 (Ic Mb6 (Ic Mb7 (Ic Mb8 In0))))), ?_⟩))
         refine FP 14 (by kernel_rfl) (Jyq Z (FI (v := (sv f)) Z Z Z (Rb3 Z)) ⟨(Ic Mb1 (Ic Mb2 (Ic Mb6 (Ic Mb7 (Ic Mb8 In0))))), ?_⟩)
         refine Ao 17 Z ?_
         have ke := p.mono d
         refine Gi (T := Ty.u64) (bytes := 8) Z Z Z Mb5 ke (SrcT.row Mb0 ab Z) w Z Z Z Z Z Z Z Z (fun eb l6 hu => ⟨_, (.there (.there (.there (.there (.there .here))))), ⟨(Ic Mb1 (Ic Mb2 (Ic Mb6 (Ic Mb7 (Ic Mb8 In0))))), ?_⟩⟩)
         refine Aw.shift (Re0 (Sd ⟨(Ic Mb0 (Ic Mb1 (Ic Mb5 (Ic Mb6 (Ic Mb7 In0))))), ?_⟩))
         refine Jq 18 Z (FN Z)<|JF 19 0 Z<|JF 20 0 Z<|?_
         refine Ao 21 Z ?_
         refine So [(sv cX)] (FG (FQ.mk (FW.mk b p0.cnfg.starts p0.cnfg.threads) p0.ops p0.picks) cX f a c) Z (.there (.there .here)) Z ⟨(Ic Mb0 (Ic Mb1 (Ic Mb5 (Ic Mb6 (Ic Mb7 In0))))), ?_⟩
         refine Jq 22 Z (FN Z)<|JF 23 0 Z<|JF 24 1 Z<|?_
         refine Ao 25 Z ?_
         refine So [(sv eb)] (FG (FQ.mk (FW.mk b g p0.cnfg.threads) p0.ops p0.picks) cX eb a c) Z (.there (.there .here)) Z ⟨(Ic Mb0 (Ic Mb1 (Ic Mb5 (Ic Mb6 (Ic Mb7 In0))))), ?_⟩
         exact Ad<|Pu7<|Pu7<|Pu7<|Pu7<|Pu7<|Pu5<|Pu7<|Re7<|Sd<|⟨_, by exact R2, cX, b, l5, eb, g, l6, Z, Z, Z, H, ht, hu⟩
        ·refine id (Jyq Z (FI (v := (sv f)) Z Z Z (Rb4 Z)) ⟨(Ic Mb2 (Ic Mb3 (Ic Mb7 (Ic Mb8 (Ic Mb9 In0))))), ?_⟩)
         refine Ao 9 Z ?_
         have kf := t.mono d
         refine Gi (T := Ty.i64) (bytes := 8) Z Z Z Mb5 kf (SrcT.row Mb0 br Z) x Z Z Z Z Z Z Z Z (fun cY l7 hv => ⟨_, (.there (.there (.there (.there (.there .here))))), ⟨(Ic Mb2 (Ic Mb3 (Ic Mb7 (Ic Mb8 (Ic Mb9 In0))))), ?_⟩⟩)
         refine Aw.shift (Re0 (Sd ⟨(Ic Mb1 (Ic Mb2 (Ic Mb6 (Ic Mb7 (Ic Mb8 In0))))), ?_⟩))
         refine Ao 17 Z ?_
         have kg := p.mono d
         refine Gi (T := Ty.u64) (bytes := 8) Z Z Z Mb5 kg (SrcT.row Mb0 ab Z) w Z Z Z Z Z Z Z Z (fun ec l8 hw => ⟨_, (.there (.there (.there (.there (.there .here))))), ⟨(Ic Mb1 (Ic Mb2 (Ic Mb6 (Ic Mb7 (Ic Mb8 In0))))), ?_⟩⟩)
         refine Aw.shift (Re0 (Sd ⟨(Ic Mb0 (Ic Mb1 (Ic Mb5 (Ic Mb6 (Ic Mb7 In0))))), ?_⟩))
         refine Jq 18 Z (FN Z)<|JF 19 0 Z<|JF 20 0 Z<|?_
         refine Ao 21 Z ?_
         refine So [(sv cY)] (FG (FQ.mk (FW.mk b p0.cnfg.starts p0.cnfg.threads) p0.ops p0.picks) cY f a c) Z (.there (.there .here)) Z ⟨(Ic Mb0 (Ic Mb1 (Ic Mb5 (Ic Mb6 (Ic Mb7 In0))))), ?_⟩
         refine Jq 22 Z (FN Z)<|JF 23 0 Z<|JF 24 1 Z<|?_
         refine Ao 25 Z ?_
         refine So [(sv ec)] (FG (FQ.mk (FW.mk b g p0.cnfg.threads) p0.ops p0.picks) cY ec a c) Z (.there (.there .here)) Z ⟨(Ic Mb0 (Ic Mb1 (Ic Mb5 (Ic Mb6 (Ic Mb7 In0))))), ?_⟩
         exact Ad<|Pu7<|Pu7<|Pu7<|Pu7<|Pu7<|Pu5<|Pu7<|Re7<|Sd<|⟨_, by exact R2, cY, b, l7, ec, g, l8, Z, Z, Z, H, hv, hw⟩
       ·refine id (Jyq Z (FI (v := (sv f)) Z Z Z (Rb4 Z)) ⟨(Ic Mb2 (Ic Mb3 (Ic Mb7 (Ic Mb8 (Ic Mb9 In0))))), ?_⟩)
        refine FP 6 (by kernel_rfl) (Jyq Z (FI (v := (sv u)) Z Z Z (Rb4 Z)) ⟨(Ic Mb2 (Ic Mb3 (Ic Mb7 (Ic Mb8 (Ic Mb9 In0))))), ?_⟩)
        refine Ao 9 Z ?_
        have kh := t.mono d
        refine Gi (T := Ty.i64) (bytes := 8) Z Z Z Mb5 kh (SrcT.row Mb0 br Z) x Z Z Z Z Z Z Z Z (fun cZ l9 hx => ⟨_, (.there (.there (.there (.there (.there .here))))), ⟨(Ic Mb2 (Ic Mb3 (Ic Mb7 (Ic Mb8 (Ic Mb9 In0))))), ?_⟩⟩)
        refine Aw.shift (Re0 (Sd ⟨(Ic Mb1 (Ic Mb2 (Ic Mb6 (Ic Mb7 (Ic Mb8 In0))))), ?_⟩))
        refine Ao 17 Z ?_
        have ki := p.mono d
        refine Gi (T := Ty.u64) (bytes := 8) Z Z Z Mb5 ki (SrcT.row Mb0 ab Z) w Z Z Z Z Z Z Z Z (fun ed ma hy => ⟨_, (.there (.there (.there (.there (.there .here))))), ⟨(Ic Mb1 (Ic Mb2 (Ic Mb6 (Ic Mb7 (Ic Mb8 In0))))), ?_⟩⟩)
        refine Aw.shift (Re0 (Sd ⟨(Ic Mb0 (Ic Mb1 (Ic Mb5 (Ic Mb6 (Ic Mb7 In0))))), ?_⟩))
        refine Jq 18 Z (FN Z)<|JF 19 0 Z<|JF 20 0 Z<|?_
        refine Ao 21 Z ?_
        refine So [(sv cZ)] (FG (FQ.mk (FW.mk b p0.cnfg.starts p0.cnfg.threads) p0.ops p0.picks) cZ f a c) Z (.there (.there .here)) Z ⟨(Ic Mb0 (Ic Mb1 (Ic Mb5 (Ic Mb6 (Ic Mb7 In0))))), ?_⟩
        refine Jq 22 Z (FN Z)<|JF 23 0 Z<|JF 24 1 Z<|?_
        refine Ao 25 Z ?_
        refine So [(sv ed)] (FG (FQ.mk (FW.mk b g p0.cnfg.threads) p0.ops p0.picks) cZ ed a c) Z (.there (.there .here)) Z ⟨(Ic Mb0 (Ic Mb1 (Ic Mb5 (Ic Mb6 (Ic Mb7 In0))))), ?_⟩
        exact Ad<|Pu7<|Pu7<|Pu7<|Pu7<|Pu7<|Pu5<|Pu7<|Re7<|Sd<|⟨_, by exact R2, cZ, b, l9, ed, g, ma, Z, Z, Z, H, hx, hy⟩
      ·refine id (Jyq Z (FI (v := (sv f)) Z Z Z (Rb3 Z)) ⟨(Ic Mb1 (Ic Mb2 (Ic Mb6 (Ic Mb7 (Ic Mb8 In0))))), ?_⟩)
       refine Gf 6 8 (by kernel_rfl) ?_ ?_
       ·refine id (Jyq Z (FI (v := (sv u)) Z Z Z (Rb3 Z)) ⟨(Ic Mb1 (Ic Mb2 (Ic Mb6 (Ic Mb7 (Ic Mb8 In0))))), ?_⟩)
        refine Ao 8 Z ?_
        have fo : RowR Ty.i64 m [[(Vi j)]] [j] := RowR.cons Z (RowR.nil)
        refine Gl (T := Ty.i64) (rows := [[(Vi j)]]) (l := [j]) Z Z Z fo Z Z Z Z Z Z Z Z (fun p7 => ⟨(Ic Mb2 (Ic Mb3 (Ic Mb7 (Ic Mb8 (Ic Mb9 In0))))), ?_⟩)
        refine Ao 9 Z ?_
        have kj := t.mono d
        refine Gi (T := Ty.i64) (bytes := 8) Z Z Z Mb5 kj (SrcT.row Mb0 fo Z) x Z Z Z Z Z Z Z Z (fun c0 mb hz => ⟨_, (.there (.there (.there (.there (.there .here))))), ⟨(Ic Mb2 (Ic Mb3 (Ic Mb7 (Ic Mb8 (Ic Mb9 In0))))), ?_⟩⟩)
        refine Aw.shift (Re0 (Sd ⟨(Ic Mb1 (Ic Mb2 (Ic Mb6 (Ic Mb7 (Ic Mb8 In0))))), ?_⟩))
        refine Ao 17 Z ?_
        have kk := p.mono d
        refine Gi (T := Ty.u64) (bytes := 8) Z Z Z Mb5 kk (SrcT.row Mb0 ab Z) w Z Z Z Z Z Z Z Z (fun ee mc hA => ⟨_, (.there (.there (.there (.there (.there .here))))), ⟨(Ic Mb1 (Ic Mb2 (Ic Mb6 (Ic Mb7 (Ic Mb8 In0))))), ?_⟩⟩)
        refine Aw.shift (Re0 (Sd ⟨(Ic Mb0 (Ic Mb1 (Ic Mb5 (Ic Mb6 (Ic Mb7 In0))))), ?_⟩))
        refine Jq 18 Z (FN Z)<|JF 19 0 Z<|JF 20 0 Z<|?_
        refine Ao 21 Z ?_
        refine So [(sv c0)] (FG (FQ.mk (FW.mk b p0.cnfg.starts p0.cnfg.threads) p0.ops p0.picks) c0 f a c) Z (.there (.there .here)) Z ⟨(Ic Mb0 (Ic Mb1 (Ic Mb5 (Ic Mb6 (Ic Mb7 In0))))), ?_⟩
        refine Jq 22 Z (FN Z)<|JF 23 0 Z<|JF 24 1 Z<|?_
        refine Ao 25 Z ?_
        refine So [(sv ee)] (FG (FQ.mk (FW.mk b g p0.cnfg.threads) p0.ops p0.picks) c0 ee a c) Z (.there (.there .here)) Z ⟨(Ic Mb0 (Ic Mb1 (Ic Mb5 (Ic Mb6 (Ic Mb7 In0))))), ?_⟩
        exact Ad<|Pu7<|Pu7<|Pu7<|Pu7<|Pu7<|Pu5<|Pu7<|Re7<|Sd<|⟨_, by exact R2, c0, b, mb, ee, g, mc, Z, Z, Z, H, hz, hA⟩
       ·refine id (Jy Z ?_)
        have fp : RowR Ty.i64 m [[(Vi j)]] [j] := RowR.cons Z (RowR.nil)
        refine Gl (T := Ty.i64) (rows := [[(Vi j)]]) (l := [j]) Z Z Z fp Z Z Z Z Z Z Z Z (fun p8 => ⟨(Ic Mb2 (Ic Mb3 (Ic Mb7 (Ic Mb8 (Ic Mb9 In0))))), ?_⟩)
        refine FP 6 (by kernel_rfl) (Jyq Z (FI (v := (sv u)) Z Z Z (Rb4 Z)) ⟨(Ic Mb2 (Ic Mb3 (Ic Mb7 (Ic Mb8 (Ic Mb9 In0))))), ?_⟩)
        refine Ao 9 Z ?_
        have kl := t.mono d
        refine Gi (T := Ty.i64) (bytes := 8) Z Z Z Mb5 kl (SrcT.row Mb0 fp Z) x Z Z Z Z Z Z Z Z (fun c1 md hB => ⟨_, (.there (.there (.there (.there (.there .here))))), ⟨(Ic Mb2 (Ic Mb3 (Ic Mb7 (Ic Mb8 (Ic Mb9 In0))))), ?_⟩⟩)
        refine Aw.shift (Re0 (Sd ⟨(Ic Mb1 (Ic Mb2 (Ic Mb6 (Ic Mb7 (Ic Mb8 In0))))), ?_⟩))
        refine Ao 17 Z ?_
        have km := p.mono d
        refine Gi (T := Ty.u64) (bytes := 8) Z Z Z Mb5 km (SrcT.row Mb0 ab Z) w Z Z Z Z Z Z Z Z (fun ef me hC => ⟨_, (.there (.there (.there (.there (.there .here))))), ⟨(Ic Mb1 (Ic Mb2 (Ic Mb6 (Ic Mb7 (Ic Mb8 In0))))), ?_⟩⟩)
        refine Aw.shift (Re0 (Sd ⟨(Ic Mb0 (Ic Mb1 (Ic Mb5 (Ic Mb6 (Ic Mb7 In0))))), ?_⟩))
        refine Jq 18 Z (FN Z)<|JF 19 0 Z<|JF 20 0 Z<|?_
        refine Ao 21 Z ?_
        refine So [(sv c1)] (FG (FQ.mk (FW.mk b p0.cnfg.starts p0.cnfg.threads) p0.ops p0.picks) c1 f a c) Z (.there (.there .here)) Z ⟨(Ic Mb0 (Ic Mb1 (Ic Mb5 (Ic Mb6 (Ic Mb7 In0))))), ?_⟩
        refine Jq 22 Z (FN Z)<|JF 23 0 Z<|JF 24 1 Z<|?_
        refine Ao 25 Z ?_
        refine So [(sv ef)] (FG (FQ.mk (FW.mk b g p0.cnfg.threads) p0.ops p0.picks) c1 ef a c) Z (.there (.there .here)) Z ⟨(Ic Mb0 (Ic Mb1 (Ic Mb5 (Ic Mb6 (Ic Mb7 In0))))), ?_⟩
        exact Ad<|Pu7<|Pu7<|Pu7<|Pu7<|Pu7<|Pu5<|Pu7<|Re7<|Sd<|⟨_, by exact R2, c1, b, md, ef, g, me, Z, Z, Z, H, hB, hC⟩
    rintro _ _ _ - ⟨aY, aw, be, aZ, ax, bf, rfl, rfl, rfl, H, gn, go⟩
    unfold PQ at H
    refine Gk (fun O y J => ∃ (bg : Bool), [(4, (.bool bg))] = O ∧ m = y ∧ (.blk N 33 (FG (FQ.mk (FW.mk aw ax p0.cnfg.threads) p0.ops p0.picks) aY aZ a c)) :: (.row (sv aY) 3 1 be.flatten) :: (.row (sv aZ) 53 1 bf.flatten) :: (.row (sv a) 51 1 (h.map one).flatten) :: (.tok 70 7 h) :: (.row (sv c) 3 1 L.flatten) :: G = J ∧ NB aw ax p0 bg = some (F, B, E, I, C, D)) ?_ ?_
    ·refine FD<|Em Z<|Eq Z (FN Z)<|EF 1 Z<|El (.bool c6) Z (Rb1 Z)<|Eq Z (GW Z)<|Em Z<|?_
     refine Ee Z ?_ ?_
     ·intro an
      have an := GR an
      have H := Gu (btf an) H
      refine Vm Z<|Vq Z (FN Z)<|VF 0 Z<|Vl (sv fN) Z (Rb1 Z)<|Vq Z (Gt (T := Ty.str) i6 Z Z)<|Vc Z<|Et Z<|Em Z<|?_
      refine Ee Z ?_ ?_
      ·intro a5
       obtain ⟨a5, H⟩ := It a5 H
       refine Vm Z<|Vq Z (FN Z)<|VF 3 Z<|Vl (sv a) Z (Rb0 Z)<|?_
       have kn := ac.mono d
       refine Vq Z (Ik (T := (Ty.sl FU)) Mb4 kn Z Z Z)<|Vc Z<|Et Z<|Em Z<|?_
       refine Ee Z ?_ ?_
       ·intro a6
        obtain ⟨a6, H⟩ := It a6 H
        refine Vm Z<|Vq Z (FN Z)<|VF 4 Z<|Vl (sv c) Z (Rb0 Z)<|?_
        have ko := Y.mono d
        exact Vq Z (Ik (T := Ty.i64) Mb6 ko Z Z Z)<|Vc Z<|Et Z<|Ea Z<|FH<|Pu6<|Pu6<|Pu6<|Pu6<|Pu6<|Pu5<|Re6<|Sd<|⟨_, by exact R1, (dcd ((p0.picks.length : Int) = 0)), Z, Z, Z, H⟩
       ·intro a6
        obtain ⟨a6, H⟩ := If a6 H
        exact Ez Z<|Ez Z<|Ez Z<|Ez Z<|Ez Z<|Ez Z<|Ef Z<|Ea Z<|FH<|Pu6<|Pu6<|Pu6<|Pu6<|Pu6<|Pu5<|Re6<|Sd<|⟨_, by exact R1, false, Z, Z, Z, H⟩
      ·intro a5
       obtain ⟨a5, H⟩ := If a5 H
       refine Ez Z<|Ez Z<|Ez Z<|Ez Z<|Ez Z<|Ez Z<|Ef Z<|Em Z<|Ez Z<|Ez Z<|Ez Z<|Ez Z<|Ez Z<|Ez Z<|Ef Z<|Ea Z<|FH<|Pu6<|Pu6<|Pu6<|Pu6<|Pu6<|?_
       exact Pu5<|Re6<|Sd<|⟨_, by exact R1, false, Z, Z, Z, H⟩
     ·intro an
      have an := GQ an
      have H := ift an H
      refine Ez Z<|Ez Z<|Ez Z<|Ez Z<|Ez Z<|Ez Z<|Ef Z<|Em Z<|Ez Z<|Ez Z<|Ez Z<|Ez Z<|Ez Z<|Ez Z<|Ef Z<|Em Z<|Ez Z<|Ez Z<|Ez Z<|Ez Z<|Ez Z<|Ez Z<|?_
      exact Ef Z<|Ea Z<|FH<|Pu6<|Pu6<|Pu6<|Pu6<|Pu6<|Pu5<|Re6<|Sd<|⟨_, by exact R1, false, Z, Z, Z, H⟩
    rintro _ _ _ - ⟨bg, rfl, rfl, rfl, H⟩
    unfold NB at H
    refine Gg ?_
    obtain ⟨ah, ai, al, am, aj, ak⟩ := Q7 H
    subst F B E I C D
    refine ⟨(.inl Z), [(.bool bg)], ⟨(.bool bg), _, Z, Z, Z⟩, ?_⟩
    refine Pu5<|Pu5<|Pu5<|Pu5<|Pu5<|Pu5<|?_
    have kp := ac.mono d
    have kq := Y.mono d
    exact Sd ⟨aY, be, aZ, bf, a, h, c, L, Z, Z, gn, go, kp, kq⟩
   ·intro a4
    obtain ⟨a4, H⟩ := If a4 H
    refine FK<|FD<|Eq Z (Is Z Z)<|Ea Z<|FH<|?_
    refine F2 Z ?_ ?_
    ·intro a7
     obtain ⟨a7, H⟩ := It a7 H
     refine FK<|FD<|Em Z<|Em Z<|Eq Z (FN Z)<|EF 3 Z<|El (sv a) Z (Rb2 Z)<|?_
     have fq : RowR (Ty.sl FU) m [[(sv FZ)]] [[]] := RowR.cons ⟨FZ, Z, (Slr.nil FU _)⟩ (RowR.nil)
     refine FT Z (Gl (T := (Ty.sl FU)) (rows := [[(sv FZ)]]) (l := [[]]) Z Z Z fq Z Z Z Z Z Z Z Z (fun p9 => ?_))
     obtain ⟨mw, k0, H⟩ := bnd H
     have kr := ac.mono d
     refine FT Z (O7 (T := (Ty.sl FU)) (bytes := 24) Z Z Z Mb6 kr Mb0 fq k0 Z Z Z Z Z Z Z Z (fun c2 mf ij fr => ⟨_, (.there (.there (.there (.there (.there (.there .here)))))), ?_⟩))
     obtain rfl : mf = (h ++ [(sv FZ)]).map one := by rw [ij, List.map_append]; rfl
     refine Ow.shift (Shift.tokNil (.there (.there (.there (.there (.there (.there (.there .here))))))) (Sd ?_))
     rw [show (Value.slice none 0 0) = (sv FZ) from rfl]
     refine Ow.shift (Re0 (Sd ?_))
     refine Eq Z (FN Z)<|EF 3 Z<|?_
     refine FT Z (So [(sv c2)] (FG (FQ.mk p0.cnfg mw p0.picks) u f c2 c) Z (.there (.there .here)) Z ?_)
     refine FH<|FK<|FD<|Em Z<|Eq Z (FN Z)<|EF 0 Z<|El (sv bi) Z (Rb0 Z)<|Eq Z (Gt (T := Ty.str) ck Z Z)<|Ec Z<|Em Z<|?_
     refine Ee Z ?_ ?_
     ·intro a8
      obtain ⟨a8, H⟩ := It a8 H
      refine Vm Z<|Vq Z (FN Z)<|VF 4 Z<|Vl (sv c) Z (Rb2 Z)<|?_
      have fy := Y.mono d
      refine Vq Z (Ik (T := Ty.i64) Mb7 fy Z Z Z)<|Vc Z<|Et Z<|Ea Z<|FH<|Gg<|?_
      obtain ⟨ah, ai, al, am, aj, ak⟩ := Q7 H
      subst F B E I C D
      refine ⟨(.inl Z), [(.bool (dcd ((p0.picks.length : Int) = 0)))], ⟨(.bool (dcd ((p0.picks.length : Int) = 0))), _, Z, Z, Z⟩, ?_⟩
      refine Pu7<|Pu7<|Pu7<|Pu7<|Pu7<|Pu7<|Re6<|Re6<|?_
      have ks := t.mono d
      have kt := p.mono d
      exact Sd ⟨u, P, f, Q, c2, (h ++ [(sv FZ)]), c, L, Z, Z, ks, kt, fr, fy⟩
     ·intro a8
      obtain ⟨a8, H⟩ := If a8 H
      refine Ez Z<|Ez Z<|Ez Z<|Ez Z<|Ez Z<|Ez Z<|Ef Z<|Ea Z<|FH<|Gg<|?_
      obtain ⟨ah, ai, al, am, aj, ak⟩ := Q7 H
      subst F B E I C D
      refine ⟨(.inl Z), [(.bool false)], ⟨(.bool false), _, Z, Z, Z⟩, ?_⟩
      refine Pu7<|Pu7<|Pu7<|Pu7<|Pu7<|Pu7<|Re6<|Re6<|?_
      have ku := t.mono d
      have kv := p.mono d
      have kw := Y.mono d
      exact Sd ⟨u, P, f, Q, c2, (h ++ [(sv FZ)]), c, L, Z, Z, ku, kv, fr, kw⟩
    ·intro a7
     obtain ⟨a7, H⟩ := If a7 H
     refine FK<|FD<|Eq Z (Is Z Z)<|Ea Z<|FH<|?_
     refine F2 Z ?_ ?_
     ·intro a9
      obtain ⟨a9, H⟩ := It a9 H
      refine FK ?_
      refine Gk (fun O y J => ∃ (dz : Bool), [(0, (Vp N)), (10, (Vp V)), (180, (.bool dz))] = O ∧ m = y ∧ (.blk N 33 (FG p0 u f a c)) :: (.blk V 90 (F9 (FR.mk a0 bk) bi)) :: (.row (sv u) 3 1 P.flatten) :: (.row (sv f) 53 1 Q.flatten) :: (.row (sv a) 51 1 (h.map one).flatten) :: (.tok 70 7 h) :: (.row (sv c) 3 1 L.flatten) :: G = J ∧ OM p0 a0 bk dz = some (F, B, E, I, C, D)) ?_ ?_
      ·refine FD<|Em Z<|Eq Z (FN Z)<|EF 4 Z<|El (sv c) Z (Rb2 Z)<|?_
       have kx := Y.mono d
       refine Eq Z (Ik (T := Ty.i64) Mb7 kx Z Z Z)<|Ec Z<|Em Z<|?_
       refine Ee Z ?_ ?_
       ·intro ba
        obtain ⟨ba, H⟩ := It ba H
        exact Ez Z<|Ez Z<|Ez Z<|Ez Z<|Ez Z<|Ez Z<|Et Z<|FH<|Pu7<|Pu7<|Pu7<|Pu7<|Pu7<|Pu5<|Pu7<|Re7<|Sd<|⟨_, by exact R3, true, Z, Z, Z, H⟩
       ·intro ba
        obtain ⟨ba, H⟩ := If ba H
        exact Vm Z<|Vq Z (FN Z)<|VF 0 Z<|Vl (sv bi) Z (Rb0 Z)<|Vq Z (Gt (T := Ty.str) ck Z Z)<|Vc Z<|Ef Z<|FH<|Pu7<|Pu7<|Pu7<|Pu7<|Pu7<|Pu5<|Pu7<|Re7<|Sd<|⟨_, by exact R3, (dcd ((a0.length : Int) = 0)), Z, Z, Z, H⟩
      rintro _ _ _ - ⟨dz, rfl, rfl, rfl, H⟩
      unfold OM at H
      refine F2 Z ?_ ?_
      ·intro da
       have H := ift da H
       refine FK<|FD<|Ea Z<|FH<|Gg<|?_
       obtain ⟨ah, ai, al, am, aj, ak⟩ := Q7 H
       subst F B E I C D
       refine ⟨(.inl Z), [(.bool false)], ⟨(.bool false), _, Z, Z, Z⟩, ?_⟩
       refine Pu6<|Pu6<|Pu6<|Pu6<|Pu6<|Pu5<|Re6<|?_
       have ky := t.mono d
       have kz := p.mono d
       have kA := ac.mono d
       have kB := Y.mono d
       exact Sd ⟨u, P, f, Q, a, h, c, L, Z, Z, ky, kz, kA, kB⟩
      ·intro da
       have H := Gu (btf da) H
       refine F8 ?_
       refine Gk (fun O y J => ∃ (c3 : SV) (cn : ad8) (cp : List (List Value)) (eg : SV) (co : ad7) (ay : Bool), [(10, (Vp V))] = O ∧ (.blk N 33 (FG (FQ.mk p0.cnfg p0.ops cn) u f a c3)) :: (.blk V 90 (F9 (FR.mk co ay) eg)) :: (.row (sv c3) 3 1 cp.flatten) :: (.row (sv u) 3 1 P.flatten) :: (.row (sv f) 53 1 Q.flatten) :: (.row (sv a) 51 1 (h.map one).flatten) :: (.tok 70 7 h) :: G = J ∧ PR p0 cn co ay = some (F, B, E, I, C, D) ∧ RowR Ty.i64 y cp cn ∧ Slr Ty.str y (sv eg) co) ?_ ?_
       ·refine Gh ?_
        refine Gv (fun fD O y J => ∃ (aq : SV) (bd : ad8) (cq : List (List Value)) (ar : SV) (ap : ad7) (az : Bool), [(0, (Vp N)), (10, (Vp V))] = O ∧ m = y ∧ (.blk N 33 (FG (FQ.mk p0.cnfg p0.ops bd) u f a aq)) :: (.blk V 90 (F9 (FR.mk ap az) ar)) :: (.row (sv aq) 3 1 cq.flatten) :: (.row (sv u) 3 1 P.flatten) :: (.row (sv f) 53 1 Q.flatten) :: (.row (sv a) 51 1 (h.map one).flatten) :: (.tok 70 7 h) :: G = J ∧ lp3 (NC p0) fD bd ap az = some (F, B, E, I, C, D) ∧ RowR Ty.i64 y cq bd ∧ Slr Ty.str y (sv ar) ap) BIG ?_ ?_
        ·refine Pu5<|Pu5<|Pu5<|Pu5<|Pu6<|Pu6<|Pu6<|?_
         have kC := Y.mono d
         exact Sd ⟨_, by exact R2, c, p0.picks, L, bi, a0, bk, Z, Z, Z, H, kC, ck⟩
        rintro fD _ _ _ - ⟨aq, bd, cq, ar, ap, az, rfl, rfl, rfl, H, bs, cl⟩
        obtain ⟨oc, ob, rfl, dl, H⟩ := WY H
        unfold NC at H
        refine FK<|FK<|FD<|Em Z<|Eq Z (FN Z)<|EF 0 Z<|El (sv ar) Z (Rb1 Z)<|Eq Z (Gt (T := Ty.str) cl Z Z)<|Ec Z<|FH<|?_
        refine F2 Z ?_ ?_
        ·intro bb
         obtain ⟨bb, H⟩ := It bb H
         refine F8<|Gh<|?_
         obtain ⟨U, bl, bm, fC, H⟩ := Ix H
         obtain ⟨a1, dx, H⟩ := bnd H
         refine Gm _ Z (Ic Mb3 (Ic Mb4 (Ic Mb5 (Ic Mb6 In0))))<|Jm 0 Z<|Jm 1 Z<|Jq 2 Z (FN Z)<|JF 3 4 Z<|Jm 5 Z<|?_
         refine Gf 4 6 (by kernel_rfl) ?_ ?_
         ·refine id (Jyq Z (FI (v := (sv aq)) Z Z Z (Rb0 Z)) ⟨(Ic Mb3 (Ic Mb4 (Ic Mb5 (Ic Mb6 In0)))), ?_⟩)
          refine Ao 6 Z ?_
          refine OpW.shift (Pu1 (Sd ?_))
          have kD := hT.mono d
          refine Ek Tryz.call54 Z (Iy V (FR.mk ap az) ar U bl bm fC _ _ cl kD) ?_
          rintro _ _ _ - ⟨ms, rfl, rfl, rfl, kE⟩
          refine ⟨(Ic Mb3 (Ic Mb4 (Ic Mb5 (Ic Mb6 In0)))), ?_⟩
          refine Ao 7 Z ?_
          have fs : RowR Ty.i64 m [[(Vi U)]] [U] := RowR.cons Z (RowR.nil)
          refine Gl (T := Ty.i64) (rows := [[(Vi U)]]) (l := [U]) Z Z Z fs Z Z Z Z Z Z Z Z (fun qa => ⟨(Ic Mb4 (Ic Mb5 (Ic Mb6 (Ic Mb7 In0)))), ?_⟩)
          refine Ao 8 Z ?_
          refine Gi (T := Ty.i64) (bytes := 8) Z Z Z Mb3 bs (SrcT.row Mb0 fs Z) dx Z Z Z Z Z Z Z Z (fun eh mg hE => ⟨_, (.there (.there (.there .here))), ⟨(Ic Mb4 (Ic Mb5 (Ic Mb6 (Ic Mb7 In0)))), ?_⟩⟩)
          refine Aw.shift (Re0 (Sd ⟨(Ic Mb3 (Ic Mb4 (Ic Mb5 (Ic Mb6 In0)))), ?_⟩))
          refine Jq 9 Z (FN Z)<|JF 10 4 Z<|?_
          refine Ao 11 Z ?_
          refine So [(sv eh)] (FG (FQ.mk p0.cnfg p0.ops a1) u f a eh) Z (.there .here) Z ⟨(Ic Mb3 (Ic Mb4 (Ic Mb5 (Ic Mb6 In0)))), ?_⟩
          exact Ad<|Pu6<|Pu6<|Pu6<|Pu6<|Pu6<|Pu5<|Pu6<|Sd<|⟨_, by exact R2, _, Nat.lt_succ_self _, eh, a1, mg, ms, bl, bm, Z, Z, Z, (dl ▸ H), hE, kE⟩
         ·refine id (Jy Z ?_)
          refine OpW.shift (Pu1 (Sd ?_))
          have kF := hT.mono d
          refine Ek Tryz.call54 Z (Iy V (FR.mk ap az) ar U bl bm fC _ _ cl kF) ?_
          rintro _ _ _ - ⟨fO, rfl, rfl, rfl, fz⟩
          refine ⟨(Ic Mb3 (Ic Mb4 (Ic Mb5 (Ic Mb6 In0)))), ?_⟩
          refine Gf 4 7 (by kernel_rfl) ?_ ?_
          ·refine id (Jyq Z (FI (v := (sv aq)) Z Z Z (Rb1 Z)) ⟨(Ic Mb3 (Ic Mb4 (Ic Mb5 (Ic Mb6 In0)))), ?_⟩)
           refine Ao 7 Z ?_
           have ft : RowR Ty.i64 m [[(Vi U)]] [U] := RowR.cons Z (RowR.nil)
           refine Gl (T := Ty.i64) (rows := [[(Vi U)]]) (l := [U]) Z Z Z ft Z Z Z Z Z Z Z Z (fun qb => ⟨(Ic Mb4 (Ic Mb5 (Ic Mb6 (Ic Mb7 In0)))), ?_⟩)
           refine Ao 8 Z ?_
           refine Gi (T := Ty.i64) (bytes := 8) Z Z Z Mb3 bs (SrcT.row Mb0 ft Z) dx Z Z Z Z Z Z Z Z (fun ei mh hF => ⟨_, (.there (.there (.there .here))), ⟨(Ic Mb4 (Ic Mb5 (Ic Mb6 (Ic Mb7 In0)))), ?_⟩⟩)
           refine Aw.shift (Re0 (Sd ⟨(Ic Mb3 (Ic Mb4 (Ic Mb5 (Ic Mb6 In0)))), ?_⟩))
           refine Jq 9 Z (FN Z)<|JF 10 4 Z<|?_
           refine Ao 11 Z ?_
           refine So [(sv ei)] (FG (FQ.mk p0.cnfg p0.ops a1) u f a ei) Z (.there .here) Z ⟨(Ic Mb3 (Ic Mb4 (Ic Mb5 (Ic Mb6 In0)))), ?_⟩
           exact Ad<|Pu6<|Pu6<|Pu6<|Pu6<|Pu6<|Pu5<|Pu6<|Sd<|⟨_, by exact R2, _, Nat.lt_succ_self _, ei, a1, mh, fO, bl, bm, Z, Z, Z, (dl ▸ H), hF, fz⟩
          ·refine id (Jy Z ?_)
           have fu : RowR Ty.i64 m [[(Vi U)]] [U] := RowR.cons Z (RowR.nil)
           refine Gl (T := Ty.i64) (rows := [[(Vi U)]]) (l := [U]) Z Z Z fu Z Z Z Z Z Z Z Z (fun qc => ⟨(Ic Mb4 (Ic Mb5 (Ic Mb6 (Ic Mb7 In0)))), ?_⟩)
           refine FP 4 (by kernel_rfl) (Jyq Z (FI (v := (sv aq)) Z Z Z (Rb2 Z)) ⟨(Ic Mb4 (Ic Mb5 (Ic Mb6 (Ic Mb7 In0)))), ?_⟩)
           refine Ao 8 Z ?_
           refine Gi (T := Ty.i64) (bytes := 8) Z Z Z Mb3 bs (SrcT.row Mb0 fu Z) dx Z Z Z Z Z Z Z Z (fun ej mi hG => ⟨_, (.there (.there (.there .here))), ⟨(Ic Mb4 (Ic Mb5 (Ic Mb6 (Ic Mb7 In0)))), ?_⟩⟩)
           refine Aw.shift (Re0 (Sd ⟨(Ic Mb3 (Ic Mb4 (Ic Mb5 (Ic Mb6 In0)))), ?_⟩))
           refine Jq 9 Z (FN Z)<|JF 10 4 Z<|?_
           refine Ao 11 Z ?_
           refine So [(sv ej)] (FG (FQ.mk p0.cnfg p0.ops a1) u f a ej) Z (.there .here) Z ⟨(Ic Mb3 (Ic Mb4 (Ic Mb5 (Ic Mb6 In0)))), ?_⟩
           exact Ad<|Pu6<|Pu6<|Pu6<|Pu6<|Pu6<|Pu5<|Pu6<|Sd<|⟨_, by exact R2, _, Nat.lt_succ_self _, ej, a1, mi, fO, bl, bm, Z, Z, Z, (dl ▸ H), hG, fz⟩
        ·intro bb
         obtain ⟨bb, H⟩ := If bb H
         exact Gy<|Pu6<|Pu6<|Pu6<|Pu6<|Pu6<|Pu6<|Pu6<|Sd<|⟨_, by exact R1, aq, bd, cq, ar, ap, az, Z, Z, H, bs, cl⟩
       rintro _ mX _ dc ⟨c3, cn, cp, eg, co, ay, rfl, rfl, H, hD, nM⟩
       unfold PR at H
       refine FK<|FD<|Em Z<|Eq Z (FN Z)<|EF 1 Z<|El (.bool ay) Z (Rb1 Z)<|Eq Z (GW Z)<|Ea Z<|FH<|Gg<|?_
       obtain ⟨ah, ai, al, am, aj, ak⟩ := Q7 H
       subst F B E I C D
       refine ⟨(.inl Z), [(.bool (!(ay)))], ⟨(.bool (!(ay))), _, Z, Z, Z⟩, ?_⟩
       refine Pu2<|Pu6<|Pu6<|Pu6<|Pu6<|Pu5<|Re6<|?_
       have kG := (t.mono d).mono dc
       have kH := (p.mono d).mono dc
       have kI := (ac.mono d).mono dc
       exact Sd ⟨u, P, f, Q, a, h, c3, cp, Z, Z, kG, kH, kI, hD⟩
     ·intro a9
      obtain ⟨a9, H⟩ := If a9 H
      exact F8<|Pu7<|Pu7<|Pu7<|Pu7<|Pu7<|Pu7<|Re6<|Re6<|Sd<|⟨[], trivial, Z, Z, Z, H⟩
  rintro _ _ _ - ⟨rfl, rfl, rfl, H⟩
  unfold PP at H
  refine FK<|FD<|Ea Z<|FH<|Gg<|?_
  obtain ⟨ah, ai, al, am, aj, ak⟩ := Q7 H
  subst F B E I C D
  refine ⟨(.inl Z), [(.bool false)], ⟨(.bool false), _, Z, Z, Z⟩, ?_⟩
  refine Pu5<|Pu5<|Pu5<|Pu5<|Pu5<|Pu5<|?_
  have kJ := t.mono d
  have kK := p.mono d
  have kL := ac.mono d
  have kM := Y.mono d
  exact Sd ⟨u, P, f, Q, a, h, c, L, Z, Z, kJ, kK, kL, kM⟩
theorem S9 (p0 : FQ) (g h : SV) (c e : SV) (a : Int) (H : NF p0 = some a) (K : Kp) (G : List Ent) (ak : Slr Ty.i64 K (sv g) p0.cnfg.capacities) (al : Slr Ty.u64 K (sv h) p0.cnfg.starts) (am : Slr (Ty.sl FU) K (sv c) p0.ops) (an : Slr Ty.i64 K (sv e) p0.picks) :
  Fc Tryz.prog 18 #[(.agg (FG p0 g h c e).toArray)] K (G) (fun v i b => v = (Vi a) ∧ G = b) := by
 refine Gx Tryz.func18 Z Tryz.ntmps18 Tryz.results18 Z ?_
 unfold NF at H
 refine FK<|FD<|?_
 refine FT Z (GX (cs := (FG p0 g h c e)) Z Z Z (fun f => ?_))
 refine Ea Z<|FH<|FK<|FK<|FD<|EF 0 Z<|EL 3 (GF p0.cnfg g h) Z (Rb0 Z)<|?_
 obtain ⟨I, au, H⟩ := bnd H
 refine FT Z (Ek Tryz.call36 Z (UB p0.cnfg g h I au _ _ ak al) ?_)
 rintro _ ax _ M ⟨rfl, rfl⟩
 refine Ea Z<|FH<|FK<|FD<|Em Z<|Ec Z<|FH<|?_
 refine F2 Z ?_ ?_
 ·intro l
  have l := GL (GR (l))
  have H := Gu l H
  refine FK<|FD<|Em Z<|Ea Z<|FH<|Gg<|?_
  obtain p := GB H
  subst a
  refine ⟨(.inl Z), [(Vi I)], ⟨(Vi I), _, Z, Z, Z⟩, ?_⟩
  exact Re0<|Sd<|⟨Z, Z⟩
 ·intro l
  have l := GM (GQ (l))
  have H := ift l H
  refine F8<|FK<|FK<|FD<|EF 3 Z<|El (sv c) Z (Rb0 Z)<|?_
  have D := am.mono M
  refine Eq Z (Gt (T := (Ty.sl FU)) D Z Z)<|EF 0 Z<|EF 2 Z<|El (Vi p0.cnfg.threads) Z (Rb0 Z)<|Ec Z<|FH<|?_
  refine F2 Z ?_ ?_
  ·intro m
   have m := GL (GR (m))
   have H := Gu m H
   refine FK<|FD<|Ea Z<|FH<|Gg<|?_
   obtain p := GB H
   subst a
   refine ⟨(.inl Z), [(Vi 5)], ⟨(Vi 5), _, Z, Z, Z⟩, ?_⟩
   exact Re0<|Sd<|⟨Z, Z⟩
  ·intro m
   have m := GM (GQ (m))
   have H := ift m H
   refine F8 ?_
   refine Gk (fun d i b => [(1, (Vp f))] = d ∧ (.blk f 33 (FG p0 g h c e)) :: G = b ∧ MO p0 = some a) ?_ ?_
   ·refine FK<|FD<|EF 3 Z<|El (sv c) Z (Rb0 Z)<|Eq Z (Gt (T := (Ty.sl FU)) D Z Z)<|Em Z<|FH<|Gh<|?_
    refine Gv (fun U d i b => ∃ (j : Int), [(1, (Vp f)), (25, (sv c)), (26, (Vi (p0.ops.length : Int))), (27, (Vi j))] = d ∧ (.blk f 33 (FG p0 g h c e)) :: G = b ∧ lp1 (MQ p0) U j = some a) BIG ?_ ?_
    ·exact Sd ⟨_, by exact R4, 0, Z, Z, H⟩
    rintro U _ ay _ ab ⟨j, rfl, rfl, H⟩
    obtain ⟨aI, S, rfl, ah, H⟩ := Iz H
    unfold MQ at H
    refine FK<|FD<|Ec Z<|FH<|FK<|?_
    refine F2 Z ?_ ?_
    ·intro q
     obtain ⟨q, H⟩ := It q H
     refine F8 ?_
     refine Gk (fun d i b => [(1, (Vp f)), (25, (sv c)), (26, (Vi (p0.ops.length : Int))), (27, (Vi j))] = d ∧ (.blk f 33 (FG p0 g h c e)) :: G = b ∧ PV p0 j S = some a) ?_ ?_
     ·refine Gh<|FK<|FD<|?_
      obtain ⟨Y, P, H⟩ := bnd H
      have N := D.mono ab
      obtain ⟨aL, ao, ae⟩ := Slr.at N P
      obtain ⟨X, rfl, E⟩ := ao
      refine Eq Z (Qi (T := (Ty.sl FU)) N P Z)<|El (sv X) Z (Rdc.k ae Z)<|Ea Z<|FH<|FK<|FK<|FD<|Em Z<|Eq Z (Gt (T := FU) E Z Z)<|Ec Z<|FH<|?_
      refine F2 Z ?_ ?_
      ·intro r
       obtain ⟨r, H⟩ := It r H
       refine FK<|FD<|Ea Z<|FH<|Gg<|?_
       obtain p := GB H
       subst a
       refine ⟨(.inl Z), [(Vi 3)], ⟨(Vi 3), _, Z, Z, Z⟩, ?_⟩
       exact Re0<|Sd<|⟨Z, Z⟩
      ·intro r
       obtain ⟨r, H⟩ := If r H
       refine F8<|FK<|FD<|Em Z<|Eq Z (Gt (T := FU) E Z Z)<|Em Z<|FH<|Gh<|?_
       refine Gv (fun V d i b => ∃ (x : Int), [(1, (Vp f)), (25, (sv c)), (26, (Vi (p0.ops.length : Int))), (27, (Vi j)), (34, (sv X)), (35, (Vi (Y.length : Int))), (36, (Vi x))] = d ∧ (.blk f 33 (FG p0 g h c e)) :: G = b ∧ lp1 (MP p0 j Y S) V x = some a) BIG ?_ ?_
       ·exact Sd ⟨_, by exact R7, 0, Z, Z, H⟩
       rintro V _ az _ ac ⟨x, rfl, rfl, H⟩
       obtain ⟨aJ, aH, rfl, ai, H⟩ := Iz H
       unfold MP at H
       refine FK<|FD<|Ec Z<|FH<|FK<|?_
       refine F2 Z ?_ ?_
       ·intro s
        obtain ⟨s, H⟩ := It s H
        refine F8<|FK<|Gh<|FK<|FD<|?_
        obtain ⟨B, Q, H⟩ := bnd H
        have O := E.mono ac
        obtain ⟨aM, ap, af⟩ := Slr.at O Q
        obtain ⟨z, A, rfl, aq, ar⟩ := ap
        refine Eq Z (Qi (T := FU) O Q Z)<|EL 7 (FM B z A) Z (Rdc.k af Z)<|?_
        refine FT Z (GE (cs := (FM (Op.mk 0 0 0 0 0 [] []) FZ FZ)) Z Z Z Z (fun aD => ?_))
        refine FT Z (Sa (FM B z A) Z .here Z ?_)
        refine FH<|FK<|FD<|EL 7 (FM B z A) Z (Rb0 Z)<|?_
        obtain ⟨J, av, H⟩ := bnd H
        refine FT Z (Ek Tryz.call37 Z (UH B z A J av _ _ aq ar) ?_)
        rintro _ aA _ aE ⟨rfl, rfl⟩
        refine Ea Z<|FH<|FK<|FD<|Em Z<|Ec Z<|FH<|?_
        refine F2 Z ?_ ?_
        ·intro n
         have n := GL (GR (n))
         have H := Gu n H
         refine FK<|FD<|Em Z<|Ea Z<|FH<|Gg<|?_
         obtain p := GB H
         subst a
         refine ⟨(.inl Z), [(Vi J)], ⟨(Vi J), _, Z, Z, Z⟩, ?_⟩
         exact Re0<|Re0<|Sd<|⟨Z, Z⟩
        ·intro n
         have n := GM (GQ (n))
         have H := ift n H
         exact F8<|FD<|Er (wI (x + 1)) Z<|Em Z<|FH<|Pu1<|Re1<|Sd<|⟨_, by exact R7, _, Nat.lt_succ_self _, (wI (x + 1)), Z, Z, (ai ▸ H)⟩
       ·intro s
        obtain ⟨s, H⟩ := If s H
        exact Gy<|Sd<|⟨_, by exact R4, Z, Z, H⟩
     rintro _ aB _ aF ⟨rfl, rfl, H⟩
     unfold PV at H
     exact FD<|Er (wI (j + 1)) Z<|Em Z<|FH<|Sd<|⟨_, by exact R4, _, Nat.lt_succ_self _, (wI (j + 1)), Z, Z, (ah ▸ H)⟩
    ·intro q
     obtain ⟨q, H⟩ := If q H
     exact Gy<|Sd<|⟨_, by exact R1, Z, Z, H⟩
   rintro _ L _ ad ⟨rfl, rfl, H⟩
   unfold MO at H
   refine FK<|FK<|FD<|EF 4 Z<|El (sv e) Z (Rb0 Z)<|?_
   have y := (an.mono M).mono ad
   refine Eq Z (Gt (T := Ty.i64) y Z Z)<|Ec Z<|FH<|?_
   refine F2 Z ?_ ?_
   ·intro t
    obtain ⟨t, H⟩ := It t H
    refine FK<|FD<|Ea Z<|FH<|Gg<|?_
    obtain p := GB H
    subst a
    refine ⟨(.inl Z), [(Vi 3)], ⟨(Vi 3), _, Z, Z, Z⟩, ?_⟩
    exact Re0<|Sd<|⟨Z, Z⟩
   ·intro t
    obtain ⟨t, H⟩ := If t H
    refine F8 ?_
    refine Gk (fun d i b => [] = d ∧ G = b ∧ PU = some a) ?_ ?_
    ·refine FK<|FD<|EF 4 Z<|El (sv e) Z (Rb0 Z)<|Eq Z (Gt (T := Ty.i64) y Z Z)<|Em Z<|FH<|Gh<|?_
     refine Gv (fun W d i b => ∃ (o : Int), [(1, (Vp f)), (52, (sv e)), (53, (Vi (p0.picks.length : Int))), (54, (Vi o))] = d ∧ L = i ∧ (.blk f 33 (FG p0 g h c e)) :: G = b ∧ lp1 (MN p0) W o = some a) BIG ?_ ?_
     ·exact Sd ⟨_, by exact R4, 0, Z, Z, Z, H⟩
     rintro W _ _ _ - ⟨o, rfl, rfl, rfl, H⟩
     obtain ⟨aK, aw, rfl, aj, H⟩ := Iz H
     unfold MN at H
     refine FK<|FD<|Ec Z<|FH<|FK<|?_
     refine F2 Z ?_ ?_
     ·intro u
      obtain ⟨u, H⟩ := It u H
      refine F8<|FK<|Gh<|FK<|FD<|?_
      obtain ⟨aa, R, H⟩ := bnd H
      obtain ⟨_, rfl, ag⟩ := Slr.at y R
      refine Eq Z (Qi (T := Ty.i64) y R Z)<|El (Vi aa) Z (Rdc.k ag Z)<|Ea Z<|FH<|?_
      refine Gk (fun d i b => ∃ (F : Bool), [(1, (Vp f)), (52, (sv e)), (53, (Vi (p0.picks.length : Int))), (54, (Vi o)), (66, (.bool F))] = d ∧ L = i ∧ (.blk f 33 (FG p0 g h c e)) :: G = b ∧ OS p0 o aw F = some a) ?_ ?_
      ·refine FD<|Em Z<|Ec Z<|Em Z<|?_
       refine Ee Z ?_ ?_
       ·intro w
        obtain ⟨w, H⟩ := It w H
        exact Ez Z<|Ez Z<|Ez Z<|Ez Z<|Ez Z<|Et Z<|FH<|Sd<|⟨_, by exact R5, true, Z, Z, Z, H⟩
       ·intro w
        obtain ⟨w, H⟩ := If w H
        exact Vm Z<|VF 0 Z<|VF 2 Z<|Vl (Vi p0.cnfg.threads) Z (Rb0 Z)<|Vc Z<|Ef Z<|FH<|Sd<|⟨_, by exact R5, (dcd (aa ≥ p0.cnfg.threads)), Z, Z, Z, H⟩
      rintro _ _ _ - ⟨F, rfl, rfl, rfl, H⟩
      unfold OS at H
      refine F2 Z ?_ ?_
      ·intro C
       have H := ift C H
       refine FK<|FD<|Ea Z<|FH<|Gg<|?_
       obtain p := GB H
       subst a
       refine ⟨(.inl Z), [(Vi 2)], ⟨(Vi 2), _, Z, Z, Z⟩, ?_⟩
       exact Re0<|Sd<|⟨Z, Z⟩
      ·intro C
       have H := Gu (btf C) H
       exact F8<|FD<|Er (wI (o + 1)) Z<|Em Z<|FH<|Sd<|⟨_, by exact R4, _, Nat.lt_succ_self _, (wI (o + 1)), Z, Z, Z, (aj ▸ H)⟩
     ·intro u
      obtain ⟨u, H⟩ := If u H
      exact Gy<|Re0<|Sd<|⟨[], trivial, Z, Z, H⟩
    rintro _ aC _ aG ⟨rfl, rfl, H⟩
    unfold PU at H
    refine FK<|FD<|Ea Z<|FH<|Gg<|?_
    obtain p := GB H
    subst a
    refine ⟨(.inl Z), [(Vi 0)], ⟨(Vi 0), _, Z, Z, Z⟩, ?_⟩
    exact Sd ⟨Z, Z⟩
theorem S8 (p0 : ByteArray) (d : FQ) (l m : Int) (H : J7 p0 = some (d, l, m)) (K : Kp) (G : List Ent) (hT : TabK K) :
  Fc Tryz.prog 13 #[(.string p0)] K (G) (fun v b n => ∃ (az aA : SV) (aB aC : SV), v = (.tuple #[(.agg (FG d az aA aB aC).toArray), (Vi l), (Vi m)]) ∧ (.tok 3 1 [(sv az)]) :: (.tok 53 1 [(sv aA)]) :: (.tok 51 1 [(sv aB)]) :: (.tok 3 1 [(sv aC)]) :: G = n ∧ Slr Ty.i64 b (sv az) d.cnfg.capacities ∧ Slr Ty.u64 b (sv aA) d.cnfg.starts ∧ Slr (Ty.sl FU) b (sv aB) d.ops ∧ Slr Ty.i64 b (sv aC) d.picks) := by
 refine Gx Tryz.func13 Z Tryz.ntmps13 Tryz.results13 Z ?_
 unfold J7 at H
 refine FK<|FD<|?_
 refine FT Z (GE (cs := (FG (FQ.mk (FW.mk [] [] 0) [] []) FZ FZ FZ FZ)) Z Z Z Z (fun y => ?_))
 refine Ea Z<|Ea Z<|FH<|FK<|FK<|FD<|Em Z<|Eq Z (HT Z Z)<|Ec Z<|FH<|?_
 refine F2 Z ?_ ?_
 ·intro L
  obtain ⟨L, H⟩ := It L H
  refine FK<|FD<|Eq Z (GH (cs := (FG (FQ.mk (FW.mk [] [] 0) [] []) FZ FZ FZ FZ)) Z Z Z Z Z Z)<|?_
  refine FT Z (Sa (FG (FQ.mk (FW.mk [] [] 0) [] []) FZ FZ FZ FZ) Z .here Z ?_)
  refine Ea Z<|Ea Z<|FH<|Gg<|?_
  obtain ⟨ag, ah, ai⟩ := IZ H
  subst d l m
  refine ⟨(.inl Z), [(.agg (FG (FQ.mk (FW.mk [] [] 0) [] []) FZ FZ FZ FZ).toArray), (Vi 0), (Vi 4)], ⟨(.agg (FG (FQ.mk (FW.mk [] [] 0) [] []) FZ FZ FZ FZ).toArray), _, Z, ⟨_, 5, (FG (FQ.mk (FW.mk [] [] 0) [] []) FZ FZ FZ FZ), Z, Z, Z, Z, ⟨Z, Rb0 Z⟩, Z⟩, ⟨(Vi 0), _, Z, Z, ⟨(Vi 4), _, Z, Z, Z⟩⟩⟩, ?_⟩
  exact Shift.nilTok1 3 1<|Shift.nilTok1 53 1<|Shift.nilTok1 51 1<|Shift.nilTok1 3 1<|Pu1<|Pu2<|Pu3<|Re4<|Sd<|⟨FZ, FZ, FZ, FZ, Z, Z, (Slr.nil Ty.i64 _), (Slr.nil Ty.u64 _), (Slr.nil (Ty.sl FU) _), (Slr.nil Ty.i64 _)⟩
 ·intro L
  obtain ⟨L, H⟩ := If L H
  refine F8<|FK<|FD<|?_
  refine FT Z (GE (cs := (FG (FQ.mk (FW.mk [] [] 0) [] []) FZ FZ FZ FZ)) Z Z Z Z (fun o => ?_))
  refine FH ?_
  refine Gk (fun J b n => ∃ (h : SV) (e : ad8) (av : List (List Value)) (i : SV) (f : ad8) (aw : List (List Value)) (au : Int) (c : SV) (a : ae8) (ae : List Value) (j : SV) (g : ad8) (ax : List (List Value)), [(2, (Vp y)), (5, (Vp o))] = J ∧ (.blk o 33 (FG (FQ.mk (FW.mk e f au) a g) h i c j)) :: (.blk y 33 (FG (FQ.mk (FW.mk [] [] 0) [] []) FZ FZ FZ FZ)) :: (.row (sv h) 3 1 av.flatten) :: (.row (sv i) 53 1 aw.flatten) :: (.row (sv c) 51 1 (ae.map one).flatten) :: (.tok 70 7 ae) :: (.row (sv j) 3 1 ax.flatten) :: G = n ∧ PW e f au a g = some (d, l, m) ∧ RowR Ty.i64 b av e ∧ RowR Ty.u64 b aw f ∧ RowR (Ty.sl FU) b (ae.map one) a ∧ RowR Ty.i64 b ax g) ?_ ?_
  ·refine FK<|FD<|Ea Z<|FH<|Gh<|?_
   refine Gv (fun aK J b n => ∃ (Y : ByteArray) (k : Int) (D : SV) (s : ad8) (A : List (List Value)) (E : SV) (t : ad8) (B : List (List Value)) (z : Int) (F : SV) (u : ae8) (x : List Value) (I : SV) (w : ad8) (C : List (List Value)), [(0, (.string Y)), (2, (Vp y)), (5, (Vp o)), (6, (Vi k))] = J ∧ (.blk o 33 (FG (FQ.mk (FW.mk s t z) u w) D E F I)) :: (.blk y 33 (FG (FQ.mk (FW.mk [] [] 0) [] []) FZ FZ FZ FZ)) :: (.row (sv D) 3 1 A.flatten) :: (.row (sv E) 53 1 B.flatten) :: (.row (sv F) 51 1 (x.map one).flatten) :: (.tok 70 7 x) :: (.row (sv I) 3 1 C.flatten) :: G = n ∧ lp7 (Lt) aK Y k s t z u w = some (d, l, m) ∧ RowR Ty.i64 b A s ∧ RowR Ty.u64 b B t ∧ RowR (Ty.sl FU) b (x.map one) u ∧ RowR Ty.i64 b C w) BIG ?_ ?_
   ·have S : RowR Ty.i64 K [] [] := RowR.nil
    refine Shift.nilRow 3 1 ?_
    have bF : RowR Ty.u64 K [] [] := RowR.nil
    refine Shift.nilRow 53 1 ?_
    have bG : RowR (Ty.sl FU) K (([] : List Value).map one) [] := RowR.nil
    refine Shift.nilTok 70 7 0<|Shift.nilRow 51 1<|?_
    have bH : RowR Ty.i64 K [] [] := RowR.nil
    exact Shift.nilRow 3 1<|Pu2<|Pu2<|Pu3<|Pu4<|Pu6<|Pu6<|Sd<|⟨_, by exact R4, p0, 1, FZ, ([] : ad8), ([] : List (List Value)), FZ, ([] : ad8), ([] : List (List Value)), 0, FZ, ([] : ae8), ([] : List Value), FZ, ([] : ad8), ([] : List (List Value)), Z, Z, H, S, S, S, S⟩
   rintro aK _ bs _ aS ⟨Y, k, D, s, A, E, t, B, z, F, u, x, I, w, C, rfl, rfl, H, ao, ap, aq, ar⟩
   obtain ⟨bI, bi, rfl, a0, H⟩ := lps7 H
   unfold Lt at H
   refine FK<|FK<|FD<|Em Z<|Eq Z (HG Z Z)<|FH<|?_
   refine F2 Z ?_ ?_
   ·intro p
    have p := GL (GR (p))
    have H := Gu p H
    refine F8<|FK<|Gh<|FK<|FD<|Em Z<|?_
    obtain ⟨aL, af, br, bf, H⟩ := Ix H
    have aF := hT.mono aS
    refine FT Z (Ek Tryz.call26 Z (UT Y (⟨#[10]⟩ : ByteArray) aL af br bf _ _ aF) ?_)
    rintro _ _ _ - ⟨rfl, rfl, rfl⟩
    refine Em Z<|Ex Z<|Ex Z<|Ex Z<|Ea Z<|Ea Z<|Ea Z<|FH<|FK<|?_
    refine Gk (fun J b n => ∃ (ay : Bool) (aa : SV) (M : ad8) (V : List (List Value)) (ab : SV) (N : ad8) (W : List (List Value)) (U : Int) (ac : SV) (O : ae8) (Q : List Value) (ad : SV) (P : ad8) (X : List (List Value)), [(2, (Vp y)), (5, (Vp o)), (6, (Vi k)), (8, (.string af)), (31, (.bool ay))] = J ∧ (.blk o 33 (FG (FQ.mk (FW.mk M N U) O P) aa ab ac ad)) :: (.blk y 33 (FG (FQ.mk (FW.mk [] [] 0) [] []) FZ FZ FZ FZ)) :: (.row (sv aa) 3 1 V.flatten) :: (.row (sv ab) 53 1 W.flatten) :: (.row (sv ac) 51 1 (Q.map one).flatten) :: (.tok 70 7 Q) :: (.row (sv ad) 3 1 X.flatten) :: G = n ∧ NG k af bi ay M N U O P = some (d, l, m) ∧ RowR Ty.i64 b V M ∧ RowR Ty.u64 b W N ∧ RowR (Ty.sl FU) b (Q.map one) O ∧ RowR Ty.i64 b X P) ?_ ?_
    ·refine FD<|Em Z<|Eq Z (GW Z)<|Em Z<|?_
     refine Ee Z ?_ ?_
     ·intro q
      have q := GR q
      have H := Gu (btf q) H
      exact Ez Z<|Ez Z<|Ez Z<|Et Z<|FH<|Pu6<|Pu6<|Pu6<|Pu6<|Pu6<|Pu6<|Pu6<|Sd<|⟨_, by exact R5, true, D, s, A, E, t, B, z, F, u, x, I, w, C, Z, Z, H, ao, ap, aq, ar⟩
     ·intro q
      have q := GQ q
      have H := ift q H
      refine Vm Z ?_
      obtain ⟨aM, aN, aO, aP, aQ, aR, bg, H⟩ := bnd6 H
      refine Ow.shift (Pu6 (Sd ?_))
      refine Ow.shift (Pu6 (Sd ?_))
      refine Ow.shift (Pu6 (Sd ?_))
      refine Ow.shift (Pu6 (Sd ?_))
      refine Ow.shift (Pu6 (Sd ?_))
      refine Ow.shift (Pu5 (Sd ?_))
      refine H9 Z Z Z Z (Ek Tryz.call27 Z (UA o (FQ.mk (FW.mk s t z) u w) D A E B F x I C aL aM aN aO aP aQ aR bg _ _ ao ap aq ar aF) ?_)
      rintro _ bt _ bC ⟨bn, bj, bo, bk, bp, bl, bq, bm, rfl, rfl, a1, a2, a3, a4⟩
      exact Vq Z (GW Z)<|Ef Z<|FH<|Pu5<|Pu5<|Pu5<|Pu5<|Pu5<|Pu6<|Pu6<|Sd<|⟨_, by exact R5, (!(aM)), bn, aN, bj, bo, aO, bk, aP, bp, aQ, bl, bq, aR, bm, Z, Z, H, a1, a2, a3, a4⟩
    rintro _ bu _ bD ⟨ay, aa, M, V, ab, N, W, U, ac, O, Q, ad, P, X, rfl, rfl, H, aW, aX, aY, aZ⟩
    unfold NG at H
    refine F2 Z ?_ ?_
    ·intro aj
     have H := ift aj H
     refine FK<|FD<|Eq Z (GH (cs := (FG (FQ.mk (FW.mk [] [] 0) [] []) FZ FZ FZ FZ)) Z Z Z Z Z Z)<|Em Z<|?_
     refine FT Z (Sa (FG (FQ.mk (FW.mk [] [] 0) [] []) FZ FZ FZ FZ) Z (.there .here) Z ?_)
     refine Ea Z<|Ea Z<|FH<|Gg<|?_
     obtain ⟨ag, ah, ai⟩ := IZ H
     subst d l m
     refine ⟨(.inl Z), [(.agg (FG (FQ.mk (FW.mk [] [] 0) [] []) FZ FZ FZ FZ).toArray), (Vi k), (Vi 1)], ⟨(.agg (FG (FQ.mk (FW.mk [] [] 0) [] []) FZ FZ FZ FZ).toArray), _, Z, ⟨_, 5, (FG (FQ.mk (FW.mk [] [] 0) [] []) FZ FZ FZ FZ), Z, Z, Z, Z, ⟨Z, Rb1 Z⟩, Z⟩, ⟨(Vi k), _, Z, Z, ⟨(Vi 1), _, Z, Z, Z⟩⟩⟩, ?_⟩
     exact Shift.nilTok1 3 1<|Shift.nilTok1 53 1<|Shift.nilTok1 51 1<|Shift.nilTok1 3 1<|Pu1<|Pu2<|Pu3<|Re4<|Re4<|Re4<|Re4<|Re4<|Re4<|Re4<|Sd<|⟨FZ, FZ, FZ, FZ, Z, Z, (Slr.nil Ty.i64 _), (Slr.nil Ty.u64 _), (Slr.nil (Ty.sl FU) _), (Slr.nil Ty.i64 _)⟩
    ·intro aj
     have H := Gu (btf aj) H
     exact F8<|FD<|Em Z<|Ea Z<|FH<|FD<|Em Z<|Er (wI (k + 1)) Z<|Ea Z<|FH<|Pu6<|Pu6<|Pu6<|Pu6<|Pu6<|Pu6<|Pu6<|Sd<|⟨_, by exact R4, _, Nat.lt_succ_self _, af, (wI (k + 1)), aa, M, V, ab, N, W, U, ac, O, Q, ad, P, X, Z, Z, (a0 ▸ H), aW, aX, aY, aZ⟩
   ·intro p
    have p := GM (GQ (p))
    have H := ift p H
    exact Gy<|Pu6<|Pu6<|Pu6<|Pu6<|Pu6<|Pu6<|Pu6<|Sd<|⟨_, by exact R2, D, s, A, E, t, B, z, F, u, x, I, w, C, Z, Z, H, ao, ap, aq, ar⟩
  rintro _ bv _ bE ⟨h, e, av, i, f, aw, au, c, a, ae, j, g, ax, rfl, rfl, H, aT, aU, aE, aV⟩
  unfold PW at H
  refine FK<|FD<|EF 3 Z<|El (sv c) Z (Rb0 Z)<|Eq Z (Ik (T := (Ty.sl FU)) Mb4 aE Z Z Z)<|EF 0 Z<|EF 2 Z<|?_
  refine FT Z (So [(Vi (a.length : Int))] (FG (FQ.mk (FW.mk e f (a.length : Int)) a g) h i c j) Z .here Z ?_)
  refine FH<|FK<|FK<|FD<|EL 5 (FG (FQ.mk (FW.mk e f (a.length : Int)) a g) h i c j) Z (Rb0 Z)<|?_
  refine Ow.shift (Shift.settle (T := Ty.i64) (.there (.there .here)) aT Z (fun bw ak a5 => Sd ?_))
  have a7 := aU.mono ak
  refine Ow.shift (Shift.settle (T := Ty.u64) (.there (.there (.there .here))) a7 Z (fun bx al a6 => Sd ?_))
  have a9 := (aE.mono ak).mono al
  refine Ow.shift (Shift.settle (T := (Ty.sl FU)) (.there (.there (.there (.there .here)))) a9 Z (fun bz am a8 => Sd ?_))
  have ba := ((aV.mono ak).mono al).mono am
  refine Ow.shift (Shift.settle (T := Ty.i64) (.there (.there (.there (.there (.there (.there .here)))))) ba Z (fun bA an aG => Sd ?_))
  obtain ⟨aD, bh, H⟩ := bnd H
  have aH := ((a5.mono al).mono am).mono an
  have aI := (a6.mono am).mono an
  have aJ := a8.mono an
  refine FT Z (Ek Tryz.call18 Z (S9 (FQ.mk (FW.mk e f (a.length : Int)) a g) h i c j aD bh _ _ aH aI aJ aG) ?_)
  rintro _ bB _ R ⟨rfl, rfl⟩
  refine Ea Z<|FH<|FK<|FD<|Em Z<|Ec Z<|FH<|?_
  refine F2 Z ?_ ?_
  ·intro r
   have r := GL (GR (r))
   have H := Gu r H
   refine FK<|FD<|Eq Z (GH (cs := (FG (FQ.mk (FW.mk [] [] 0) [] []) FZ FZ FZ FZ)) Z Z Z Z Z Z)<|Em Z<|?_
   refine FT Z (Sa (FG (FQ.mk (FW.mk [] [] 0) [] []) FZ FZ FZ FZ) Z (.there .here) Z ?_)
   refine Ea Z<|Ea Z<|FH<|Gg<|?_
   obtain ⟨ag, ah, ai⟩ := IZ H
   subst d l m
   refine ⟨(.inl Z), [(.agg (FG (FQ.mk (FW.mk [] [] 0) [] []) FZ FZ FZ FZ).toArray), (Vi 0), (Vi aD)], ⟨(.agg (FG (FQ.mk (FW.mk [] [] 0) [] []) FZ FZ FZ FZ).toArray), _, Z, ⟨_, 5, (FG (FQ.mk (FW.mk [] [] 0) [] []) FZ FZ FZ FZ), Z, Z, Z, Z, ⟨Z, Rb1 Z⟩, Z⟩, ⟨(Vi 0), _, Z, Z, ⟨(Vi aD), _, Z, Z, Z⟩⟩⟩, ?_⟩
   exact Shift.nilTok1 3 1<|Shift.nilTok1 53 1<|Shift.nilTok1 51 1<|Shift.nilTok1 3 1<|Pu1<|Pu2<|Pu3<|Re4<|Re4<|Re4<|Re4<|Re4<|Re4<|Re4<|Sd<|⟨FZ, FZ, FZ, FZ, Z, Z, (Slr.nil Ty.i64 _), (Slr.nil Ty.u64 _), (Slr.nil (Ty.sl FU) _), (Slr.nil Ty.i64 _)⟩
  ·intro r
   have r := GM (GQ (r))
   have H := ift r H
   refine F8<|FK<|FD<|EL 5 (FG (FQ.mk (FW.mk e f (a.length : Int)) a g) h i c j) Z (Rb0 Z)<|?_
   refine FT Z (Sa (FG (FQ.mk (FW.mk e f (a.length : Int)) a g) h i c j) Z (.there .here) Z ?_)
   refine Ea Z<|Ea Z<|FH<|Gg<|?_
   obtain ⟨ag, ah, ai⟩ := IZ H
   subst d l m
   refine ⟨(.inl Z), [(.agg (FG (FQ.mk (FW.mk e f (a.length : Int)) a g) h i c j).toArray), (Vi 0), (Vi 0)], ⟨(.agg (FG (FQ.mk (FW.mk e f (a.length : Int)) a g) h i c j).toArray), _, Z, ⟨_, 5, (FG (FQ.mk (FW.mk e f (a.length : Int)) a g) h i c j), Z, Z, Z, Z, ⟨Z, Rb1 Z⟩, Z⟩, ⟨(Vi 0), _, Z, Z, ⟨(Vi 0), _, Z, Z, Z⟩⟩⟩, ?_⟩
   refine Pu6<|Pu5<|Pu5<|Pu5<|Re4<|Re4<|Re4<|?_
   have bb := aH.mono R
   have bc := aI.mono R
   have bd := aJ.mono R
   have be := aG.mono R
   exact Sd ⟨h, i, c, j, Z, Z, bb, bc, bd, be⟩
theorem Jg (b : Nat) (p0 : F4) (d : SV) (g : List (List Value)) (p1 : ByteArray) (a : ad7) (H : I6 p0 p1 = some a) (K : Kp) (G : List Ent) (m : RowR Ty.str K g p0.words) :
  Fc Tryz.prog 62 #[(Vp b), (.string p1)] K ((.blk b 72 (Gq p0 d)) :: (.row (sv d) 9 1 g.flatten) :: G) (fun v e j => ∃ (i : SV) (h : List (List Value)), v = (.tuple #[]) ∧ K = e ∧ (.blk b 72 (Gq (F4.mk a) i)) :: (.row (sv i) 9 1 h.flatten) :: G = j ∧ RowR Ty.str e h a) := by
 refine Gx Tryz.func62 Z Tryz.ntmps62 Tryz.results62 Z ?_
 unfold I6 at H
 refine FD<|Em Z<|Em Z<|Eq Z (FN Z)<|EF 0 Z<|El (sv d) Z (Rb0 Z)<|Em Z<|?_
 have f : RowR Ty.str K [[(.string p1)]] [p1] := RowR.cons Z (RowR.nil)
 refine FT Z (Gl (T := Ty.str) (rows := [[(.string p1)]]) (l := [p1]) Z Z Z f Z Z Z Z Z Z Z Z (fun v8 => ?_))
 obtain ⟨x10, n, H⟩ := bnd H
 refine FT Z (Gi (T := Ty.str) (bytes := 16) Z Z Z Mb2 m (SrcT.row Mb0 f Z) n Z Z Z Z Z Z Z Z (fun c o k => ⟨_, (.there (.there .here)), ?_⟩))
 refine Ow.shift (Re0 (Sd ?_))
 refine Eq Z (FN Z)<|EF 0 Z<|?_
 refine FT Z (So [(sv c)] (Gq (F4.mk x10) c) Z .here Z ?_)
 refine FH ?_
 obtain p := GB H
 subst a
 refine ⟨(by first|exact .inl rfl|exact .inr Z), [], Z, ?_⟩
 exact Pu1<|Pu1<|Sd<|⟨c, o, Z, Z, Z, k⟩
theorem JV (a : Nat) (p0 : F4) (d : SV) (c : List (List Value)) (p1 : Int) (b : ad7) (H : LJ p0 p1 = some b) (K : Kp) (G : List Ent) (i : RowR Ty.str K c p0.words) (hT : TabK K) :
  Fc Tryz.prog 32 #[(Vp a), (Vi p1)] K ((.blk a 72 (Gq p0 d)) :: (.row (sv d) 9 1 c.flatten) :: G) (fun v e h => ∃ (g : SV) (f : List (List Value)), v = (.tuple #[]) ∧ K = e ∧ (.blk a 72 (Gq (F4.mk b) g)) :: (.row (sv g) 9 1 f.flatten) :: G = h ∧ RowR Ty.str e f b) := by
 refine Gx Tryz.func32 Z Tryz.ntmps32 Tryz.results32 Z ?_
 unfold LJ at H
 refine FD<|Em Z<|Em Z<|?_
 obtain ⟨x8, l, H⟩ := bnd H
 refine FT Z (Ek Tryz.call63 Z (QS p1 x8 l _ _ hT) ?_)
 rintro _ _ _ - ⟨rfl, rfl, rfl⟩
 obtain ⟨x10, k, H⟩ := bnd H
 refine Ow.shift (Pu1 (Sd ?_))
 refine Ow.shift (Pu1 (Sd ?_))
 refine FT Z (Ek Tryz.call62 Z (Jg a p0 d c x8 x10 k _ _ i) ?_)
 rintro _ _ _ - ⟨n, m, rfl, rfl, rfl, j⟩
 refine FH ?_
 obtain o := GB H
 subst b
 refine ⟨(by first|exact .inl rfl|exact .inr Z), [], Z, ?_⟩
 exact Pu1<|Pu1<|Sd<|⟨n, m, Z, Z, Z, j⟩
theorem Qj (a : Nat) (p0 : F4) (d : SV) (c : List (List Value)) (p1 : Int) (b : ad7) (H : NH p0 p1 = some b) (K : Kp) (G : List Ent) (i : RowR Ty.str K c p0.words) (hT : TabK K) :
  Fc Tryz.prog 33 #[(Vp a), (.int .u64 p1)] K ((.blk a 72 (Gq p0 d)) :: (.row (sv d) 9 1 c.flatten) :: G) (fun v e h => ∃ (g : SV) (f : List (List Value)), v = (.tuple #[]) ∧ K = e ∧ (.blk a 72 (Gq (F4.mk b) g)) :: (.row (sv g) 9 1 f.flatten) :: G = h ∧ RowR Ty.str e f b) := by
 refine Gx Tryz.func33 Z Tryz.ntmps33 Tryz.results33 Z ?_
 unfold NH at H
 refine FD<|Em Z<|Em Z<|?_
 obtain ⟨x8, l, H⟩ := bnd H
 refine FT Z (Ek Tryz.call64 Z (QT p1 10 x8 l _ _ hT) ?_)
 rintro _ _ _ - ⟨rfl, rfl, rfl⟩
 obtain ⟨x10, k, H⟩ := bnd H
 refine Ow.shift (Pu1 (Sd ?_))
 refine Ow.shift (Pu1 (Sd ?_))
 refine FT Z (Ek Tryz.call62 Z (Jg a p0 d c x8 x10 k _ _ i) ?_)
 rintro _ _ _ - ⟨n, m, rfl, rfl, rfl, j⟩
 refine FH ?_
 obtain o := GB H
 subst b
 refine ⟨(by first|exact .inl rfl|exact .inr Z), [], Z, ?_⟩
 exact Pu1<|Pu1<|Sd<|⟨n, m, Z, Z, Z, j⟩
theorem Qh (c : Nat) (p0 : F4) (a : SV) (b : List (List Value)) (p1 d : ByteArray) (H : JC p0 p1 = some d) (K : Kp) (G : List Ent) (g : RowR Ty.str K b p0.words) :
  Fc Tryz.prog 34 #[(Vp c), (.string p1)] K ((.blk c 72 (Gq p0 a)) :: (.row (sv a) 9 1 b.flatten) :: G) (fun v f e => v = (.string d) ∧ K = f ∧ (.blk c 72 (Gq p0 a)) :: (.row (sv a) 9 1 b.flatten) :: G = e) := by
 refine Gx Tryz.func34 Z Tryz.ntmps34 Tryz.results34 Z ?_
 unfold JC at H
 refine FK<|FD<|Ea Z<|FH<|FK<|FD<|Em Z<|Em Z<|Eq Z (FN Z)<|EF 0 Z<|El (sv a) Z (Rb0 Z)<|?_
 obtain ⟨x7, j, H⟩ := bnd H
 refine Ow.shift (Pu1 (Sd ?_))
 refine FT Z (Ek Tryz.call65 Z (UI p0.words a b (⟨#[32]⟩ : ByteArray) x7 j _ _ g) ?_)
 rintro _ _ _ - ⟨rfl, rfl, rfl⟩
 obtain ⟨x9, h, H⟩ := bnd H
 refine Eq Z (IV h Z Z) ?_
 obtain ⟨x11, i, H⟩ := bnd H
 refine Eq Z (IV i Z Z)<|Ea Z<|FH<|Gg<|?_
 obtain k := GB H
 subst d
 refine ⟨(.inl Z), [(.string x11)], ⟨(.string x11), _, Z, Z, Z⟩, ?_⟩
 exact Pu1<|Sd<|⟨Z, Z, Z⟩
theorem UJ (p0 : Op) (e h : SV) (j : ByteArray) (H : MU p0 = some j) (K : Kp) (G : List Ent) (M : Slr Gp K (sv e) p0.cases) (aN : Slr Ty.i64 K (sv h) p0.draws) (hT : TabK K) :
  Fc Tryz.prog 35 #[(.agg (FM p0 e h).toArray)] K (G) (fun v b c => v = (.string j) ∧ G = c) := by
 refine Gx Tryz.func35 Z Tryz.ntmps35 Tryz.results35 Z ?_
 unfold MU at H
 refine FK<|FD<|?_
 refine FT Z (GX (cs := (FM p0 e h)) Z Z Z (fun f => ?_))
 refine Ea Z<|FH<|FK<|FD<|?_
 refine FT Z (GE (cs := (Gq (F4.mk []) FZ)) Z Z Z Z (fun a => ?_))
 refine FH<|FK<|FD<|?_
 obtain ⟨aF, bI, bH, bF, bE, S⟩ := (hT).wrd
 refine El (.map (some aF)) Z (Rdc.g S.cell)<|EF 0 Z<|El (Vi p0.kind) Z (Rb1 Z)<|Eq Z (V0 (S).map (S).obj Z Z Z Z Z Z)<|?_
 obtain ⟨Y, a2, H⟩ := bnd H
 have aH : RowR Ty.str K [] [] := RowR.nil
 refine Ow.shift (Shift.nilRow 9 1 (Sd ?_))
 refine Ow.shift (Pu1 (Sd ?_))
 refine FT Z (Ek Tryz.call62 Z (Jg a (F4.mk []) FZ ([] : List (List Value)) (Jj (Ji Gz) p0.kind (⟨#[]⟩ : ByteArray)) Y a2 _ _ aH) ?_)
 rintro _ _ _ - ⟨ao, am, rfl, rfl, rfl, ag⟩
 refine FH ?_
 refine Gk (fun d b c => ∃ (s : SV) (m : ad7) (q : List (List Value)), [(1, (Vp f)), (3, (Vp a))] = d ∧ (.blk a 72 (Gq (F4.mk m) s)) :: (.blk f 70 (FM p0 e h)) :: (.row (sv s) 9 1 q.flatten) :: G = c ∧ NJ p0 m = some j ∧ RowR Ty.str b q m) ?_ ?_
 ·refine FK<|FD<|EF 0 Z<|El (Vi p0.kind) Z (Rb2 Z)<|FH<|Gh<|FK<|FD<|Ec Z<|Ea Z<|FH<|?_
  refine F2 Z ?_ ?_
  ·intro u
   obtain ⟨u, H⟩ := It u H
   refine Gk (fun d b c => ∃ (J : SV) (o : ad7) (F : List (List Value)), [(1, (Vp f)), (3, (Vp a))] = d ∧ (.blk a 72 (Gq (F4.mk o) J)) :: (.blk f 70 (FM p0 e h)) :: (.row (sv J) 9 1 F.flatten) :: G = c ∧ MS p0 o = some j ∧ RowR Ty.str b F o) ?_ ?_
   ·refine FK<|FD<|EF 5 Z<|El (sv e) Z (Rb2 Z)<|Eq Z (Gt (T := Gp) M Z Z)<|Em Z<|FH<|Gh<|?_
    refine Gv (fun ak d b c => ∃ (l : Int) (t : SV) (n : ad7) (r : List (List Value)), [(1, (Vp f)), (3, (Vp a)), (27, (sv e)), (28, (Vi (p0.cases.length : Int))), (29, (Vi l))] = d ∧ K = b ∧ (.blk a 72 (Gq (F4.mk n) t)) :: (.blk f 70 (FM p0 e h)) :: (.row (sv t) 9 1 r.flatten) :: G = c ∧ lp2 (JE p0) ak l n = some j ∧ RowR Ty.str b r n) BIG ?_ ?_
    ·exact Pu1<|Pu2<|Pu2<|Sd<|⟨_, by exact R5, 0, ao, Y, am, Z, Z, Z, H, ag⟩
    rintro ak _ _ _ - ⟨l, t, n, r, rfl, rfl, rfl, H, W⟩
    obtain ⟨bL, bJ, rfl, af, H⟩ := Rb H
    unfold JE at H
    refine FK<|FD<|Ec Z<|FH<|FK<|?_
    refine F2 Z ?_ ?_
    ·intro w
     obtain ⟨w, H⟩ := It w H
     refine F8<|FK<|Gh<|FK<|FD<|?_
     obtain ⟨i, ai, H⟩ := bnd H
     obtain ⟨_, rfl, aK⟩ := Slr.at M ai
     refine Eq Z (Qi (T := Gp) M ai Z)<|EL 3 (Gn i) Z (Rdc.k aK Z)<|?_
     refine FT Z (GE (cs := (Gn (Case.mk false 0 0))) Z Z Z Z (fun bD => ?_))
     refine FT Z (Sa (Gn i) Z .here Z ?_)
     refine FH<|FK<|FD<|EF 0 Z<|El (.bool i.send) Z (Rb0 Z)<|FH<|?_
     refine F2 Z ?_ ?_
     ·intro R
      have H := ift R H
      refine FK<|FD<|?_
      obtain ⟨aq, a3, H⟩ := bnd H
      refine Ow.shift (Pu3 (Sd ?_))
      refine Ow.shift (Pu2 (Sd ?_))
      refine FT Z (Ek Tryz.call62 Z (Jg a (F4.mk n) t r (⟨#[115, 101, 110, 100]⟩ : ByteArray) aq a3 _ _ W) ?_)
      rintro _ _ _ - ⟨br, bg, rfl, rfl, rfl, aO⟩
      refine FH<|FK<|FD<|EF 1 Z<|El (Vi i.channel) Z (Rb2 Z)<|?_
      obtain ⟨ar, a4, H⟩ := bnd H
      refine Ow.shift (Pu1 (Sd ?_))
      refine Ow.shift (Pu1 (Sd ?_))
      refine FT Z (Ek Tryz.call32 Z (JV a (F4.mk aq) br bg i.channel ar a4 _ _ aO hT) ?_)
      rintro _ _ _ - ⟨bs, bh, rfl, rfl, rfl, aP⟩
      refine FH<|FD<|EF 2 Z<|El (.int .u64 i.value) Z (Rb2 Z)<|?_
      obtain ⟨au, a5, H⟩ := bnd H
      refine Ow.shift (Pu1 (Sd ?_))
      refine Ow.shift (Pu1 (Sd ?_))
      refine FT Z (Ek Tryz.call33 Z (Qj a (F4.mk ar) bs bh i.value au a5 _ _ aP hT) ?_)
      rintro _ _ _ - ⟨bt, bi, rfl, rfl, rfl, aQ⟩
      exact FH<|FD<|Er (wI (l + 1)) Z<|Em Z<|FH<|Pu1<|Pu3<|Pu2<|Re3<|Sd<|⟨_, by exact R5, _, Nat.lt_succ_self _, (wI (l + 1)), bt, au, bi, Z, Z, Z, (af ▸ H), aQ⟩
     ·intro R
      have H := Gu (btf R) H
      refine FK<|FD<|?_
      obtain ⟨av, a6, H⟩ := bnd H
      refine Ow.shift (Pu3 (Sd ?_))
      refine Ow.shift (Pu2 (Sd ?_))
      refine FT Z (Ek Tryz.call62 Z (Jg a (F4.mk n) t r (⟨#[114, 101, 99, 118]⟩ : ByteArray) av a6 _ _ W) ?_)
      rintro _ _ _ - ⟨bu, bj, rfl, rfl, rfl, aR⟩
      refine FH<|FD<|EF 1 Z<|El (Vi i.channel) Z (Rb2 Z)<|?_
      obtain ⟨aw, a7, H⟩ := bnd H
      refine Ow.shift (Pu1 (Sd ?_))
      refine Ow.shift (Pu1 (Sd ?_))
      refine FT Z (Ek Tryz.call32 Z (JV a (F4.mk av) bu bj i.channel aw a7 _ _ aR hT) ?_)
      rintro _ _ _ - ⟨bv, bk, rfl, rfl, rfl, aS⟩
      exact FH<|FD<|Er (wI (l + 1)) Z<|Em Z<|FH<|Pu1<|Pu3<|Pu2<|Re3<|Sd<|⟨_, by exact R5, _, Nat.lt_succ_self _, (wI (l + 1)), bv, aw, bk, Z, Z, Z, (af ▸ H), aS⟩
    ·intro w
     obtain ⟨w, H⟩ := If w H
     exact Gy<|Pu2<|Pu2<|Pu2<|Sd<|⟨_, by exact R2, t, n, r, Z, Z, H, W⟩
   rintro _ ac _ U ⟨J, o, F, rfl, rfl, H, ad⟩
   unfold MS at H
   refine Gk (fun d b c => ∃ (P : SV) (D : ad7) (N : List (List Value)), [(1, (Vp f)), (3, (Vp a))] = d ∧ ac = b ∧ (.blk a 72 (Gq (F4.mk D) P)) :: (.blk f 70 (FM p0 e h)) :: (.row (sv P) 9 1 N.flatten) :: G = c ∧ OT p0 D = some j ∧ RowR Ty.str b N D) ?_ ?_
   ·refine FK<|FD<|EF 5 Z<|El (sv e) Z (Rb1 Z)<|?_
    have aT := M.mono U
    refine Eq Z (Gt (T := Gp) aT Z Z)<|Ec Z<|FH<|?_
    refine F2 Z ?_ ?_
    ·intro x
     obtain ⟨x, H⟩ := It x H
     refine FD ?_
     obtain ⟨ax, a8, H⟩ := bnd H
     refine Ow.shift (Pu2 (Sd ?_))
     refine Ow.shift (Pu1 (Sd ?_))
     refine FT Z (Ek Tryz.call62 Z (Jg a (F4.mk o) J F (⟨#[100, 114, 97, 119, 115]⟩ : ByteArray) ax a8 _ _ ad) ?_)
     rintro _ _ _ - ⟨bw, bl, rfl, rfl, rfl, aU⟩
     exact FH<|Pu1<|Pu2<|Pu2<|Sd<|⟨_, by exact R2, bw, ax, bl, Z, Z, Z, H, aU⟩
    ·intro x
     obtain ⟨x, H⟩ := If x H
     exact F8<|Pu2<|Pu2<|Pu2<|Sd<|⟨_, by exact R2, J, o, F, Z, Z, Z, H, ad⟩
   rintro _ _ _ - ⟨P, D, N, rfl, rfl, rfl, H, aI⟩
   unfold OT at H
   refine FK<|FD<|EF 6 Z<|El (sv h) Z (Rb1 Z)<|?_
   have X := aN.mono U
   refine Eq Z (Gt (T := Ty.i64) X Z Z)<|Em Z<|FH<|Gh<|?_
   refine Gv (fun al d b c => ∃ (C : Int) (L : SV) (p : ad7) (I : List (List Value)), [(1, (Vp f)), (3, (Vp a)), (53, (sv h)), (54, (Vi (p0.draws.length : Int))), (55, (Vi C))] = d ∧ ac = b ∧ (.blk a 72 (Gq (F4.mk p) L)) :: (.blk f 70 (FM p0 e h)) :: (.row (sv L) 9 1 I.flatten) :: G = c ∧ lp2 (JD p0) al C p = some j ∧ RowR Ty.str b I p) BIG ?_ ?_
   ·exact Pu2<|Pu2<|Pu2<|Sd<|⟨_, by exact R5, 0, P, D, N, Z, Z, Z, H, aI⟩
   rintro al _ _ _ - ⟨C, L, p, I, rfl, rfl, rfl, H, ae⟩
   obtain ⟨bM, bK, rfl, aM, H⟩ := Rb H
   unfold JD at H
   refine FK<|FD<|Ec Z<|FH<|FK<|?_
   refine F2 Z ?_ ?_
   ·intro y
    obtain ⟨y, H⟩ := It y H
    refine F8<|FK<|Gh<|FK<|FD<|?_
    obtain ⟨ay, aj, H⟩ := bnd H
    obtain ⟨_, rfl, aL⟩ := Slr.at X aj
    refine Eq Z (Qi (T := Ty.i64) X aj Z)<|El (Vi ay) Z (Rdc.k aL Z)<|Ea Z<|FH<|FD<|Em Z<|?_
    obtain ⟨az, a9, H⟩ := bnd H
    refine Ow.shift (Pu2 (Sd ?_))
    refine Ow.shift (Pu1 (Sd ?_))
    have aV := hT.mono U
    refine FT Z (Ek Tryz.call32 Z (JV a (F4.mk p) L I ay az a9 _ _ ae aV) ?_)
    rintro _ _ _ - ⟨bx, bm, rfl, rfl, rfl, aW⟩
    exact FH<|FD<|Er (wI (C + 1)) Z<|Em Z<|FH<|Pu1<|Pu2<|Pu2<|Sd<|⟨_, by exact R5, _, Nat.lt_succ_self _, (wI (C + 1)), bx, az, bm, Z, Z, Z, (aM ▸ H), aW⟩
   ·intro y
    obtain ⟨y, H⟩ := If y H
    exact Gy<|Pu2<|Pu2<|Pu2<|Sd<|⟨_, by exact R2, L, p, I, Z, Z, H, ae⟩
  ·intro u
   obtain ⟨u, H⟩ := If u H
   refine FK<|FD<|EF 2 Z<|El (Vi p0.channel) Z (Rb2 Z)<|?_
   obtain ⟨aa, ba, H⟩ := bnd H
   refine Ow.shift (Pu1 (Sd ?_))
   refine Ow.shift (Pu1 (Sd ?_))
   refine FT Z (Ek Tryz.call32 Z (JV a (F4.mk Y) ao am p0.channel aa ba _ _ ag hT) ?_)
   rintro _ _ _ - ⟨ap, an, rfl, rfl, rfl, ah⟩
   refine FH<|FK<|FD<|EF 0 Z<|El (Vi p0.kind) Z (Rb2 Z)<|Ec Z<|FH<|?_
   refine F2 Z ?_ ?_
   ·intro z
    obtain ⟨z, H⟩ := It z H
    refine FD<|EF 3 Z<|El (.int .u64 p0.value) Z (Rb2 Z)<|?_
    obtain ⟨aA, bb, H⟩ := bnd H
    refine Ow.shift (Pu1 (Sd ?_))
    refine Ow.shift (Pu1 (Sd ?_))
    refine FT Z (Ek Tryz.call33 Z (Qj a (F4.mk aa) ap an p0.value aA bb _ _ ah hT) ?_)
    rintro _ _ _ - ⟨bz, bn, rfl, rfl, rfl, aX⟩
    exact FH<|Pu1<|Pu2<|Pu2<|Sd<|⟨_, by exact R2, bz, aA, bn, Z, Z, H, aX⟩
   ·intro z
    obtain ⟨z, H⟩ := If z H
    exact F8<|Pu1<|Pu2<|Pu2<|Sd<|⟨_, by exact R2, ap, aa, an, Z, Z, H, ah⟩
 rintro _ aE _ aG ⟨s, m, q, rfl, rfl, H, V⟩
 unfold NJ at H
 refine Gk (fun d b c => ∃ (Q : SV) (E : ad7) (O : List (List Value)), [(3, (Vp a))] = d ∧ aE = b ∧ (.blk a 72 (Gq (F4.mk E) Q)) :: (.row (sv Q) 9 1 O.flatten) :: G = c ∧ NI E = some j ∧ RowR Ty.str b O E) ?_ ?_
 ·refine FK<|FD<|EF 1 Z<|El (Vi p0.mode) Z (Rb1 Z)<|FH<|Gh<|FK<|FD<|Ec Z<|Ea Z<|FH<|?_
  refine F2 Z ?_ ?_
  ·intro A
   obtain ⟨A, H⟩ := It A H
   refine FD ?_
   obtain ⟨aB, bc, H⟩ := bnd H
   refine Ow.shift (Pu2 (Sd ?_))
   refine Ow.shift (Pu1 (Sd ?_))
   refine FT Z (Ek Tryz.call62 Z (Jg a (F4.mk m) s q (⟨#[116, 114, 121]⟩ : ByteArray) aB bc _ _ V) ?_)
   rintro _ _ _ - ⟨bA, bo, rfl, rfl, rfl, aY⟩
   exact FH<|Pu1<|Pu1<|Re2<|Sd<|⟨_, by exact R1, bA, aB, bo, Z, Z, Z, H, aY⟩
  ·intro A
   obtain ⟨A, H⟩ := If A H
   refine FK<|FD<|Ec Z<|Ea Z<|FH<|?_
   refine F2 Z ?_ ?_
   ·intro B
    obtain ⟨B, H⟩ := It B H
    refine FK<|FD<|?_
    obtain ⟨aC, bd, H⟩ := bnd H
    refine Ow.shift (Pu2 (Sd ?_))
    refine Ow.shift (Pu1 (Sd ?_))
    refine FT Z (Ek Tryz.call62 Z (Jg a (F4.mk m) s q (⟨#[117, 110, 116, 105, 108]⟩ : ByteArray) aC bd _ _ V) ?_)
    rintro _ _ _ - ⟨bB, bp, rfl, rfl, rfl, aZ⟩
    refine FH<|FD<|EF 4 Z<|El (Vi p0.deadline) Z (Rb2 Z)<|?_
    obtain ⟨aD, be, H⟩ := bnd H
    refine Ow.shift (Pu1 (Sd ?_))
    refine Ow.shift (Pu1 (Sd ?_))
    have a0 := hT.mono aG
    refine FT Z (Ek Tryz.call32 Z (JV a (F4.mk aC) bB bp p0.deadline aD be _ _ aZ a0) ?_)
    rintro _ _ _ - ⟨bC, bq, rfl, rfl, rfl, a1⟩
    exact FH<|Pu1<|Pu1<|Re2<|Sd<|⟨_, by exact R1, bC, aD, bq, Z, Z, Z, H, a1⟩
   ·intro B
    obtain ⟨B, H⟩ := If B H
    exact F8<|Pu2<|Pu1<|Re2<|Sd<|⟨_, by exact R1, s, m, q, Z, Z, Z, H, V⟩
 rintro _ _ _ - ⟨Q, E, O, rfl, rfl, rfl, H, aJ⟩
 unfold NI at H
 refine FK<|FD<|?_
 obtain ⟨ab, bf, H⟩ := bnd H
 refine Ow.shift (Pu1 (Sd ?_))
 refine Ow.shift (Pu1 (Sd ?_))
 refine FT Z (Ek Tryz.call34 Z (Qh a (F4.mk E) Q O (⟨#[32, 32]⟩ : ByteArray) ab bf _ _ aJ) ?_)
 rintro _ _ _ - ⟨rfl, rfl, rfl⟩
 refine Ea Z<|FH<|Gg<|?_
 obtain bG := GB H
 subst j
 refine ⟨(.inl Z), [(.string ab)], ⟨(.string ab), _, Z, Z, Z⟩, ?_⟩
 exact Re0<|Re0<|Sd<|⟨Z, Z⟩
theorem V5 (p0 : FQ) (h j : SV) (c d : SV) (e : ByteArray) (f : Int) (H : OV p0 = some (e, f)) (K : Kp) (G : List Ent) (am : Slr Ty.i64 K (sv h) p0.cnfg.capacities) (an : Slr Ty.u64 K (sv j) p0.cnfg.starts) (ao : Slr (Ty.sl FU) K (sv c) p0.ops) (ap : Slr Ty.i64 K (sv d) p0.picks) (hT : TabK K) :
  Fc Tryz.prog 16 #[(.agg (FG p0 h j c d).toArray)] K (G) (fun v g a => v = (.tuple #[(.string e), (Vi f)]) ∧ G = a) := by
 refine Gx Tryz.func16 Z Tryz.ntmps16 Tryz.results16 Z ?_
 unfold OV at H
 refine FK<|FD<|?_
 refine FT Z (GX (cs := (FG p0 h j c d)) Z Z Z (fun i => ?_))
 refine Ea Z<|Ea Z<|FH<|FK<|FK<|FD<|EL 5 (FG p0 h j c d) Z (Rb0 Z)<|?_
 obtain ⟨ab, bc, H⟩ := bnd H
 refine FT Z (Ek Tryz.call18 Z (S9 p0 h j c d ab bc _ _ am an ao ap) ?_)
 rintro _ ac _ p ⟨rfl, rfl⟩
 refine Ea Z<|FH<|FK<|FD<|Em Z<|Ec Z<|FH<|?_
 refine F2 Z ?_ ?_
 ·intro o
  have o := GL (GR (o))
  have H := Gu o H
  refine FK<|FD<|Em Z<|Ea Z<|Ea Z<|FH<|Gg<|?_
  obtain ⟨ae, af⟩ := K8 H
  subst e f
  refine ⟨(.inl Z), [(.string (⟨#[]⟩ : ByteArray)), (Vi ab)], ⟨(.string (⟨#[]⟩ : ByteArray)), _, Z, Z, ⟨(Vi ab), _, Z, Z, Z⟩⟩, ?_⟩
  exact Re0<|Sd<|⟨Z, Z⟩
 ·intro o
  have o := GM (GQ (o))
  have H := ift o H
  refine F8<|FK<|FD<|Ea Z<|FH<|?_
  refine Gk (fun b g a => ∃ (M : ByteArray), [(1, (Vp i)), (5, (.string M))] = b ∧ (.blk i 33 (FG p0 h j c d)) :: G = a ∧ PZ p0 M = some (e, f)) ?_ ?_
  ·refine FK<|FD<|EF 0 Z<|EF 0 Z<|El (sv h) Z (Rb0 Z)<|?_
   have X := am.mono p
   refine Eq Z (Gt (T := Ty.i64) X Z Z)<|Em Z<|FH<|Gh<|?_
   refine Gv (fun aF b g a => ∃ (N : ByteArray) (A : Int), [(1, (Vp i)), (5, (.string N)), (23, (sv h)), (24, (Vi (p0.cnfg.capacities.length : Int))), (25, (Vi A))] = b ∧ ac = g ∧ (.blk i 33 (FG p0 h j c d)) :: G = a ∧ lp2 (JJ p0) aF N A = some (e, f)) BIG ?_ ?_
   ·exact Sd ⟨_, by exact R5, (⟨#[]⟩ : ByteArray), 0, Z, Z, Z, H⟩
   rintro aF _ _ _ - ⟨N, A, rfl, rfl, rfl, H⟩
   obtain ⟨bO, bL, rfl, aX, H⟩ := Rb H
   unfold JJ at H
   refine FK<|FD<|Ec Z<|FH<|FK<|?_
   refine F2 Z ?_ ?_
   ·intro u
    obtain ⟨u, H⟩ := It u H
    refine F8<|FK<|Gh<|FK<|FD<|Em Z<|?_
    obtain ⟨aL, az, H⟩ := bnd H
    obtain ⟨_, rfl, aS⟩ := Slr.at X az
    refine Eq Z (Qi (T := Ty.i64) X az Z)<|El (Vi aL) Z (Rdc.k aS Z)<|Ea Z<|Ea Z<|FH<|FK<|FD<|?_
    have ak : RowR Ty.str ac [[(.string (⟨#[99, 104, 97, 110, 110, 101, 108]⟩ : ByteArray))]] [(⟨#[99, 104, 97, 110, 110, 101, 108]⟩ : ByteArray)] := RowR.cons Z (RowR.nil)
    refine FT Z (Gl (T := Ty.str) (rows := [[(.string (⟨#[99, 104, 97, 110, 110, 101, 108]⟩ : ByteArray))]]) (l := [(⟨#[99, 104, 97, 110, 110, 101, 108]⟩ : ByteArray)]) Z Z Z ak Z Z Z Z Z Z Z Z (fun Y => ?_))
    refine Eq Z (GH (cs := (Gq (F4.mk [(⟨#[99, 104, 97, 110, 110, 101, 108]⟩ : ByteArray)]) Y)) Z Z Z Z Z Z) ?_
    refine FT Z (GE (cs := (Gq (F4.mk []) FZ)) Z Z Z Z (fun W => ?_))
    refine FT Z (Sa (Gq (F4.mk [(⟨#[99, 104, 97, 110, 110, 101, 108]⟩ : ByteArray)]) Y) Z .here Z ?_)
    refine FH<|FK<|FD<|Em Z<|?_
    obtain ⟨aM, bd, H⟩ := bnd H
    refine Ow.shift (Pu1 (Sd ?_))
    refine Ow.shift (Pu1 (Sd ?_))
    have aq := hT.mono p
    refine FT Z (Ek Tryz.call32 Z (JV W (F4.mk [(⟨#[99, 104, 97, 110, 110, 101, 108]⟩ : ByteArray)]) Y [[(.string (⟨#[99, 104, 97, 110, 110, 101, 108]⟩ : ByteArray))]] aL aM bd _ _ ak aq) ?_)
    rintro _ _ _ - ⟨bo, bl, rfl, rfl, rfl, a4⟩
    refine FH<|FK<|FD<|EF 0 Z<|EF 1 Z<|El (sv j) Z (Rb2 Z)<|Em Z<|?_
    obtain ⟨aN, aA, H⟩ := bnd H
    have ar := an.mono p
    obtain ⟨_, rfl, aT⟩ := Slr.at ar aA
    refine Eq Z (Qi (T := Ty.u64) ar aA Z)<|El (.int .u64 aN) Z (Rdc.k aT Z)<|?_
    obtain ⟨aO, be, H⟩ := bnd H
    refine Ow.shift (Pu1 (Sd ?_))
    refine Ow.shift (Pu1 (Sd ?_))
    refine FT Z (Ek Tryz.call33 Z (Qj W (F4.mk aM) bo bl aN aO be _ _ a4 aq) ?_)
    rintro _ _ _ - ⟨bp, bm, rfl, rfl, rfl, a5⟩
    refine FH<|FD<|Em Z<|?_
    obtain ⟨bs, bf, H⟩ := bnd H
    refine Ow.shift (Pu1 (Sd ?_))
    refine Ow.shift (Pu1 (Sd ?_))
    refine FT Z (Ek Tryz.call34 Z (Qh W (F4.mk aO) bp bm (⟨#[]⟩ : ByteArray) bs bf _ _ a5) ?_)
    rintro _ _ _ - ⟨rfl, rfl, rfl⟩
    obtain ⟨bt, bg, H⟩ := bnd H
    exact Eq Z (IV bg Z Z)<|Ea Z<|FH<|FD<|Er (wI (A + 1)) Z<|Em Z<|FH<|Pu2<|Re1<|Re1<|Sd<|⟨_, by exact R5, _, Nat.lt_succ_self _, bt, (wI (A + 1)), Z, Z, Z, (aX ▸ H)⟩
   ·intro u
    obtain ⟨u, H⟩ := If u H
    exact Gy<|Sd<|⟨_, by exact R2, N, Z, Z, H⟩
  rintro _ bA _ I ⟨M, rfl, rfl, H⟩
  unfold PZ at H
  refine Gk (fun b g a => ∃ (n : ByteArray), [(1, (Vp i)), (5, (.string n))] = b ∧ (.blk i 33 (FG p0 h j c d)) :: G = a ∧ MV p0 n = some (e, f)) ?_ ?_
  ·refine FK<|FD<|EF 3 Z<|El (sv c) Z (Rb0 Z)<|?_
   have au := (ao.mono p).mono I
   refine Eq Z (Gt (T := (Ty.sl FU)) au Z Z)<|Em Z<|FH<|Gh<|?_
   refine Gv (fun aG b g a => ∃ (O : ByteArray) (m : Int), [(1, (Vp i)), (5, (.string O)), (46, (sv c)), (47, (Vi (p0.ops.length : Int))), (48, (Vi m))] = b ∧ (.blk i 33 (FG p0 h j c d)) :: G = a ∧ lp2 (JI p0) aG O m = some (e, f)) BIG ?_ ?_
   ·exact Sd ⟨_, by exact R5, M, 0, Z, Z, H⟩
   rintro aG _ bB _ ag ⟨O, m, rfl, rfl, H⟩
   obtain ⟨bP, aD, rfl, aY, H⟩ := Rb H
   unfold JI at H
   refine FK<|FD<|Ec Z<|FH<|FK<|?_
   refine F2 Z ?_ ?_
   ·intro w
    obtain ⟨w, H⟩ := It w H
    refine F8 ?_
    refine Gk (fun b g a => ∃ (P : ByteArray), [(1, (Vp i)), (5, (.string P)), (46, (sv c)), (47, (Vi (p0.ops.length : Int))), (48, (Vi m))] = b ∧ (.blk i 33 (FG p0 h j c d)) :: G = a ∧ PY p0 m aD P = some (e, f)) ?_ ?_
    ·refine Gh<|FK<|FD<|?_
     obtain ⟨aP, aB, H⟩ := bnd H
     have av := au.mono ag
     obtain ⟨bR, a0, aU⟩ := Slr.at av aB
     obtain ⟨aI, rfl, aw⟩ := a0
     refine Eq Z (Qi (T := (Ty.sl FU)) av aB Z)<|El (sv aI) Z (Rdc.k aU Z)<|Ea Z<|FH<|FK<|FD<|Em Z<|?_
     obtain ⟨bu, bh, H⟩ := bnd H
     refine Eq Z (IV bh Z Z)<|Ea Z<|FH<|FK<|FD<|Em Z<|Eq Z (Gt (T := FU) aw Z Z)<|Em Z<|FH<|Gh<|?_
     refine Gv (fun aH b g a => ∃ (Q : ByteArray) (B : Int), [(1, (Vp i)), (5, (.string Q)), (46, (sv c)), (47, (Vi (p0.ops.length : Int))), (48, (Vi m)), (54, (sv aI)), (55, (Vi (aP.length : Int))), (56, (Vi B))] = b ∧ (.blk i 33 (FG p0 h j c d)) :: G = a ∧ lp2 (JH p0 m aP aD) aH Q B = some (e, f)) BIG ?_ ?_
     ·exact Sd ⟨_, by exact R8, bu, 0, Z, Z, H⟩
     rintro aH _ bC _ ah ⟨Q, B, rfl, rfl, H⟩
     obtain ⟨bQ, bM, rfl, aZ, H⟩ := Rb H
     unfold JH at H
     refine FK<|FD<|Ec Z<|FH<|FK<|?_
     refine F2 Z ?_ ?_
     ·intro x
      obtain ⟨x, H⟩ := It x H
      refine F8<|FK<|Gh<|FK<|FD<|?_
      obtain ⟨V, aC, H⟩ := bnd H
      have ax := aw.mono ah
      obtain ⟨bS, a1, aV⟩ := Slr.at ax aC
      obtain ⟨S, U, rfl, a6, a7⟩ := a1
      refine Eq Z (Qi (T := FU) ax aC Z)<|EL 7 (FM V S U) Z (Rdc.k aV Z)<|?_
      refine FT Z (GE (cs := (FM (Op.mk 0 0 0 0 0 [] []) FZ FZ)) Z Z Z Z (fun bF => ?_))
      refine FT Z (Sa (FM V S U) Z .here Z ?_)
      refine FH<|FD<|Em Z<|EL 7 (FM V S U) Z (Rb0 Z)<|?_
      obtain ⟨bv, bi, H⟩ := bnd H
      have a8 := (((hT.mono p).mono I).mono ag).mono ah
      refine FT Z (Ek Tryz.call35 Z (UJ V S U bv bi _ _ a6 a7 a8) ?_)
      rintro _ bD _ bI ⟨rfl, rfl⟩
      obtain ⟨bw, bj, H⟩ := bnd H
      exact Eq Z (IV bj Z Z)<|Ea Z<|FH<|FD<|Er (wI (B + 1)) Z<|Em Z<|FH<|Pu1<|Re1<|Sd<|⟨_, by exact R8, _, Nat.lt_succ_self _, bw, (wI (B + 1)), Z, Z, (aZ ▸ H)⟩
     ·intro x
      obtain ⟨x, H⟩ := If x H
      exact Gy<|Sd<|⟨_, by exact R5, Q, Z, Z, H⟩
    rintro _ bE _ bJ ⟨P, rfl, rfl, H⟩
    unfold PY at H
    exact FD<|Er (wI (m + 1)) Z<|Em Z<|FH<|Sd<|⟨_, by exact R5, _, Nat.lt_succ_self _, P, (wI (m + 1)), Z, Z, (aY ▸ H)⟩
   ·intro w
    obtain ⟨w, H⟩ := If w H
    exact Gy<|Sd<|⟨_, by exact R2, O, Z, Z, H⟩
  rintro _ ad _ ai ⟨n, rfl, rfl, H⟩
  unfold MV at H
  refine Gk (fun b g a => ∃ (E : ByteArray), [(5, (.string E))] = b ∧ G = a ∧ OU E = some (e, f)) ?_ ?_
  ·refine FK<|FD<|EF 4 Z<|El (sv d) Z (Rb0 Z)<|?_
   have J := ((ap.mono p).mono I).mono ai
   refine Eq Z (Gt (T := Ty.i64) J Z Z)<|Ec Z<|FH<|?_
   refine F2 Z ?_ ?_
   ·intro y
    obtain ⟨y, H⟩ := It y H
    refine FK<|FD<|?_
    have al : RowR Ty.str ad [[(.string (⟨#[112, 105, 99, 107, 115]⟩ : ByteArray))]] [(⟨#[112, 105, 99, 107, 115]⟩ : ByteArray)] := RowR.cons Z (RowR.nil)
    refine FT Z (Gl (T := Ty.str) (rows := [[(.string (⟨#[112, 105, 99, 107, 115]⟩ : ByteArray))]]) (l := [(⟨#[112, 105, 99, 107, 115]⟩ : ByteArray)]) Z Z Z al Z Z Z Z Z Z Z Z (fun aa => ?_))
    refine Eq Z (GH (cs := (Gq (F4.mk [(⟨#[112, 105, 99, 107, 115]⟩ : ByteArray)]) aa)) Z Z Z Z Z Z) ?_
    refine FT Z (GE (cs := (Gq (F4.mk []) FZ)) Z Z Z Z (fun q => ?_))
    refine FT Z (Sa (Gq (F4.mk [(⟨#[112, 105, 99, 107, 115]⟩ : ByteArray)]) aa) Z .here Z ?_)
    refine FH ?_
    refine Gk (fun b g a => ∃ (R : SV) (C : ad7) (L : List (List Value)), [(5, (.string n)), (13, (Vp q))] = b ∧ (.blk q 72 (Gq (F4.mk C) R)) :: (.row (sv R) 9 1 L.flatten) :: G = a ∧ PX n C = some (e, f) ∧ RowR Ty.str g L C) ?_ ?_
    ·refine FK<|FD<|EF 4 Z<|El (sv d) Z (Rb2 Z)<|Eq Z (Gt (T := Ty.i64) J Z Z)<|Em Z<|FH<|Gh<|?_
     refine Gv (fun aE b g a => ∃ (z : Int) (F : SV) (r : ad7) (D : List (List Value)), [(5, (.string n)), (13, (Vp q)), (73, (sv d)), (74, (Vi (p0.picks.length : Int))), (75, (Vi z))] = b ∧ ad = g ∧ (.blk q 72 (Gq (F4.mk r) F)) :: (.row (sv F) 9 1 D.flatten) :: G = a ∧ lp2 (JG n p0) aE z r = some (e, f) ∧ RowR Ty.str g D r) BIG ?_ ?_
     ·exact Pu1<|Pu1<|Re2<|Sd<|⟨_, by exact R5, 0, aa, [(⟨#[112, 105, 99, 107, 115]⟩ : ByteArray)], [[(.string (⟨#[112, 105, 99, 107, 115]⟩ : ByteArray))]], Z, Z, Z, H, al⟩
     rintro aE _ _ _ - ⟨z, F, r, D, rfl, rfl, rfl, H, aj⟩
     obtain ⟨bN, bK, rfl, aW, H⟩ := Rb H
     unfold JG at H
     refine FK<|FD<|Ec Z<|FH<|FK<|?_
     refine F2 Z ?_ ?_
     ·intro s
      obtain ⟨s, H⟩ := It s H
      refine F8<|FK<|Gh<|FK<|FD<|?_
      obtain ⟨aJ, ay, H⟩ := bnd H
      obtain ⟨_, rfl, aR⟩ := Slr.at J ay
      refine Eq Z (Qi (T := Ty.i64) J ay Z)<|El (Vi aJ) Z (Rdc.k aR Z)<|Ea Z<|FH<|FD<|Em Z<|?_
      obtain ⟨aK, a9, H⟩ := bnd H
      refine Ow.shift (Pu1 (Sd ?_))
      refine Ow.shift (Pu1 (Sd ?_))
      have a2 := ((hT.mono p).mono I).mono ai
      refine FT Z (Ek Tryz.call32 Z (JV q (F4.mk r) F D aJ aK a9 _ _ aj a2) ?_)
      rintro _ _ _ - ⟨bn, bk, rfl, rfl, rfl, a3⟩
      exact FH<|FD<|Er (wI (z + 1)) Z<|Em Z<|FH<|Pu1<|Pu1<|Sd<|⟨_, by exact R5, _, Nat.lt_succ_self _, (wI (z + 1)), bn, aK, bk, Z, Z, Z, (aW ▸ H), a3⟩
     ·intro s
      obtain ⟨s, H⟩ := If s H
      exact Gy<|Pu1<|Pu1<|Sd<|⟨_, by exact R2, F, r, D, Z, Z, H, aj⟩
    rintro _ bx _ bG ⟨R, C, L, rfl, rfl, H, aQ⟩
    unfold PX at H
    refine FD<|Em Z<|?_
    obtain ⟨bq, ba, H⟩ := bnd H
    refine Ow.shift (Pu1 (Sd ?_))
    refine Ow.shift (Pu1 (Sd ?_))
    refine FT Z (Ek Tryz.call34 Z (Qh q (F4.mk C) R L (⟨#[]⟩ : ByteArray) bq ba _ _ aQ) ?_)
    rintro _ _ _ - ⟨rfl, rfl, rfl⟩
    obtain ⟨br, bb, H⟩ := bnd H
    exact Eq Z (IV bb Z Z)<|Ea Z<|FH<|Re0<|Re0<|Sd<|⟨_, by exact R1, br, Z, Z, H⟩
   ·intro y
    obtain ⟨y, H⟩ := If y H
    exact F8<|Re0<|Sd<|⟨_, by exact R1, n, Z, Z, H⟩
  rintro _ bz _ bH ⟨E, rfl, rfl, H⟩
  unfold OU at H
  refine FK<|FK<|FD<|Em Z<|Eq Z (HT Z Z)<|Ec Z<|FH<|?_
  refine F2 Z ?_ ?_
  ·intro t
   obtain ⟨t, H⟩ := It t H
   refine FK<|FD<|Ea Z<|Ea Z<|FH<|Gg<|?_
   obtain ⟨ae, af⟩ := K8 H
   subst e f
   refine ⟨(.inl Z), [(.string (⟨#[]⟩ : ByteArray)), (Vi 4)], ⟨(.string (⟨#[]⟩ : ByteArray)), _, Z, Z, ⟨(Vi 4), _, Z, Z, Z⟩⟩, ?_⟩
   exact Sd ⟨Z, Z⟩
  ·intro t
   obtain ⟨t, H⟩ := If t H
   refine F8<|FK<|FD<|Em Z<|Ea Z<|Ea Z<|FH<|Gg<|?_
   obtain ⟨ae, af⟩ := K8 H
   subst e f
   refine ⟨(.inl Z), [(.string E), (Vi 0)], ⟨(.string E), _, Z, Z, ⟨(Vi 0), _, Z, Z, Z⟩⟩, ?_⟩
   exact Sd ⟨Z, Z⟩
theorem UK  (l : Bool) (H : MW = some l) (K : Kp) (G : List Ent) (hT : TabK K) :
  Fc Tryz.prog 8 #[] K (G) (fun v q m => v = (.bool l) ∧ G = m) := by
 refine Gx Tryz.func8 Z Tryz.ntmps8 Tryz.results8 Z ?_
 unfold MW at H
 refine FK<|FD<|Ea Z<|FH<|FK<|FD<|?_
 obtain ⟨j, M, N, I, H⟩ := Ix H
 refine FT Z (Ek Tryz.call13 Z (S8 (⟨#[99, 104, 97, 110, 110, 101, 108, 32, 49, 32, 48, 10, 116, 104, 114, 101, 97, 100, 10, 32, 32, 115, 101, 110, 100, 32, 48, 32, 53, 10, 32, 32, 115, 101, 108, 101, 99, 116, 32, 114, 101, 99, 118, 32, 48, 32, 115, 101, 110, 100, 32, 45, 49, 32, 55, 32, 100, 114, 97, 119, 115, 32, 48, 32, 49, 32, 116, 114, 121, 10, 112, 105, 99, 107, 115, 32, 48, 32, 48, 32, 45, 51, 32, 48, 10]⟩ : ByteArray) j M N I _ _ hT) ?_)
 rintro _ R _ y ⟨o, p, h, i, rfl, rfl, B, C, s, t⟩
 refine Em Z<|Ex Z<|Ex Z<|Ex Z<|?_
 refine FT Z (GE (cs := (FG (FQ.mk (FW.mk [] [] 0) [] []) FZ FZ FZ FZ)) Z Z Z Z (fun S => ?_))
 refine FT Z (Sa (FG j o p h i) Z .here Z ?_)
 refine Ea Z<|Ea Z<|FH<|FK<|FD<|EL 5 (FG j o p h i) Z (Rb0 Z)<|?_
 obtain ⟨O, P, J, H⟩ := Ig H
 have D := hT.mono y
 refine FT Z (Ek Tryz.call16 Z (V5 j o p h i O P J _ _ B C s t D) ?_)
 rintro _ w _ r ⟨rfl, rfl⟩
 refine Em Z<|Ex Z<|Ex Z<|Ea Z<|Ea Z<|FH<|?_
 refine Gk (fun x q m => ∃ (g : Bool), [(0, (.bool g))] = x ∧ w = q ∧ G = m ∧ J8 g = some l) ?_ ?_
 ·refine FD<|Em Z<|Ec Z<|Em Z<|?_
  refine Ee Z ?_ ?_
  ·intro a
   obtain ⟨a, H⟩ := It a H
   refine Vm Z<|Vc Z<|Et Z<|Em Z<|?_
   refine Ee Z ?_ ?_
   ·intro b
    obtain ⟨b, H⟩ := It b H
    refine Vm Z<|Vc Z<|Et Z<|Em Z<|?_
    refine Ee Z ?_ ?_
    ·intro c
     obtain ⟨c, H⟩ := It c H
     refine Vm Z<|Vq Z (Is Z Z)<|Et Z<|Em Z<|?_
     refine Ee Z ?_ ?_
     ·intro d
      obtain ⟨d, H⟩ := It d H
      refine VF 4 Z<|Vl (sv i) Z (Rb0 Z)<|?_
      have E := t.mono r
      refine Vq Z (Gt (T := Ty.i64) E Z Z)<|Vc Z<|Et Z<|Em Z<|?_
      refine Ee Z ?_ ?_
      ·intro e
       obtain ⟨e, H⟩ := It e H
       refine VF 3 Z<|Vl (sv h) Z (Rb0 Z)<|?_
       have n := s.mono r
       refine Vq Z (Gt (T := (Ty.sl FU)) n Z Z)<|Vc Z<|Et Z<|Em Z<|?_
       refine Ee Z ?_ ?_
       ·intro f
        obtain ⟨f, H⟩ := It f H
        refine VF 3 Z<|Vl (sv h) Z (Rb0 Z)<|?_
        obtain ⟨Q, u, H⟩ := bnd H
        obtain ⟨V, A, z⟩ := Slr.at n u
        obtain ⟨L, rfl, F⟩ := A
        exact Vq Z (Qi (T := (Ty.sl FU)) n u Z)<|Vl (sv L) Z (Rdc.k z Z)<|Vq Z (Gt (T := FU) F Z Z)<|Vc Z<|Et Z<|Ea Z<|FH<|Re0<|Re0<|Re0<|Re0<|Re0<|Sd<|⟨_, by exact R1, (dcd ((Q.length : Int) = 2)), Z, Z, Z, H⟩
       ·intro f
        obtain ⟨f, H⟩ := If f H
        exact Ez Z<|Ez Z<|Ez Z<|Ez Z<|Ez Z<|Ez Z<|Ef Z<|Ea Z<|FH<|Re0<|Re0<|Re0<|Re0<|Re0<|Sd<|⟨_, by exact R1, false, Z, Z, Z, H⟩
      ·intro e
       obtain ⟨e, H⟩ := If e H
       exact Ez Z<|Ez Z<|Ez Z<|Ez Z<|Ef Z<|Em Z<|Ez Z<|Ez Z<|Ez Z<|Ez Z<|Ez Z<|Ez Z<|Ef Z<|Ea Z<|FH<|Re0<|Re0<|Re0<|Re0<|Re0<|Sd<|⟨_, by exact R1, false, Z, Z, Z, H⟩
     ·intro d
      obtain ⟨d, H⟩ := If d H
      refine Ez Z<|Ez Z<|Ez Z<|Ez Z<|Ef Z<|Em Z<|Ez Z<|Ez Z<|Ez Z<|Ez Z<|Ef Z<|Em Z<|Ez Z<|Ez Z<|Ez Z<|Ez Z<|Ez Z<|Ez Z<|Ef Z<|Ea Z<|FH<|Re0<|?_
      exact Re0<|Re0<|Re0<|Re0<|Sd<|⟨_, by exact R1, false, Z, Z, Z, H⟩
    ·intro c
     obtain ⟨c, H⟩ := If c H
     refine Ez Z<|Ez Z<|Ef Z<|Em Z<|Ez Z<|Ez Z<|Ez Z<|Ez Z<|Ef Z<|Em Z<|Ez Z<|Ez Z<|Ez Z<|Ez Z<|Ef Z<|Em Z<|Ez Z<|Ez Z<|Ez Z<|Ez Z<|Ez Z<|Ez Z<|?_
     exact Ef Z<|Ea Z<|FH<|Re0<|Re0<|Re0<|Re0<|Re0<|Sd<|⟨_, by exact R1, false, Z, Z, Z, H⟩
   ·intro b
    obtain ⟨b, H⟩ := If b H
    refine Ez Z<|Ez Z<|Ef Z<|Em Z<|Ez Z<|Ez Z<|Ef Z<|Em Z<|Ez Z<|Ez Z<|Ez Z<|Ez Z<|Ef Z<|Em Z<|Ez Z<|Ez Z<|Ez Z<|Ez Z<|Ef Z<|Em Z<|Ez Z<|Ez Z<|?_
    exact Ez Z<|Ez Z<|Ez Z<|Ez Z<|Ef Z<|Ea Z<|FH<|Re0<|Re0<|Re0<|Re0<|Re0<|Sd<|⟨_, by exact R1, false, Z, Z, Z, H⟩
  ·intro a
   obtain ⟨a, H⟩ := If a H
   refine Ez Z<|Ez Z<|Ef Z<|Em Z<|Ez Z<|Ez Z<|Ef Z<|Em Z<|Ez Z<|Ez Z<|Ef Z<|Em Z<|Ez Z<|Ez Z<|Ez Z<|Ez Z<|Ef Z<|Em Z<|Ez Z<|Ez Z<|Ez Z<|Ez Z<|?_
   exact Ef Z<|Em Z<|Ez Z<|Ez Z<|Ez Z<|Ez Z<|Ez Z<|Ez Z<|Ef Z<|Ea Z<|FH<|Re0<|Re0<|Re0<|Re0<|Re0<|Sd<|⟨_, by exact R1, false, Z, Z, Z, H⟩
 rintro _ _ _ - ⟨g, rfl, rfl, rfl, H⟩
 unfold J8 at H
 refine Gg ?_
 obtain U := GB H
 subst l
 refine ⟨(.inl Z), [(.bool g)], ⟨(.bool g), _, Z, Z, Z⟩, ?_⟩
 exact Sd ⟨Z, Z⟩
end Go.Hx
