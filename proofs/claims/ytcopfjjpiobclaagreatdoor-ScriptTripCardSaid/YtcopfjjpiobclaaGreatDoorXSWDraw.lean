
import Derived.Test.YtcopfjjpiobclaaGreatDoorXSM
set_option linter.unusedVariables false
set_option linter.unusedSimpArgs false
namespace Go.Hx
open Go Go.Proofs
set_option maxRecDepth 10000
set_option maxHeartbeats 1000000
theorem CV (p0 : ab3) (g : SV) (p1 : Int) (e : qg) (H : vM p0 p1 = some e) (K : Kp) (G : List Ent) (f : Slr Ty.u8 K (sv g) p0) :
  Fc Tryz.prog 10 #[(sv g), (Vi p1)] K (G) (fun v b h => ∃ (j : Nat) (l : SV), v = (Vp j) ∧ K = b ∧ (.blk j 55 (qt e l)) :: G = h ∧ Slr Ty.u8 b (sv l) e.list) := by
 refine qR Tryz.func10 Z Tryz.ntmps10 Tryz.results10 Z ?_
 unfold vM at H
 refine qj<|qf<|Ea Z<|qh<|?_
 refine qG (fun m b h => ∃ (a : SV) (d : ab3), [(0, (sv a))] = m ∧ K = b ∧ G = h ∧ x2 d = some e ∧ Slr Ty.u8 b (sv a) d) ?_ ?_
 ·refine qj<|qf<|Em Z<|Eq Z (qV (T := Ty.u8) f Z Z)<|Em Z<|Ec Z<|qh<|?_
  refine qy Z ?_ ?_
  ·intro c
   obtain ⟨c, H⟩ := It c H
   refine qf<|Em Z<|Em Z<|?_
   obtain ⟨x17, k, H⟩ := bnd H
   have o := Slr.cut f k
   exact Eq Z (E2 (T := Ty.u8) f k Z Z Z Z)<|Ea Z<|qh<|Sd<|⟨_, by exact R1, (tU g 1 0 p1.toNat), x17, Z, Z, Z, H, o⟩
  ·intro c
   obtain ⟨c, H⟩ := If c H
   exact qA<|Sd<|⟨_, by exact R1, g, p0, Z, Z, Z, H, f⟩
 rintro _ _ _ - ⟨a, d, rfl, rfl, rfl, H, n⟩
 unfold x2 at H
 refine qj<|qf<|Em Z<|Eq Z (q3 (cs := (qt (qg.mk d 0 0) a)) Z Z Z Z Z Z)<|?_
 refine qo Z (rf (cs := (qt (qg.mk d 0 0) a)) Z Z Z (fun i => ?_))
 refine Ea Z<|qh<|qE<|?_
 obtain p := ra H
 subst e
 refine ⟨(.inl Z), [(Vp i)], ⟨(Vp i), _, Z, Z, Z⟩, ?_⟩
 exact Sd ⟨i, a, Z, Z, Z, n⟩
theorem ym (b : Nat) (p0 : qg) (a : SV) (c : Bool) (H : xh p0 = some c) (K : Kp) (G : List Ent) (f : Slr Ty.u8 K (sv a) p0.list) :
  Fc Tryz.prog 43 #[(Vp b)] K ((.blk b 55 (qt p0 a)) :: G) (fun v e d => v = (.bool c) ∧ K = e ∧ (.blk b 55 (qt p0 a)) :: G = d) := by
 refine qR Tryz.func43 Z Tryz.ntmps43 Tryz.results43 Z ?_
 unfold xh at H
 refine qj<|qf<|Ea Z<|qh<|qj<|qQ _ Z (Ic Mb0 In0)<|Jm 0 Z<|Jq 1 Z (qm Z)<|JF 2 1 Z<|Jl 3 (Vi p0.at_) Z (Rb0 Z)<|Jm 4 Z<|Jq 5 Z (qm Z)<|JF 6 0 Z<|Jl 7 (sv a) Z (Rb0 Z)<|Jq 8 Z (qV (T := Ty.u8) f Z Z)<|Jc 9 Z<|Ja 10 Z<|Ad<|qE<|?_
 obtain g := ra H
 subst c
 refine ⟨(.inl Z), [(.bool (dcd (p0.at_ < (p0.list.length : Int))))], ⟨(.bool (dcd (p0.at_ < (p0.list.length : Int)))), _, Z, Z, Z⟩, ?_⟩
 exact Sd ⟨Z, Z, Z⟩
theorem rC (d : Nat) (p0 : qg) (b : SV) (p1 e f : Int) (H : sG p0 p1 = some (e, f)) (K : Kp) (G : List Ent) (g : Slr Ty.u8 K (sv b) p0.list) :
  Fc Tryz.prog 21 #[(Vp d), (Vi p1)] K ((.blk d 55 (qt p0 b)) :: G) (fun v m l => v = (Vi e) ∧ K = m ∧ (.blk d 55 (qt (qg.mk p0.list f p0.value) b)) :: G = l) := by
 refine qR Tryz.func21 Z Tryz.ntmps21 Tryz.results21 Z ?_
 unfold sG at H
 refine qj<|qf<|Ea Z<|qh<|qj<|qj<|qf<|Em Z<|?_
 obtain ⟨x17, q, H⟩ := bnd H
 refine qo Z (Ek Tryz.call43 Z (ym d p0 b x17 q _ _ g) ?_)
 rintro _ _ _ - ⟨rfl, rfl, rfl⟩
 refine Eq Z (rL Z)<|qh<|?_
 refine qy Z ?_ ?_
 ·intro a
  have a := rz a
  have H := qZ (btf a) H
  refine qj<|qf<|Ea Z<|qh<|qE<|?_
  obtain ⟨n, o⟩ := ze H
  subst e f
  refine ⟨(.inl Z), [(Vi 0)], ⟨(Vi 0), _, Z, Z, Z⟩, ?_⟩
  exact Sd ⟨Z, Z, Z⟩
 ·intro a
  have a := ry a
  have H := ift a H
  refine qA<|qj<|qf<|Em Z<|Eq Z (qm Z)<|EF 1 Z<|El (Vi p0.at_) Z (Rb0 Z)<|Er (wI (p0.at_ + 1)) Z<|Eq Z (qm Z)<|EF 1 Z<|?_
  refine qo Z (So [(Vi (wI (p0.at_ + 1)))] (qt (qg.mk p0.list (wI (p0.at_ + 1)) p0.value) b) Z .here Z ?_)
  refine qh<|qj<|?_
  obtain ⟨i, h, H⟩ := bnd H
  obtain ⟨j, r, H⟩ := bnd H
  refine qQ _ Z (Ic Mb0 In0)<|Jm 0 Z<|Jq 1 Z (qm Z)<|JF 2 0 Z<|Jl 3 (sv b) Z (Rb0 Z)<|Jm 4 Z<|Jq 5 Z (qm Z)<|JF 6 1 Z<|Jl 7 (Vi (wI (p0.at_ + 1))) Z (Rb0 Z)<|Jr 8 (wI ((wI (p0.at_ + 1)) - 1)) Z<|?_
  obtain ⟨_, rfl, p⟩ := Slr.at g h
  refine Jq 9 Z (Qi (T := Ty.u8) g h Z)<|Jl 10 (.int .u8 i) Z (Rdc.k p Z)<|Jq 11 Z (Ej (c := wI i) Z Z Z Z)<|Jm 12 Z<|Jq 13 Z (Q_rem r Z Z)<|Ja 14 Z<|Ad<|qE<|?_
  obtain ⟨n, o⟩ := ze H
  subst e f
  refine ⟨(.inl Z), [(Vi j)], ⟨(Vi j), _, Z, Z, Z⟩, ?_⟩
  exact Sd ⟨Z, Z, Z⟩
theorem CW (a : Nat) (p0 : qg) (h : SV) (w : qp) (D E : Int) (H : vN p0 = some (w, D, E)) (K : Kp) (G : List Ent) (aH : Slr Ty.u8 K (sv h) p0.list) :
  Fc Tryz.prog 23 #[(Vp a)] K ((.blk a 55 (qt p0 h)) :: G) (fun v f s => ∃ (az aA : SV), v = (.agg (qw w az aA).toArray) ∧ (.blk a 55 (qt (qg.mk p0.list D E) h)) :: (.tok 3 1 [(sv az)]) :: (.tok 53 1 [(sv aA)]) :: G = s ∧ Slr Ty.i64 f (sv az) w.capacities ∧ Slr Ty.u64 f (sv aA) w.starts) := by
 refine qR Tryz.func23 Z Tryz.ntmps23 Tryz.results23 Z ?_
 unfold vN at H
 refine qj<|qf<|?_
 refine qo Z (qU (cs := (qw (qp.mk [] [] 0) qx qx)) Z Z Z Z (fun x => ?_))
 refine qh<|qj<|qf<|?_
 have ai : RowR Ty.i64 K [[(Vi 0)], [(Vi 1)], [(Vi 2)], [(Vi 0)], [(Vi 1)], [(Vi 3)]] [0, 1, 2, 0, 1, 3] := RowR.cons Z (RowR.cons Z (RowR.cons Z (RowR.cons Z (RowR.cons Z (RowR.cons Z (RowR.nil))))))
 refine qo Z (qN (T := Ty.i64) (rows := [[(Vi 0)], [(Vi 1)], [(Vi 2)], [(Vi 0)], [(Vi 1)], [(Vi 3)]]) (l := [0, 1, 2, 0, 1, 3]) Z Z Z ai Z Z Z Z Z Z Z Z (fun F => ?_))
 refine Ea Z<|qh<|qj<|qf<|?_
 have aj : RowR Ty.u64 K [[(.int .u64 0)], [(.int .u64 1)], [(.int .u64 9223372036854775807)], [(.int .u64 9223372036854775806)], [(.int .u64 4611686018427387904)], [(.int .u64 5)]] [0, 1, 9223372036854775807, 9223372036854775806, 4611686018427387904, 5] := RowR.cons Z (RowR.cons Z (RowR.cons Z (RowR.cons Z (RowR.cons Z (RowR.cons Z (RowR.nil))))))
 refine qo Z (qN (T := Ty.u64) (rows := [[(.int .u64 0)], [(.int .u64 1)], [(.int .u64 9223372036854775807)], [(.int .u64 9223372036854775806)], [(.int .u64 4611686018427387904)], [(.int .u64 5)]]) (l := [0, 1, 9223372036854775807, 9223372036854775806, 4611686018427387904, 5]) Z Z Z aj Z Z Z Z Z Z Z Z (fun I => ?_))
 refine Ea Z<|qh<|qj<|qf<|?_
 refine qo Z (qU (cs := (qw (qp.mk [] [] 0) qx qx)) Z Z Z Z (fun y => ?_))
 refine qh ?_
 refine qG (fun B f s => ∃ (ac ad : Int) (i : SV) (m : ab3) (j : SV) (n : ab3), [(0, (Vp a)), (2, (Vp x)), (5, (Vp y))] = B ∧ (.blk a 55 (qt (qg.mk p0.list ac ad) h)) :: (.blk y 30 (qw (qp.mk m n 0) i j)) :: (.blk x 30 (qw (qp.mk [] [] 0) qx qx)) :: (.tok 3 1 [(sv i)]) :: (.tok 53 1 [(sv j)]) :: G = s ∧ x3 p0 ac ad m n = some (w, D, E) ∧ Slr Ty.i64 f (sv i) m ∧ Slr Ty.u64 f (sv j) n) ?_ ?_
 ·refine qj<|qf<|Ea Z<|qh<|qD<|?_
  refine qW (fun aP B f s => ∃ (t b c : Int) (A : SV) (P : ab3) (g : SV) (o : ab3), [(0, (Vp a)), (2, (Vp x)), (3, (sv F)), (4, (sv I)), (5, (Vp y)), (6, (Vi t))] = B ∧ (.blk a 55 (qt (qg.mk p0.list b c) h)) :: (.blk y 30 (qw (qp.mk P o 0) A g)) :: (.blk x 30 (qw (qp.mk [] [] 0) qx qx)) :: (.tok 3 1 [(sv A)]) :: (.tok 53 1 [(sv g)]) :: (.row (sv I) 53 1 [[(.int .u64 0)], [(.int .u64 1)], [(.int .u64 9223372036854775807)], [(.int .u64 9223372036854775806)], [(.int .u64 4611686018427387904)], [(.int .u64 5)]].flatten) :: (.row (sv F) 3 1 [[(Vi 0)], [(Vi 1)], [(Vi 2)], [(Vi 0)], [(Vi 1)], [(Vi 3)]].flatten) :: G = s ∧ lp5 (x6 p0) aP t b c P o = some (w, D, E) ∧ Slr Ty.i64 f (sv A) P ∧ Slr Ty.u64 f (sv g) o) BIG ?_ ?_
  ·exact Shift.nilTok1 3 1<|Shift.nilTok1 53 1<|Pu4<|Pu4<|Pu2<|Pu3<|Pu5<|Pu5<|Pu6<|Sd<|⟨_, by exact R6, 0, p0.at_, p0.value, qx, ([] : ab3), qx, ([] : ab3), Z, Z, H, (Slr.nil Ty.i64 _), (Slr.nil Ty.u64 _)⟩
  rintro aP _ ag _ N ⟨t, b, c, A, P, g, o, rfl, rfl, H, X, Y⟩
  obtain ⟨bE, aO, rfl, aW, H⟩ := lps5 H
  unfold x6 at H
  refine qj<|qj<|qf<|Em Z<|Em Z<|?_
  obtain ⟨bn, k, bl, H⟩ := r0 H
  have O := aH.mono N
  refine qo Z (Ek Tryz.call21 Z (rC a (qg.mk p0.list b c) h 3 bn k bl _ _ O) ?_)
  rintro _ _ _ - ⟨rfl, rfl, rfl⟩
  refine Ec Z<|qh<|?_
  refine qy Z ?_ ?_
  ·intro M
   obtain ⟨M, H⟩ := It M H
   refine qA ?_
   refine qG (fun B f s => ∃ (ae af : Int) (S : SV) (Q : ab3) (U : SV) (R : ab3), [(0, (Vp a)), (2, (Vp x)), (3, (sv F)), (4, (sv I)), (5, (Vp y)), (6, (Vi t))] = B ∧ (.blk a 55 (qt (qg.mk p0.list ae af) h)) :: (.blk y 30 (qw (qp.mk Q R 0) S U)) :: (.blk x 30 (qw (qp.mk [] [] 0) qx qx)) :: (.tok 3 1 [(sv S)]) :: (.tok 53 1 [(sv U)]) :: (.row (sv I) 53 1 [[(.int .u64 0)], [(.int .u64 1)], [(.int .u64 9223372036854775807)], [(.int .u64 9223372036854775806)], [(.int .u64 4611686018427387904)], [(.int .u64 5)]].flatten) :: (.row (sv F) 3 1 [[(Vi 0)], [(Vi 1)], [(Vi 2)], [(Vi 0)], [(Vi 1)], [(Vi 3)]].flatten) :: G = s ∧ x4 t p0 aO ae af Q R = some (w, D, E) ∧ Slr Ty.i64 f (sv S) Q ∧ Slr Ty.u64 f (sv U) R) ?_ ?_
   ·refine qD ?_
    refine qG (fun B f s => ∃ (z : Int) (r : SV) (p : ab3), [(0, (Vp a)), (2, (Vp x)), (3, (sv F)), (4, (sv I)), (5, (Vp y)), (6, (Vi t))] = B ∧ (.blk a 55 (qt (qg.mk p0.list z ((qg.mk p0.list k ((qg.mk p0.list b c).value)).value)) h)) :: (.blk y 30 (qw (qp.mk p o 0) r g)) :: (.blk x 30 (qw (qp.mk [] [] 0) qx qx)) :: (.tok 3 1 [(sv r)]) :: (.tok 53 1 [(sv g)]) :: (.row (sv I) 53 1 [[(.int .u64 0)], [(.int .u64 1)], [(.int .u64 9223372036854775807)], [(.int .u64 9223372036854775806)], [(.int .u64 4611686018427387904)], [(.int .u64 5)]].flatten) :: (.row (sv F) 3 1 [[(Vi 0)], [(Vi 1)], [(Vi 2)], [(Vi 0)], [(Vi 1)], [(Vi 3)]].flatten) :: G = s ∧ x5 t p0 k b c o aO z p = some (w, D, E) ∧ Slr Ty.i64 f (sv r) p) ?_ ?_
    ·obtain ⟨aR, W, aN, H⟩ := r0 H
     obtain ⟨e, ab, H⟩ := bnd H
     obtain ⟨L, aq, H⟩ := bnd H
     refine qQ _ Z (Ic Mb2 (Ic Mb4 (Ic Mb5 (Ic Mb6 In0))))<|JF 0 0 Z<|Jm 2 Z<|Jm 3 Z<|?_
     refine qO 1 4 (by kernel_rfl) ?_ ?_
     ·refine id (Jyq Z (qs (v := (sv A)) Z Z Z (Rb1 Z)) ⟨(Ic Mb2 (Ic Mb4 (Ic Mb5 (Ic Mb6 In0)))), ?_⟩)
      refine Ao 4 Z ?_
      refine Ek Tryz.call21 Z (rC a (qg.mk p0.list k ((qg.mk p0.list b c).value)) h 6 aR W aN _ _ O) ?_
      rintro _ _ _ - ⟨rfl, rfl, rfl⟩
      refine ⟨(Ic Mb2 (Ic Mb4 (Ic Mb5 (Ic Mb6 In0)))), ?_⟩
      have an := ai.mono N
      obtain ⟨bH, aK, aZ⟩ := RowR.at an ab
      obtain rfl := aZ
      refine Jq 5 Z (q4 (T := Ty.i64) Mb3 an aK (qL ab).1 Z Z Z Z Z)<|Jl 6 (Vi e) Z (rb (T := Ty.i64) Mb3 an aK Z Z)<|?_
      refine Ao 7 Z ?_
      have aE : RowR Ty.i64 ag [[(Vi e)]] [e] := RowR.cons Z (RowR.nil)
      refine qN (T := Ty.i64) (rows := [[(Vi e)]]) (l := [e]) Z Z Z aE Z Z Z Z Z Z Z Z (fun bM => ⟨(Ic Mb3 (Ic Mb5 (Ic Mb6 (Ic Mb7 In0)))), ?_⟩)
      refine Ao 8 Z ?_
      refine qJ (T := Ty.i64) (bytes := 8) (q := 0) Z Z Z X Mb4 Z (SrcT.row Mb0 aE Z) aq Z Z Z Z Z Z Z Z (fun aw bt bB bh => ⟨_, (.there (.there (.there (.there .here)))), ⟨(Ic Mb3 (Ic Mb5 (Ic Mb6 (Ic Mb7 In0)))), ?_⟩⟩)
      refine Aw.shift (Re0 (Sd ⟨(Ic Mb2 (Ic Mb4 (Ic Mb5 (Ic Mb6 In0)))), ?_⟩))
      refine JF 9 0 Z ?_
      refine Ao 10 Z ?_
      refine So [(sv aw)] (qw (qp.mk L o 0) aw g) Z (.there .here) Z ⟨(Ic Mb2 (Ic Mb4 (Ic Mb5 (Ic Mb6 In0)))), ?_⟩
      exact Ad<|Pu6<|Pu6<|Pu6<|Pu6<|Pu6<|Pu6<|Pu6<|Sd<|⟨_, by exact R6, W, aw, L, Z, Z, H, bh⟩
     ·refine id (Jy Z ?_)
      refine Ek Tryz.call21 Z (rC a (qg.mk p0.list k ((qg.mk p0.list b c).value)) h 6 aR W aN _ _ O) ?_
      rintro _ _ _ - ⟨rfl, rfl, rfl⟩
      refine ⟨(Ic Mb2 (Ic Mb4 (Ic Mb5 (Ic Mb6 In0)))), ?_⟩
      have ao := ai.mono N
      obtain ⟨bI, aL, a0⟩ := RowR.at ao ab
      obtain rfl := a0
      refine Jq 5 Z (q4 (T := Ty.i64) Mb3 ao aL (qL ab).1 Z Z Z Z Z)<|Jl 6 (Vi e) Z (rb (T := Ty.i64) Mb3 ao aL Z Z)<|?_
      refine qO 1 7 (by kernel_rfl) ?_ ?_
      ·refine id (Jyq Z (qs (v := (sv A)) Z Z Z (Rb1 Z)) ⟨(Ic Mb2 (Ic Mb4 (Ic Mb5 (Ic Mb6 In0)))), ?_⟩)
       refine Ao 7 Z ?_
       have aF : RowR Ty.i64 ag [[(Vi e)]] [e] := RowR.cons Z (RowR.nil)
       refine qN (T := Ty.i64) (rows := [[(Vi e)]]) (l := [e]) Z Z Z aF Z Z Z Z Z Z Z Z (fun bN => ⟨(Ic Mb3 (Ic Mb5 (Ic Mb6 (Ic Mb7 In0)))), ?_⟩)
       refine Ao 8 Z ?_
       refine qJ (T := Ty.i64) (bytes := 8) (q := 0) Z Z Z X Mb4 Z (SrcT.row Mb0 aF Z) aq Z Z Z Z Z Z Z Z (fun ax bu bC bi => ⟨_, (.there (.there (.there (.there .here)))), ⟨(Ic Mb3 (Ic Mb5 (Ic Mb6 (Ic Mb7 In0)))), ?_⟩⟩)
       refine Aw.shift (Re0 (Sd ⟨(Ic Mb2 (Ic Mb4 (Ic Mb5 (Ic Mb6 In0)))), ?_⟩))
       refine JF 9 0 Z ?_
       refine Ao 10 Z ?_
       refine So [(sv ax)] (qw (qp.mk L o 0) ax g) Z (.there .here) Z ⟨(Ic Mb2 (Ic Mb4 (Ic Mb5 (Ic Mb6 In0)))), ?_⟩
       exact Ad<|Pu6<|Pu6<|Pu6<|Pu6<|Pu6<|Pu6<|Pu6<|Sd<|⟨_, by exact R6, W, ax, L, Z, Z, H, bi⟩
      ·refine id (Jy Z ?_)
       have aG : RowR Ty.i64 ag [[(Vi e)]] [e] := RowR.cons Z (RowR.nil)
       refine qN (T := Ty.i64) (rows := [[(Vi e)]]) (l := [e]) Z Z Z aG Z Z Z Z Z Z Z Z (fun bO => ⟨(Ic Mb3 (Ic Mb5 (Ic Mb6 (Ic Mb7 In0)))), ?_⟩)
       refine qI 1 (by kernel_rfl) (Jyq Z (qs (v := (sv A)) Z Z Z (Rb2 Z)) ⟨(Ic Mb3 (Ic Mb5 (Ic Mb6 (Ic Mb7 In0)))), ?_⟩)
       refine Ao 8 Z ?_
       refine qJ (T := Ty.i64) (bytes := 8) (q := 0) Z Z Z X Mb4 Z (SrcT.row Mb0 aG Z) aq Z Z Z Z Z Z Z Z (fun ay bv bD bj => ⟨_, (.there (.there (.there (.there .here)))), ⟨(Ic Mb3 (Ic Mb5 (Ic Mb6 (Ic Mb7 In0)))), ?_⟩⟩)
       refine Aw.shift (Re0 (Sd ⟨(Ic Mb2 (Ic Mb4 (Ic Mb5 (Ic Mb6 In0)))), ?_⟩))
       refine JF 9 0 Z ?_
       refine Ao 10 Z ?_
       refine So [(sv ay)] (qw (qp.mk L o 0) ay g) Z (.there .here) Z ⟨(Ic Mb2 (Ic Mb4 (Ic Mb5 (Ic Mb6 In0)))), ?_⟩
       exact Ad<|Pu6<|Pu6<|Pu6<|Pu6<|Pu6<|Pu6<|Pu6<|Sd<|⟨_, by exact R6, W, ay, L, Z, Z, H, bj⟩
    rintro _ ah _ C ⟨z, r, p, rfl, rfl, H, am⟩
    unfold x5 at H
    obtain ⟨aQ, V, aM, H⟩ := r0 H
    obtain ⟨d, aa, H⟩ := bnd H
    obtain ⟨J, ap, H⟩ := bnd H
    refine qQ _ Z (Ic Mb2 (Ic Mb3 (Ic Mb5 (Ic Mb6 In0))))<|JF 0 1 Z<|Jm 2 Z<|Jm 3 Z<|?_
    refine qO 1 4 (by kernel_rfl) ?_ ?_
    ·refine id (Jyq Z (qs (v := (sv g)) Z Z Z (Rb1 Z)) ⟨(Ic Mb2 (Ic Mb3 (Ic Mb5 (Ic Mb6 In0)))), ?_⟩)
     refine Ao 4 Z ?_
     have a1 := O.mono C
     refine Ek Tryz.call21 Z (rC a (qg.mk p0.list z ((qg.mk p0.list k ((qg.mk p0.list b c).value)).value)) h 6 aQ V aM _ _ a1) ?_
     rintro _ _ _ - ⟨rfl, rfl, rfl⟩
     refine ⟨(Ic Mb2 (Ic Mb3 (Ic Mb5 (Ic Mb6 In0)))), ?_⟩
     have ak := (aj.mono N).mono C
     obtain ⟨bF, aI, aX⟩ := RowR.at ak aa
     obtain rfl := aX
     refine Jq 5 Z (q4 (T := Ty.u64) Mb2 ak aI (qL aa).1 Z Z Z Z Z)<|Jl 6 (.int .u64 d) Z (rb (T := Ty.u64) Mb2 ak aI Z Z)<|?_
     refine Ao 7 Z ?_
     have aB : RowR Ty.u64 ah [[(.int .u64 d)]] [d] := RowR.cons Z (RowR.nil)
     refine qN (T := Ty.u64) (rows := [[(.int .u64 d)]]) (l := [d]) Z Z Z aB Z Z Z Z Z Z Z Z (fun bJ => ⟨(Ic Mb3 (Ic Mb4 (Ic Mb6 (Ic Mb7 In0)))), ?_⟩)
     refine Ao 8 Z ?_
     have a3 := Y.mono C
     refine qJ (T := Ty.u64) (bytes := 8) (q := 0) Z Z Z a3 Mb5 Z (SrcT.row Mb0 aB Z) ap Z Z Z Z Z Z Z Z (fun ar bo aS a2 => ⟨_, (.there (.there (.there (.there (.there .here))))), ⟨(Ic Mb3 (Ic Mb4 (Ic Mb6 (Ic Mb7 In0)))), ?_⟩⟩)
     refine Aw.shift (Re0 (Sd ⟨(Ic Mb2 (Ic Mb3 (Ic Mb5 (Ic Mb6 In0)))), ?_⟩))
     refine JF 9 1 Z ?_
     refine Ao 10 Z ?_
     refine So [(sv ar)] (qw (qp.mk p J 0) r ar) Z (.there .here) Z ⟨(Ic Mb2 (Ic Mb3 (Ic Mb5 (Ic Mb6 In0)))), ?_⟩
     refine Ad<|Pu6<|Pu6<|Pu6<|Pu6<|Pu6<|Pu6<|Pu6<|?_
     have a4 := am.mono aS
     exact Sd ⟨_, by exact R6, V, ((qg.mk p0.list z ((qg.mk p0.list k ((qg.mk p0.list b c).value)).value)).value), r, p, ar, J, Z, Z, H, a4, a2⟩
    ·refine id (Jy Z ?_)
     have a5 := O.mono C
     refine Ek Tryz.call21 Z (rC a (qg.mk p0.list z ((qg.mk p0.list k ((qg.mk p0.list b c).value)).value)) h 6 aQ V aM _ _ a5) ?_
     rintro _ _ _ - ⟨rfl, rfl, rfl⟩
     refine ⟨(Ic Mb2 (Ic Mb3 (Ic Mb5 (Ic Mb6 In0)))), ?_⟩
     have al := (aj.mono N).mono C
     obtain ⟨bG, aJ, aY⟩ := RowR.at al aa
     obtain rfl := aY
     refine Jq 5 Z (q4 (T := Ty.u64) Mb2 al aJ (qL aa).1 Z Z Z Z Z)<|Jl 6 (.int .u64 d) Z (rb (T := Ty.u64) Mb2 al aJ Z Z)<|?_
     refine qO 1 7 (by kernel_rfl) ?_ ?_
     ·refine id (Jyq Z (qs (v := (sv g)) Z Z Z (Rb1 Z)) ⟨(Ic Mb2 (Ic Mb3 (Ic Mb5 (Ic Mb6 In0)))), ?_⟩)
      refine Ao 7 Z ?_
      have aC : RowR Ty.u64 ah [[(.int .u64 d)]] [d] := RowR.cons Z (RowR.nil)
      refine qN (T := Ty.u64) (rows := [[(.int .u64 d)]]) (l := [d]) Z Z Z aC Z Z Z Z Z Z Z Z (fun bK => ⟨(Ic Mb3 (Ic Mb4 (Ic Mb6 (Ic Mb7 In0)))), ?_⟩)
      refine Ao 8 Z ?_
      have a7 := Y.mono C
      refine qJ (T := Ty.u64) (bytes := 8) (q := 0) Z Z Z a7 Mb5 Z (SrcT.row Mb0 aC Z) ap Z Z Z Z Z Z Z Z (fun au bp aT a6 => ⟨_, (.there (.there (.there (.there (.there .here))))), ⟨(Ic Mb3 (Ic Mb4 (Ic Mb6 (Ic Mb7 In0)))), ?_⟩⟩)
      refine Aw.shift (Re0 (Sd ⟨(Ic Mb2 (Ic Mb3 (Ic Mb5 (Ic Mb6 In0)))), ?_⟩))
      refine JF 9 1 Z ?_
      refine Ao 10 Z ?_
      refine So [(sv au)] (qw (qp.mk p J 0) r au) Z (.there .here) Z ⟨(Ic Mb2 (Ic Mb3 (Ic Mb5 (Ic Mb6 In0)))), ?_⟩
      refine Ad<|Pu6<|Pu6<|Pu6<|Pu6<|Pu6<|Pu6<|Pu6<|?_
      have a8 := am.mono aT
      exact Sd ⟨_, by exact R6, V, ((qg.mk p0.list z ((qg.mk p0.list k ((qg.mk p0.list b c).value)).value)).value), r, p, au, J, Z, Z, H, a8, a6⟩
     ·refine id (Jy Z ?_)
      have aD : RowR Ty.u64 ah [[(.int .u64 d)]] [d] := RowR.cons Z (RowR.nil)
      refine qN (T := Ty.u64) (rows := [[(.int .u64 d)]]) (l := [d]) Z Z Z aD Z Z Z Z Z Z Z Z (fun bL => ⟨(Ic Mb3 (Ic Mb4 (Ic Mb6 (Ic Mb7 In0)))), ?_⟩)
      refine qI 1 (by kernel_rfl) (Jyq Z (qs (v := (sv g)) Z Z Z (Rb2 Z)) ⟨(Ic Mb3 (Ic Mb4 (Ic Mb6 (Ic Mb7 In0)))), ?_⟩)
      refine Ao 8 Z ?_
      have ba := Y.mono C
      refine qJ (T := Ty.u64) (bytes := 8) (q := 0) Z Z Z ba Mb5 Z (SrcT.row Mb0 aD Z) ap Z Z Z Z Z Z Z Z (fun av bq aU a9 => ⟨_, (.there (.there (.there (.there (.there .here))))), ⟨(Ic Mb3 (Ic Mb4 (Ic Mb6 (Ic Mb7 In0)))), ?_⟩⟩)
      refine Aw.shift (Re0 (Sd ⟨(Ic Mb2 (Ic Mb3 (Ic Mb5 (Ic Mb6 In0)))), ?_⟩))
      refine JF 9 1 Z ?_
      refine Ao 10 Z ?_
      refine So [(sv av)] (qw (qp.mk p J 0) r av) Z (.there .here) Z ⟨(Ic Mb2 (Ic Mb3 (Ic Mb5 (Ic Mb6 In0)))), ?_⟩
      refine Ad<|Pu6<|Pu6<|Pu6<|Pu6<|Pu6<|Pu6<|Pu6<|?_
      have bb := am.mono aU
      exact Sd ⟨_, by exact R6, V, ((qg.mk p0.list z ((qg.mk p0.list k ((qg.mk p0.list b c).value)).value)).value), r, p, av, J, Z, Z, H, bb, a9⟩
   rintro _ br _ bA ⟨ae, af, S, Q, U, R, rfl, rfl, H, bf, bg⟩
   unfold x4 at H
   exact qf<|Em Z<|Er (wI (t + 1)) Z<|Ea Z<|qh<|Pu6<|Pu6<|Pu6<|Pu6<|Pu6<|Pu6<|Pu6<|Sd<|⟨_, by exact R6, _, Nat.lt_succ_self _, (wI (t + 1)), ae, af, S, Q, U, R, Z, Z, (aW ▸ H), bf, bg⟩
  ·intro M
   obtain ⟨M, H⟩ := If M H
   exact qY<|Pu4<|Pu4<|Pu4<|Pu4<|Pu4<|Re5<|Re5<|Sd<|⟨_, by exact R3, k, ((qg.mk p0.list b c).value), A, P, g, o, Z, Z, H, X, Y⟩
 rintro _ bs _ aV ⟨ac, ad, i, m, j, n, rfl, rfl, H, bd, be⟩
 unfold x3 at H
 refine qj<|qf<|Em Z<|?_
 obtain ⟨u, bm, bk, H⟩ := r0 H
 have bc := aH.mono aV
 refine qo Z (Ek Tryz.call21 Z (rC a (qg.mk p0.list ac ad) h 3 u bm bk _ _ bc) ?_)
 rintro _ _ _ - ⟨rfl, rfl, rfl⟩
 refine Er (wI (2 + u)) Z<|EF 2 Z<|?_
 refine qo Z (So [(Vi (wI (2 + u)))] (qw (qp.mk m n (wI (2 + u))) i j) Z (.there .here) Z ?_)
 refine qh<|qj<|qf<|EL 3 (qw (qp.mk m n (wI (2 + u))) i j) Z (Rb1 Z)<|?_
 refine qo Z (Sa (qw (qp.mk m n (wI (2 + u))) i j) Z (.there (.there .here)) Z ?_)
 refine qh<|qE<|?_
 obtain ⟨bw, bx, bz⟩ := sg H
 subst w D E
 refine ⟨(.inl Z), [(.agg (qw (qp.mk m n (wI (2 + u))) i j).toArray)], ⟨(.agg (qw (qp.mk m n (wI (2 + u))) i j).toArray), _, Z, ⟨_, 3, (qw (qp.mk m n (wI (2 + u))) i j), Z, Z, Z, Z, ⟨Z, Rb2 Z⟩, Z⟩, Z⟩, ?_⟩
 exact Pu4<|Pu4<|Pu2<|Re3<|Re3<|Sd<|⟨i, j, Z, Z, bd, be⟩
theorem sD (a : Nat) (p0 : qg) (b : SV) (p1 : qp) (e k : SV) (f g h : Int) (H : tL p0 p1 = some (f, g, h)) (K : Kp) (G : List Ent) (j : Slr Ty.u8 K (sv b) p0.list) (q : Slr Ty.i64 K (sv e) p1.capacities) (B : Slr Ty.u64 K (sv k) p1.starts) :
  Fc Tryz.prog 71 #[(Vp a), (.agg (qw p1 e k).toArray)] K ((.blk a 55 (qt p0 b)) :: G) (fun v s r => v = (Vi f) ∧ K = s ∧ (.blk a 55 (qt (qg.mk p0.list g h) b)) :: G = r) := by
 refine qR Tryz.func71 Z Tryz.ntmps71 Tryz.results71 Z ?_
 unfold tL at H
 refine qj<|qf<|?_
 refine qo Z (rf (cs := (qw p1 e k)) Z Z Z (fun A => ?_))
 refine Ea Z<|qh<|qj<|qj<|qf<|Em Z<|?_
 obtain ⟨x, l, t, H⟩ := r0 H
 refine Ow.shift (Pu1 (Sd ?_))
 refine qo Z (Ek Tryz.call21 Z (rC a p0 b 16 x l t _ _ j) ?_)
 rintro _ _ _ - ⟨rfl, rfl, rfl⟩
 refine Ec Z<|qh<|?_
 refine qy Z ?_ ?_
 ·intro c
  obtain ⟨c, H⟩ := It c H
  refine qj<|qf<|Em Z<|?_
  obtain ⟨i, y, u, H⟩ := r0 H
  refine qo Z (Ek Tryz.call21 Z (rC a (qg.mk p0.list l p0.value) b 9 i y u _ _ j) ?_)
  rintro _ _ _ - ⟨rfl, rfl, rfl⟩
  refine Er (wI (i - 1)) Z<|Ea Z<|qh<|qE<|?_
  obtain ⟨n, o, p⟩ := sg H
  subst f g h
  refine ⟨(.inl Z), [(Vi (wI (i - 1)))], ⟨(Vi (wI (i - 1))), _, Z, Z, Z⟩, ?_⟩
  exact Re1<|Sd<|⟨Z, Z, Z⟩
 ·intro c
  obtain ⟨c, H⟩ := If c H
  refine qA<|qj<|qj<|qf<|EF 0 Z<|El (sv e) Z (Rb1 Z)<|Eq Z (qV (T := Ty.i64) q Z Z)<|Ec Z<|qh<|?_
  refine qy Z ?_ ?_
  ·intro d
   obtain ⟨d, H⟩ := It d H
   refine qj<|qf<|Ea Z<|qh<|qE<|?_
   obtain ⟨n, o, p⟩ := sg H
   subst f g h
   refine ⟨(.inl Z), [(Vi (-1))], ⟨(Vi (-1)), _, Z, Z, Z⟩, ?_⟩
   exact Re1<|Sd<|⟨Z, Z, Z⟩
  ·intro d
   obtain ⟨d, H⟩ := If d H
   refine qA<|qj<|qf<|Em Z<|EF 0 Z<|El (sv e) Z (Rb1 Z)<|Eq Z (qV (T := Ty.i64) q Z Z)<|?_
   obtain ⟨m, z, w, H⟩ := r0 H
   refine qo Z (Ek Tryz.call21 Z (rC a (qg.mk p0.list l p0.value) b (p1.capacities.length : Int) m z w _ _ j) ?_)
   rintro _ _ _ - ⟨rfl, rfl, rfl⟩
   refine Ea Z<|qh<|qE<|?_
   obtain ⟨n, o, p⟩ := sg H
   subst f g h
   refine ⟨(.inl Z), [(Vi m)], ⟨(Vi m), _, Z, Z, Z⟩, ?_⟩
   exact Re1<|Sd<|⟨Z, Z, Z⟩
theorem y4 (b : Nat) (p0 : qg) (a : SV) (c d : Int) (H : vO p0 = some (c, d)) (K : Kp) (G : List Ent) (i : Slr Ty.u8 K (sv a) p0.list) :
  Fc Tryz.prog 72 #[(Vp b)] K ((.blk b 55 (qt p0 a)) :: G) (fun v f e => v = (.int .u64 c) ∧ K = f ∧ (.blk b 55 (qt (qg.mk p0.list p0.at_ d) a)) :: G = e) := by
 refine qR Tryz.func72 Z Tryz.ntmps72 Tryz.results72 Z ?_
 unfold vO at H
 refine qj<|qf<|Ea Z<|qh<|qj<|qf<|Em Z<|Eq Z (qm Z)<|EF 2 Z<|El (.int .u64 p0.value) Z (Rb0 Z)<|Er (wU (p0.value + 1)) Z<|Eq Z (qm Z)<|EF 2 Z<|?_
 refine qo Z (So [(.int .u64 (wU (p0.value + 1)))] (qt (qg.mk p0.list p0.at_ (wU (p0.value + 1))) a) Z .here Z ?_)
 refine qh<|qj<|qf<|Em Z<|Eq Z (qm Z)<|EF 2 Z<|El (.int .u64 (wU (p0.value + 1))) Z (Rb0 Z)<|Ea Z<|qh<|qE<|?_
 obtain ⟨g, h⟩ := ze H
 subst c d
 refine ⟨(.inl Z), [(.int .u64 (wU (p0.value + 1)))], ⟨(.int .u64 (wU (p0.value + 1))), _, Z, Z, Z⟩, ?_⟩
 exact Sd ⟨Z, Z, Z⟩
theorem yl (c : Nat) (p0 : qg) (j : SV) (p1 : Op) (a b : SV) (l : Op) (r s : Int) (H : wd p0 p1 = some (l, r, s)) (K : Kp) (G : List Ent) (D : Slr Ty.u8 K (sv j) p0.list) (J : Slr qK K (sv a) p1.cases) (L : Slr Ty.i64 K (sv b) p1.draws) :
  Fc Tryz.prog 70 #[(Vp c), (.agg (ql p1 a b).toArray)] K ((.blk c 55 (qt p0 j)) :: G) (fun v i n => ∃ (E F : SV), v = (.agg (ql l E F).toArray) ∧ K = i ∧ (.blk c 55 (qt (qg.mk p0.list r s) j)) :: G = n ∧ Slr qK i (sv E) l.cases ∧ Slr Ty.i64 i (sv F) l.draws) := by
 refine qR Tryz.func70 Z Tryz.ntmps70 Tryz.results70 Z ?_
 unfold wd at H
 refine qj<|qf<|?_
 refine qo Z (rf (cs := (ql p1 a b)) Z Z Z (fun t => ?_))
 refine qo Z (qU (cs := (ql (Op.mk 0 0 0 0 0 [] []) qx qx)) Z Z Z Z (fun u => ?_))
 refine qh ?_
 refine qG (fun x i n => ∃ (z A : Int) (m B : Int) (d e : Int) (f g h : Int), [(3, (Vp t)), (4, (Vp u))] = x ∧ K = i ∧ (.blk c 55 (qt (qg.mk p0.list z A) j)) :: (.blk u 70 (ql (Op.mk m m m B m [] []) qx qx)) :: (.blk t 70 (ql (Op.mk d e f g h p1.cases p1.draws) a b)) :: G = n ∧ uZ p0 p1 z A m B d e f g h = some (l, r, s)) ?_ ?_
 ·refine qj<|qf<|Em Z<|?_
  obtain ⟨q, k, M, H⟩ := r0 H
  refine Ow.shift (Pu2 (Sd ?_))
  refine qo Z (Ek Tryz.call21 Z (rC c p0 j 8 q k M _ _ D) ?_)
  rintro _ _ _ - ⟨rfl, rfl, rfl⟩
  refine qh<|qD<|?_
  refine qG (fun x i n => ∃ (C : Bool), [(0, (Vp c)), (3, (Vp t)), (4, (Vp u)), (6, (Vi q)), (7, (.bool C))] = x ∧ K = i ∧ (.blk c 55 (qt (qg.mk p0.list k p0.value) j)) :: (.blk u 70 (ql (Op.mk 0 0 0 0 0 [] []) qx qx)) :: (.blk t 70 (ql p1 a b)) :: G = n ∧ xi q p0 k p1 C = some (l, r, s)) ?_ ?_
  ·refine qj<|qf<|Ec Z<|Ea Z<|qh<|?_
   refine qy Z ?_ ?_
   ·intro o
    obtain ⟨o, H⟩ := It o H
    exact qA<|Pu2<|Pu2<|Pu2<|Sd<|⟨_, by exact R5, (dcd (q = 5)), Z, Z, Z, H⟩
   ·intro o
    obtain ⟨o, H⟩ := If o H
    exact qf<|Ec Z<|Ea Z<|qh<|Pu2<|Pu2<|Pu2<|Sd<|⟨_, by exact R5, (dcd (q = 6)), Z, Z, Z, H⟩
  rintro _ _ _ - ⟨C, rfl, rfl, rfl, H⟩
  unfold xi at H
  refine qy Z ?_ ?_
  ·intro y
   have H := ift y H
   refine qf<|EF 1 Z<|?_
   refine qo rfl (So [(Vi 1)] (ql (Op.mk p1.kind 1 p1.channel p1.value p1.deadline p1.cases p1.draws) a b) Z (.there (.there .here)) Z ?_)
   exact qh<|Pu2<|Pu2<|Pu2<|Sd<|⟨_, by exact R2, k, p0.value, 0, 0, p1.kind, 1, p1.channel, p1.value, p1.deadline, Z, Z, Z, H⟩
  ·intro y
   have H := qZ (btf y) H
   refine qj<|qf<|Ec Z<|Ea Z<|qh<|?_
   refine qy Z ?_ ?_
   ·intro p
    obtain ⟨p, H⟩ := It p H
    refine qf<|Em Z<|?_
    obtain ⟨w, I, N, H⟩ := r0 H
    refine qo Z (Ek Tryz.call21 Z (rC c (qg.mk p0.list k p0.value) j 5 w I N _ _ D) ?_)
    rintro _ _ _ - ⟨rfl, rfl, rfl⟩
    refine EF 1 Z ?_
    refine qo rfl (So [(Vi 2)] (ql (Op.mk p1.kind 2 p1.channel p1.value p1.deadline p1.cases p1.draws) a b) Z (.there (.there .here)) Z ?_)
    refine EF 4 Z ?_
    refine qo rfl (So [(Vi w)] (ql (Op.mk p1.kind 2 p1.channel p1.value w p1.cases p1.draws) a b) Z (.there (.there .here)) Z ?_)
    exact qh<|Pu2<|Pu2<|Pu2<|Sd<|⟨_, by exact R2, I, ((qg.mk p0.list k p0.value).value), 0, 0, p1.kind, 2, p1.channel, p1.value, w, Z, Z, Z, H⟩
   ·intro p
    obtain ⟨p, H⟩ := If p H
    exact qA<|Pu2<|Pu2<|Pu2<|Sd<|⟨_, by exact R2, k, p0.value, 0, 0, p1.kind, p1.mode, p1.channel, p1.value, p1.deadline, Z, Z, Z, H⟩
 rintro _ _ _ - ⟨z, A, m, B, d, e, f, g, h, rfl, rfl, rfl, H⟩
 unfold uZ at H
 refine qj<|qf<|EL 7 (ql (Op.mk d e f g h p1.cases p1.draws) a b) Z (Rb2 Z)<|?_
 refine qo rfl (Sa (ql (Op.mk d e f g h p1.cases p1.draws) a b) Z (.there .here) Z ?_)
 refine qh<|qE<|?_
 obtain ⟨O, P, Q⟩ := sg H
 subst l r s
 refine ⟨(.inl rfl), [(.agg (ql (Op.mk d e f g h p1.cases p1.draws) a b).toArray)], ⟨(.agg (ql (Op.mk d e f g h p1.cases p1.draws) a b).toArray), _, rfl, ⟨_, 7, (ql (Op.mk d e f g h p1.cases p1.draws) a b), rfl, rfl, rfl, rfl, ⟨rfl, Rb1 Z⟩, rfl⟩, rfl⟩, ?_⟩
 exact Re1<|Re1<|Sd<|⟨a, b, Z, Z, Z, J, L⟩
theorem CX (a : Nat) (p0 : qg) (b : SV) (p1 : qp) (k m : SV) (p2 : Int) (w : Op) (F I : Int) (H : vP p0 p1 p2 = some (w, F, I)) (K : Kp) (G : List Ent) (aI : Slr Ty.u8 K (sv b) p0.list) (av : Slr Ty.i64 K (sv k) p1.capacities) (aw : Slr Ty.u64 K (sv m) p1.starts) :
  Fc Tryz.prog 73 #[(Vp a), (.agg (qw p1 k m).toArray), (Vi p2)] K ((.blk a 55 (qt p0 b)) :: G) (fun v c i => ∃ (aN aO : SV), v = (.agg (ql w aN aO).toArray) ∧ (.blk a 55 (qt (qg.mk p0.list F I) b)) :: G = i ∧ Slr qK c (sv aN) w.cases ∧ Slr Ty.i64 c (sv aO) w.draws) := by
 refine qR Tryz.func73 Z Tryz.ntmps73 Tryz.results73 Z ?_
 unfold vP at H
 refine qj<|qf<|?_
 refine qo Z (rf (cs := (qw p1 k m)) Z Z Z (fun A => ?_))
 refine qo Z (qU (cs := (ql (Op.mk 0 0 0 0 0 [] []) qx qx)) Z Z Z Z (fun o => ?_))
 refine qh<|qj<|qf<|Eq Z (q3 (cs := (ql (Op.mk 4 0 0 0 0 [] []) qx qx)) Z Z Z Z Z Z)<|?_
 refine qo Z (qU (cs := (ql (Op.mk 0 0 0 0 0 [] []) qx qx)) Z Z Z Z (fun p => ?_))
 refine qo Z (Sa (ql (Op.mk 4 0 0 0 0 [] []) qx qx) Z .here Z ?_)
 refine qh ?_
 refine qG (fun x c i => ∃ (al am : Int) (R : SV) (P : ab5) (S : SV) (Q : ab3), [(0, (Vp a)), (6, (Vp o)), (7, (Vp p))] = x ∧ (.blk a 55 (qt (qg.mk p0.list al am) b)) :: (.blk p 70 (ql (Op.mk 4 0 0 0 0 P Q) R S)) :: (.blk o 70 (ql (Op.mk 0 0 0 0 0 [] []) qx qx)) :: (.tok 101 3 [(sv R)]) :: (.tok 3 1 [(sv S)]) :: G = i ∧ x7 p0 al am P Q = some (w, F, I) ∧ Slr qK c (sv R) P ∧ Slr Ty.i64 c (sv S) Q) ?_ ?_
 ·refine qj<|qf<|Ea Z<|qh<|qD<|?_
  refine qW (fun aM x c i => ∃ (d r s : Int) (u : SV) (z : ab5) (f : SV) (t : ab3), [(0, (Vp a)), (2, (Vi p2)), (4, (Vp A)), (6, (Vp o)), (7, (Vp p)), (8, (Vi d))] = x ∧ (.blk a 55 (qt (qg.mk p0.list r s) b)) :: (.blk p 70 (ql (Op.mk 4 0 0 0 0 z t) u f)) :: (.blk o 70 (ql (Op.mk 0 0 0 0 0 [] []) qx qx)) :: (.blk A 30 (qw p1 k m)) :: (.tok 101 3 [(sv u)]) :: (.tok 3 1 [(sv f)]) :: G = i ∧ lp5 (ya p2 p0 p1) aM d r s z t = some (w, F, I) ∧ Slr qK c (sv u) z ∧ Slr Ty.i64 c (sv f) t) BIG ?_ ?_
  ·exact Shift.nilTok1 101 3<|Shift.nilTok1 3 1<|Pu1<|Pu4<|Pu4<|Pu4<|Pu5<|Sd<|⟨_, by exact R6, 0, p0.at_, p0.value, qx, ([] : ab5), qx, ([] : ab3), Z, Z, H, (Slr.nil qK _), (Slr.nil Ty.i64 _)⟩
  rintro aM _ aq _ J ⟨d, r, s, u, z, f, t, rfl, rfl, H, aJ, ak⟩
  obtain ⟨bD, aA, rfl, aX, H⟩ := lps5 H
  unfold ya at H
  refine qj<|qj<|qf<|Em Z<|Em Z<|Em Z<|Er (wI (p2 + 1)) Z<|?_
  obtain ⟨bq, L, bm, H⟩ := r0 H
  have y := aI.mono J
  refine qo Z (Ek Tryz.call21 Z (rC a (qg.mk p0.list r s) b (wI (p2 + 1)) bq L bm _ _ y) ?_)
  rintro _ _ _ - ⟨rfl, rfl, rfl⟩
  refine Ec Z<|qh<|?_
  refine qy Z ?_ ?_
  ·intro Y
   obtain ⟨Y, H⟩ := It Y H
   refine qA ?_
   refine qG (fun x c i => ∃ (an ao : Int) (ad : SV) (ab : ab5) (ae : SV) (ac : ab3), [(0, (Vp a)), (2, (Vi p2)), (4, (Vp A)), (6, (Vp o)), (7, (Vp p)), (8, (Vi d))] = x ∧ (.blk a 55 (qt (qg.mk p0.list an ao) b)) :: (.blk p 70 (ql (Op.mk 4 0 0 0 0 ab ac) ad ae)) :: (.blk o 70 (ql (Op.mk 0 0 0 0 0 [] []) qx qx)) :: (.blk A 30 (qw p1 k m)) :: (.tok 101 3 [(sv ad)]) :: (.tok 3 1 [(sv ae)]) :: G = i ∧ x8 p2 d p0 p1 aA an ao ab ac = some (w, F, I) ∧ Slr qK c (sv ad) ab ∧ Slr Ty.i64 c (sv ae) ac) ?_ ?_
   ·refine qD ?_
    refine qG (fun x c i => ∃ (X : Nat) (N O : Int) (g : Bool) (j : Int), [(0, (Vp a)), (2, (Vi p2)), (4, (Vp A)), (6, (Vp o)), (7, (Vp p)), (8, (Vi d)), (9, (Vp X))] = x ∧ aq = c ∧ (.blk a 55 (qt (qg.mk p0.list N O) b)) :: (.blk X 101 (qC (Case.mk g j 0))) :: (.blk p 70 (ql (Op.mk 4 0 0 0 0 z t) u f)) :: (.blk o 70 (ql (Op.mk 0 0 0 0 0 [] []) qx qx)) :: (.blk A 30 (qw p1 k m)) :: (.tok 101 3 [(sv u)]) :: (.tok 3 1 [(sv f)]) :: G = i ∧ x9 p2 d p0 z t p1 aA N O g j = some (w, F, I)) ?_ ?_
    ·obtain ⟨n, ah, aK, H⟩ := r0 H
     obtain ⟨h, U, V, ay, H⟩ := rP H
     refine qQ _ Z (Ic Mb1 (Ic Mb2 (Ic Mb3 (Ic Mb4 (Ic Mb5 In0)))))<|Jm 0 Z<|Jm 3 Z<|JL 4 3 (qw p1 k m) Z (Rb2 Z)<|?_
     refine qO 1 7 (by kernel_rfl) ?_ ?_
     ·refine id (Jy Z ?_)
      refine Ek Tryz.call21 Z (rC a (qg.mk p0.list L ((qg.mk p0.list r s).value)) b 2 n ah aK _ _ y) ?_
      rintro _ _ _ - ⟨rfl, rfl, rfl⟩
      refine ⟨(Ic Mb1 (Ic Mb2 (Ic Mb3 (Ic Mb4 (Ic Mb5 In0))))), ?_⟩
      refine Jc 2 Z ?_
      refine qO 5 7 (by kernel_rfl) ?_ ?_
      ·refine id (Jy Z ?_)
       have a2 := av.mono J
       have a3 := aw.mono J
       refine Ek Tryz.call71 Z (sD a (qg.mk p0.list ah ((qg.mk p0.list L ((qg.mk p0.list r s).value)).value)) b p1 k m h U V ay _ _ y a2 a3) ?_
       rintro _ _ _ - ⟨rfl, rfl, rfl⟩
       refine ⟨(Ic Mb1 (Ic Mb2 (Ic Mb3 (Ic Mb4 (Ic Mb5 In0))))), ?_⟩
       refine Jq 6 Z (q3 (cs := (qC (Case.mk (dcd (n = 1)) h 0))) Z Z Z Z Z Z) ?_
       refine Ao 7 Z ?_
       refine qU (cs := (qC (Case.mk false 0 0))) Z Z Z Z (fun aQ => ⟨(Ic Mb2 (Ic Mb3 (Ic Mb4 (Ic Mb5 (Ic Mb6 In0))))), ?_⟩)
       refine Ao 8 Z ?_
       refine Sa (qC (Case.mk (dcd (n = 1)) h 0)) Z .here Z ⟨(Ic Mb2 (Ic Mb3 (Ic Mb4 (Ic Mb5 (Ic Mb6 In0))))), ?_⟩
       exact Ad<|Pu6<|Pu6<|Pu6<|Pu6<|Pu6<|Pu5<|Pu6<|Sd<|⟨_, by exact R7, aQ, U, V, (dcd (n = 1)), h, Z, Z, Z, H⟩
      ·refine id (Jy Z ?_)
       refine qU (cs := (qC (Case.mk false 0 0))) Z Z Z Z (fun aR => ⟨(Ic Mb2 (Ic Mb3 (Ic Mb4 (Ic Mb5 (Ic Mb6 In0))))), ?_⟩)
       refine Ao 5 Z ?_
       refine OpW.shift (Pu1 (Sd ?_))
       have a4 := av.mono J
       have a5 := aw.mono J
       refine Ek Tryz.call71 Z (sD a (qg.mk p0.list ah ((qg.mk p0.list L ((qg.mk p0.list r s).value)).value)) b p1 k m h U V ay _ _ y a4 a5) ?_
       rintro _ _ _ - ⟨rfl, rfl, rfl⟩
       refine ⟨(Ic Mb2 (Ic Mb3 (Ic Mb4 (Ic Mb5 (Ic Mb6 In0))))), ?_⟩
       refine Jq 6 Z (q3 (cs := (qC (Case.mk (dcd (n = 1)) h 0))) Z Z Z Z Z Z) ?_
       refine Ao 8 Z ?_
       refine Sa (qC (Case.mk (dcd (n = 1)) h 0)) Z (.there .here) Z ⟨(Ic Mb2 (Ic Mb3 (Ic Mb4 (Ic Mb5 (Ic Mb6 In0))))), ?_⟩
       exact Ad<|Pu6<|Pu6<|Pu6<|Pu6<|Pu6<|Pu6<|Pu6<|Sd<|⟨_, by exact R7, aR, U, V, (dcd (n = 1)), h, Z, Z, Z, H⟩
     ·refine id (Jy Z ?_)
      refine qU (cs := (qC (Case.mk false 0 0))) Z Z Z Z (fun aS => ⟨(Ic Mb2 (Ic Mb3 (Ic Mb4 (Ic Mb5 (Ic Mb6 In0))))), ?_⟩)
      refine Ao 1 Z ?_
      refine OpW.shift (Pu1 (Sd ?_))
      refine Ek Tryz.call21 Z (rC a (qg.mk p0.list L ((qg.mk p0.list r s).value)) b 2 n ah aK _ _ y) ?_
      rintro _ _ _ - ⟨rfl, rfl, rfl⟩
      refine ⟨(Ic Mb2 (Ic Mb3 (Ic Mb4 (Ic Mb5 (Ic Mb6 In0))))), ?_⟩
      refine Jc 2 Z ?_
      refine Ao 5 Z ?_
      have a6 := av.mono J
      have a7 := aw.mono J
      refine Ek Tryz.call71 Z (sD a (qg.mk p0.list ah ((qg.mk p0.list L ((qg.mk p0.list r s).value)).value)) b p1 k m h U V ay _ _ y a6 a7) ?_
      rintro _ _ _ - ⟨rfl, rfl, rfl⟩
      refine ⟨(Ic Mb2 (Ic Mb3 (Ic Mb4 (Ic Mb5 (Ic Mb6 In0))))), ?_⟩
      refine Jq 6 Z (q3 (cs := (qC (Case.mk (dcd (n = 1)) h 0))) Z Z Z Z Z Z) ?_
      refine Ao 8 Z ?_
      refine Sa (qC (Case.mk (dcd (n = 1)) h 0)) Z (.there .here) Z ⟨(Ic Mb2 (Ic Mb3 (Ic Mb4 (Ic Mb5 (Ic Mb6 In0))))), ?_⟩
      exact Ad<|Pu6<|Pu6<|Pu6<|Pu6<|Pu6<|Pu6<|Pu6<|Sd<|⟨_, by exact R7, aS, U, V, (dcd (n = 1)), h, Z, Z, Z, H⟩
    rintro _ _ _ - ⟨X, N, O, g, j, rfl, rfl, rfl, H⟩
    unfold x9 at H
    refine qG (fun x c i => ∃ (B C D : Int), [(0, (Vp a)), (2, (Vi p2)), (4, (Vp A)), (6, (Vp o)), (7, (Vp p)), (8, (Vi d)), (9, (Vp X))] = x ∧ aq = c ∧ (.blk a 55 (qt (qg.mk p0.list B C) b)) :: (.blk X 101 (qC (Case.mk g j D))) :: (.blk p 70 (ql (Op.mk 4 0 0 0 0 z t) u f)) :: (.blk o 70 (ql (Op.mk 0 0 0 0 0 [] []) qx qx)) :: (.blk A 30 (qw p1 k m)) :: (.tok 101 3 [(sv u)]) :: (.tok 3 1 [(sv f)]) :: G = i ∧ xj p2 d p0 g j z t p1 aA B C D = some (w, F, I)) ?_ ?_
    ·refine qj<|qf<|EF 0 Z<|El (.bool g) Z (Rb1 Z)<|qh<|?_
     refine qy Z ?_ ?_
     ·intro au
      have H := ift au H
      refine qf<|Em Z<|?_
      obtain ⟨ap, aP, bn, H⟩ := r0 H
      refine qo Z (Ek Tryz.call72 Z (y4 a (qg.mk p0.list N O) b ap aP bn _ _ y) ?_)
      rintro _ _ _ - ⟨rfl, rfl, rfl⟩
      refine EF 2 Z ?_
      refine qo Z (So [(.int .u64 ap)] (qC (Case.mk g j ap)) Z (.there .here) Z ?_)
      exact qh<|Pu6<|Pu6<|Pu6<|Pu6<|Pu6<|Pu6<|Pu6<|Sd<|⟨_, by exact R7, ((qg.mk p0.list N O).at_), aP, ap, Z, Z, Z, H⟩
     ·intro au
      have H := qZ (btf au) H
      exact qA<|Pu6<|Pu6<|Pu6<|Pu6<|Pu6<|Pu6<|Pu6<|Sd<|⟨_, by exact R7, N, O, 0, Z, Z, Z, H⟩
    rintro _ _ _ - ⟨B, C, D, rfl, rfl, rfl, H⟩
    unfold xj at H
    refine qj<|qf<|EF 5 Z<|El (sv u) Z (Rb2 Z)<|EL 3 (qC (Case.mk g j D)) Z (Rb1 Z)<|?_
    have aE : RowR qK aq [(qC (Case.mk g j D))] [(Case.mk g j D)] := RowR.cons Z (RowR.nil)
    refine qo Z (qN (T := qK) (rows := [(qC (Case.mk g j D))]) (l := [(Case.mk g j D)]) Z Z Z aE Z Z Z Z Z Z Z Z (fun bE => ?_))
    obtain ⟨M, bo, H⟩ := bnd H
    refine qo Z (qJ (T := qK) (bytes := 24) (q := 0) Z Z Z aJ Mb6 Z (SrcT.row Mb0 aE Z) bo Z Z Z Z Z Z Z Z (fun E ar aa ax => ⟨_, (.there (.there (.there (.there (.there (.there .here)))))), ?_⟩))
    refine Ow.shift (Re0 (Sd ?_))
    refine EF 5 Z ?_
    refine qo Z (So [(sv E)] (ql (Op.mk 4 0 0 0 0 M t) E f) Z (.there (.there .here)) Z ?_)
    refine qh ?_
    obtain ⟨e, ai, aL, H⟩ := r0 H
    obtain ⟨W, az, H⟩ := bnd H
    refine qQ _ Z (Ic Mb1 (Ic Mb3 (Ic Mb4 (Ic Mb5 In0))))<|JF 0 6 Z<|Jm 2 Z<|Jm 3 Z<|Jr 4 (wI (d + 1)) Z<|?_
    refine qO 1 5 (by kernel_rfl) ?_ ?_
    ·refine id (Jyq Z (qs (v := (sv f)) Z Z Z (Rb2 Z)) ⟨(Ic Mb1 (Ic Mb3 (Ic Mb4 (Ic Mb5 In0)))), ?_⟩)
     refine Ao 5 Z ?_
     have a8 := y.mono aa
     refine Ek Tryz.call21 Z (rC a (qg.mk p0.list B C) b (wI (d + 1)) e ai aL _ _ a8) ?_
     rintro _ _ _ - ⟨rfl, rfl, rfl⟩
     refine ⟨(Ic Mb1 (Ic Mb3 (Ic Mb4 (Ic Mb5 In0)))), ?_⟩
     refine Ao 6 Z ?_
     have aF : RowR Ty.i64 ar [[(Vi e)]] [e] := RowR.cons Z (RowR.nil)
     refine qN (T := Ty.i64) (rows := [[(Vi e)]]) (l := [e]) Z Z Z aF Z Z Z Z Z Z Z Z (fun bF => ⟨(Ic Mb2 (Ic Mb4 (Ic Mb5 (Ic Mb6 In0)))), ?_⟩)
     refine Ao 7 Z ?_
     have ba := ak.mono aa
     refine qJ (T := Ty.i64) (bytes := 8) (q := 0) Z Z Z ba Mb7 Z (SrcT.row Mb0 aF Z) az Z Z Z Z Z Z Z Z (fun aB bt aT a9 => ⟨_, (.there (.there (.there (.there (.there (.there (.there .here))))))), ⟨(Ic Mb2 (Ic Mb4 (Ic Mb5 (Ic Mb6 In0)))), ?_⟩⟩)
     refine Aw.shift (Re0 (Sd ⟨(Ic Mb1 (Ic Mb3 (Ic Mb4 (Ic Mb5 In0)))), ?_⟩))
     refine JF 8 6 Z ?_
     refine Ao 9 Z ?_
     refine So [(sv aB)] (ql (Op.mk 4 0 0 0 0 M W) E aB) Z (.there (.there .here)) Z ⟨(Ic Mb1 (Ic Mb3 (Ic Mb4 (Ic Mb5 In0)))), ?_⟩
     refine Ad<|Pu6<|Pu6<|Pu6<|Pu6<|Pu6<|Pu5<|Re6<|?_
     have bb := ax.mono aT
     exact Sd ⟨_, by exact R6, ai, ((qg.mk p0.list B C).value), E, M, aB, W, Z, Z, H, bb, a9⟩
    ·refine id (Jy Z ?_)
     have bc := y.mono aa
     refine Ek Tryz.call21 Z (rC a (qg.mk p0.list B C) b (wI (d + 1)) e ai aL _ _ bc) ?_
     rintro _ _ _ - ⟨rfl, rfl, rfl⟩
     refine ⟨(Ic Mb1 (Ic Mb3 (Ic Mb4 (Ic Mb5 In0)))), ?_⟩
     refine qO 1 6 (by kernel_rfl) ?_ ?_
     ·refine id (Jyq Z (qs (v := (sv f)) Z Z Z (Rb2 Z)) ⟨(Ic Mb1 (Ic Mb3 (Ic Mb4 (Ic Mb5 In0)))), ?_⟩)
      refine Ao 6 Z ?_
      have aG : RowR Ty.i64 ar [[(Vi e)]] [e] := RowR.cons Z (RowR.nil)
      refine qN (T := Ty.i64) (rows := [[(Vi e)]]) (l := [e]) Z Z Z aG Z Z Z Z Z Z Z Z (fun bG => ⟨(Ic Mb2 (Ic Mb4 (Ic Mb5 (Ic Mb6 In0)))), ?_⟩)
      refine Ao 7 Z ?_
      have be := ak.mono aa
      refine qJ (T := Ty.i64) (bytes := 8) (q := 0) Z Z Z be Mb7 Z (SrcT.row Mb0 aG Z) az Z Z Z Z Z Z Z Z (fun aC bu aU bd => ⟨_, (.there (.there (.there (.there (.there (.there (.there .here))))))), ⟨(Ic Mb2 (Ic Mb4 (Ic Mb5 (Ic Mb6 In0)))), ?_⟩⟩)
      refine Aw.shift (Re0 (Sd ⟨(Ic Mb1 (Ic Mb3 (Ic Mb4 (Ic Mb5 In0)))), ?_⟩))
      refine JF 8 6 Z ?_
      refine Ao 9 Z ?_
      refine So [(sv aC)] (ql (Op.mk 4 0 0 0 0 M W) E aC) Z (.there (.there .here)) Z ⟨(Ic Mb1 (Ic Mb3 (Ic Mb4 (Ic Mb5 In0)))), ?_⟩
      refine Ad<|Pu6<|Pu6<|Pu6<|Pu6<|Pu6<|Pu5<|Re6<|?_
      have bf := ax.mono aU
      exact Sd ⟨_, by exact R6, ai, ((qg.mk p0.list B C).value), E, M, aC, W, Z, Z, H, bf, bd⟩
     ·refine id (Jy Z ?_)
      have aH : RowR Ty.i64 ar [[(Vi e)]] [e] := RowR.cons Z (RowR.nil)
      refine qN (T := Ty.i64) (rows := [[(Vi e)]]) (l := [e]) Z Z Z aH Z Z Z Z Z Z Z Z (fun bH => ⟨(Ic Mb2 (Ic Mb4 (Ic Mb5 (Ic Mb6 In0)))), ?_⟩)
      refine qI 1 (by kernel_rfl) (Jyq Z (qs (v := (sv f)) Z Z Z (Rb3 Z)) ⟨(Ic Mb2 (Ic Mb4 (Ic Mb5 (Ic Mb6 In0)))), ?_⟩)
      refine Ao 7 Z ?_
      have bh := ak.mono aa
      refine qJ (T := Ty.i64) (bytes := 8) (q := 0) Z Z Z bh Mb7 Z (SrcT.row Mb0 aH Z) az Z Z Z Z Z Z Z Z (fun aD bv aV bg => ⟨_, (.there (.there (.there (.there (.there (.there (.there .here))))))), ⟨(Ic Mb2 (Ic Mb4 (Ic Mb5 (Ic Mb6 In0)))), ?_⟩⟩)
      refine Aw.shift (Re0 (Sd ⟨(Ic Mb1 (Ic Mb3 (Ic Mb4 (Ic Mb5 In0)))), ?_⟩))
      refine JF 8 6 Z ?_
      refine Ao 9 Z ?_
      refine So [(sv aD)] (ql (Op.mk 4 0 0 0 0 M W) E aD) Z (.there (.there .here)) Z ⟨(Ic Mb1 (Ic Mb3 (Ic Mb4 (Ic Mb5 In0)))), ?_⟩
      refine Ad<|Pu6<|Pu6<|Pu6<|Pu6<|Pu6<|Pu5<|Re6<|?_
      have bi := ax.mono aV
      exact Sd ⟨_, by exact R6, ai, ((qg.mk p0.list B C).value), E, M, aD, W, Z, Z, H, bi, bg⟩
   rintro _ bw _ bC ⟨an, ao, ad, ab, ae, ac, rfl, rfl, H, a0, a1⟩
   unfold x8 at H
   exact qf<|Em Z<|Er (wI (d + 1)) Z<|Ea Z<|qh<|Pu5<|Pu5<|Pu5<|Pu5<|Pu5<|Pu5<|Sd<|⟨_, by exact R6, _, Nat.lt_succ_self _, (wI (d + 1)), an, ao, ad, ab, ae, ac, Z, Z, (aX ▸ H), a0, a1⟩
  ·intro Y
   obtain ⟨Y, H⟩ := If Y H
   exact qY<|Pu5<|Pu5<|Pu4<|Pu4<|Pu4<|Re5<|Sd<|⟨_, by exact R3, L, ((qg.mk p0.list r s).value), u, z, f, t, Z, Z, H, aJ, ak⟩
 rintro _ bx _ aW ⟨al, am, R, P, S, Q, rfl, rfl, H, aY, aZ⟩
 unfold x7 at H
 refine qj<|qf<|Em Z<|EL 7 (ql (Op.mk 4 0 0 0 0 P Q) R S) Z (Rb1 Z)<|?_
 obtain ⟨aj, br, bs, bp, H⟩ := rP H
 have bj := aI.mono aW
 refine qo Z (Ek Tryz.call70 Z (yl a (qg.mk p0.list al am) b (Op.mk 4 0 0 0 0 P Q) R S aj br bs bp _ _ bj aY aZ) ?_)
 rintro _ _ _ - ⟨af, ag, rfl, rfl, rfl, bk, bl⟩
 refine qo Z (Sa (ql aj af ag) Z (.there (.there .here)) Z ?_)
 refine qh<|qE<|?_
 obtain ⟨bz, bA, bB⟩ := sg H
 subst w F I
 refine ⟨(.inl Z), [(.agg (ql aj af ag).toArray)], ⟨(.agg (ql aj af ag).toArray), _, Z, ⟨_, 7, (ql aj af ag), Z, Z, Z, Z, ⟨Z, Rb2 Z⟩, Z⟩, Z⟩, ?_⟩
 exact Re1<|Re1<|Re1<|Re1<|Sd<|⟨af, ag, Z, Z, bk, bl⟩
theorem yn (c : Nat) (p0 : qg) (d : SV) (p1 : qp) (a b : SV) (f : Op) (g h : Int) (H : yP p0 p1 = some (f, g, h)) (K : Kp) (G : List Ent) (e : Slr Ty.u8 K (sv d) p0.list) (j : Slr Ty.i64 K (sv a) p1.capacities) (k : Slr Ty.u64 K (sv b) p1.starts) :
  Fc Tryz.prog 40 #[(Vp c), (.agg (qw p1 a b).toArray)] K ((.blk c 55 (qt p0 d)) :: G) (fun v O U => ∃ (P Q : SV), v = (.agg (ql f P Q).toArray) ∧ (.blk c 55 (qt (qg.mk p0.list g h) d)) :: G = U ∧ Slr qK O (sv P) f.cases ∧ Slr Ty.i64 O (sv Q) f.draws) := by
 refine qR Tryz.func40 Z Tryz.ntmps40 Tryz.results40 Z ?_
 unfold yP at H
 refine qj<|qf<|?_
 refine qo Z (rf (cs := (qw p1 a b)) Z Z Z (fun aC => ?_))
 refine qo Z (qU (cs := (ql (Op.mk 0 0 0 0 0 [] []) qx qx)) Z Z Z Z (fun aD => ?_))
 refine qh<|qj<|qj<|qf<|Em Z<|?_
 obtain ⟨am, i, ac, H⟩ := r0 H
 refine Ow.shift (Pu2 (Sd ?_))
 refine qo Z (Ek Tryz.call21 Z (rC c p0 d 20 am i ac _ _ e) ?_)
 rintro _ _ _ - ⟨rfl, rfl, rfl⟩
 refine Ea Z<|qh<|qD<|qj<|qf<|Em Z<|Ec Z<|Ea Z<|qh<|?_
 refine qy Z ?_ ?_
 ·intro r
  obtain ⟨r, H⟩ := It r H
  refine qj<|qf<|Em Z<|Em Z<|EL 3 (qw p1 a b) Z (Rb2 Z)<|?_
  obtain ⟨I, J, L, ad, H⟩ := rP H
  refine qo Z (Ek Tryz.call71 Z (sD c (qg.mk p0.list i p0.value) d p1 a b I J L ad _ _ e j k) ?_)
  rintro _ _ _ - ⟨rfl, rfl, rfl⟩
  refine Em Z ?_
  obtain ⟨M, R, ae, H⟩ := r0 H
  refine qo Z (Ek Tryz.call72 Z (y4 c (qg.mk p0.list J L) d M R ae _ _ e) ?_)
  rintro _ _ _ - ⟨rfl, rfl, rfl⟩
  refine Eq Z (q3 (cs := (ql (Op.mk 1 0 I M 0 [] []) qx qx)) Z Z Z Z Z Z) ?_
  obtain ⟨D, an, ao, af, H⟩ := rP H
  refine qo Z (Ek Tryz.call70 Z (yl c (qg.mk p0.list ((qg.mk p0.list J L).at_) R) d (Op.mk 1 0 I M 0 [] []) qx qx D an ao af _ _ e (Slr.nil qK _) (Slr.nil Ty.i64 _)) ?_)
  rintro _ _ _ - ⟨x, y, rfl, rfl, rfl, V, W⟩
  refine qo Z (Sa (ql D x y) Z (.there .here) Z ?_)
  refine qh<|qE<|?_
  obtain ⟨o, p, q⟩ := sg H
  subst f g h
  refine ⟨(.inl Z), [(.agg (ql D x y).toArray)], ⟨(.agg (ql D x y).toArray), _, Z, ⟨_, 7, (ql D x y), Z, Z, Z, Z, ⟨Z, Rb1 Z⟩, Z⟩, Z⟩, ?_⟩
  exact Re1<|Re1<|Sd<|⟨x, y, Z, Z, V, W⟩
 ·intro r
  obtain ⟨r, H⟩ := If r H
  refine qj<|qf<|Em Z<|Ec Z<|Ea Z<|qh<|?_
  refine qy Z ?_ ?_
  ·intro s
   obtain ⟨s, H⟩ := It s H
   refine qj<|qf<|Em Z<|Em Z<|EL 3 (qw p1 a b) Z (Rb2 Z)<|?_
   obtain ⟨N, S, T, ag, H⟩ := rP H
   refine qo Z (Ek Tryz.call71 Z (sD c (qg.mk p0.list i p0.value) d p1 a b N S T ag _ _ e j k) ?_)
   rintro _ _ _ - ⟨rfl, rfl, rfl⟩
   refine Eq Z (q3 (cs := (ql (Op.mk 2 0 N 0 0 [] []) qx qx)) Z Z Z Z Z Z) ?_
   obtain ⟨E, ap, aq, ah, H⟩ := rP H
   refine qo Z (Ek Tryz.call70 Z (yl c (qg.mk p0.list S T) d (Op.mk 2 0 N 0 0 [] []) qx qx E ap aq ah _ _ e (Slr.nil qK _) (Slr.nil Ty.i64 _)) ?_)
   rintro _ _ _ - ⟨z, A, rfl, rfl, rfl, X, Y⟩
   refine qo Z (Sa (ql E z A) Z (.there .here) Z ?_)
   refine qh<|qE<|?_
   obtain ⟨o, p, q⟩ := sg H
   subst f g h
   refine ⟨(.inl Z), [(.agg (ql E z A).toArray)], ⟨(.agg (ql E z A).toArray), _, Z, ⟨_, 7, (ql E z A), Z, Z, Z, Z, ⟨Z, Rb1 Z⟩, Z⟩, Z⟩, ?_⟩
   exact Re1<|Re1<|Sd<|⟨z, A, Z, Z, X, Y⟩
  ·intro s
   obtain ⟨s, H⟩ := If s H
   refine qj<|qf<|Em Z<|Ec Z<|Ea Z<|qh<|?_
   refine qy Z ?_ ?_
   ·intro t
    obtain ⟨t, H⟩ := It t H
    refine qj<|qf<|Em Z<|EL 3 (qw p1 a b) Z (Rb2 Z)<|?_
    obtain ⟨F, ar, au, ai, H⟩ := rP H
    refine qo Z (Ek Tryz.call73 Z (CX c (qg.mk p0.list i p0.value) d p1 a b 4 F ar au ai _ _ e j k) ?_)
    rintro _ aB _ aE ⟨B, C, rfl, rfl, aa, ab⟩
    refine qo Z (Sa (ql F B C) Z (.there .here) Z ?_)
    refine qh<|qE<|?_
    obtain ⟨o, p, q⟩ := sg H
    subst f g h
    refine ⟨(.inl Z), [(.agg (ql F B C).toArray)], ⟨(.agg (ql F B C).toArray), _, Z, ⟨_, 7, (ql F B C), Z, Z, Z, Z, ⟨Z, Rb1 Z⟩, Z⟩, Z⟩, ?_⟩
    exact Re1<|Re1<|Sd<|⟨B, C, Z, Z, aa, ab⟩
   ·intro t
    obtain ⟨t, H⟩ := If t H
    refine qj<|qf<|Em Z<|Ec Z<|Ea Z<|qh<|?_
    refine qy Z ?_ ?_
    ·intro u
     obtain ⟨u, H⟩ := It u H
     refine qj<|qf<|Em Z<|EL 3 (qw p1 a b) Z (Rb2 Z)<|?_
     obtain ⟨l, av, aw, aj, H⟩ := rP H
     refine qo Z (Ek Tryz.call71 Z (sD c (qg.mk p0.list i p0.value) d p1 a b l av aw aj _ _ e j k) ?_)
     rintro _ _ _ - ⟨rfl, rfl, rfl⟩
     refine Eq Z (q3 (cs := (ql (Op.mk 3 0 l 0 0 [] []) qx qx)) Z Z Z Z Z Z) ?_
     refine qo Z (Sa (ql (Op.mk 3 0 l 0 0 [] []) qx qx) Z (.there .here) Z ?_)
     refine qh<|qE<|?_
     obtain ⟨o, p, q⟩ := sg H
     subst f g h
     refine ⟨(.inl Z), [(.agg (ql (Op.mk 3 0 l 0 0 [] []) qx qx).toArray)], ⟨(.agg (ql (Op.mk 3 0 l 0 0 [] []) qx qx).toArray), _, Z, ⟨_, 7, (ql (Op.mk 3 0 l 0 0 [] []) qx qx), Z, Z, Z, Z, ⟨Z, Rb1 Z⟩, Z⟩, Z⟩, ?_⟩
     exact Re1<|Re1<|Sd<|⟨qx, qx, Z, Z, (Slr.nil qK _), (Slr.nil Ty.i64 _)⟩
    ·intro u
     obtain ⟨u, H⟩ := If u H
     refine qj<|qf<|Em Z<|Ec Z<|Ea Z<|qh<|?_
     refine qy Z ?_ ?_
     ·intro w
      obtain ⟨w, H⟩ := It w H
      refine qj<|qf<|Em Z<|EL 3 (qw p1 a b) Z (Rb2 Z)<|?_
      obtain ⟨m, ax, ay, ak, H⟩ := rP H
      refine qo Z (Ek Tryz.call71 Z (sD c (qg.mk p0.list i p0.value) d p1 a b m ax ay ak _ _ e j k) ?_)
      rintro _ _ _ - ⟨rfl, rfl, rfl⟩
      refine Eq Z (q3 (cs := (ql (Op.mk 5 0 m 0 0 [] []) qx qx)) Z Z Z Z Z Z) ?_
      refine qo Z (Sa (ql (Op.mk 5 0 m 0 0 [] []) qx qx) Z (.there .here) Z ?_)
      refine qh<|qE<|?_
      obtain ⟨o, p, q⟩ := sg H
      subst f g h
      refine ⟨(.inl Z), [(.agg (ql (Op.mk 5 0 m 0 0 [] []) qx qx).toArray)], ⟨(.agg (ql (Op.mk 5 0 m 0 0 [] []) qx qx).toArray), _, Z, ⟨_, 7, (ql (Op.mk 5 0 m 0 0 [] []) qx qx), Z, Z, Z, Z, ⟨Z, Rb1 Z⟩, Z⟩, Z⟩, ?_⟩
      exact Re1<|Re1<|Sd<|⟨qx, qx, Z, Z, (Slr.nil qK _), (Slr.nil Ty.i64 _)⟩
     ·intro w
      obtain ⟨w, H⟩ := If w H
      refine qA<|qj<|qf<|Em Z<|EL 3 (qw p1 a b) Z (Rb2 Z)<|?_
      obtain ⟨n, az, aA, al, H⟩ := rP H
      refine qo Z (Ek Tryz.call71 Z (sD c (qg.mk p0.list i p0.value) d p1 a b n az aA al _ _ e j k) ?_)
      rintro _ _ _ - ⟨rfl, rfl, rfl⟩
      refine Eq Z (q3 (cs := (ql (Op.mk 6 0 n 0 0 [] []) qx qx)) Z Z Z Z Z Z) ?_
      refine qo Z (Sa (ql (Op.mk 6 0 n 0 0 [] []) qx qx) Z (.there .here) Z ?_)
      refine qh<|qE<|?_
      obtain ⟨o, p, q⟩ := sg H
      subst f g h
      refine ⟨(.inl Z), [(.agg (ql (Op.mk 6 0 n 0 0 [] []) qx qx).toArray)], ⟨(.agg (ql (Op.mk 6 0 n 0 0 [] []) qx qx).toArray), _, Z, ⟨_, 7, (ql (Op.mk 6 0 n 0 0 [] []) qx qx), Z, Z, Z, Z, ⟨Z, Rb1 Z⟩, Z⟩, Z⟩, ?_⟩
      exact Re1<|Re1<|Sd<|⟨qx, qx, Z, Z, (Slr.nil qK _), (Slr.nil Ty.i64 _)⟩
theorem y5 (e : Nat) (p0 : qg) (g : SV) (p1 : qp) (j k : SV) (p2 : Int) (D : ac4) (E F : Int) (H : vQ p0 p1 p2 = some (D, E, F)) (K : Kp) (G : List Ent) (a3 : Slr Ty.u8 K (sv g) p0.list) (az : Slr Ty.i64 K (sv j) p1.capacities) (aA : Slr Ty.u64 K (sv k) p1.starts) :
  Fc Tryz.prog 24 #[(Vp e), (.agg (qw p1 j k).toArray), (Vi p2)] K ((.blk e 55 (qt p0 g)) :: G) (fun v n m => ∃ (be : SV) (bc : List (List Value)), v = (sv be) ∧ (.blk e 55 (qt (qg.mk p0.list E F) g)) :: (.row (sv be) 51 1 bc.flatten) :: G = m ∧ RowR (Ty.sl qB) n bc D) := by
 refine qR Tryz.func24 Z Tryz.ntmps24 Tryz.results24 Z ?_
 unfold vQ at H
 refine qj<|qf<|?_
 refine qo Z (rf (cs := (qw p1 j k)) Z Z Z (fun I => ?_))
 refine Ea Z<|qh<|qj<|qf<|EF 2 Z<|El (Vi p1.threads) Z (Rb0 Z)<|?_
 obtain ⟨b4, bZ, H⟩ := bnd H
 refine qo Z (EZ (T := (Ty.sl qB)) (r := [(sv qx)]) Z Z Z bZ Z Z Z Z Z Z Z Z Z ⟨qx, Z, (Slr.nil qB _)⟩ (fun i b1 bp b0 => ?_))
 obtain ⟨b3, bW, rfl⟩ : ∃ vs : List Value, vs = List.replicate p1.threads.toNat (sv qx) ∧ b1 = vs.map one := ⟨_, rfl, by rw [b0]; exact uv.symm⟩
 refine Ow.shift (Shift.nilTokV bW 70 7  (Sd ?_))
 refine Ea Z<|qh<|?_
 refine qG (fun A n m => ∃ (aJ : ac4) (aa : List Value) (aH aI : Int), [(7, (sv i))] = A ∧ (.blk e 55 (qt (qg.mk p0.list aH aI) g)) :: (.row (sv i) 51 1 (aa.map one).flatten) :: (.tok 70 7 aa) :: G = m ∧ yb p0 aJ aH aI = some (D, E, F) ∧ RowR (Ty.sl qB) n (aa.map one) aJ) ?_ ?_
 ·refine qj<|qf<|Ea Z<|qh<|qD<|?_
  refine qW (fun bb A n m => ∃ (d : ac4) (c : List Value) (p B C : Int), [(0, (Vp e)), (2, (Vi p2)), (4, (Vp I)), (7, (sv i)), (8, (Vi p))] = A ∧ (.blk e 55 (qt (qg.mk p0.list B C) g)) :: (.blk I 30 (qw p1 j k)) :: (.row (sv i) 51 1 (c.map one).flatten) :: (.tok 70 7 c) :: G = m ∧ lp4 (yd p2 p0 p1) bb d p B C = some (D, E, F) ∧ RowR (Ty.sl qB) n (c.map one) d) BIG ?_ ?_
  ·exact Pu1<|Pu2<|Pu3<|Sd<|⟨_, by exact R5, b4, b3, 0, p0.at_, p0.value, Z, Z, H, bp⟩
  rintro bb _ bg _ x ⟨d, c, p, B, C, rfl, rfl, H, o⟩
  obtain ⟨cB, ba, rfl, br, H⟩ := Fh H
  unfold yd at H
  refine qj ?_
  refine qG (fun A n m => ∃ (aK : Bool) (y z : Int), [(0, (Vp e)), (2, (Vi p2)), (4, (Vp I)), (7, (sv i)), (8, (Vi p)), (19, (.bool aK))] = A ∧ bg = n ∧ (.blk e 55 (qt (qg.mk p0.list y z) g)) :: (.blk I 30 (qw p1 j k)) :: (.row (sv i) 51 1 (c.map one).flatten) :: (.tok 70 7 c) :: G = m ∧ xk p2 d p p0 p1 ba aK y z = some (D, E, F)) ?_ ?_
  ·refine qf<|Em Z<|Em Z<|Ec Z<|Em Z<|?_
   refine Ee Z ?_ ?_
   ·intro W
    obtain ⟨W, H⟩ := It W H
    refine Vm Z ?_
    obtain ⟨bf, bX, H⟩ := bnd H
    have bC := a3.mono x
    refine rZ Z Z Z Z (Ek Tryz.call43 Z (ym e (qg.mk p0.list B C) g bf bX _ _ bC) ?_)
    rintro _ _ _ - ⟨rfl, rfl, rfl⟩
    exact Et Z<|qh<|Pu3<|Pu3<|Pu3<|Pu3<|Sd<|⟨_, by exact R6, bf, ((qg.mk p0.list B C).at_), ((qg.mk p0.list B C).value), Z, Z, Z, H⟩
   ·intro W
    obtain ⟨W, H⟩ := If W H
    exact Ez Z<|Ez Z<|Ef Z<|qh<|Pu3<|Pu3<|Pu3<|Pu3<|Sd<|⟨_, by exact R6, false, B, C, Z, Z, Z, H⟩
  rintro _ _ _ - ⟨aK, y, z, rfl, rfl, rfl, H⟩
  unfold xk at H
  refine qy Z ?_ ?_
  ·intro ay
   have H := ift ay H
   refine qA ?_
   refine qG (fun A n m => ∃ (av : ac4) (Y : List Value) (ar au : Int), [(0, (Vp e)), (2, (Vi p2)), (4, (Vp I)), (7, (sv i)), (8, (Vi p))] = A ∧ (.blk e 55 (qt (qg.mk p0.list ar au) g)) :: (.blk I 30 (qw p1 j k)) :: (.row (sv i) 51 1 (Y.map one).flatten) :: (.tok 70 7 Y) :: G = m ∧ yc p2 p p0 p1 ba av ar au = some (D, E, F) ∧ RowR (Ty.sl qB) n (Y.map one) av) ?_ ?_
   ·refine qD<|qj<|qf<|Em Z<|EF 2 Z<|El (Vi p1.threads) Z (Rb1 Z)<|?_
    obtain ⟨a, aw, bY, H⟩ := r0 H
    have aj := a3.mono x
    refine qo Z (Ek Tryz.call21 Z (rC e (qg.mk p0.list y z) g p1.threads a aw bY _ _ aj) ?_)
    rintro _ _ _ - ⟨rfl, rfl, rfl⟩
    refine Ea Z<|qh<|?_
    obtain ⟨cX, L, H⟩ := bnd H
    obtain ⟨b, u, w, aG, H⟩ := rP H
    obtain ⟨h, M, H⟩ := bnd H
    obtain ⟨cY, f, H⟩ := bnd H
    refine qQ _ Z (Ic Mb1 In0)<|Jm 0 Z<|Jm 1 Z<|Jm 2 Z<|Jm 3 Z<|Jm 6 Z<|JL 7 3 (qw p1 j k) Z (Rb0 Z)<|?_
    refine qO 4 8 (by kernel_rfl) ?_ ?_
    ·obtain ⟨cC, X, bs⟩ := RowR.at o L
     obtain ⟨aL, rfl, aC⟩ := bs
     have aF := qH X
     refine id (Jyq Z (q4 (T := (Ty.sl qB)) Mb2 o X (qL L).1 Z Z Z Z Z) ⟨(Ic Mb1 In0), ?_⟩)
     refine qO 5 8 (by kernel_rfl) ?_ ?_
     ·refine id (Jyq Z (qs (v := (sv aL)) Z Z Z (rb (T := (Ty.sl qB)) Mb2 o X Z Z)) ⟨(Ic Mb1 In0), ?_⟩)
      refine Ao 8 Z ?_
      have bD := az.mono x
      have bE := aA.mono x
      refine Ek Tryz.call40 Z (yn e (qg.mk p0.list aw ((qg.mk p0.list y z).value)) g p1 j k b u w aG _ _ aj bD bE) ?_
      rintro _ bh _ aP ⟨aM, aN, rfl, rfl, bF, bG⟩
      refine ⟨(Ic Mb1 In0), ?_⟩
      refine Ao 9 Z ?_
      have aR : RowR qB bh [(ql b aM aN)] [b] := RowR.cons ⟨aM, aN, Z, bF, bG⟩ (RowR.nil)
      refine qN (T := qB) (rows := [(ql b aM aN)]) (l := [b]) Z Z Z aR Z Z Z Z Z Z Z Z (fun cL => ⟨(Ic Mb2 In0), ?_⟩)
      refine Ao 10 Z ?_
      have bI := aC.mono aP
      refine qJ (T := qB) (bytes := 88) (q := a.toNat) Z Z Z bI Mb4 aF (SrcT.row Mb0 aR Z) M Z Z Z Z Z Z Z Z (fun N b5 bi bH => ⟨_, (.there (.there (.there (.there .here)))), ⟨(Ic Mb2 In0), ?_⟩⟩)
      refine Aw.shift (Re0 (Sd ⟨(Ic Mb1 In0), ?_⟩))
      have ak := (o.mono aP).mono bi
      obtain ⟨cD, ac, bt⟩ := RowR.at ak f
      obtain ⟨cM, rfl, co⟩ := bt
      have cv := qH ac
      refine qI 11 (by kernel_rfl) (Jyq Z (q4 (T := (Ty.sl qB)) Mb2 ak ac (qL f).1 Z Z Z Z Z) ⟨(Ic Mb1 In0), ?_⟩)
      refine Ao 12 Z ?_
      refine qX (T := (Ty.sl qB)) (vs := [(sv N)]) (r' := [(sv N)]) (l' := (q6 d a h)) Z Z Z Z Z (.there (.there .here)) ak ac Z Z Z (RowR.set a ak ⟨N, Z, bH⟩) (fun aS => ⟨(Ic Mb1 In0), ?_⟩)
      have hse := qM c a.toNat (sv N)
      rw [hse] at aS ⊢
      clear hse
      have cg := qP ac (v := (sv N))
      exact Ad<|Pu3<|Pu3<|Pu3<|Pu3<|Sd<|⟨_, by exact R5, (q6 d a h), (c.set a.toNat (sv N)), u, w, Z, Z, H, aS⟩
     ·refine id (Jy Z ?_)
      have bJ := az.mono x
      have bK := aA.mono x
      refine Ek Tryz.call40 Z (yn e (qg.mk p0.list aw ((qg.mk p0.list y z).value)) g p1 j k b u w aG _ _ aj bJ bK) ?_
      rintro _ aO _ ab ⟨O, P, rfl, rfl, a4, a5⟩
      refine ⟨(Ic Mb1 In0), ?_⟩
      refine qO 5 9 (by kernel_rfl) ?_ ?_
      ·have a6 := o.mono ab
       refine id (Jyq Z (qs (v := (sv aL)) Z Z Z (rb (T := (Ty.sl qB)) Mb2 a6 X Z Z)) ⟨(Ic Mb1 In0), ?_⟩)
       refine Ao 9 Z ?_
       have aT : RowR qB aO [(ql b O P)] [b] := RowR.cons ⟨O, P, Z, a4, a5⟩ (RowR.nil)
       refine qN (T := qB) (rows := [(ql b O P)]) (l := [b]) Z Z Z aT Z Z Z Z Z Z Z Z (fun cN => ⟨(Ic Mb2 In0), ?_⟩)
       refine Ao 10 Z ?_
       have bM := aC.mono ab
       refine qJ (T := qB) (bytes := 88) (q := a.toNat) Z Z Z bM Mb4 aF (SrcT.row Mb0 aT Z) M Z Z Z Z Z Z Z Z (fun Q b6 bj bL => ⟨_, (.there (.there (.there (.there .here)))), ⟨(Ic Mb2 In0), ?_⟩⟩)
       refine Aw.shift (Re0 (Sd ⟨(Ic Mb1 In0), ?_⟩))
       have al := a6.mono bj
       obtain ⟨cE, ad, bu⟩ := RowR.at al f
       obtain ⟨cO, rfl, cp⟩ := bu
       have cw := qH ad
       refine qI 11 (by kernel_rfl) (Jyq Z (q4 (T := (Ty.sl qB)) Mb2 al ad (qL f).1 Z Z Z Z Z) ⟨(Ic Mb1 In0), ?_⟩)
       refine Ao 12 Z ?_
       refine qX (T := (Ty.sl qB)) (vs := [(sv Q)]) (r' := [(sv Q)]) (l' := (q6 d a h)) Z Z Z Z Z (.there (.there .here)) al ad Z Z Z (RowR.set a al ⟨Q, Z, bL⟩) (fun aU => ⟨(Ic Mb1 In0), ?_⟩)
       have hse := qM c a.toNat (sv Q)
       rw [hse] at aU ⊢
       clear hse
       have ch := qP ad (v := (sv Q))
       exact Ad<|Pu3<|Pu3<|Pu3<|Pu3<|Sd<|⟨_, by exact R5, (q6 d a h), (c.set a.toNat (sv Q)), u, w, Z, Z, H, aU⟩
      ·refine id (Jy Z ?_)
       have aV : RowR qB aO [(ql b O P)] [b] := RowR.cons ⟨O, P, Z, a4, a5⟩ (RowR.nil)
       refine qN (T := qB) (rows := [(ql b O P)]) (l := [b]) Z Z Z aV Z Z Z Z Z Z Z Z (fun cP => ⟨(Ic Mb2 In0), ?_⟩)
       have a7 := o.mono ab
       refine qI 5 (by kernel_rfl) (Jyq Z (qs (v := (sv aL)) Z Z Z (rb (T := (Ty.sl qB)) Mb3 a7 X Z Z)) ⟨(Ic Mb2 In0), ?_⟩)
       refine Ao 10 Z ?_
       have bO := aC.mono ab
       refine qJ (T := qB) (bytes := 88) (q := a.toNat) Z Z Z bO Mb4 aF (SrcT.row Mb0 aV Z) M Z Z Z Z Z Z Z Z (fun R b7 bk bN => ⟨_, (.there (.there (.there (.there .here)))), ⟨(Ic Mb2 In0), ?_⟩⟩)
       refine Aw.shift (Re0 (Sd ⟨(Ic Mb1 In0), ?_⟩))
       have am := a7.mono bk
       obtain ⟨cF, ae, bv⟩ := RowR.at am f
       obtain ⟨cQ, rfl, cq⟩ := bv
       have cx := qH ae
       refine qI 11 (by kernel_rfl) (Jyq Z (q4 (T := (Ty.sl qB)) Mb2 am ae (qL f).1 Z Z Z Z Z) ⟨(Ic Mb1 In0), ?_⟩)
       refine Ao 12 Z ?_
       refine qX (T := (Ty.sl qB)) (vs := [(sv R)]) (r' := [(sv R)]) (l' := (q6 d a h)) Z Z Z Z Z (.there (.there .here)) am ae Z Z Z (RowR.set a am ⟨R, Z, bN⟩) (fun aW => ⟨(Ic Mb1 In0), ?_⟩)
       have hse := qM c a.toNat (sv R)
       rw [hse] at aW ⊢
       clear hse
       have ci := qP ae (v := (sv R))
       exact Ad<|Pu3<|Pu3<|Pu3<|Pu3<|Sd<|⟨_, by exact R5, (q6 d a h), (c.set a.toNat (sv R)), u, w, Z, Z, H, aW⟩
    ·refine id (Jy Z ?_)
     have bP := az.mono x
     have bQ := aA.mono x
     refine Ek Tryz.call40 Z (yn e (qg.mk p0.list aw ((qg.mk p0.list y z).value)) g p1 j k b u w aG _ _ aj bP bQ) ?_
     rintro _ ax _ aQ ⟨s, t, rfl, rfl, aD, aE⟩
     refine ⟨(Ic Mb1 In0), ?_⟩
     refine qO 4 9 (by kernel_rfl) ?_ ?_
     ·have J := o.mono aQ
      obtain ⟨cG, af, bw⟩ := RowR.at J L
      obtain ⟨bd, rfl, a8⟩ := bw
      have a9 := qH af
      refine id (Jyq Z (q4 (T := (Ty.sl qB)) Mb2 J af (qL L).1 Z Z Z Z Z) ⟨(Ic Mb1 In0), ?_⟩)
      refine qO 5 9 (by kernel_rfl) ?_ ?_
      ·refine id (Jyq Z (qs (v := (sv bd)) Z Z Z (rb (T := (Ty.sl qB)) Mb2 J af Z Z)) ⟨(Ic Mb1 In0), ?_⟩)
       refine Ao 9 Z ?_
       have aX : RowR qB ax [(ql b s t)] [b] := RowR.cons ⟨s, t, Z, aD, aE⟩ (RowR.nil)
       refine qN (T := qB) (rows := [(ql b s t)]) (l := [b]) Z Z Z aX Z Z Z Z Z Z Z Z (fun cR => ⟨(Ic Mb2 In0), ?_⟩)
       refine Ao 10 Z ?_
       refine qJ (T := qB) (bytes := 88) (q := a.toNat) Z Z Z a8 Mb4 a9 (SrcT.row Mb0 aX Z) M Z Z Z Z Z Z Z Z (fun S b8 bl bR => ⟨_, (.there (.there (.there (.there .here)))), ⟨(Ic Mb2 In0), ?_⟩⟩)
       refine Aw.shift (Re0 (Sd ⟨(Ic Mb1 In0), ?_⟩))
       have an := J.mono bl
       obtain ⟨cH, ag, bx⟩ := RowR.at an f
       obtain ⟨cS, rfl, cr⟩ := bx
       have cy := qH ag
       refine qI 11 (by kernel_rfl) (Jyq Z (q4 (T := (Ty.sl qB)) Mb2 an ag (qL f).1 Z Z Z Z Z) ⟨(Ic Mb1 In0), ?_⟩)
       refine Ao 12 Z ?_
       refine qX (T := (Ty.sl qB)) (vs := [(sv S)]) (r' := [(sv S)]) (l' := (q6 d a h)) Z Z Z Z Z (.there (.there .here)) an ag Z Z Z (RowR.set a an ⟨S, Z, bR⟩) (fun aY => ⟨(Ic Mb1 In0), ?_⟩)
       have hse := qM c a.toNat (sv S)
       rw [hse] at aY ⊢
       clear hse
       have cj := qP ag (v := (sv S))
       exact Ad<|Pu3<|Pu3<|Pu3<|Pu3<|Sd<|⟨_, by exact R5, (q6 d a h), (c.set a.toNat (sv S)), u, w, Z, Z, H, aY⟩
      ·refine id (Jy Z ?_)
       have aZ : RowR qB ax [(ql b s t)] [b] := RowR.cons ⟨s, t, Z, aD, aE⟩ (RowR.nil)
       refine qN (T := qB) (rows := [(ql b s t)]) (l := [b]) Z Z Z aZ Z Z Z Z Z Z Z Z (fun cT => ⟨(Ic Mb2 In0), ?_⟩)
       refine qI 5 (by kernel_rfl) (Jyq Z (qs (v := (sv bd)) Z Z Z (rb (T := (Ty.sl qB)) Mb3 J af Z Z)) ⟨(Ic Mb2 In0), ?_⟩)
       refine Ao 10 Z ?_
       refine qJ (T := qB) (bytes := 88) (q := a.toNat) Z Z Z a8 Mb4 a9 (SrcT.row Mb0 aZ Z) M Z Z Z Z Z Z Z Z (fun U b9 bm bS => ⟨_, (.there (.there (.there (.there .here)))), ⟨(Ic Mb2 In0), ?_⟩⟩)
       refine Aw.shift (Re0 (Sd ⟨(Ic Mb1 In0), ?_⟩))
       have ao := J.mono bm
       obtain ⟨cI, ah, bz⟩ := RowR.at ao f
       obtain ⟨cU, rfl, ct⟩ := bz
       have cz := qH ah
       refine qI 11 (by kernel_rfl) (Jyq Z (q4 (T := (Ty.sl qB)) Mb2 ao ah (qL f).1 Z Z Z Z Z) ⟨(Ic Mb1 In0), ?_⟩)
       refine Ao 12 Z ?_
       refine qX (T := (Ty.sl qB)) (vs := [(sv U)]) (r' := [(sv U)]) (l' := (q6 d a h)) Z Z Z Z Z (.there (.there .here)) ao ah Z Z Z (RowR.set a ao ⟨U, Z, bS⟩) (fun a0 => ⟨(Ic Mb1 In0), ?_⟩)
       have hse := qM c a.toNat (sv U)
       rw [hse] at a0 ⊢
       clear hse
       have ck := qP ah (v := (sv U))
       exact Ad<|Pu3<|Pu3<|Pu3<|Pu3<|Sd<|⟨_, by exact R5, (q6 d a h), (c.set a.toNat (sv U)), u, w, Z, Z, H, a0⟩
     ·refine id (Jy Z ?_)
      have a1 : RowR qB ax [(ql b s t)] [b] := RowR.cons ⟨s, t, Z, aD, aE⟩ (RowR.nil)
      refine qN (T := qB) (rows := [(ql b s t)]) (l := [b]) Z Z Z a1 Z Z Z Z Z Z Z Z (fun cV => ⟨(Ic Mb2 In0), ?_⟩)
      have ap := o.mono aQ
      obtain ⟨cJ, aB, bA⟩ := RowR.at ap L
      obtain ⟨b2, rfl, bT⟩ := bA
      have bV := qH aB
      refine qI 4 (by kernel_rfl) (Jyq Z (q4 (T := (Ty.sl qB)) Mb3 ap aB (qL L).1 Z Z Z Z Z) ⟨(Ic Mb2 In0), ?_⟩)
      refine qI 5 (by kernel_rfl) (Jyq Z (qs (v := (sv b2)) Z Z Z (rb (T := (Ty.sl qB)) Mb3 ap aB Z Z)) ⟨(Ic Mb2 In0), ?_⟩)
      refine Ao 10 Z ?_
      refine qJ (T := qB) (bytes := 88) (q := a.toNat) Z Z Z bT Mb4 bV (SrcT.row Mb0 a1 Z) M Z Z Z Z Z Z Z Z (fun V ca bn bU => ⟨_, (.there (.there (.there (.there .here)))), ⟨(Ic Mb2 In0), ?_⟩⟩)
      refine Aw.shift (Re0 (Sd ⟨(Ic Mb1 In0), ?_⟩))
      have aq := ap.mono bn
      obtain ⟨cK, ai, bB⟩ := RowR.at aq f
      obtain ⟨cW, rfl, cu⟩ := bB
      have cA := qH ai
      refine qI 11 (by kernel_rfl) (Jyq Z (q4 (T := (Ty.sl qB)) Mb2 aq ai (qL f).1 Z Z Z Z Z) ⟨(Ic Mb1 In0), ?_⟩)
      refine Ao 12 Z ?_
      refine qX (T := (Ty.sl qB)) (vs := [(sv V)]) (r' := [(sv V)]) (l' := (q6 d a h)) Z Z Z Z Z (.there (.there .here)) aq ai Z Z Z (RowR.set a aq ⟨V, Z, bU⟩) (fun a2 => ⟨(Ic Mb1 In0), ?_⟩)
      have hse := qM c a.toNat (sv V)
      rw [hse] at a2 ⊢
      clear hse
      have cl := qP ai (v := (sv V))
      exact Ad<|Pu3<|Pu3<|Pu3<|Pu3<|Sd<|⟨_, by exact R5, (q6 d a h), (c.set a.toNat (sv V)), u, w, Z, Z, H, a2⟩
   rintro _ cb _ cm ⟨av, Y, ar, au, rfl, rfl, H, bo⟩
   unfold yc at H
   exact qf<|Em Z<|Er (wI (p + 1)) Z<|Ea Z<|qh<|Pu3<|Pu3<|Pu3<|Pu3<|Sd<|⟨_, by exact R5, _, Nat.lt_succ_self _, av, Y, (wI (p + 1)), ar, au, Z, Z, (br ▸ H), bo⟩
  ·intro ay
   have H := qZ (btf ay) H
   exact qY<|Pu3<|Pu3<|Pu2<|Re3<|Sd<|⟨_, by exact R1, d, c, y, z, Z, Z, H, o⟩
 rintro _ cc _ cn ⟨aJ, aa, aH, aI, rfl, rfl, H, bq⟩
 unfold yb at H
 refine qj<|qf<|Em Z<|Ea Z<|qh<|qE<|?_
 obtain ⟨cd, ce, cf⟩ := sg H
 subst D E F
 refine ⟨(.inl Z), [(sv i)], ⟨(sv i), _, Z, Z, Z⟩, ?_⟩
 exact Pu1<|Pu1<|Re2<|Sd<|⟨i, (aa.map one), Z, Z, bq⟩
theorem CY (c : Nat) (p0 : qg) (d : SV) (p1 p2 : Int) (k : ab3) (m n : Int) (H : vR p0 p1 p2 = some (k, m, n)) (K : Kp) (G : List Ent) (S : Slr Ty.u8 K (sv d) p0.list) :
  Fc Tryz.prog 25 #[(Vp c), (Vi p1), (Vi p2)] K ((.blk c 55 (qt p0 d)) :: G) (fun v f e => ∃ (L : SV), v = (sv L) ∧ (.blk c 55 (qt (qg.mk p0.list m n) d)) :: (.tok 3 1 [(sv L)]) :: G = e ∧ Slr Ty.i64 f (sv L) k) := by
 refine qR Tryz.func25 Z Tryz.ntmps25 Tryz.results25 Z ?_
 unfold vR at H
 refine qj<|qf<|Ea Z<|qh<|qj<|qf<|Ea Z<|qh<|?_
 refine qG (fun h f e => ∃ (j : SV) (I : ab3) (E F : Int), [(7, (sv j))] = h ∧ (.blk c 55 (qt (qg.mk p0.list E F) d)) :: (.tok 3 1 [(sv j)]) :: G = e ∧ zL p0 I E F = some (k, m, n) ∧ Slr Ty.i64 f (sv j) I) ?_ ?_
 ·refine qD ?_
  refine qW (fun W h f e => ∃ (g : SV) (i : ab3) (a b : Int), [(0, (Vp c)), (1, (Vi p1)), (2, (Vi p2)), (7, (sv g))] = h ∧ (.blk c 55 (qt (qg.mk p0.list a b) d)) :: (.tok 3 1 [(sv g)]) :: G = e ∧ lp3 (yf p1 p2 p0) W i a b = some (k, m, n) ∧ Slr Ty.i64 f (sv g) i) BIG ?_ ?_
  ·exact Shift.nilTok1 3 1<|Pu1<|Sd<|⟨_, by exact R4, qx, ([] : ab3), p0.at_, p0.value, Z, Z, H, (Slr.nil Ty.i64 _)⟩
  rintro W _ N _ O ⟨g, i, a, b, rfl, rfl, H, y⟩
  obtain ⟨aG, V, rfl, R, H⟩ := Fg H
  unfold yf at H
  refine qj ?_
  refine qG (fun h f e => ∃ (J : Bool), [(0, (Vp c)), (1, (Vi p1)), (2, (Vi p2)), (7, (sv g)), (17, (.bool J))] = h ∧ N = f ∧ (.blk c 55 (qt (qg.mk p0.list ((qg.mk p0.list a b).at_) ((qg.mk p0.list a b).value)) d)) :: (.tok 3 1 [(sv g)]) :: G = e ∧ xl p1 p2 i p0 a b V J = some (k, m, n)) ?_ ?_
  ·refine qf<|Em Z<|?_
   obtain ⟨ar, aj, H⟩ := bnd H
   have af := S.mono O
   refine qo Z (Ek Tryz.call43 Z (ym c (qg.mk p0.list a b) d ar aj _ _ af) ?_)
   rintro _ _ _ - ⟨rfl, rfl, rfl⟩
   refine Em Z ?_
   refine Ee Z ?_ ?_
   ·intro B
    have H := ift B H
    exact Vm Z<|Vq Z (qV (T := Ty.i64) y Z Z)<|Vm Z<|Vc Z<|Et Z<|qh<|Pu1<|Pu1<|Sd<|⟨_, by exact R5, (dcd ((i.length : Int) < p2)), Z, Z, Z, H⟩
   ·intro B
    have H := qZ (btf B) H
    exact Ez Z<|Ez Z<|Ez Z<|Ez Z<|Ef Z<|qh<|Pu1<|Pu1<|Sd<|⟨_, by exact R5, false, Z, Z, Z, H⟩
  rintro _ _ _ - ⟨J, rfl, rfl, rfl, H⟩
  unfold xl at H
  refine qy Z ?_ ?_
  ·intro C
   have H := ift C H
   refine qA<|qD<|qj<|qf<|Em Z<|?_
   obtain ⟨M, A, ak, H⟩ := r0 H
   have D := S.mono O
   refine qo Z (Ek Tryz.call21 Z (rC c (qg.mk p0.list ((qg.mk p0.list a b).at_) ((qg.mk p0.list a b).value)) d 40 M A ak _ _ D) ?_)
   rintro _ _ _ - ⟨rfl, rfl, rfl⟩
   refine Ea Z<|qh<|qj<|qj<|qf<|Em Z<|Ec Z<|qh<|?_
   refine qy Z ?_ ?_
   ·intro s
    obtain ⟨s, H⟩ := It s H
    refine qj<|qf<|Em Z<|Em Z<|?_
    obtain ⟨r, Y, al, H⟩ := r0 H
    refine qo Z (Ek Tryz.call21 Z (rC c (qg.mk p0.list A ((qg.mk p0.list ((qg.mk p0.list a b).at_) ((qg.mk p0.list a b).value)).value)) d 4 r Y al _ _ D) ?_)
    rintro _ _ _ - ⟨rfl, rfl, rfl⟩
    refine Er (wI ((-1) - r)) Z ?_
    have P : RowR Ty.i64 N [[(Vi (wI ((-1) - r)))]] [wI ((-1) - r)] := RowR.cons Z (RowR.nil)
    refine qo Z (qN (T := Ty.i64) (rows := [[(Vi (wI ((-1) - r)))]]) (l := [wI ((-1) - r)]) Z Z Z P Z Z Z Z Z Z Z Z (fun aI => ?_))
    obtain ⟨au, am, H⟩ := bnd H
    refine qo Z (qJ (T := Ty.i64) (bytes := 8) (q := 0) Z Z Z y Mb2 Z (SrcT.row Mb0 P Z) am Z Z Z Z Z Z Z Z (fun ap aw aC ag => ⟨_, (.there (.there .here)), ?_⟩))
    refine Ow.shift (Re0 (Sd ?_))
    exact Ea Z<|qh<|qY<|Pu1<|Pu1<|Sd<|⟨_, by exact R4, _, Nat.lt_succ_self _, ap, au, Y, ((qg.mk p0.list A ((qg.mk p0.list ((qg.mk p0.list a b).at_) ((qg.mk p0.list a b).value)).value)).value), Z, Z, (R ▸ H), ag⟩
   ·intro s
    obtain ⟨s, H⟩ := If s H
    refine qA<|qj<|qf<|Ea Z<|qh<|qD<|?_
    refine qW (fun X h f e => ∃ (w : SV) (z : ab3) (u o p : Int), [(0, (Vp c)), (1, (Vi p1)), (2, (Vi p2)), (7, (sv w)), (8, (Vi M)), (9, (Vi u))] = h ∧ (.blk c 55 (qt (qg.mk p0.list o p) d)) :: (.tok 3 1 [(sv w)]) :: G = e ∧ lp4 (ye p1 p2 M p0 V) X z u o p = some (k, m, n) ∧ Slr Ty.i64 f (sv w) z) BIG ?_ ?_
    ·exact Pu1<|Pu1<|Sd<|⟨_, by exact R6, g, i, 0, A, ((qg.mk p0.list ((qg.mk p0.list a b).at_) ((qg.mk p0.list a b).value)).value), Z, Z, H, y⟩
    rintro X _ ab _ ac ⟨w, z, u, o, p, rfl, rfl, H, U⟩
    obtain ⟨aH, aF, rfl, ad, H⟩ := Fh H
    unfold ye at H
    refine qj<|qj<|qf<|Em Z<|Em Z<|Eq Z (E6 Z Z (by decide))<|Ec Z<|qh<|?_
    refine qy Z ?_ ?_
    ·intro t
     obtain ⟨t, H⟩ := It t H
     refine qA<|qj<|qD<|qf<|Em Z<|Em Z<|Em Z<|?_
     obtain ⟨x, aa, an, H⟩ := r0 H
     have ah := D.mono ac
     refine qo Z (Ek Tryz.call21 Z (rC c (qg.mk p0.list o p) d p1 x aa an _ _ ah) ?_)
     rintro _ _ _ - ⟨rfl, rfl, rfl⟩
     have Q : RowR Ty.i64 ab [[(Vi x)]] [x] := RowR.cons Z (RowR.nil)
     refine qo Z (qN (T := Ty.i64) (rows := [[(Vi x)]]) (l := [x]) Z Z Z Q Z Z Z Z Z Z Z Z (fun aJ => ?_))
     obtain ⟨av, ao, H⟩ := bnd H
     refine qo Z (qJ (T := Ty.i64) (bytes := 8) (q := 0) Z Z Z U Mb2 Z (SrcT.row Mb0 Q Z) ao Z Z Z Z Z Z Z Z (fun aq ax aD ai => ⟨_, (.there (.there .here)), ?_⟩))
     refine Ow.shift (Re0 (Sd ?_))
     exact Ea Z<|qh<|qf<|Em Z<|Er (wI (u + 1)) Z<|Ea Z<|qh<|Pu1<|Pu1<|Sd<|⟨_, by exact R6, _, Nat.lt_succ_self _, aq, av, (wI (u + 1)), aa, ((qg.mk p0.list o p).value), Z, Z, (ad ▸ H), ai⟩
    ·intro t
     obtain ⟨t, H⟩ := If t H
     exact qY<|Pu1<|Pu1<|Sd<|⟨_, by exact R4, _, Nat.lt_succ_self _, w, z, o, p, Z, Z, (R ▸ H), U⟩
  ·intro C
   have H := qZ (btf C) H
   exact qY<|Pu1<|Pu1<|Sd<|⟨_, by exact R1, g, i, ((qg.mk p0.list a b).at_), ((qg.mk p0.list a b).value), Z, Z, H, y⟩
 rintro _ ay _ aE ⟨j, I, E, F, rfl, rfl, H, ae⟩
 unfold zL at H
 refine qj<|qf<|Em Z<|Ea Z<|qh<|qE<|?_
 obtain ⟨az, aA, aB⟩ := sg H
 subst k m n
 refine ⟨(.inl Z), [(sv j)], ⟨(sv j), _, Z, Z, Z⟩, ?_⟩
 exact Pu1<|Pu1<|Sd<|⟨j, Z, Z, ae⟩
theorem CZ (f : Nat) (p0 : qg) (h : SV) (p1 : Int) (j : qn) (s t : Int) (H : vS p0 p1 = some (j, s, t)) (K : Kp) (G : List Ent) (m : Slr Ty.u8 K (sv h) p0.list) :
  Fc Tryz.prog 11 #[(Vp f), (Vi p1)] K ((.blk f 55 (qt p0 h)) :: G) (fun v l u => ∃ (E F Q : SV) (P : List (List Value)) (I : SV), v = (.agg (qi j E F Q I).toArray) ∧ (.blk f 55 (qt (qg.mk p0.list s t) h)) :: (.tok 3 1 [(sv E)]) :: (.tok 53 1 [(sv F)]) :: (.row (sv Q) 51 1 P.flatten) :: (.tok 3 1 [(sv I)]) :: G = u ∧ Slr Ty.i64 l (sv E) j.cnfg.capacities ∧ Slr Ty.u64 l (sv F) j.cnfg.starts ∧ RowR (Ty.sl qB) l P j.ops ∧ Slr Ty.i64 l (sv I) j.picks) := by
 refine qR Tryz.func11 Z Tryz.ntmps11 Tryz.results11 Z ?_
 unfold vS at H
 refine qj<|qf<|?_
 refine qo Z (qU (cs := (qi (qn.mk (qp.mk [] [] 0) [] []) qx qx qx qx)) Z Z Z Z (fun M => ?_))
 refine qh<|qj<|qf<|Em Z<|?_
 obtain ⟨a, J, L, ag, H⟩ := rP H
 refine Ow.shift (Pu1 (Sd ?_))
 refine qo Z (Ek Tryz.call23 Z (CW f p0 h a J L ag _ _ m) ?_)
 rintro _ ap _ z ⟨b, c, rfl, rfl, A, B⟩
 refine qo Z (qU (cs := (qw (qp.mk [] [] 0) qx qx)) Z Z Z Z (fun N => ?_))
 refine qo Z (Sa (qw a b c) Z .here Z ?_)
 refine qh ?_
 refine qG (fun T l u => ∃ (w : Nat) (n o : Int) (e : SV) (d : ac4) (p : List (List Value)), [(0, (Vp f)), (4, (Vp M)), (5, (Vp N)), (6, (Vp w))] = T ∧ (.blk f 55 (qt (qg.mk p0.list n o) h)) :: (.blk w 33 (qi (qn.mk a d []) b c e qx)) :: (.blk N 30 (qw a b c)) :: (.blk M 33 (qi (qn.mk (qp.mk [] [] 0) [] []) qx qx qx qx)) :: (.row (sv e) 51 1 p.flatten) :: (.tok 3 1 [(sv b)]) :: (.tok 53 1 [(sv c)]) :: G = u ∧ yg p0 a n o d = some (j, s, t) ∧ RowR (Ty.sl qB) l p d) ?_ ?_
 ·obtain ⟨i, q, r, O, H⟩ := rP H
  refine qQ _ Z (Ic Mb0 (Ic Mb2 (Ic Mb3 (Ic Mb4 In0))))<|JL 0 3 (qw a b c) Z (Rb0 Z)<|Jm 1 Z<|JL 2 3 (qw a b c) Z (Rb0 Z)<|Jm 3 Z<|?_
  refine qO 4 6 (by kernel_rfl) ?_ ?_
  ·refine id (Jy Z ?_)
   refine OpW.shift (Pu1 (Sd ?_))
   have V := m.mono z
   refine Ek Tryz.call24 Z (y5 f (qg.mk p0.list J L) h a b c p1 i q r O _ _ V A B) ?_
   rintro _ al _ av ⟨C, ah, rfl, rfl, W⟩
   refine ⟨(Ic Mb2 (Ic Mb3 (Ic Mb4 (Ic Mb5 In0)))), ?_⟩
   refine Jq 5 Z (q3 (cs := (qi (qn.mk a i []) b c C qx)) Z Z Z Z Z Z) ?_
   refine Ao 6 Z ?_
   refine qU (cs := (qi (qn.mk (qp.mk [] [] 0) [] []) qx qx qx qx)) Z Z Z Z (fun R => ⟨(Ic Mb3 (Ic Mb4 (Ic Mb5 (Ic Mb6 In0)))), ?_⟩)
   refine Ao 7 Z ?_
   refine Sa (qi (qn.mk a i []) b c C qx) Z .here Z ⟨(Ic Mb3 (Ic Mb4 (Ic Mb5 (Ic Mb6 In0)))), ?_⟩
   exact Ad<|Pu5<|Pu5<|Pu4<|Pu6<|Pu6<|Pu5<|Pu6<|Sd<|⟨_, by exact R4, R, q, r, C, i, ah, Z, Z, H, W⟩
  ·refine id (Jy Z ?_)
   refine qU (cs := (qi (qn.mk (qp.mk [] [] 0) [] []) qx qx qx qx)) Z Z Z Z (fun S => ⟨(Ic Mb1 (Ic Mb3 (Ic Mb4 (Ic Mb5 In0)))), ?_⟩)
   refine Ao 4 Z ?_
   refine OpW.shift (Pu2 (Sd ?_))
   have X := m.mono z
   refine Ek Tryz.call24 Z (y5 f (qg.mk p0.list J L) h a b c p1 i q r O _ _ X A B) ?_
   rintro _ am _ aw ⟨D, ai, rfl, rfl, Y⟩
   refine ⟨(Ic Mb3 (Ic Mb4 (Ic Mb5 (Ic Mb6 In0)))), ?_⟩
   refine Jq 5 Z (q3 (cs := (qi (qn.mk a i []) b c D qx)) Z Z Z Z Z Z) ?_
   refine Ao 7 Z ?_
   refine Sa (qi (qn.mk a i []) b c D qx) Z (.there (.there .here)) Z ⟨(Ic Mb3 (Ic Mb4 (Ic Mb5 (Ic Mb6 In0)))), ?_⟩
   exact Ad<|Pu5<|Pu5<|Pu3<|Pu6<|Pu6<|Pu6<|Pu6<|Sd<|⟨_, by exact R4, S, q, r, D, i, ai, Z, Z, H, Y⟩
 rintro _ an _ x ⟨w, n, o, e, d, p, rfl, rfl, H, U⟩
 unfold yg at H
 refine qj<|qf<|Em Z<|EF 2 Z<|El (Vi a.threads) Z (Rb2 Z)<|?_
 obtain ⟨k, aj, ak, af, H⟩ := rP H
 have aa := (m.mono z).mono x
 refine qo Z (Ek Tryz.call25 Z (CY f (qg.mk p0.list n o) h a.threads 200 k aj ak af _ _ aa) ?_)
 rintro _ ao _ y ⟨g, rfl, rfl, ab⟩
 refine EF 4 Z ?_
 refine qo Z (So [(sv g)] (qi (qn.mk a d k) b c e g) Z (.there (.there .here)) Z ?_)
 refine qh<|qj<|qf<|EL 5 (qi (qn.mk a d k) b c e g) Z (Rb2 Z)<|?_
 refine qo Z (Sa (qi (qn.mk a d k) b c e g) Z (.there (.there (.there (.there .here)))) Z ?_)
 refine qh<|qE<|?_
 obtain ⟨aq, ar, au⟩ := sg H
 subst j s t
 refine ⟨(.inl Z), [(.agg (qi (qn.mk a d k) b c e g).toArray)], ⟨(.agg (qi (qn.mk a d k) b c e g).toArray), _, Z, ⟨_, 5, (qi (qn.mk a d k) b c e g), Z, Z, Z, Z, ⟨Z, Rb4 Z⟩, Z⟩, Z⟩, ?_⟩
 refine Pu1<|Pu5<|Pu7<|Pu7<|Pu4<|Re5<|Re5<|Re5<|?_
 have ac := (A.mono x).mono y
 have ad := (B.mono x).mono y
 have ae := U.mono y
 exact Sd ⟨b, c, e, p, g, Z, Z, ac, ad, ae, ab⟩
theorem AQ (p0 : Int) (b : Bool) (H : w9 p0 = some b) (K : Kp) (G : List Ent)  :
  Fc Tryz.prog 66 #[(Vi p0)] K (G) (fun v d c => v = (.bool b) ∧ K = d ∧ G = c) := by
 refine qR Tryz.func66 Z Tryz.ntmps66 Tryz.results66 Z ?_
 unfold w9 at H
 refine qj<|qf<|Ea Z<|qh<|qj<|qf<|Em Z<|Ec Z<|Em Z<|?_
 refine Ee Z ?_ ?_
 ·intro a
  obtain ⟨a, H⟩ := It a H
  refine Vm Z<|Vc Z<|Et Z<|Ea Z<|qh<|qE<|?_
  obtain e := ra H
  subst b
  refine ⟨(.inl Z), [(.bool (dcd (p0 < 8)))], ⟨(.bool (dcd (p0 < 8))), _, Z, Z, Z⟩, ?_⟩
  exact Sd ⟨Z, Z, Z⟩
 ·intro a
  obtain ⟨a, H⟩ := If a H
  refine Ez Z<|Ez Z<|Ef Z<|Ea Z<|qh<|qE<|?_
  obtain e := ra H
  subst b
  refine ⟨(.inl Z), [(.bool false)], ⟨(.bool false), _, Z, Z, Z⟩, ?_⟩
  exact Sd ⟨Z, Z, Z⟩
theorem C4 (p0 : Case) (b : Bool) (H : xP p0 = some b) (K : Kp) (G : List Ent)  :
  Fc Tryz.prog 68 #[(.agg (qC p0).toArray)] K (G) (fun v d c => v = (.bool b) ∧ K = d ∧ G = c) := by
 refine qR Tryz.func68 Z Tryz.ntmps68 Tryz.results68 Z ?_
 unfold xP at H
 refine qj<|qf<|?_
 refine qo Z (rf (cs := (qC p0)) Z Z Z (fun b4 => ?_))
 refine Ea Z<|qh<|qj<|qf<|EF 1 Z<|El (Vi p0.channel) Z (Rb0 Z)<|?_
 obtain ⟨a, e, H⟩ := bnd H
 refine qo Z (Ek Tryz.call66 Z (AQ p0.channel a e _ _ ) ?_)
 rintro _ _ _ - ⟨rfl, rfl, rfl⟩
 refine Eq Z (rL Z)<|Ea Z<|qh<|qE<|?_
 obtain f := ra H
 subst b
 refine ⟨(.inl Z), [(.bool (!(a)))], ⟨(.bool (!(a))), _, Z, Z, Z⟩, ?_⟩
 exact Re0<|Sd<|⟨Z, Z, Z⟩
theorem C5 (p0 : Case) (b : Bool) (H : xQ p0 = some b) (K : Kp) (G : List Ent)  :
  Fc Tryz.prog 89 #[(.agg (qC p0).toArray)] K (G) (fun v d c => v = (.bool b) ∧ K = d ∧ G = c) := by
 refine qR Tryz.func89 Z Tryz.ntmps89 Tryz.results89 Z ?_
 unfold xQ at H
 refine qj<|qf<|?_
 refine qo Z (rf (cs := (qC p0)) Z Z Z (fun b3 => ?_))
 refine Ea Z<|qh<|qj<|qf<|EF 0 Z<|El (.bool p0.send) Z (Rb0 Z)<|Eq Z (rL Z)<|Em Z<|?_
 refine Ee Z ?_ ?_
 ·intro a
  have a := rz a
  have H := qZ (btf a) H
  refine VF 2 Z<|Vl (.int .u64 p0.value) Z (Rb0 Z)<|Vc Z<|Et Z<|Ea Z<|qh<|qE<|?_
  obtain e := ra H
  subst b
  refine ⟨(.inl Z), [(.bool (!(dcd (p0.value = 0))))], ⟨(.bool (!(dcd (p0.value = 0)))), _, Z, Z, Z⟩, ?_⟩
  exact Re0<|Sd<|⟨Z, Z, Z⟩
 ·intro a
  have a := ry a
  have H := ift a H
  refine Ez Z<|Ez Z<|Ez Z<|Ef Z<|Ea Z<|qh<|qE<|?_
  obtain e := ra H
  subst b
  refine ⟨(.inl Z), [(.bool false)], ⟨(.bool false), _, Z, Z, Z⟩, ?_⟩
  exact Re0<|Sd<|⟨Z, Z, Z⟩
theorem CG (p0 : ab5) (i : SV) (b : Int) (H : vk p0 = some b) (K : Kp) (G : List Ent) (h : Slr qK K (sv i) p0) :
  Fc Tryz.prog 88 #[(sv i), (.func (.func 68) #[] #[])] K (G) (fun v e c => v = (Vi b) ∧ G = c) := by
 refine qR Tryz.func88 Z Tryz.ntmps88 Tryz.results88 Z ?_
 unfold vk at H
 refine qj<|qf<|Ea Z<|qh<|?_
 refine qG (fun f e c => [] = f ∧ G = c ∧ zF = some b) ?_ ?_
 ·refine qj<|qf<|Em Z<|Eq Z (qV (T := qK) h Z Z)<|Em Z<|qh<|qD<|?_
  refine qW (fun n81 f e c => ∃ (a : Int), [(0, (sv i)), (1, (.func (.func 68) #[] #[])), (7, (Vi (p0.length : Int))), (8, (Vi a))] = f ∧ K = e ∧ G = c ∧ lp1 (vj p0) n81 a = some b) BIG ?_ ?_
  ·exact Sd ⟨_, by exact R4, 0, Z, Z, Z, H⟩
  rintro n81 _ _ _ - ⟨a, rfl, rfl, rfl, H⟩
  obtain ⟨u, t, rfl, o, H⟩ := uu H
  unfold vj at H
  refine qj<|qf<|Ec Z<|qh<|qj<|?_
  refine qy Z ?_ ?_
  ·intro d
   obtain ⟨d, H⟩ := It d H
   refine qA<|qj<|qD<|qj<|qf<|Em Z<|Ea Z<|qh<|qj<|qf<|Em Z<|Em Z<|Em Z<|?_
   obtain ⟨l, j, H⟩ := bnd H
   obtain ⟨_, rfl, n⟩ := Slr.at h j
   refine Eq Z (Qi (T := qK) h j Z)<|EL 3 (qC l) Z (Rdc.k n Z)<|?_
   obtain ⟨q, p, H⟩ := bnd H
   refine qo Z (Ek Tryz.call68 Z (C4 l q p _ _ ) ?_)
   rintro _ _ _ - ⟨rfl, rfl, rfl⟩
   refine qh ?_
   refine qy Z ?_ ?_
   ·intro g
    have H := ift g H
    refine qj<|qf<|Em Z<|Ea Z<|qh<|qE<|?_
    obtain m := ra H
    subst b
    refine ⟨(.inl Z), [(Vi a)], ⟨(Vi a), _, Z, Z, Z⟩, ?_⟩
    exact Sd ⟨Z, Z⟩
   ·intro g
    have H := qZ (btf g) H
    exact qA<|qf<|Er (wI (a + 1)) Z<|Em Z<|qh<|Sd<|⟨_, by exact R4, _, Nat.lt_succ_self _, (wI (a + 1)), Z, Z, Z, (o ▸ H)⟩
  ·intro d
   obtain ⟨d, H⟩ := If d H
   exact qY<|Sd<|⟨[], trivial, Z, Z, H⟩
 rintro _ r _ s ⟨rfl, rfl, H⟩
 unfold zF at H
 refine qj<|qf<|Ea Z<|qh<|qE<|?_
 obtain m := ra H
 subst b
 refine ⟨(.inl Z), [(Vi (-1))], ⟨(Vi (-1)), _, Z, Z, Z⟩, ?_⟩
 exact Sd ⟨Z, Z⟩
theorem CH (p0 : ab5) (a : SV) (c : Bool) (H : vl p0 = some c) (K : Kp) (G : List Ent) (e : Slr qK K (sv a) p0) :
  Fc Tryz.prog 67 #[(sv a), (.func (.func 68) #[] #[])] K (G) (fun v g d => v = (.bool c) ∧ G = d) := by
 refine qR Tryz.func67 Z Tryz.ntmps67 Tryz.results67 Z ?_
 unfold vl at H
 refine qj<|qf<|Ea Z<|qh<|qj<|qf<|Em Z<|Em Z<|?_
 obtain ⟨b, f, H⟩ := bnd H
 refine qo Z (Ek Tryz.call88 Z (CG p0 a b f _ _ e) ?_)
 rintro _ K7 _ i ⟨rfl, rfl⟩
 refine Ec Z<|Ea Z<|qh<|qE<|?_
 obtain h := ra H
 subst c
 refine ⟨(.inl Z), [(.bool (dcd (b ≥ 0)))], ⟨(.bool (dcd (b ≥ 0))), _, Z, Z, Z⟩, ?_⟩
 exact Sd ⟨Z, Z⟩
theorem CJ (p0 : ab5) (i : SV) (b : Int) (H : vn p0 = some b) (K : Kp) (G : List Ent) (h : Slr qK K (sv i) p0) :
  Fc Tryz.prog 88 #[(sv i), (.func (.func 89) #[] #[])] K (G) (fun v e c => v = (Vi b) ∧ G = c) := by
 refine qR Tryz.func88 Z Tryz.ntmps88 Tryz.results88 Z ?_
 unfold vn at H
 refine qj<|qf<|Ea Z<|qh<|?_
 refine qG (fun f e c => [] = f ∧ G = c ∧ zG = some b) ?_ ?_
 ·refine qj<|qf<|Em Z<|Eq Z (qV (T := qK) h Z Z)<|Em Z<|qh<|qD<|?_
  refine qW (fun n81 f e c => ∃ (a : Int), [(0, (sv i)), (1, (.func (.func 89) #[] #[])), (7, (Vi (p0.length : Int))), (8, (Vi a))] = f ∧ K = e ∧ G = c ∧ lp1 (vm p0) n81 a = some b) BIG ?_ ?_
  ·exact Sd ⟨_, by exact R4, 0, Z, Z, Z, H⟩
  rintro n81 _ _ _ - ⟨a, rfl, rfl, rfl, H⟩
  obtain ⟨u, t, rfl, o, H⟩ := uu H
  unfold vm at H
  refine qj<|qf<|Ec Z<|qh<|qj<|?_
  refine qy Z ?_ ?_
  ·intro d
   obtain ⟨d, H⟩ := It d H
   refine qA<|qj<|qD<|qj<|qf<|Em Z<|Ea Z<|qh<|qj<|qf<|Em Z<|Em Z<|Em Z<|?_
   obtain ⟨l, j, H⟩ := bnd H
   obtain ⟨_, rfl, n⟩ := Slr.at h j
   refine Eq Z (Qi (T := qK) h j Z)<|EL 3 (qC l) Z (Rdc.k n Z)<|?_
   obtain ⟨q, p, H⟩ := bnd H
   refine qo Z (Ek Tryz.call89 Z (C5 l q p _ _ ) ?_)
   rintro _ _ _ - ⟨rfl, rfl, rfl⟩
   refine qh ?_
   refine qy Z ?_ ?_
   ·intro g
    have H := ift g H
    refine qj<|qf<|Em Z<|Ea Z<|qh<|qE<|?_
    obtain m := ra H
    subst b
    refine ⟨(.inl Z), [(Vi a)], ⟨(Vi a), _, Z, Z, Z⟩, ?_⟩
    exact Sd ⟨Z, Z⟩
   ·intro g
    have H := qZ (btf g) H
    exact qA<|qf<|Er (wI (a + 1)) Z<|Em Z<|qh<|Sd<|⟨_, by exact R4, _, Nat.lt_succ_self _, (wI (a + 1)), Z, Z, Z, (o ▸ H)⟩
  ·intro d
   obtain ⟨d, H⟩ := If d H
   exact qY<|Sd<|⟨[], trivial, Z, Z, H⟩
 rintro _ r _ s ⟨rfl, rfl, H⟩
 unfold zG at H
 refine qj<|qf<|Ea Z<|qh<|qE<|?_
 obtain m := ra H
 subst b
 refine ⟨(.inl Z), [(Vi (-1))], ⟨(Vi (-1)), _, Z, Z, Z⟩, ?_⟩
 exact Sd ⟨Z, Z⟩
theorem CL (p0 : ab5) (a : SV) (c : Bool) (H : vo p0 = some c) (K : Kp) (G : List Ent) (e : Slr qK K (sv a) p0) :
  Fc Tryz.prog 67 #[(sv a), (.func (.func 89) #[] #[])] K (G) (fun v g d => v = (.bool c) ∧ G = d) := by
 refine qR Tryz.func67 Z Tryz.ntmps67 Tryz.results67 Z ?_
 unfold vo at H
 refine qj<|qf<|Ea Z<|qh<|qj<|qf<|Em Z<|Em Z<|?_
 obtain ⟨b, f, H⟩ := bnd H
 refine qo Z (Ek Tryz.call88 Z (CJ p0 a b f _ _ e) ?_)
 rintro _ K7 _ i ⟨rfl, rfl⟩
 refine Ec Z<|Ea Z<|qh<|qE<|?_
 obtain h := ra H
 subst c
 refine ⟨(.inl Z), [(.bool (dcd (b ≥ 0)))], ⟨(.bool (dcd (b ≥ 0))), _, Z, Z, Z⟩, ?_⟩
 exact Sd ⟨Z, Z⟩
theorem CM (p0 : Op) (c j : SV) (a : Bool) (H : vp p0 = some a) (K : Kp) (G : List Ent) (C : Slr qK K (sv c) p0.cases) (J : Slr Ty.i64 K (sv j) p0.draws) :
  Fc Tryz.prog 69 #[(.agg (ql p0 c j).toArray)] K (G) (fun v g d => v = (.bool a) ∧ G = d) := by
 refine qR Tryz.func69 Z Tryz.ntmps69 Tryz.results69 Z ?_
 unfold vp at H
 refine qj<|qf<|?_
 refine qo Z (rf (cs := (ql p0 c j)) Z Z Z (fun s => ?_))
 refine Ea Z<|qh<|qj<|qD<|?_
 refine qG (fun k g d => ∃ (D : Bool) (e f : Int) (h b i : Int), [(1, (Vp s)), (3, (.bool D))] = k ∧ K = g ∧ (.blk s 70 (ql (Op.mk e f h b i p0.cases p0.draws) c j)) :: G = d ∧ uU p0 D e f h b i = some a) ?_ ?_
 ·refine qf<|EF 0 Z<|El (Vi p0.kind) Z (Rb0 Z)<|Ec Z<|Em Z<|?_
  refine Ee Z ?_ ?_
  ·intro m
   have m := rh (rz (m))
   have H := qZ m H
   refine VF 0 Z<|Vl (Vi p0.kind) Z (Rb0 Z)<|Vc Z<|Et Z<|Em Z<|?_
   refine Ee Z ?_ ?_
   ·intro n
    have n := rh (rz (n))
    have H := qZ n H
    refine VF 0 Z<|Vl (Vi p0.kind) Z (Rb0 Z)<|Vc Z<|Et Z<|Em Z<|?_
    refine Ee Z ?_ ?_
    ·intro o
     have o := rh (rz (o))
     have H := qZ o H
     exact VF 1 Z<|Vl (Vi p0.mode) Z (Rb0 Z)<|Vc Z<|Et Z<|Ea Z<|qh<|Sd<|⟨_, by exact R2, (!(dcd (p0.mode = 0))), p0.kind, p0.mode, p0.channel, p0.value, p0.deadline, Z, Z, Z, H⟩
    ·intro o
     have o := ri (ry (o))
     have H := ift o H
     exact Ez Z<|Ez Z<|Ez Z<|Ef Z<|Ea Z<|qh<|Sd<|⟨_, by exact R2, false, p0.kind, p0.mode, p0.channel, p0.value, p0.deadline, Z, Z, Z, H⟩
   ·intro n
    have n := ri (ry (n))
    have H := ift n H
    exact Ez Z<|Ez Z<|Ez Z<|Ef Z<|Em Z<|Ez Z<|Ez Z<|Ez Z<|Ef Z<|Ea Z<|qh<|Sd<|⟨_, by exact R2, false, p0.kind, p0.mode, p0.channel, p0.value, p0.deadline, Z, Z, Z, H⟩
  ·intro m
   have m := ri (ry (m))
   have H := ift m H
   exact Ez Z<|Ez Z<|Ez Z<|Ef Z<|Em Z<|Ez Z<|Ez Z<|Ez Z<|Ef Z<|Em Z<|Ez Z<|Ez Z<|Ez Z<|Ef Z<|Ea Z<|qh<|Sd<|⟨_, by exact R2, false, p0.kind, p0.mode, p0.channel, p0.value, p0.deadline, Z, Z, Z, H⟩
 rintro _ _ _ - ⟨D, e, f, h, b, i, rfl, rfl, rfl, H⟩
 unfold uU at H
 refine qy Z ?_ ?_
 ·intro A
  have H := ift A H
  refine qj<|qf<|Ea Z<|qh<|qE<|?_
  obtain y := ra H
  subst a
  refine ⟨(.inl Z), [(.bool false)], ⟨(.bool false), _, Z, Z, Z⟩, ?_⟩
  exact Re0<|Sd<|⟨Z, Z⟩
 ·intro A
  have H := qZ (btf A) H
  refine qG (fun k g d => ∃ (E : Bool), [(1, (Vp s)), (22, (.bool E))] = k ∧ K = g ∧ (.blk s 70 (ql (Op.mk e f h b i p0.cases p0.draws) c j)) :: G = d ∧ xa e f h b i p0 E = some a) ?_ ?_
  ·refine qf<|EF 4 Z<|El (Vi i) Z (Rb0 Z)<|Ec Z<|Em Z<|?_
   refine Ee Z ?_ ?_
   ·intro p
    have p := rh (rz (p))
    have H := qZ p H
    exact VF 1 Z<|Vl (Vi f) Z (Rb0 Z)<|Vc Z<|Et Z<|Ea Z<|qh<|Sd<|⟨_, by exact R2, (!(dcd (f = 2))), Z, Z, Z, H⟩
   ·intro p
    have p := ri (ry (p))
    have H := ift p H
    exact Ez Z<|Ez Z<|Ez Z<|Ef Z<|Ea Z<|qh<|Sd<|⟨_, by exact R2, false, Z, Z, Z, H⟩
  rintro _ _ _ - ⟨E, rfl, rfl, rfl, H⟩
  unfold xa at H
  refine qy Z ?_ ?_
  ·intro B
   have H := ift B H
   refine qj<|qf<|Ea Z<|qh<|qE<|?_
   obtain y := ra H
   subst a
   refine ⟨(.inl Z), [(.bool false)], ⟨(.bool false), _, Z, Z, Z⟩, ?_⟩
   exact Re0<|Sd<|⟨Z, Z⟩
  ·intro B
   have H := qZ (btf B) H
   refine qj<|qf<|EF 0 Z<|El (Vi e) Z (Rb0 Z)<|Ec Z<|Ea Z<|qh<|?_
   refine qy Z ?_ ?_
   ·intro q
    have q := rh (rz (q))
    have H := qZ q H
    refine qG (fun k g d => ∃ (x : Bool), [(2, (.bool x))] = k ∧ K = g ∧ G = d ∧ vY x = some a) ?_ ?_
    ·refine qf<|EF 5 Z<|El (sv c) Z (Rb0 Z)<|Eq Z (qV (T := qK) C Z Z)<|Ec Z<|Em Z<|?_
     refine Ee Z ?_ ?_
     ·intro t
      obtain ⟨t, H⟩ := It t H
      refine VF 6 Z<|Vl (sv j) Z (Rb0 Z)<|Vq Z (qV (T := Ty.i64) J Z Z)<|Vc Z<|Et Z<|Em Z<|?_
      refine Ee Z ?_ ?_
      ·intro u
       obtain ⟨u, H⟩ := It u H
       refine VF 0 Z<|Vl (Vi e) Z (Rb0 Z)<|Vc Z<|Vm Z<|?_
       refine Ee Z ?_ ?_
       ·intro w
        obtain ⟨w, H⟩ := It w H
        exact Ez Z<|Ez Z<|Ez Z<|Vt Z<|Et Z<|Ea Z<|qh<|Re0<|Sd<|⟨_, by exact R1, true, Z, Z, Z, H⟩
       ·intro w
        obtain ⟨w, H⟩ := If w H
        exact VF 3 Z<|Vl (.int .u64 b) Z (Rb0 Z)<|Vc Z<|Vf Z<|Et Z<|Ea Z<|qh<|Re0<|Sd<|⟨_, by exact R1, (dcd (b = 0)), Z, Z, Z, H⟩
      ·intro u
       obtain ⟨u, H⟩ := If u H
       exact Ez Z<|Ez Z<|Ez Z<|Ez Z<|sL Z Z Z Z rfl<|sL Z Z Z Z rfl<|sL Z Z Z Z rfl<|Ez Z<|Ef Z<|Ea Z<|qh<|Re0<|Sd<|⟨_, by exact R1, false, Z, Z, Z, H⟩
     ·intro t
      obtain ⟨t, H⟩ := If t H
      exact Ez Z<|Ez Z<|Ez Z<|Ez Z<|Ef Z<|Em Z<|Ez Z<|Ez Z<|Ez Z<|Ez Z<|sL Z Z Z Z rfl<|sL Z Z Z Z rfl<|sL Z Z Z Z rfl<|Ez Z<|Ef Z<|Ea Z<|qh<|Re0<|Sd<|⟨_, by exact R1, false, Z, Z, Z, H⟩
    rintro _ _ _ - ⟨x, rfl, rfl, rfl, H⟩
    unfold vY at H
    refine qE ?_
    obtain y := ra H
    subst a
    refine ⟨(.inl Z), [(.bool x)], ⟨(.bool x), _, Z, Z, Z⟩, ?_⟩
    exact Sd ⟨Z, Z⟩
   ·intro q
    have q := ri (ry (q))
    have H := ift q H
    refine qG (fun k g d => ∃ (F : Bool), [(1, (Vp s)), (55, (.bool F))] = k ∧ K = g ∧ (.blk s 70 (ql (Op.mk e f h b i p0.cases p0.draws) c j)) :: G = d ∧ vZ e f h b i p0 F = some a) ?_ ?_
    ·refine qf<|EF 2 Z<|El (Vi h) Z (Rb0 Z)<|Ec Z<|Em Z<|?_
     refine Ee Z ?_ ?_
     ·intro r
      have r := rh (rz (r))
      have H := qZ r H
      exact Ez Z<|Ez Z<|Ez Z<|Et Z<|Em Z<|Ez Z<|Ez Z<|Ez Z<|Ez Z<|Ez Z<|Ez Z<|Ez Z<|Et Z<|Ea Z<|qh<|Sd<|⟨_, by exact R2, true, Z, Z, Z, H⟩
     ·intro r
      have r := ri (ry (r))
      have H := ift r H
      refine VF 3 Z<|Vl (.int .u64 b) Z (Rb0 Z)<|Vc Z<|Ef Z<|Em Z<|?_
      refine Ee Z ?_ ?_
      ·intro l
       have l := rh (rz (l))
       have H := qZ l H
       exact Ez Z<|Ez Z<|Ez Z<|Ez Z<|Ez Z<|Ez Z<|Ez Z<|Et Z<|Ea Z<|qh<|Sd<|⟨_, by exact R2, true, Z, Z, Z, H⟩
      ·intro l
       have l := ri (ry (l))
       have H := ift l H
       exact VF 6 Z<|Vl (sv j) Z (Rb0 Z)<|Vq Z (qV (T := Ty.i64) J rfl rfl)<|VF 5 Z<|Vl (sv c) Z (Rb0 Z)<|Vq Z (qV (T := qK) C rfl rfl)<|Vc Z<|Ef Z<|Ea Z<|qh<|Sd<|⟨_, by exact R2, (!(dcd ((p0.draws.length : Int) = (p0.cases.length : Int)))), rfl, rfl, rfl, H⟩
    rintro _ _ _ - ⟨F, rfl, rfl, rfl, H⟩
    unfold vZ at H
    refine qy Z ?_ ?_
    ·intro z
     have H := ift z H
     refine qj<|qf<|Ea Z<|qh<|qE<|?_
     obtain y := ra H
     subst a
     refine ⟨(.inl Z), [(.bool false)], ⟨(.bool false), _, Z, Z, Z⟩, ?_⟩
     exact Re0<|Sd<|⟨Z, Z⟩
    ·intro z
     have H := qZ (btf z) H
     refine qA<|qj<|qf<|EF 5 Z<|El (sv c) Z (Rb0 Z)<|?_
     obtain ⟨I, L, H⟩ := bnd H
     refine qo rfl (Ek Tryz.call67 Z (CL p0.cases c I L _ _ C) ?_)
     rintro _ M _ N ⟨rfl, rfl⟩
     refine Eq Z (rL Z)<|Ea Z<|qh<|qE<|?_
     obtain y := ra H
     subst a
     refine ⟨(.inl Z), [(.bool (!(I)))], ⟨(.bool (!(I))), _, Z, Z, Z⟩, ?_⟩
     exact Re0<|Sd<|⟨Z, Z⟩
theorem CN (p0 : Op) (b a : SV) (c : Int) (H : vt p0 = some c) (K : Kp) (G : List Ent) (B : Slr qK K (sv b) p0.cases) (C : Slr Ty.i64 K (sv a) p0.draws) :
  Fc Tryz.prog 37 #[(.agg (ql p0 b a).toArray)] K (G) (fun v g d => v = (Vi c) ∧ G = d) := by
 refine qR Tryz.func37 Z Tryz.ntmps37 Tryz.results37 Z ?_
 unfold vt at H
 refine qj<|qf<|?_
 refine qo Z (rf (cs := (ql p0 b a)) Z Z Z (fun e => ?_))
 refine Ea Z<|qh<|qj<|?_
 refine qG (fun f g d => ∃ (E : Bool), [(1, (Vp e)), (22, (.bool E))] = f ∧ K = g ∧ (.blk e 70 (ql p0 b a)) :: G = d ∧ uW p0 E = some c) ?_ ?_
 ·refine qf<|EF 0 Z<|El (Vi p0.kind) Z (Rb0 Z)<|Ec Z<|Em Z<|?_
  refine Ee Z ?_ ?_
  ·intro m
   obtain ⟨m, H⟩ := It m H
   exact Ez Z<|Ez Z<|Ez Z<|Et Z<|Em Z<|Ez Z<|Ez Z<|Ez Z<|Et Z<|Em Z<|Ez Z<|Ez Z<|Ez Z<|Et Z<|qh<|Sd<|⟨_, by exact R2, true, Z, Z, Z, H⟩
  ·intro m
   obtain ⟨m, H⟩ := If m H
   refine VF 0 Z<|Vl (Vi p0.kind) Z (Rb0 Z)<|Vc Z<|Ef Z<|Em Z<|?_
   refine Ee Z ?_ ?_
   ·intro n
    obtain ⟨n, H⟩ := It n H
    exact Ez Z<|Ez Z<|Ez Z<|Et Z<|Em Z<|Ez Z<|Ez Z<|Ez Z<|Et Z<|qh<|Sd<|⟨_, by exact R2, true, Z, Z, Z, H⟩
   ·intro n
    obtain ⟨n, H⟩ := If n H
    refine VF 1 Z<|Vl (Vi p0.mode) Z (Rb0 Z)<|Vc Z<|Ef Z<|Em Z<|?_
    refine Ee Z ?_ ?_
    ·intro o
     obtain ⟨o, H⟩ := It o H
     exact Ez Z<|Ez Z<|Ez Z<|Et Z<|qh<|Sd<|⟨_, by exact R2, true, Z, Z, Z, H⟩
    ·intro o
     obtain ⟨o, H⟩ := If o H
     exact VF 1 Z<|Vl (Vi p0.mode) Z (Rb0 Z)<|Vc Z<|Ef Z<|qh<|Sd<|⟨_, by exact R2, (dcd (p0.mode > 2)), Z, Z, Z, H⟩
 rintro _ _ _ - ⟨E, rfl, rfl, rfl, H⟩
 unfold uW at H
 refine qy Z ?_ ?_
 ·intro x
  have H := ift x H
  refine qj<|qf<|Ea Z<|qh<|qE<|?_
  obtain l := ra H
  subst c
  refine ⟨(.inl Z), [(Vi 2)], ⟨(Vi 2), _, Z, Z, Z⟩, ?_⟩
  exact Re0<|Sd<|⟨Z, Z⟩
 ·intro x
  have H := qZ (btf x) H
  refine qA<|qj<|?_
  refine qG (fun f g d => ∃ (F : Bool), [(1, (Vp e)), (41, (.bool F))] = f ∧ (.blk e 70 (ql p0 b a)) :: G = d ∧ uV p0 F = some c) ?_ ?_
  ·refine qf<|EF 2 Z<|El (Vi p0.channel) Z (Rb0 Z)<|?_
   obtain ⟨ab, W, H⟩ := bnd H
   refine qo Z (Ek Tryz.call66 Z (AQ p0.channel ab W _ _ ) ?_)
   rintro _ _ _ - ⟨rfl, rfl, rfl⟩
   refine Eq Z (rL Z)<|Em Z<|?_
   refine Ee Z ?_ ?_
   ·intro i
    have i := rz i
    have H := qZ (btf i) H
    exact Ez Z<|Ez Z<|Ez Z<|Et Z<|Em Z<|Ez Z<|Ez Z<|Ez Z<|Et Z<|Em Z<|Ez Z<|Ez Z<|Ez Z<|Et Z<|qh<|Sd<|⟨_, by exact R2, true, Z, Z, H⟩
   ·intro i
    have i := ry i
    have H := ift i H
    refine VF 4 Z<|Vl (Vi p0.deadline) Z (Rb0 Z)<|Vc Z<|Ef Z<|Em Z<|?_
    refine Ee Z ?_ ?_
    ·intro p
     obtain ⟨p, H⟩ := It p H
     exact Ez Z<|Ez Z<|Ez Z<|Et Z<|Em Z<|Ez Z<|Ez Z<|Ez Z<|Et Z<|qh<|Sd<|⟨_, by exact R2, true, Z, Z, H⟩
    ·intro p
     obtain ⟨p, H⟩ := If p H
     refine VF 4 Z<|Vl (Vi p0.deadline) Z (Rb0 Z)<|Vc Z<|Ef Z<|Em Z<|?_
     refine Ee Z ?_ ?_
     ·intro q
      obtain ⟨q, H⟩ := It q H
      exact Ez Z<|Ez Z<|Ez Z<|Et Z<|qh<|Sd<|⟨_, by exact R2, true, Z, Z, H⟩
     ·intro q
      obtain ⟨q, H⟩ := If q H
      refine VF 5 Z<|Vl (sv b) Z (Rb0 Z)<|?_
      obtain ⟨N, X, H⟩ := bnd H
      refine rZ rfl rfl rfl rfl (Ek Tryz.call67 Z (CH p0.cases b N X _ _ B) ?_)
      rintro _ ad _ ag ⟨rfl, rfl⟩
      exact Ef Z<|qh<|Sd<|⟨_, by exact R2, N, Z, Z, H⟩
  rintro _ w _ u ⟨F, rfl, rfl, H⟩
  unfold uV at H
  refine qy Z ?_ ?_
  ·intro y
   have H := ift y H
   refine qj<|qf<|Ea Z<|qh<|qE<|?_
   obtain l := ra H
   subst c
   refine ⟨(.inl Z), [(Vi 2)], ⟨(Vi 2), _, Z, Z, Z⟩, ?_⟩
   exact Re0<|Sd<|⟨Z, Z⟩
  ·intro y
   have H := qZ (btf y) H
   refine qA<|qj<|?_
   refine qG (fun f g d => ∃ (I : Bool), [(1, (Vp e)), (51, (.bool I))] = f ∧ w = g ∧ (.blk e 70 (ql p0 b a)) :: G = d ∧ xc p0 I = some c) ?_ ?_
   ·refine qf<|EF 5 Z<|El (sv b) Z (Rb0 Z)<|?_
    have R := B.mono u
    refine Eq Z (qV (T := qK) R Z Z)<|Ec Z<|Em Z<|?_
    refine Ee Z ?_ ?_
    ·intro r
     obtain ⟨r, H⟩ := It r H
     exact Ez Z<|Ez Z<|Ez Z<|Ez Z<|Et Z<|qh<|Sd<|⟨_, by exact R2, true, Z, Z, Z, H⟩
    ·intro r
     obtain ⟨r, H⟩ := If r H
     refine VF 6 Z<|Vl (sv a) Z (Rb0 Z)<|?_
     have S := C.mono u
     exact Vq Z (qV (T := Ty.i64) S Z Z)<|Vc Z<|Ef Z<|qh<|Sd<|⟨_, by exact R2, (dcd ((p0.draws.length : Int) > 6)), Z, Z, Z, H⟩
   rintro _ _ _ - ⟨I, rfl, rfl, rfl, H⟩
   unfold xc at H
   refine qy Z ?_ ?_
   ·intro z
    have H := ift z H
    refine qj<|qf<|Ea Z<|qh<|qE<|?_
    obtain l := ra H
    subst c
    refine ⟨(.inl Z), [(Vi 3)], ⟨(Vi 3), _, Z, Z, Z⟩, ?_⟩
    exact Re0<|Sd<|⟨Z, Z⟩
   ·intro z
    have H := qZ (btf z) H
    refine qA ?_
    refine qG (fun f g d => [(1, (Vp e))] = f ∧ (.blk e 70 (ql p0 b a)) :: G = d ∧ vq p0 = some c) ?_ ?_
    ·refine qj<|qf<|EF 6 Z<|El (sv a) Z (Rb0 Z)<|?_
     have D := C.mono u
     refine Eq Z (qV (T := Ty.i64) D Z Z)<|Em Z<|qh<|qD<|?_
     refine qW (fun n216 f g d => ∃ (h : Int), [(1, (Vp e)), (53, (sv a)), (54, (Vi (p0.draws.length : Int))), (55, (Vi h))] = f ∧ w = g ∧ (.blk e 70 (ql p0 b a)) :: G = d ∧ lp1 (xb p0) n216 h = some c) BIG ?_ ?_
     ·exact Sd ⟨_, by exact R4, 0, Z, Z, Z, H⟩
     rintro n216 _ _ _ - ⟨h, rfl, rfl, rfl, H⟩
     obtain ⟨ai, aa, rfl, Q, H⟩ := uu H
     unfold xb at H
     refine qj<|qf<|Ec Z<|qh<|qj<|?_
     refine qy Z ?_ ?_
     ·intro s
      obtain ⟨s, H⟩ := It s H
      refine qA<|qj<|qD<|qj<|qf<|Em Z<|?_
      obtain ⟨O, M, H⟩ := bnd H
      obtain ⟨_, rfl, P⟩ := Slr.at D M
      refine Eq Z (Qi (T := Ty.i64) D M Z)<|El (Vi O) Z (Rdc.k P Z)<|Ea Z<|Ea Z<|qh<|?_
      refine qG (fun f g d => ∃ (J : Bool), [(1, (Vp e)), (53, (sv a)), (54, (Vi (p0.draws.length : Int))), (55, (Vi h)), (66, (.bool J))] = f ∧ w = g ∧ (.blk e 70 (ql p0 b a)) :: G = d ∧ vr p0 h aa J = some c) ?_ ?_
      ·refine qf<|Em Z<|Ec Z<|Em Z<|?_
       refine Ee Z ?_ ?_
       ·intro t
        obtain ⟨t, H⟩ := It t H
        exact Ez Z<|Ez Z<|Ez Z<|Et Z<|qh<|Sd<|⟨_, by exact R5, true, Z, Z, Z, H⟩
       ·intro t
        obtain ⟨t, H⟩ := If t H
        exact Vm Z<|Vm Z<|Vc Z<|Ef Z<|qh<|Sd<|⟨_, by exact R5, (dcd (O > h)), Z, Z, Z, H⟩
      rintro _ _ _ - ⟨J, rfl, rfl, rfl, H⟩
      unfold vr at H
      refine qy Z ?_ ?_
      ·intro A
       have H := ift A H
       refine qj<|qf<|Ea Z<|qh<|qE<|?_
       obtain l := ra H
       subst c
       refine ⟨(.inl Z), [(Vi 2)], ⟨(Vi 2), _, Z, Z, Z⟩, ?_⟩
       exact Re0<|Sd<|⟨Z, Z⟩
      ·intro A
       have H := qZ (btf A) H
       exact qA<|qf<|Er (wI (h + 1)) Z<|Em Z<|qh<|Sd<|⟨_, by exact R4, _, Nat.lt_succ_self _, (wI (h + 1)), Z, Z, Z, (Q ▸ H)⟩
     ·intro s
      obtain ⟨s, H⟩ := If s H
      exact qY<|Sd<|⟨_, by exact R1, Z, Z, H⟩
    rintro _ ae _ L ⟨rfl, rfl, H⟩
    unfold vq at H
    refine qj<|qj<|qf<|EL 7 (ql p0 b a) Z (Rb0 Z)<|?_
    obtain ⟨ac, Y, H⟩ := bnd H
    have U := (B.mono u).mono L
    have V := (C.mono u).mono L
    refine qo Z (Ek Tryz.call69 Z (CM p0 b a ac Y _ _ U V) ?_)
    rintro _ af _ ah ⟨rfl, rfl⟩
    refine Eq Z (rL Z)<|qh<|?_
    refine qy Z ?_ ?_
    ·intro j
     have j := rz j
     have H := qZ (btf j) H
     refine qj<|qf<|Ea Z<|qh<|qE<|?_
     obtain l := ra H
     subst c
     refine ⟨(.inl Z), [(Vi 5)], ⟨(Vi 5), _, Z, Z, Z⟩, ?_⟩
     exact Re0<|Sd<|⟨Z, Z⟩
    ·intro j
     have j := ry j
     have H := ift j H
     refine qA<|qj<|qf<|Ea Z<|qh<|qE<|?_
     obtain l := ra H
     subst c
     refine ⟨(.inl Z), [(Vi 0)], ⟨(Vi 0), _, Z, Z, Z⟩, ?_⟩
     exact Re0<|Sd<|⟨Z, Z⟩
theorem CE (p0 : qp) (c e : SV) (a : Int) (H : vi p0 = some a) (K : Kp) (G : List Ent) (r : Slr Ty.i64 K (sv c) p0.capacities) (z : Slr Ty.u64 K (sv e) p0.starts) :
  Fc Tryz.prog 36 #[(.agg (qw p0 c e).toArray)] K (G) (fun v f b => v = (Vi a) ∧ G = b) := by
 refine qR Tryz.func36 Z Tryz.ntmps36 Tryz.results36 Z ?_
 unfold vi at H
 refine qj<|qf<|?_
 refine qo Z (rf (cs := (qw p0 c e)) Z Z Z (fun g => ?_))
 refine Ea Z<|qh<|qj<|qj<|qf<|EF 0 Z<|El (sv c) Z (Rb0 Z)<|Eq Z (qV (T := Ty.i64) r Z Z)<|Ec Z<|qh<|?_
 refine qy Z ?_ ?_
 ·intro q
  obtain ⟨q, H⟩ := It q H
  refine qj<|qf<|Ea Z<|qh<|qE<|?_
  obtain j := ra H
  subst a
  refine ⟨(.inl Z), [(Vi 3)], ⟨(Vi 3), _, Z, Z, Z⟩, ?_⟩
  exact Re0<|Sd<|⟨Z, Z⟩
 ·intro q
  obtain ⟨q, H⟩ := If q H
  refine qA<|qj<|qj<|qf<|EF 1 Z<|El (sv e) Z (Rb0 Z)<|Eq Z (qV (T := Ty.u64) z Z Z)<|EF 0 Z<|El (sv c) Z (Rb0 Z)<|Eq Z (qV (T := Ty.i64) r Z Z)<|Ec Z<|qh<|?_
  refine qy Z ?_ ?_
  ·intro h
   have h := rh (rz (h))
   have H := qZ h H
   refine qj<|qf<|Ea Z<|qh<|qE<|?_
   obtain j := ra H
   subst a
   refine ⟨(.inl Z), [(Vi 5)], ⟨(Vi 5), _, Z, Z, Z⟩, ?_⟩
   exact Re0<|Sd<|⟨Z, Z⟩
  ·intro h
   have h := ri (ry (h))
   have H := ift h H
   refine qA ?_
   refine qG (fun d f b => [(1, (Vp g))] = d ∧ (.blk g 30 (qw p0 c e)) :: G = b ∧ vg p0 = some a) ?_ ?_
   ·refine qj<|qf<|EF 0 Z<|El (sv c) Z (Rb0 Z)<|Eq Z (qV (T := Ty.i64) r Z Z)<|Em Z<|qh<|qD<|?_
    refine qW (fun n129 d f b => ∃ (i : Int), [(1, (Vp g)), (19, (sv c)), (20, (Vi (p0.capacities.length : Int))), (21, (Vi i))] = d ∧ K = f ∧ (.blk g 30 (qw p0 c e)) :: G = b ∧ lp1 (vh p0) n129 i = some a) BIG ?_ ?_
    ·exact Sd ⟨_, by exact R4, 0, Z, Z, Z, H⟩
    rintro n129 _ _ _ - ⟨i, rfl, rfl, rfl, H⟩
    obtain ⟨R, N, rfl, L, H⟩ := uu H
    unfold vh at H
    refine qj<|qf<|Ec Z<|qh<|qj<|?_
    refine qy Z ?_ ?_
    ·intro l
     obtain ⟨l, H⟩ := It l H
     refine qA<|qj<|qD<|qj<|qf<|?_
     obtain ⟨C, A, H⟩ := bnd H
     obtain ⟨_, rfl, I⟩ := Slr.at r A
     refine Eq Z (Qi (T := Ty.i64) r A Z)<|El (Vi C) Z (Rdc.k I Z)<|Ea Z<|qh<|?_
     refine qG (fun d f b => ∃ (x : Bool), [(1, (Vp g)), (19, (sv c)), (20, (Vi (p0.capacities.length : Int))), (21, (Vi i)), (30, (.bool x))] = d ∧ K = f ∧ (.blk g 30 (qw p0 c e)) :: G = b ∧ w8 p0 i N x = some a) ?_ ?_
     ·refine qf<|Em Z<|Ec Z<|Em Z<|?_
      refine Ee Z ?_ ?_
      ·intro m
       obtain ⟨m, H⟩ := It m H
       exact Ez Z<|Ez Z<|Et Z<|qh<|Sd<|⟨_, by exact R5, true, Z, Z, Z, H⟩
      ·intro m
       obtain ⟨m, H⟩ := If m H
       exact Vm Z<|Vc Z<|Ef Z<|qh<|Sd<|⟨_, by exact R5, (dcd (C > 16)), Z, Z, Z, H⟩
     rintro _ _ _ - ⟨x, rfl, rfl, rfl, H⟩
     unfold w8 at H
     refine qy Z ?_ ?_
     ·intro t
      have H := ift t H
      refine qj<|qf<|Ea Z<|qh<|qE<|?_
      obtain j := ra H
      subst a
      refine ⟨(.inl Z), [(Vi 2)], ⟨(Vi 2), _, Z, Z, Z⟩, ?_⟩
      exact Re0<|Sd<|⟨Z, Z⟩
     ·intro t
      have H := qZ (btf t) H
      exact qA<|qf<|Er (wI (i + 1)) Z<|Em Z<|qh<|Sd<|⟨_, by exact R4, _, Nat.lt_succ_self _, (wI (i + 1)), Z, Z, Z, (L ▸ H)⟩
    ·intro l
     obtain ⟨l, H⟩ := If l H
     exact qY<|Sd<|⟨_, by exact R1, Z, Z, H⟩
   rintro _ D _ F ⟨rfl, rfl, H⟩
   unfold vg at H
   refine qG (fun d f b => [(1, (Vp g))] = d ∧ (.blk g 30 (qw p0 c e)) :: G = b ∧ ve p0 = some a) ?_ ?_
   ·refine qj<|qf<|EF 1 Z<|El (sv e) Z (Rb0 Z)<|?_
    have w := z.mono F
    refine Eq Z (qV (T := Ty.u64) w Z Z)<|Em Z<|qh<|qD<|?_
    refine qW (fun n200 d f b => ∃ (s : Int), [(1, (Vp g)), (33, (sv e)), (34, (Vi (p0.starts.length : Int))), (35, (Vi s))] = d ∧ D = f ∧ (.blk g 30 (qw p0 c e)) :: G = b ∧ lp1 (vf p0) n200 s = some a) BIG ?_ ?_
    ·exact Sd ⟨_, by exact R4, 0, Z, Z, Z, H⟩
    rintro n200 _ _ _ - ⟨s, rfl, rfl, rfl, H⟩
    obtain ⟨S, Q, rfl, M, H⟩ := uu H
    unfold vf at H
    refine qj<|qf<|Ec Z<|qh<|qj<|?_
    refine qy Z ?_ ?_
    ·intro n
     obtain ⟨n, H⟩ := It n H
     refine qA<|qj<|qD<|qj<|qf<|?_
     obtain ⟨O, B, H⟩ := bnd H
     obtain ⟨_, rfl, J⟩ := Slr.at w B
     refine Eq Z (Qi (T := Ty.u64) w B Z)<|El (.int .u64 O) Z (Rdc.k J Z)<|Ea Z<|qh<|qj<|qf<|Em Z<|Ec Z<|qh<|?_
     refine qy Z ?_ ?_
     ·intro o
      obtain ⟨o, H⟩ := It o H
      refine qj<|qf<|Ea Z<|qh<|qE<|?_
      obtain j := ra H
      subst a
      refine ⟨(.inl Z), [(Vi 2)], ⟨(Vi 2), _, Z, Z, Z⟩, ?_⟩
      exact Re0<|Sd<|⟨Z, Z⟩
     ·intro o
      obtain ⟨o, H⟩ := If o H
      exact qA<|qf<|Er (wI (s + 1)) Z<|Em Z<|qh<|Sd<|⟨_, by exact R4, _, Nat.lt_succ_self _, (wI (s + 1)), Z, Z, Z, (M ▸ H)⟩
    ·intro n
     obtain ⟨n, H⟩ := If n H
     exact qY<|Sd<|⟨_, by exact R1, Z, Z, H⟩
   rintro _ E _ P ⟨rfl, rfl, H⟩
   unfold ve at H
   refine qj ?_
   refine qG (fun d f b => ∃ (y : Bool), [(49, (.bool y))] = d ∧ E = f ∧ G = b ∧ vd y = some a) ?_ ?_
   ·refine qf<|EF 2 Z<|El (Vi p0.threads) Z (Rb0 Z)<|Ec Z<|Em Z<|?_
    refine Ee Z ?_ ?_
    ·intro p
     obtain ⟨p, H⟩ := It p H
     exact Ez Z<|Ez Z<|Ez Z<|Et Z<|qh<|Re0<|Sd<|⟨_, by exact R1, true, Z, Z, Z, H⟩
    ·intro p
     obtain ⟨p, H⟩ := If p H
     exact VF 2 Z<|Vl (Vi p0.threads) Z (Rb0 Z)<|Vc Z<|Ef Z<|qh<|Re0<|Sd<|⟨_, by exact R1, (dcd (p0.threads > 8)), Z, Z, Z, H⟩
   rintro _ _ _ - ⟨y, rfl, rfl, rfl, H⟩
   unfold vd at H
   refine qy Z ?_ ?_
   ·intro u
    have H := ift u H
    refine qj<|qf<|Ea Z<|qh<|qE<|?_
    obtain j := ra H
    subst a
    refine ⟨(.inl Z), [(Vi 2)], ⟨(Vi 2), _, Z, Z, Z⟩, ?_⟩
    exact Sd ⟨Z, Z⟩
   ·intro u
    have H := qZ (btf u) H
    refine qA<|qj<|qf<|Ea Z<|qh<|qE<|?_
    obtain j := ra H
    subst a
    refine ⟨(.inl Z), [(Vi 0)], ⟨(Vi 0), _, Z, Z, Z⟩, ?_⟩
    exact Sd ⟨Z, Z⟩
theorem va (g : Nat) (p0 : qk) (a : SV) (e : ByteArray) (d : ab2) (f : Bool) (H : t8 p0 = some (e, d, f)) (K : Kp) (G : List Ent) (b : Slr Ty.str K (sv a) p0.words) :
  Fc Tryz.prog 53 #[(Vp g)] K ((.blk g 90 (qu p0 a)) :: G) (fun v h m => ∃ (l : SV), v = (.string e) ∧ K = h ∧ (.blk g 90 (qu (qk.mk d f) l)) :: G = m ∧ Slr Ty.str h (sv l) d) := by
 refine qR Tryz.func53 Z Tryz.ntmps53 Tryz.results53 Z ?_
 unfold t8 at H
 refine qj<|qf<|Ea Z<|qh<|qj<|qj<|qf<|Em Z<|Eq Z (qm Z)<|EF 0 Z<|El (sv a) Z (Rb0 Z)<|Eq Z (qV (T := Ty.str) b Z Z)<|Ec Z<|qh<|?_
 refine qy Z ?_ ?_
 ·intro c
  obtain ⟨c, H⟩ := It c H
  refine qj<|qf<|Em Z<|Eq Z (qm Z)<|EF 1 Z<|?_
  refine qo Z (So [(.bool true)] (qu (qk.mk p0.words true) a) Z .here Z ?_)
  refine qh<|qj<|qf<|Ea Z<|qh<|qE<|?_
  obtain ⟨n, p, o⟩ := sg H
  subst e d f
  refine ⟨(.inl Z), [(.string (⟨#[]⟩ : ByteArray))], ⟨(.string (⟨#[]⟩ : ByteArray)), _, Z, Z, Z⟩, ?_⟩
  exact Sd ⟨a, Z, Z, Z, b⟩
 ·intro c
  obtain ⟨c, H⟩ := If c H
  refine qA<|qj<|qf<|Em Z<|Eq Z (qm Z)<|EF 0 Z<|El (sv a) Z (Rb0 Z)<|?_
  obtain ⟨x12, i, H⟩ := bnd H
  obtain ⟨_, rfl, q⟩ := Slr.at b i
  refine Eq Z (Qi (T := Ty.str) b i Z)<|El (.string x12) Z (Rdc.k q Z)<|Ea Z<|qh<|qj<|qf<|Em Z<|Em Z<|Eq Z (qm Z)<|EF 0 Z<|El (sv a) Z (Rb0 Z)<|?_
  obtain ⟨x17, j, H⟩ := bnd H
  have r := Slr.cutL b j
  refine Eq Z (Cm (T := Ty.str) b j Z Z Z Z Z)<|Eq Z (qm Z)<|EF 0 Z<|?_
  refine qo Z (So [(sv (tU a 1 ((1 : Int).toNat) p0.words.length))] (qu (qk.mk x17 p0.bad) (tU a 1 ((1 : Int).toNat) p0.words.length)) Z .here Z ?_)
  refine qh<|qj<|qf<|Em Z<|Ea Z<|qh<|qE<|?_
  obtain ⟨n, p, o⟩ := sg H
  subst e d f
  refine ⟨(.inl Z), [(.string x12)], ⟨(.string x12), _, Z, Z, Z⟩, ?_⟩
  exact Sd ⟨(tU a 1 ((1 : Int).toNat) p0.words.length), Z, Z, Z, r⟩
theorem uh (d : Nat) (p0 : qk) (a : SV) (p1 : ByteArray) (f : Bool) (c : ab2) (H : ua p0 p1 = some (f, c)) (K : Kp) (G : List Ent) (b : Slr Ty.str K (sv a) p0.words) :
  Fc Tryz.prog 79 #[(Vp d), (.string p1)] K ((.blk d 90 (qu p0 a)) :: G) (fun v g h => ∃ (n : SV), v = (.bool f) ∧ K = g ∧ (.blk d 90 (qu (qk.mk c p0.bad) n)) :: G = h ∧ Slr Ty.str g (sv n) c) := by
 refine qR Tryz.func79 Z Tryz.ntmps79 Tryz.results79 Z ?_
 unfold ua at H
 refine qj<|qf<|Ea Z<|qh<|qj<|?_
 refine qG (fun p g h => ∃ (j : Bool), [(0, (Vp d)), (20, (.bool j))] = p ∧ K = g ∧ (.blk d 90 (qu p0 a)) :: G = h ∧ yR p0 j = some (f, c)) ?_ ?_
 ·refine qf<|Em Z<|Eq Z (qm Z)<|EF 0 Z<|El (sv a) Z (Rb0 Z)<|Eq Z (qV (T := Ty.str) b Z Z)<|Ec Z<|Em Z<|?_
  refine Ee Z ?_ ?_
  ·intro e
   obtain ⟨e, H⟩ := It e H
   exact Ez Z<|Ez Z<|Ez Z<|Ez Z<|Ez Z<|Ez Z<|Ez Z<|Ez Z<|Et Z<|qh<|Sd<|⟨_, by exact R2, true, Z, Z, Z, H⟩
  ·intro e
   obtain ⟨e, H⟩ := If e H
   refine Vm Z<|Vq Z (qm Z)<|VF 0 Z<|Vl (sv a) Z (Rb0 Z)<|?_
   obtain ⟨o, l, H⟩ := bnd H
   obtain ⟨_, rfl, s⟩ := Slr.at b l
   exact Vq Z (Qi (T := Ty.str) b l Z)<|Vl (.string o) Z (Rdc.k s Z)<|Vm Z<|Vq Z (uf Z Z)<|Ef Z<|qh<|Sd<|⟨_, by exact R2, (!(dcd (o = p1))), Z, Z, Z, H⟩
 rintro _ _ _ - ⟨j, rfl, rfl, rfl, H⟩
 unfold yR at H
 refine qy Z ?_ ?_
 ·intro i
  have H := ift i H
  refine qj<|qf<|Ea Z<|qh<|qE<|?_
  obtain ⟨q, r⟩ := ze H
  subst f c
  refine ⟨(.inl Z), [(.bool false)], ⟨(.bool false), _, Z, Z, Z⟩, ?_⟩
  exact Sd ⟨a, Z, Z, Z, b⟩
 ·intro i
  have H := qZ (btf i) H
  refine qA<|qj<|qf<|Em Z<|Em Z<|Eq Z (qm Z)<|EF 0 Z<|El (sv a) Z (Rb0 Z)<|?_
  obtain ⟨u, m, H⟩ := bnd H
  have t := Slr.cutL b m
  refine Eq Z (Cm (T := Ty.str) b m Z Z Z Z Z)<|Eq Z (qm Z)<|EF 0 Z<|?_
  refine qo Z (So [(sv (tU a 1 ((1 : Int).toNat) p0.words.length))] (qu (qk.mk u p0.bad) (tU a 1 ((1 : Int).toNat) p0.words.length)) Z .here Z ?_)
  refine qh<|qj<|qf<|Ea Z<|qh<|qE<|?_
  obtain ⟨q, r⟩ := ze H
  subst f c
  refine ⟨(.inl Z), [(.bool true)], ⟨(.bool true), _, Z, Z, Z⟩, ?_⟩
  exact Sd ⟨(tU a 1 ((1 : Int).toNat) p0.words.length), Z, Z, Z, t⟩
end Go.Hx
