
import Derived.Test.YtphoeijgpmlbpaaGreatDoorXZM
import Derived.Test.YtphoeijgpmlbpaaGreatDoorXZWHistory
set_option linter.unusedVariables false
set_option linter.unusedSimpArgs false
namespace Go.Hx
open Go Go.Proofs
set_option maxRecDepth 10000
set_option maxHeartbeats 1000000
theorem DU  (m : Bool) (H : wa = some m) (K : Kp) (G : List Ent) (hT : m3 K) :
  Fc Tryz.prog 7 #[] K (G) (fun v U n => v = (.bool m) ∧ G = n) := by
 refine fN Tryz.func7 rfl Tryz.ntmps7 Tryz.results7 rfl ?_
 unfold wa at H
 refine fc<|fa<|Ea Z<|fb<|fc<|fa<|?_
 have B : RowR Ty.i64 K [[(Vi 1)]] [1] := RowR.cons rfl (RowR.nil)
 refine ff rfl (gh (T := Ty.i64) (rows := [[(Vi 1)]]) (l := [1]) rfl rfl rfl B rfl rfl rfl rfl rfl rfl rfl rfl (fun a => ?_))
 have C : RowR Ty.u64 K [[(.int .u64 0)]] [0] := RowR.cons rfl (RowR.nil)
 refine ff rfl (gh (T := Ty.u64) (rows := [[(.int .u64 0)]]) (l := [0]) rfl rfl rfl C rfl rfl rfl rfl rfl rfl rfl rfl (fun b => ?_))
 refine Ow.shift (Shift.settle (T := Ty.i64) (.there .here) B rfl (fun aG w am => Sd ?_))
 have ao := C.mono w
 refine Ow.shift (Shift.settle (T := Ty.u64) .here ao rfl (fun u x an => Sd ?_))
 refine Eq Z (fH (cs := (fq (fP.mk [1] [0] 2) a b)) rfl rfl rfl rfl rfl rfl) ?_
 refine ff rfl (fE (cs := (fq (fP.mk [] [] 0) fB fB)) rfl rfl rfl rfl (fun aJ => ?_))
 refine ff rfl (fm (vs := (fq (fP.mk [1] [0] 2) a b)) (all' := (fq (fP.mk [1] [0] 2) a b)) rfl rfl rfl rfl rfl .here rfl rfl rfl ?_)
 refine fb<|fc<|fa<|Eq Z (fH (cs := (fj (Op.mk 1 0 0 5 0 [] []) fB fB)) rfl rfl rfl rfl rfl rfl)<|?_
 have D : RowR hQ u [(fj (Op.mk 1 0 0 5 0 [] []) fB fB)] [(Op.mk 1 0 0 5 0 [] [])] := RowR.cons ⟨fB, fB, rfl, (Slr.nil fX _), (Slr.nil Ty.i64 _)⟩ (RowR.nil)
 refine ff rfl (gh (T := hQ) (rows := [(fj (Op.mk 1 0 0 5 0 [] []) fB fB)]) (l := [(Op.mk 1 0 0 5 0 [] [])]) rfl rfl rfl D rfl rfl rfl rfl rfl rfl rfl rfl (fun s => ?_))
 refine Eq Z (fH (cs := (fj (Op.mk 2 0 0 0 0 [] []) fB fB)) rfl rfl rfl rfl rfl rfl) ?_
 have E : RowR hQ u [(fj (Op.mk 2 0 0 0 0 [] []) fB fB)] [(Op.mk 2 0 0 0 0 [] [])] := RowR.cons ⟨fB, fB, rfl, (Slr.nil fX _), (Slr.nil Ty.i64 _)⟩ (RowR.nil)
 refine ff rfl (gh (T := hQ) (rows := [(fj (Op.mk 2 0 0 0 0 [] []) fB fB)]) (l := [(Op.mk 2 0 0 0 0 [] [])]) rfl rfl rfl E rfl rfl rfl rfl rfl rfl rfl rfl (fun t => ?_))
 refine Ow.shift (Shift.settle (T := hQ) (.there .here) D rfl (fun aH j ap => Sd ?_))
 have Y := E.mono j
 refine Ow.shift (Shift.settle (T := hQ) .here Y rfl (fun o k X => Sd ?_))
 have aa := ap.mono k
 have y : RowR (Ty.sl hQ) o [[(sv s)], [(sv t)]] [[(Op.mk 1 0 0 5 0 [] [])], [(Op.mk 2 0 0 0 0 [] [])]] := RowR.cons ⟨s, rfl, aa⟩ (RowR.cons ⟨t, rfl, X⟩ (RowR.nil))
 refine ff rfl (gh (T := (Ty.sl hQ)) (rows := [[(sv s)], [(sv t)]]) (l := [[(Op.mk 1 0 0 5 0 [] [])], [(Op.mk 2 0 0 0 0 [] [])]]) rfl rfl rfl y rfl rfl rfl rfl rfl rfl rfl rfl (fun r => ?_))
 refine Ea Z<|fb<|fc<|fa<|Eq Z (fH (cs := (fe (Result.mk 2 (-1) 5 true 0))) rfl rfl rfl rfl rfl rfl)<|?_
 refine ff rfl (fE (cs := (fe (Result.mk 0 0 0 false 0))) rfl rfl rfl rfl (fun aI => ?_))
 refine ff rfl (fm (vs := (fe (Result.mk 2 (-1) 5 true 0))) (all' := (fe (Result.mk 2 (-1) 5 true 0))) rfl rfl rfl rfl rfl .here rfl rfl rfl ?_)
 refine fb<|fc<|fa<|Eq Z (fH (cs := (fZ (Event.mk 1 0 false (Result.mk 0 0 0 false 0)))) rfl rfl rfl rfl rfl rfl)<|EL 5 (fe (Result.mk 2 (-1) 5 true 0)) Z (Rb0 Z)<|Eq Z (fH (cs := (fZ (Event.mk 1 0 true (Result.mk 2 (-1) 5 true 0)))) rfl rfl rfl rfl rfl rfl)<|Eq Z (fH (cs := (fZ (Event.mk 0 0 false (Result.mk 0 0 0 false 0)))) rfl rfl rfl rfl rfl rfl)<|?_
 have z : RowR f7 o [(fZ (Event.mk 1 0 false (Result.mk 0 0 0 false 0))), (fZ (Event.mk 1 0 true (Result.mk 2 (-1) 5 true 0))), (fZ (Event.mk 0 0 false (Result.mk 0 0 0 false 0)))] [(Event.mk 1 0 false (Result.mk 0 0 0 false 0)), (Event.mk 1 0 true (Result.mk 2 (-1) 5 true 0)), (Event.mk 0 0 false (Result.mk 0 0 0 false 0))] := RowR.cons rfl (RowR.cons rfl (RowR.cons rfl (RowR.nil)))
 refine ff rfl (gh (T := f7) (rows := [(fZ (Event.mk 1 0 false (Result.mk 0 0 0 false 0))), (fZ (Event.mk 1 0 true (Result.mk 2 (-1) 5 true 0))), (fZ (Event.mk 0 0 false (Result.mk 0 0 0 false 0)))]) (l := [(Event.mk 1 0 false (Result.mk 0 0 0 false 0)), (Event.mk 1 0 true (Result.mk 2 (-1) 5 true 0)), (Event.mk 0 0 false (Result.mk 0 0 0 false 0))]) rfl rfl rfl z rfl rfl rfl rfl rfl rfl rfl rfl (fun av => ?_))
 refine Ea Z<|fb<|fc<|fa<|Eq Z (fH (cs := (fZ (Event.mk 0 0 false (Result.mk 0 0 0 false 0)))) rfl rfl rfl rfl rfl rfl)<|Eq Z (fH (cs := (fZ (Event.mk 1 0 false (Result.mk 0 0 0 false 0)))) rfl rfl rfl rfl rfl rfl)<|EL 5 (fe (Result.mk 2 (-1) 5 true 0)) Z (Rb1 Z)<|Eq Z (fH (cs := (fZ (Event.mk 1 0 true (Result.mk 2 (-1) 5 true 0)))) rfl rfl rfl rfl rfl rfl)<|?_
 have A : RowR f7 o [(fZ (Event.mk 0 0 false (Result.mk 0 0 0 false 0))), (fZ (Event.mk 1 0 false (Result.mk 0 0 0 false 0))), (fZ (Event.mk 1 0 true (Result.mk 2 (-1) 5 true 0)))] [(Event.mk 0 0 false (Result.mk 0 0 0 false 0)), (Event.mk 1 0 false (Result.mk 0 0 0 false 0)), (Event.mk 1 0 true (Result.mk 2 (-1) 5 true 0))] := RowR.cons rfl (RowR.cons rfl (RowR.cons rfl (RowR.nil)))
 refine ff rfl (gh (T := f7) (rows := [(fZ (Event.mk 0 0 false (Result.mk 0 0 0 false 0))), (fZ (Event.mk 1 0 false (Result.mk 0 0 0 false 0))), (fZ (Event.mk 1 0 true (Result.mk 2 (-1) 5 true 0)))]) (l := [(Event.mk 0 0 false (Result.mk 0 0 0 false 0)), (Event.mk 1 0 false (Result.mk 0 0 0 false 0)), (Event.mk 1 0 true (Result.mk 2 (-1) 5 true 0))]) rfl rfl rfl A rfl rfl rfl rfl rfl rfl rfl rfl (fun R => ?_))
 refine Ea Z<|fb<|fc<|fa<|EL 3 (fq (fP.mk [1] [0] 2) a b) Z (Rb6 Z)<|Em Z<|Em Z<|?_
 refine Ow.shift (Shift.settle (T := (Ty.sl hQ)) (.there (.there (.there .here))) y rfl (fun az g ab => Sd ?_))
 have ac := A.mono g
 refine Ow.shift (Shift.settle (T := f7) .here ac rfl (fun aA h F => Sd ?_))
 obtain ⟨S, aw, aq, H⟩ := iy H
 have I := ((((am.mono x).mono j).mono k).mono g).mono h
 have J := (((an.mono j).mono k).mono g).mono h
 have L := ab.mono h
 have M := (((((hT.mono w).mono x).mono j).mono k).mono g).mono h
 refine ff rfl (Ek Tryz.call14 Z (ya (fP.mk [1] [0] 2) a b [[(Op.mk 1 0 0 5 0 [] [])], [(Op.mk 2 0 0 0 0 [] [])]] r [(Event.mk 0 0 false (Result.mk 0 0 0 false 0)), (Event.mk 1 0 false (Result.mk 0 0 0 false 0)), (Event.mk 1 0 true (Result.mk 2 (-1) 5 true 0))] R S aw aq _ _ I J L F M) ?_)
 rintro _ aB _ d ⟨aN, aM, rfl, rfl, ad⟩
 refine Em Z<|Ex Z<|Ex Z<|Ea Z<|Ea Z<|fb<|?_
 refine fA (fun V U n => ∃ (i : Bool), [(0, (.bool i))] = V ∧ G = n ∧ ow i = some m) ?_ ?_
 ·refine fa<|EL 3 (fq (fP.mk [1] [0] 2) a b) Z (Rb7 Z)<|Em Z<|Em Z<|?_
  have af := ((z.mono g).mono h).mono d
  refine Ow.shift (Shift.settle (T := f7) (.there (.there .here)) af rfl (fun aC e ae => Sd ?_))
  obtain ⟨ax, ar, H⟩ := bnd H
  have N := (I.mono d).mono e
  have O := (J.mono d).mono e
  have P := (L.mono d).mono e
  have Q := (M.mono d).mono e
  refine ff rfl (Ek Tryz.call9 Z (qC (fP.mk [1] [0] 2) a b [[(Op.mk 1 0 0 5 0 [] [])], [(Op.mk 2 0 0 0 0 [] [])]] r [(Event.mk 1 0 false (Result.mk 0 0 0 false 0)), (Event.mk 1 0 true (Result.mk 2 (-1) 5 true 0)), (Event.mk 0 0 false (Result.mk 0 0 0 false 0))] av ax ar _ _ N O P ae Q) ?_)
  rintro _ aD _ f ⟨rfl, rfl⟩
  refine Eq Z (gg rfl)<|Em Z<|?_
  refine Ee Z ?_ ?_
  ·intro c
   have c := iC c
   have H := f5 (btf c) H
   refine VL 3 (fq (fP.mk [1] [0] 2) a b) Z (Rb7 Z)<|Vm Z<|Vm Z<|?_
   obtain ⟨ay, au, H⟩ := bnd H
   have ag := N.mono f
   have ah := O.mono f
   have ai := P.mono f
   have aj := ((F.mono d).mono e).mono f
   have ak := Q.mono f
   refine ij rfl rfl rfl rfl (Ek Tryz.call9 Z (qC (fP.mk [1] [0] 2) a b [[(Op.mk 1 0 0 5 0 [] [])], [(Op.mk 2 0 0 0 0 [] [])]] r [(Event.mk 0 0 false (Result.mk 0 0 0 false 0)), (Event.mk 1 0 false (Result.mk 0 0 0 false 0)), (Event.mk 1 0 true (Result.mk 2 (-1) 5 true 0))] R ay au _ _ ag ah ai aj ak) ?_)
   rintro _ aE _ W ⟨rfl, rfl⟩
   refine Et Z<|Em Z<|?_
   refine Ee Z ?_ ?_
   ·intro p
    have H := ift p H
    refine Vm Z<|Et Z<|Em Z<|?_
    refine Ee Z ?_ ?_
    ·intro q
     have H := ift q H
     refine Vm Z ?_
     have al := ((ad.mono e).mono f).mono W
     exact Vq Z (mZ (T := f0) Mb0 al rfl rfl rfl)<|Vc Z<|Et Z<|Ea Z<|fb<|Re0<|Re0<|Re0<|Re0<|Re0<|Re0<|Re0<|Re0<|Re0<|Re0<|Sd<|⟨_, by exact R1, (dcd ((S.length : Int) = 2)), rfl, rfl, H⟩
    ·intro q
     have H := f5 (btf q) H
     exact Ez Z<|Ez Z<|Ez Z<|Ef Z<|Ea Z<|fb<|Re0<|Re0<|Re0<|Re0<|Re0<|Re0<|Re0<|Re0<|Re0<|Re0<|Sd<|⟨_, by exact R1, false, rfl, rfl, H⟩
   ·intro p
    have H := f5 (btf p) H
    exact Ez Z<|Ef Z<|Em Z<|Ez Z<|Ez Z<|Ez Z<|Ef Z<|Ea Z<|fb<|Re0<|Re0<|Re0<|Re0<|Re0<|Re0<|Re0<|Re0<|Re0<|Re0<|Sd<|⟨_, by exact R1, false, rfl, rfl, H⟩
  ·intro c
   have c := iz c
   have H := ift c H
   refine Ez Z<|Ez Z<|Ez Z<|Ez Z<|Ef Z<|Em Z<|Ez Z<|Ef Z<|Em Z<|Ez Z<|Ez Z<|Ez Z<|Ef Z<|Ea Z<|fb<|Re0<|Re0<|Re0<|Re0<|Re0<|Re0<|Re0<|?_
   exact Re0<|Re0<|Re0<|Sd<|⟨_, by exact R1, false, rfl, rfl, H⟩
 rintro _ aF _ aL ⟨i, rfl, rfl, H⟩
 unfold ow at H
 refine fz ?_
 obtain aK := gu H
 subst m
 refine ⟨(by first|exact .inl rfl|exact .inr rfl), [(.bool i)], ⟨(.bool i), _, rfl, rfl, rfl⟩, ?_⟩
 exact Sd ⟨rfl, rfl⟩
end Go.Hx
namespace Go.Hx
open Go Go.Proofs
set_option maxRecDepth 10000
set_option maxHeartbeats 1000000
theorem Do (p0 : ad1) (g : SV) (p1 : Int) (e : fg) (H : rE p0 p1 = some e) (K : Kp) (G : List Ent) (f : Slr Ty.u8 K (sv g) p0) :
  Fc Tryz.prog 18 #[(sv g), (Vi p1)] K (G) (fun v b h => ∃ (j : Nat) (l : SV), v = (Vp j) ∧ K = b ∧ (.blk j 99 (fF e l)) :: G = h ∧ Slr Ty.u8 b (sv l) e.list) := by
 refine fN Tryz.func18 rfl Tryz.ntmps18 Tryz.results18 rfl ?_
 unfold rE at H
 refine fc<|fa<|Ea Z<|fb<|?_
 refine fA (fun m b h => ∃ (a : SV) (d : ad1), [(0, (sv a))] = m ∧ K = b ∧ G = h ∧ wb d = some e ∧ Slr Ty.u8 b (sv a) d) ?_ ?_
 ·refine fc<|fa<|Em Z<|Eq Z (gp (T := Ty.u8) f rfl rfl)<|Em Z<|Ec Z<|fb<|?_
  refine fp rfl ?_ ?_
  ·intro c
   obtain ⟨c, H⟩ := It c H
   refine fa<|Em Z<|Em Z<|?_
   obtain ⟨x17, k, H⟩ := bnd H
   have o := Slr.cut f k
   exact Eq Z (xe (T := Ty.u8) f k rfl rfl rfl rfl)<|Ea Z<|fb<|Sd<|⟨_, by exact R1, (jz g 1 0 p1.toNat), x17, rfl, rfl, rfl, H, o⟩
  ·intro c
   obtain ⟨c, H⟩ := If c H
   exact fy<|Sd<|⟨_, by exact R1, g, p0, rfl, rfl, rfl, H, f⟩
 rintro _ _ _ - ⟨a, d, rfl, rfl, rfl, H, n⟩
 unfold wb at H
 refine fc<|fa<|Em Z<|Eq Z (fH (cs := (fF (fg.mk d 0 0) a)) rfl rfl rfl rfl rfl rfl)<|?_
 refine ff rfl (fU (cs := (fF (fg.mk d 0 0) a)) rfl rfl rfl (fun i => ?_))
 refine Ea Z<|fb<|fz<|?_
 obtain p := gu H
 subst e
 refine ⟨(by first|exact .inl rfl|exact .inr rfl), [(Vp i)], ⟨(Vp i), _, rfl, rfl, rfl⟩, ?_⟩
 exact Sd ⟨i, a, rfl, rfl, rfl, n⟩
theorem tN (b : Nat) (p0 : fg) (a : SV) (c : Bool) (H : ox p0 = some c) (K : Kp) (G : List Ent) (f : Slr Ty.u8 K (sv a) p0.list) :
  Fc Tryz.prog 22 #[(Vp b)] K ((.blk b 99 (fF p0 a)) :: G) (fun v e d => v = (.bool c) ∧ K = e ∧ (.blk b 99 (fF p0 a)) :: G = d) := by
 refine fN Tryz.func22 rfl Tryz.ntmps22 Tryz.results22 rfl ?_
 unfold ox at H
 refine fc<|fa<|Ea Z<|fb<|fc<|fx _ rfl (Ic Mb0 In0)<|Jm 0 Z<|Jq 1 Z (fD rfl)<|JF 2 1 Z<|Jl 3 (Vi p0.at_) Z (Rb0 Z)<|Jm 4 Z<|Jq 5 Z (fD rfl)<|JF 6 0 Z<|Jl 7 (sv a) Z (Rb0 Z)<|Jq 8 Z (gp (T := Ty.u8) f rfl rfl)<|Jc 9 Z<|Ja 10 Z<|Ad<|fz<|?_
 obtain g := gu H
 subst c
 refine ⟨(by first|exact .inl rfl|exact .inr rfl), [(.bool (dcd (p0.at_ < (p0.list.length : Int))))], ⟨(.bool (dcd (p0.at_ < (p0.list.length : Int)))), _, rfl, rfl, rfl⟩, ?_⟩
 exact Sd ⟨rfl, rfl, rfl⟩
theorem jb (d : Nat) (p0 : fg) (b : SV) (p1 : Int) (e : Int) (f : Int) (H : lv p0 p1 = some (e, f)) (K : Kp) (G : List Ent) (g : Slr Ty.u8 K (sv b) p0.list) :
  Fc Tryz.prog 23 #[(Vp d), (Vi p1)] K ((.blk d 99 (fF p0 b)) :: G) (fun v m l => v = (Vi e) ∧ K = m ∧ (.blk d 99 (fF (fg.mk p0.list f p0.value) b)) :: G = l) := by
 refine fN Tryz.func23 rfl Tryz.ntmps23 Tryz.results23 rfl ?_
 unfold lv at H
 refine fc<|fa<|Ea Z<|fb<|fc<|fc<|fa<|Em Z<|?_
 obtain ⟨x17, q, H⟩ := bnd H
 refine ff rfl (Ek Tryz.call22 Z (tN d p0 b x17 q _ _ g) ?_)
 rintro _ _ _ - ⟨rfl, rfl, rfl⟩
 refine Eq Z (gg rfl)<|fb<|?_
 refine fp rfl ?_ ?_
 ·intro a
  have a := iC a
  have H := f5 (btf a) H
  refine fc<|fa<|Ea Z<|fb<|fz<|?_
  obtain ⟨n, o⟩ := ig H
  subst e f
  refine ⟨(by first|exact .inl rfl|exact .inr rfl), [(Vi 0)], ⟨(Vi 0), _, rfl, rfl, rfl⟩, ?_⟩
  exact Sd ⟨rfl, rfl, rfl⟩
 ·intro a
  have a := iz a
  have H := ift a H
  refine fy<|fc<|fa<|Em Z<|Eq Z (fD rfl)<|EF 1 Z<|El (Vi p0.at_) Z (Rb0 Z)<|Er (wI (p0.at_ + 1)) Z<|Eq Z (fD rfl)<|EF 1 Z<|?_
  refine ff rfl (fm (vs := [(Vi (wI (p0.at_ + 1)))]) (all' := (fF (fg.mk p0.list (wI (p0.at_ + 1)) p0.value) b)) rfl rfl rfl rfl rfl .here rfl rfl rfl ?_)
  refine fb<|fc<|?_
  obtain ⟨i, h, H⟩ := bnd H
  obtain ⟨j, r, H⟩ := bnd H
  refine fx _ rfl (Ic Mb0 In0)<|Jm 0 Z<|Jq 1 Z (fD rfl)<|JF 2 0 Z<|Jl 3 (sv b) Z (Rb0 Z)<|Jm 4 Z<|Jq 5 Z (fD rfl)<|JF 6 1 Z<|Jl 7 (Vi (wI (p0.at_ + 1))) Z (Rb0 Z)<|Jr 8 (wI ((wI (p0.at_ + 1)) - 1)) Z<|?_
  obtain ⟨_, rfl, p⟩ := Slr.at g h
  refine Jq 9 Z (Qi (T := Ty.u8) g h Z)<|Jl 10 (.int .u8 i) Z (Rdc.k p rfl)<|Jq 11 Z (kR (c := wI i) rfl rfl rfl rfl)<|Jm 12 Z<|Jq 13 Z (CP r rfl rfl)<|Ja 14 Z<|Ad<|fz<|?_
  obtain ⟨n, o⟩ := ig H
  subst e f
  refine ⟨(by first|exact .inl rfl|exact .inr rfl), [(Vi j)], ⟨(Vi j), _, rfl, rfl, rfl⟩, ?_⟩
  exact Sd ⟨rfl, rfl, rfl⟩
theorem Fh (a : Nat) (p0 : fg) (h : SV) (w : fP) (D : Int) (E : Int) (H : sW p0 = some (w, D, E)) (K : Kp) (G : List Ent) (aH : Slr Ty.u8 K (sv h) p0.list) :
  Fc Tryz.prog 19 #[(Vp a)] K ((.blk a 99 (fF p0 h)) :: G) (fun v f t => ∃ (az : SV) (aA : SV), v = (.agg (fq w az aA).toArray) ∧ (.blk a 99 (fF (fg.mk p0.list D E) h)) :: (.tok 3 1 [(sv az)]) :: (.tok 36 1 [(sv aA)]) :: G = t ∧ Slr Ty.i64 f (sv az) w.capacities ∧ Slr Ty.u64 f (sv aA) w.starts) := by
 refine fN Tryz.func19 rfl Tryz.ntmps19 Tryz.results19 rfl ?_
 unfold sW at H
 refine fc<|fa<|?_
 refine ff rfl (fE (cs := (fq (fP.mk [] [] 0) fB fB)) rfl rfl rfl rfl (fun x => ?_))
 refine fb<|fc<|fa<|?_
 have ai : RowR Ty.i64 K [[(Vi 0)], [(Vi 1)], [(Vi 2)], [(Vi 0)], [(Vi 1)], [(Vi 3)]] [0, 1, 2, 0, 1, 3] := RowR.cons rfl (RowR.cons rfl (RowR.cons rfl (RowR.cons rfl (RowR.cons rfl (RowR.cons rfl (RowR.nil))))))
 refine ff rfl (gh (T := Ty.i64) (rows := [[(Vi 0)], [(Vi 1)], [(Vi 2)], [(Vi 0)], [(Vi 1)], [(Vi 3)]]) (l := [0, 1, 2, 0, 1, 3]) rfl rfl rfl ai rfl rfl rfl rfl rfl rfl rfl rfl (fun F => ?_))
 refine Ea Z<|fb<|fc<|fa<|?_
 have aj : RowR Ty.u64 K [[(.int .u64 0)], [(.int .u64 1)], [(.int .u64 9223372036854775807)], [(.int .u64 9223372036854775806)], [(.int .u64 4611686018427387904)], [(.int .u64 5)]] [0, 1, 9223372036854775807, 9223372036854775806, 4611686018427387904, 5] := RowR.cons rfl (RowR.cons rfl (RowR.cons rfl (RowR.cons rfl (RowR.cons rfl (RowR.cons rfl (RowR.nil))))))
 refine ff rfl (gh (T := Ty.u64) (rows := [[(.int .u64 0)], [(.int .u64 1)], [(.int .u64 9223372036854775807)], [(.int .u64 9223372036854775806)], [(.int .u64 4611686018427387904)], [(.int .u64 5)]]) (l := [0, 1, 9223372036854775807, 9223372036854775806, 4611686018427387904, 5]) rfl rfl rfl aj rfl rfl rfl rfl rfl rfl rfl rfl (fun I => ?_))
 refine Ea Z<|fb<|fc<|fa<|?_
 refine ff rfl (fE (cs := (fq (fP.mk [] [] 0) fB fB)) rfl rfl rfl rfl (fun y => ?_))
 refine fb ?_
 refine fA (fun B f t => ∃ (ac : Int) (ad : Int) (i : SV) (k : ad1) (j : SV) (m : ad1), [(0, (Vp a)), (2, (Vp x)), (5, (Vp y))] = B ∧ (.blk a 99 (fF (fg.mk p0.list ac ad) h)) :: (.blk y 27 (fq (fP.mk k m 0) i j)) :: (.blk x 27 (fq (fP.mk [] [] 0) fB fB)) :: (.tok 3 1 [(sv i)]) :: (.tok 36 1 [(sv j)]) :: G = t ∧ rF p0 ac ad k m = some (w, D, E) ∧ Slr Ty.i64 f (sv i) k ∧ Slr Ty.u64 f (sv j) m) ?_ ?_
 ·refine fc<|fa<|Ea Z<|fb<|fC<|?_
  refine ga (fun aP B f t => ∃ (u : Int) (b : Int) (c : Int) (A : SV) (P : ad1) (g : SV) (o : ad1), [(0, (Vp a)), (2, (Vp x)), (3, (sv F)), (4, (sv I)), (5, (Vp y)), (6, (Vi u))] = B ∧ (.blk a 99 (fF (fg.mk p0.list b c) h)) :: (.blk y 27 (fq (fP.mk P o 0) A g)) :: (.blk x 27 (fq (fP.mk [] [] 0) fB fB)) :: (.tok 3 1 [(sv A)]) :: (.tok 36 1 [(sv g)]) :: (.row (sv I) 36 1 [[(.int .u64 0)], [(.int .u64 1)], [(.int .u64 9223372036854775807)], [(.int .u64 9223372036854775806)], [(.int .u64 4611686018427387904)], [(.int .u64 5)]].flatten) :: (.row (sv F) 3 1 [[(Vi 0)], [(Vi 1)], [(Vi 2)], [(Vi 0)], [(Vi 1)], [(Vi 3)]].flatten) :: G = t ∧ lp5 (rI p0) aP u b c P o = some (w, D, E) ∧ Slr Ty.i64 f (sv A) P ∧ Slr Ty.u64 f (sv g) o) BIG ?_ ?_
  ·exact Shift.nilTok1 3 1<|Shift.nilTok1 36 1<|Pu4<|Pu4<|Pu2<|Pu3<|Pu5<|Pu5<|Pu6<|Sd<|⟨_, by exact R6, 0, p0.at_, p0.value, fB, ([] : ad1), fB, ([] : ad1), rfl, rfl, H, (Slr.nil Ty.i64 _), (Slr.nil Ty.u64 _)⟩
  rintro aP _ ag _ N ⟨u, b, c, A, P, g, o, rfl, rfl, H, X, Y⟩
  obtain ⟨bE, aO, rfl, aW, H⟩ := FD H
  unfold rI at H
  refine fc<|fc<|fa<|Em Z<|Em Z<|?_
  obtain ⟨bn, n, bl, H⟩ := iy H
  have O := aH.mono N
  refine ff rfl (Ek Tryz.call23 Z (jb a (fg.mk p0.list b c) h 3 bn n bl _ _ O) ?_)
  rintro _ _ _ - ⟨rfl, rfl, rfl⟩
  refine Ec Z<|fb<|?_
  refine fp rfl ?_ ?_
  ·intro M
   obtain ⟨M, H⟩ := It M H
   refine fy ?_
   refine fA (fun B f t => ∃ (ae : Int) (af : Int) (S : SV) (Q : ad1) (U : SV) (R : ad1), [(0, (Vp a)), (2, (Vp x)), (3, (sv F)), (4, (sv I)), (5, (Vp y)), (6, (Vi u))] = B ∧ (.blk a 99 (fF (fg.mk p0.list ae af) h)) :: (.blk y 27 (fq (fP.mk Q R 0) S U)) :: (.blk x 27 (fq (fP.mk [] [] 0) fB fB)) :: (.tok 3 1 [(sv S)]) :: (.tok 36 1 [(sv U)]) :: (.row (sv I) 36 1 [[(.int .u64 0)], [(.int .u64 1)], [(.int .u64 9223372036854775807)], [(.int .u64 9223372036854775806)], [(.int .u64 4611686018427387904)], [(.int .u64 5)]].flatten) :: (.row (sv F) 3 1 [[(Vi 0)], [(Vi 1)], [(Vi 2)], [(Vi 0)], [(Vi 1)], [(Vi 3)]].flatten) :: G = t ∧ rG u p0 aO ae af Q R = some (w, D, E) ∧ Slr Ty.i64 f (sv S) Q ∧ Slr Ty.u64 f (sv U) R) ?_ ?_
   ·refine fC ?_
    refine fA (fun B f t => ∃ (z : Int) (r : SV) (p : ad1), [(0, (Vp a)), (2, (Vp x)), (3, (sv F)), (4, (sv I)), (5, (Vp y)), (6, (Vi u))] = B ∧ (.blk a 99 (fF (fg.mk p0.list z ((fg.mk p0.list n ((fg.mk p0.list b c).value)).value)) h)) :: (.blk y 27 (fq (fP.mk p o 0) r g)) :: (.blk x 27 (fq (fP.mk [] [] 0) fB fB)) :: (.tok 3 1 [(sv r)]) :: (.tok 36 1 [(sv g)]) :: (.row (sv I) 36 1 [[(.int .u64 0)], [(.int .u64 1)], [(.int .u64 9223372036854775807)], [(.int .u64 9223372036854775806)], [(.int .u64 4611686018427387904)], [(.int .u64 5)]].flatten) :: (.row (sv F) 3 1 [[(Vi 0)], [(Vi 1)], [(Vi 2)], [(Vi 0)], [(Vi 1)], [(Vi 3)]].flatten) :: G = t ∧ rH u p0 n b c o aO z p = some (w, D, E) ∧ Slr Ty.i64 f (sv r) p) ?_ ?_
    ·obtain ⟨aR, W, aN, H⟩ := iy H
     obtain ⟨e, ab, H⟩ := bnd H
     obtain ⟨L, aq, H⟩ := bnd H
     refine fx _ rfl (Ic Mb2 (Ic Mb4 (Ic Mb5 (Ic Mb6 In0))))<|JF 0 0 Z<|Jm 2 Z<|Jm 3 Z<|?_
     refine gX 1 4 (by kernel_rfl) ?_ ?_
     ·refine id (Jyq Z (gv (v := (sv A)) rfl rfl rfl (Rb1 Z)) ⟨(Ic Mb2 (Ic Mb4 (Ic Mb5 (Ic Mb6 In0)))), ?_⟩)
      refine Ao 4 Z ?_
      refine Ek Tryz.call23 Z (jb a (fg.mk p0.list n ((fg.mk p0.list b c).value)) h 6 aR W aN _ _ O) ?_
      rintro _ _ _ - ⟨rfl, rfl, rfl⟩
      refine ⟨(Ic Mb2 (Ic Mb4 (Ic Mb5 (Ic Mb6 In0)))), ?_⟩
      have an := ai.mono N
      obtain ⟨bH, aK, aZ⟩ := RowR.at an ab
      obtain rfl := aZ
      refine Jq 5 Z (gP (T := Ty.i64) Mb3 an aK (fO ab).1 rfl rfl rfl rfl rfl)<|Jl 6 (Vi e) Z (ie (T := Ty.i64) Mb3 an aK rfl rfl)<|?_
      refine Ao 7 Z ?_
      have aE : RowR Ty.i64 ag [[(Vi e)]] [e] := RowR.cons rfl (RowR.nil)
      refine gh (T := Ty.i64) (rows := [[(Vi e)]]) (l := [e]) rfl rfl rfl aE rfl rfl rfl rfl rfl rfl rfl rfl (fun bM => ⟨(Ic Mb3 (Ic Mb5 (Ic Mb6 (Ic Mb7 In0)))), ?_⟩)
      refine Ao 8 Z ?_
      refine f6 (T := Ty.i64) (bytes := 8) (q := 0) rfl rfl rfl X Mb4 rfl (SrcT.row Mb0 aE rfl) aq rfl rfl rfl rfl rfl rfl rfl rfl (fun aw bt bB bh => ⟨_, (.there (.there (.there (.there .here)))), ⟨(Ic Mb3 (Ic Mb5 (Ic Mb6 (Ic Mb7 In0)))), ?_⟩⟩)
      refine Aw.shift (Re0 (Sd ⟨(Ic Mb2 (Ic Mb4 (Ic Mb5 (Ic Mb6 In0)))), ?_⟩))
      refine JF 9 0 Z ?_
      refine Ao 10 Z ?_
      refine fm (vs := [(sv aw)]) (all' := (fq (fP.mk L o 0) aw g)) rfl rfl rfl rfl rfl (.there .here) rfl rfl rfl ⟨(Ic Mb2 (Ic Mb4 (Ic Mb5 (Ic Mb6 In0)))), ?_⟩
      exact Ad<|Pu6<|Pu6<|Pu6<|Pu6<|Pu6<|Pu6<|Pu6<|Sd<|⟨_, by exact R6, W, aw, L, rfl, rfl, H, bh⟩
     ·refine id (Jy Z ?_)
      refine Ek Tryz.call23 Z (jb a (fg.mk p0.list n ((fg.mk p0.list b c).value)) h 6 aR W aN _ _ O) ?_
      rintro _ _ _ - ⟨rfl, rfl, rfl⟩
      refine ⟨(Ic Mb2 (Ic Mb4 (Ic Mb5 (Ic Mb6 In0)))), ?_⟩
      have ao := ai.mono N
      obtain ⟨bI, aL, a0⟩ := RowR.at ao ab
      obtain rfl := a0
      refine Jq 5 Z (gP (T := Ty.i64) Mb3 ao aL (fO ab).1 rfl rfl rfl rfl rfl)<|Jl 6 (Vi e) Z (ie (T := Ty.i64) Mb3 ao aL rfl rfl)<|?_
      refine gX 1 7 (by kernel_rfl) ?_ ?_
      ·refine id (Jyq Z (gv (v := (sv A)) rfl rfl rfl (Rb1 Z)) ⟨(Ic Mb2 (Ic Mb4 (Ic Mb5 (Ic Mb6 In0)))), ?_⟩)
       refine Ao 7 Z ?_
       have aF : RowR Ty.i64 ag [[(Vi e)]] [e] := RowR.cons rfl (RowR.nil)
       refine gh (T := Ty.i64) (rows := [[(Vi e)]]) (l := [e]) rfl rfl rfl aF rfl rfl rfl rfl rfl rfl rfl rfl (fun bN => ⟨(Ic Mb3 (Ic Mb5 (Ic Mb6 (Ic Mb7 In0)))), ?_⟩)
       refine Ao 8 Z ?_
       refine f6 (T := Ty.i64) (bytes := 8) (q := 0) rfl rfl rfl X Mb4 rfl (SrcT.row Mb0 aF rfl) aq rfl rfl rfl rfl rfl rfl rfl rfl (fun ax bu bC bi => ⟨_, (.there (.there (.there (.there .here)))), ⟨(Ic Mb3 (Ic Mb5 (Ic Mb6 (Ic Mb7 In0)))), ?_⟩⟩)
       refine Aw.shift (Re0 (Sd ⟨(Ic Mb2 (Ic Mb4 (Ic Mb5 (Ic Mb6 In0)))), ?_⟩))
       refine JF 9 0 Z ?_
       refine Ao 10 Z ?_
       refine fm (vs := [(sv ax)]) (all' := (fq (fP.mk L o 0) ax g)) rfl rfl rfl rfl rfl (.there .here) rfl rfl rfl ⟨(Ic Mb2 (Ic Mb4 (Ic Mb5 (Ic Mb6 In0)))), ?_⟩
       exact Ad<|Pu6<|Pu6<|Pu6<|Pu6<|Pu6<|Pu6<|Pu6<|Sd<|⟨_, by exact R6, W, ax, L, rfl, rfl, H, bi⟩
      ·refine id (Jy Z ?_)
       have aG : RowR Ty.i64 ag [[(Vi e)]] [e] := RowR.cons rfl (RowR.nil)
       refine gh (T := Ty.i64) (rows := [[(Vi e)]]) (l := [e]) rfl rfl rfl aG rfl rfl rfl rfl rfl rfl rfl rfl (fun bO => ⟨(Ic Mb3 (Ic Mb5 (Ic Mb6 (Ic Mb7 In0)))), ?_⟩)
       refine gG 1 (by kernel_rfl) (Jyq Z (gv (v := (sv A)) rfl rfl rfl (Rb2 Z)) ⟨(Ic Mb3 (Ic Mb5 (Ic Mb6 (Ic Mb7 In0)))), ?_⟩)
       refine Ao 8 Z ?_
       refine f6 (T := Ty.i64) (bytes := 8) (q := 0) rfl rfl rfl X Mb4 rfl (SrcT.row Mb0 aG rfl) aq rfl rfl rfl rfl rfl rfl rfl rfl (fun ay bv bD bj => ⟨_, (.there (.there (.there (.there .here)))), ⟨(Ic Mb3 (Ic Mb5 (Ic Mb6 (Ic Mb7 In0)))), ?_⟩⟩)
       refine Aw.shift (Re0 (Sd ⟨(Ic Mb2 (Ic Mb4 (Ic Mb5 (Ic Mb6 In0)))), ?_⟩))
       refine JF 9 0 Z ?_
       refine Ao 10 Z ?_
       refine fm (vs := [(sv ay)]) (all' := (fq (fP.mk L o 0) ay g)) rfl rfl rfl rfl rfl (.there .here) rfl rfl rfl ⟨(Ic Mb2 (Ic Mb4 (Ic Mb5 (Ic Mb6 In0)))), ?_⟩
       exact Ad<|Pu6<|Pu6<|Pu6<|Pu6<|Pu6<|Pu6<|Pu6<|Sd<|⟨_, by exact R6, W, ay, L, rfl, rfl, H, bj⟩
    rintro _ ah _ C ⟨z, r, p, rfl, rfl, H, am⟩
    unfold rH at H
    obtain ⟨aQ, V, aM, H⟩ := iy H
    obtain ⟨d, aa, H⟩ := bnd H
    obtain ⟨J, ap, H⟩ := bnd H
    refine fx _ rfl (Ic Mb2 (Ic Mb3 (Ic Mb5 (Ic Mb6 In0))))<|JF 0 1 Z<|Jm 2 Z<|Jm 3 Z<|?_
    refine gX 1 4 (by kernel_rfl) ?_ ?_
    ·refine id (Jyq Z (gv (v := (sv g)) rfl rfl rfl (Rb1 Z)) ⟨(Ic Mb2 (Ic Mb3 (Ic Mb5 (Ic Mb6 In0)))), ?_⟩)
     refine Ao 4 Z ?_
     have a1 := O.mono C
     refine Ek Tryz.call23 Z (jb a (fg.mk p0.list z ((fg.mk p0.list n ((fg.mk p0.list b c).value)).value)) h 6 aQ V aM _ _ a1) ?_
     rintro _ _ _ - ⟨rfl, rfl, rfl⟩
     refine ⟨(Ic Mb2 (Ic Mb3 (Ic Mb5 (Ic Mb6 In0)))), ?_⟩
     have ak := (aj.mono N).mono C
     obtain ⟨bF, aI, aX⟩ := RowR.at ak aa
     obtain rfl := aX
     refine Jq 5 Z (gP (T := Ty.u64) Mb2 ak aI (fO aa).1 rfl rfl rfl rfl rfl)<|Jl 6 (.int .u64 d) Z (ie (T := Ty.u64) Mb2 ak aI rfl rfl)<|?_
     refine Ao 7 Z ?_
     have aB : RowR Ty.u64 ah [[(.int .u64 d)]] [d] := RowR.cons rfl (RowR.nil)
     refine gh (T := Ty.u64) (rows := [[(.int .u64 d)]]) (l := [d]) rfl rfl rfl aB rfl rfl rfl rfl rfl rfl rfl rfl (fun bJ => ⟨(Ic Mb3 (Ic Mb4 (Ic Mb6 (Ic Mb7 In0)))), ?_⟩)
     refine Ao 8 Z ?_
     have a3 := Y.mono C
     refine f6 (T := Ty.u64) (bytes := 8) (q := 0) rfl rfl rfl a3 Mb5 rfl (SrcT.row Mb0 aB rfl) ap rfl rfl rfl rfl rfl rfl rfl rfl (fun ar bo aS a2 => ⟨_, (.there (.there (.there (.there (.there .here))))), ⟨(Ic Mb3 (Ic Mb4 (Ic Mb6 (Ic Mb7 In0)))), ?_⟩⟩)
     refine Aw.shift (Re0 (Sd ⟨(Ic Mb2 (Ic Mb3 (Ic Mb5 (Ic Mb6 In0)))), ?_⟩))
     refine JF 9 1 Z ?_
     refine Ao 10 Z ?_
     refine fm (vs := [(sv ar)]) (all' := (fq (fP.mk p J 0) r ar)) rfl rfl rfl rfl rfl (.there .here) rfl rfl rfl ⟨(Ic Mb2 (Ic Mb3 (Ic Mb5 (Ic Mb6 In0)))), ?_⟩
     refine Ad<|Pu6<|Pu6<|Pu6<|Pu6<|Pu6<|Pu6<|Pu6<|?_
     have a4 := am.mono aS
     exact Sd ⟨_, by exact R6, V, ((fg.mk p0.list z ((fg.mk p0.list n ((fg.mk p0.list b c).value)).value)).value), r, p, ar, J, rfl, rfl, H, a4, a2⟩
    ·refine id (Jy Z ?_)
     have a5 := O.mono C
     refine Ek Tryz.call23 Z (jb a (fg.mk p0.list z ((fg.mk p0.list n ((fg.mk p0.list b c).value)).value)) h 6 aQ V aM _ _ a5) ?_
     rintro _ _ _ - ⟨rfl, rfl, rfl⟩
     refine ⟨(Ic Mb2 (Ic Mb3 (Ic Mb5 (Ic Mb6 In0)))), ?_⟩
     have al := (aj.mono N).mono C
     obtain ⟨bG, aJ, aY⟩ := RowR.at al aa
     obtain rfl := aY
     refine Jq 5 Z (gP (T := Ty.u64) Mb2 al aJ (fO aa).1 rfl rfl rfl rfl rfl)<|Jl 6 (.int .u64 d) Z (ie (T := Ty.u64) Mb2 al aJ rfl rfl)<|?_
     refine gX 1 7 (by kernel_rfl) ?_ ?_
     ·refine id (Jyq Z (gv (v := (sv g)) rfl rfl rfl (Rb1 Z)) ⟨(Ic Mb2 (Ic Mb3 (Ic Mb5 (Ic Mb6 In0)))), ?_⟩)
      refine Ao 7 Z ?_
      have aC : RowR Ty.u64 ah [[(.int .u64 d)]] [d] := RowR.cons rfl (RowR.nil)
      refine gh (T := Ty.u64) (rows := [[(.int .u64 d)]]) (l := [d]) rfl rfl rfl aC rfl rfl rfl rfl rfl rfl rfl rfl (fun bK => ⟨(Ic Mb3 (Ic Mb4 (Ic Mb6 (Ic Mb7 In0)))), ?_⟩)
      refine Ao 8 Z ?_
      have a7 := Y.mono C
      refine f6 (T := Ty.u64) (bytes := 8) (q := 0) rfl rfl rfl a7 Mb5 rfl (SrcT.row Mb0 aC rfl) ap rfl rfl rfl rfl rfl rfl rfl rfl (fun au bp aT a6 => ⟨_, (.there (.there (.there (.there (.there .here))))), ⟨(Ic Mb3 (Ic Mb4 (Ic Mb6 (Ic Mb7 In0)))), ?_⟩⟩)
      refine Aw.shift (Re0 (Sd ⟨(Ic Mb2 (Ic Mb3 (Ic Mb5 (Ic Mb6 In0)))), ?_⟩))
      refine JF 9 1 Z ?_
      refine Ao 10 Z ?_
      refine fm (vs := [(sv au)]) (all' := (fq (fP.mk p J 0) r au)) rfl rfl rfl rfl rfl (.there .here) rfl rfl rfl ⟨(Ic Mb2 (Ic Mb3 (Ic Mb5 (Ic Mb6 In0)))), ?_⟩
      refine Ad<|Pu6<|Pu6<|Pu6<|Pu6<|Pu6<|Pu6<|Pu6<|?_
      have a8 := am.mono aT
      exact Sd ⟨_, by exact R6, V, ((fg.mk p0.list z ((fg.mk p0.list n ((fg.mk p0.list b c).value)).value)).value), r, p, au, J, rfl, rfl, H, a8, a6⟩
     ·refine id (Jy Z ?_)
      have aD : RowR Ty.u64 ah [[(.int .u64 d)]] [d] := RowR.cons rfl (RowR.nil)
      refine gh (T := Ty.u64) (rows := [[(.int .u64 d)]]) (l := [d]) rfl rfl rfl aD rfl rfl rfl rfl rfl rfl rfl rfl (fun bL => ⟨(Ic Mb3 (Ic Mb4 (Ic Mb6 (Ic Mb7 In0)))), ?_⟩)
      refine gG 1 (by kernel_rfl) (Jyq Z (gv (v := (sv g)) rfl rfl rfl (Rb2 Z)) ⟨(Ic Mb3 (Ic Mb4 (Ic Mb6 (Ic Mb7 In0)))), ?_⟩)
      refine Ao 8 Z ?_
      have ba := Y.mono C
      refine f6 (T := Ty.u64) (bytes := 8) (q := 0) rfl rfl rfl ba Mb5 rfl (SrcT.row Mb0 aD rfl) ap rfl rfl rfl rfl rfl rfl rfl rfl (fun av bq aU a9 => ⟨_, (.there (.there (.there (.there (.there .here))))), ⟨(Ic Mb3 (Ic Mb4 (Ic Mb6 (Ic Mb7 In0)))), ?_⟩⟩)
      refine Aw.shift (Re0 (Sd ⟨(Ic Mb2 (Ic Mb3 (Ic Mb5 (Ic Mb6 In0)))), ?_⟩))
      refine JF 9 1 Z ?_
      refine Ao 10 Z ?_
      refine fm (vs := [(sv av)]) (all' := (fq (fP.mk p J 0) r av)) rfl rfl rfl rfl rfl (.there .here) rfl rfl rfl ⟨(Ic Mb2 (Ic Mb3 (Ic Mb5 (Ic Mb6 In0)))), ?_⟩
      refine Ad<|Pu6<|Pu6<|Pu6<|Pu6<|Pu6<|Pu6<|Pu6<|?_
      have bb := am.mono aU
      exact Sd ⟨_, by exact R6, V, ((fg.mk p0.list z ((fg.mk p0.list n ((fg.mk p0.list b c).value)).value)).value), r, p, av, J, rfl, rfl, H, bb, a9⟩
   rintro _ br _ bA ⟨ae, af, S, Q, U, R, rfl, rfl, H, bf, bg⟩
   unfold rG at H
   exact fa<|Em Z<|Er (wI (u + 1)) Z<|Ea Z<|fb<|Pu6<|Pu6<|Pu6<|Pu6<|Pu6<|Pu6<|Pu6<|Sd<|⟨_, by exact R6, _, Nat.lt_succ_self _, (wI (u + 1)), ae, af, S, Q, U, R, rfl, rfl, (aW ▸ H), bf, bg⟩
  ·intro M
   obtain ⟨M, H⟩ := If M H
   exact ge<|Pu4<|Pu4<|Pu4<|Pu4<|Pu4<|Re5<|Re5<|Sd<|⟨_, by exact R3, n, ((fg.mk p0.list b c).value), A, P, g, o, rfl, rfl, H, X, Y⟩
 rintro _ bs _ aV ⟨ac, ad, i, k, j, m, rfl, rfl, H, bd, be⟩
 unfold rF at H
 refine fc<|fa<|Em Z<|?_
 obtain ⟨s, bm, bk, H⟩ := iy H
 have bc := aH.mono aV
 refine ff rfl (Ek Tryz.call23 Z (jb a (fg.mk p0.list ac ad) h 3 s bm bk _ _ bc) ?_)
 rintro _ _ _ - ⟨rfl, rfl, rfl⟩
 refine Er (wI (2 + s)) Z<|EF 2 Z<|?_
 refine ff rfl (fm (vs := [(Vi (wI (2 + s)))]) (all' := (fq (fP.mk k m (wI (2 + s))) i j)) rfl rfl rfl rfl rfl (.there .here) rfl rfl rfl ?_)
 refine fb<|fc<|fa<|EL 3 (fq (fP.mk k m (wI (2 + s))) i j) Z (Rb1 Z)<|?_
 refine ff rfl (fm (vs := (fq (fP.mk k m (wI (2 + s))) i j)) (all' := (fq (fP.mk k m (wI (2 + s))) i j)) rfl rfl rfl rfl rfl (.there (.there .here)) rfl rfl rfl ?_)
 refine fb<|fz<|?_
 obtain ⟨bw, bx, bz⟩ := jQ H
 subst w D E
 refine ⟨(by first|exact .inl rfl|exact .inr rfl), [(.agg (fq (fP.mk k m (wI (2 + s))) i j).toArray)], ⟨(.agg (fq (fP.mk k m (wI (2 + s))) i j).toArray), _, rfl, ⟨_, 3, (fq (fP.mk k m (wI (2 + s))) i j), rfl, rfl, rfl, rfl, ⟨rfl, Rb2 Z⟩, rfl⟩, rfl⟩, ?_⟩
 exact Pu4<|Pu4<|Pu2<|Re3<|Re3<|Sd<|⟨i, j, rfl, rfl, bd, be⟩
theorem kS (a : Nat) (p0 : fg) (b : SV) (p1 : fP) (e : SV) (k : SV) (f : Int) (g : Int) (h : Int) (H : mM p0 p1 = some (f, g, h)) (K : Kp) (G : List Ent) (j : Slr Ty.u8 K (sv b) p0.list) (q : Slr Ty.i64 K (sv e) p1.capacities) (B : Slr Ty.u64 K (sv k) p1.starts) :
  Fc Tryz.prog 70 #[(Vp a), (.agg (fq p1 e k).toArray)] K ((.blk a 99 (fF p0 b)) :: G) (fun v s r => v = (Vi f) ∧ K = s ∧ (.blk a 99 (fF (fg.mk p0.list g h) b)) :: G = r) := by
 refine fN Tryz.func70 rfl Tryz.ntmps70 Tryz.results70 rfl ?_
 unfold mM at H
 refine fc<|fa<|?_
 refine ff rfl (fU (cs := (fq p1 e k)) rfl rfl rfl (fun A => ?_))
 refine Ea Z<|fb<|fc<|fc<|fa<|Em Z<|?_
 obtain ⟨x, l, t, H⟩ := iy H
 refine Ow.shift (Pu1 (Sd ?_))
 refine ff rfl (Ek Tryz.call23 Z (jb a p0 b 16 x l t _ _ j) ?_)
 rintro _ _ _ - ⟨rfl, rfl, rfl⟩
 refine Ec Z<|fb<|?_
 refine fp rfl ?_ ?_
 ·intro c
  obtain ⟨c, H⟩ := It c H
  refine fc<|fa<|Em Z<|?_
  obtain ⟨i, y, u, H⟩ := iy H
  refine ff rfl (Ek Tryz.call23 Z (jb a (fg.mk p0.list l p0.value) b 9 i y u _ _ j) ?_)
  rintro _ _ _ - ⟨rfl, rfl, rfl⟩
  refine Er (wI (i - 1)) Z<|Ea Z<|fb<|fz<|?_
  obtain ⟨n, o, p⟩ := jQ H
  subst f g h
  refine ⟨(by first|exact .inl rfl|exact .inr rfl), [(Vi (wI (i - 1)))], ⟨(Vi (wI (i - 1))), _, rfl, rfl, rfl⟩, ?_⟩
  exact Re1<|Sd<|⟨rfl, rfl, rfl⟩
 ·intro c
  obtain ⟨c, H⟩ := If c H
  refine fy<|fc<|fc<|fa<|EF 0 Z<|El (sv e) Z (Rb1 Z)<|Eq Z (gp (T := Ty.i64) q rfl rfl)<|Ec Z<|fb<|?_
  refine fp rfl ?_ ?_
  ·intro d
   obtain ⟨d, H⟩ := It d H
   refine fc<|fa<|Ea Z<|fb<|fz<|?_
   obtain ⟨n, o, p⟩ := jQ H
   subst f g h
   refine ⟨(by first|exact .inl rfl|exact .inr rfl), [(Vi (-1))], ⟨(Vi (-1)), _, rfl, rfl, rfl⟩, ?_⟩
   exact Re1<|Sd<|⟨rfl, rfl, rfl⟩
  ·intro d
   obtain ⟨d, H⟩ := If d H
   refine fy<|fc<|fa<|Em Z<|EF 0 Z<|El (sv e) Z (Rb1 Z)<|Eq Z (gp (T := Ty.i64) q rfl rfl)<|?_
   obtain ⟨m, z, w, H⟩ := iy H
   refine ff rfl (Ek Tryz.call23 Z (jb a (fg.mk p0.list l p0.value) b (p1.capacities.length : Int) m z w _ _ j) ?_)
   rintro _ _ _ - ⟨rfl, rfl, rfl⟩
   refine Ea Z<|fb<|fz<|?_
   obtain ⟨n, o, p⟩ := jQ H
   subst f g h
   refine ⟨(by first|exact .inl rfl|exact .inr rfl), [(Vi m)], ⟨(Vi m), _, rfl, rfl, rfl⟩, ?_⟩
   exact Re1<|Sd<|⟨rfl, rfl, rfl⟩
theorem ym (b : Nat) (p0 : fg) (a : SV) (c : Int) (d : Int) (H : rJ p0 = some (c, d)) (K : Kp) (G : List Ent) (i : Slr Ty.u8 K (sv a) p0.list) :
  Fc Tryz.prog 71 #[(Vp b)] K ((.blk b 99 (fF p0 a)) :: G) (fun v f e => v = (.int .u64 c) ∧ K = f ∧ (.blk b 99 (fF (fg.mk p0.list p0.at_ d) a)) :: G = e) := by
 refine fN Tryz.func71 rfl Tryz.ntmps71 Tryz.results71 rfl ?_
 unfold rJ at H
 refine fc<|fa<|Ea Z<|fb<|fc<|fa<|Em Z<|Eq Z (fD rfl)<|EF 2 Z<|El (.int .u64 p0.value) Z (Rb0 Z)<|Er (wU (p0.value + 1)) Z<|Eq Z (fD rfl)<|EF 2 Z<|?_
 refine ff rfl (fm (vs := [(.int .u64 (wU (p0.value + 1)))]) (all' := (fF (fg.mk p0.list p0.at_ (wU (p0.value + 1))) a)) rfl rfl rfl rfl rfl .here rfl rfl rfl ?_)
 refine fb<|fc<|fa<|Em Z<|Eq Z (fD rfl)<|EF 2 Z<|El (.int .u64 (wU (p0.value + 1))) Z (Rb0 Z)<|Ea Z<|fb<|fz<|?_
 obtain ⟨g, h⟩ := ig H
 subst c d
 refine ⟨(by first|exact .inl rfl|exact .inr rfl), [(.int .u64 (wU (p0.value + 1)))], ⟨(.int .u64 (wU (p0.value + 1))), _, rfl, rfl, rfl⟩, ?_⟩
 exact Sd ⟨rfl, rfl, rfl⟩
theorem xl (h : Nat) (p0 : fg) (j : SV) (p1 : Op) (a : SV) (b : SV) (l : Op) (r : Int) (s : Int) (H : mN p0 p1 = some (l, r, s)) (K : Kp) (G : List Ent) (D : Slr Ty.u8 K (sv j) p0.list) (J : Slr fX K (sv a) p1.cases) (L : Slr Ty.i64 K (sv b) p1.draws) :
  Fc Tryz.prog 69 #[(Vp h), (.agg (fj p1 a b).toArray)] K ((.blk h 99 (fF p0 j)) :: G) (fun v i n => ∃ (E : SV) (F : SV), v = (.agg (fj l E F).toArray) ∧ K = i ∧ (.blk h 99 (fF (fg.mk p0.list r s) j)) :: G = n ∧ Slr fX i (sv E) l.cases ∧ Slr Ty.i64 i (sv F) l.draws) := by
 refine fN Tryz.func69 rfl Tryz.ntmps69 Tryz.results69 rfl ?_
 unfold mN at H
 refine fc<|fa<|?_
 refine ff rfl (fU (cs := (fj p1 a b)) rfl rfl rfl (fun t => ?_))
 refine ff rfl (fE (cs := (fj (Op.mk 0 0 0 0 0 [] []) fB fB)) rfl rfl rfl rfl (fun u => ?_))
 refine fb ?_
 refine fA (fun x i n => ∃ (z : Int) (A : Int) (m : Int) (B : Int) (c : Int) (d : Int) (e : Int) (f : Int) (g : Int), [(3, (Vp t)), (4, (Vp u))] = x ∧ K = i ∧ (.blk h 99 (fF (fg.mk p0.list z A) j)) :: (.blk u 51 (fj (Op.mk m m m B m [] []) fB fB)) :: (.blk t 51 (fj (Op.mk c d e f g p1.cases p1.draws) a b)) :: G = n ∧ lW p0 p1 z A m B c d e f g = some (l, r, s)) ?_ ?_
 ·refine fc<|fa<|Em Z<|?_
  obtain ⟨q, k, M, H⟩ := iy H
  refine Ow.shift (Pu2 (Sd ?_))
  refine ff rfl (Ek Tryz.call23 Z (jb h p0 j 8 q k M _ _ D) ?_)
  rintro _ _ _ - ⟨rfl, rfl, rfl⟩
  refine fb<|fC<|?_
  refine fA (fun x i n => ∃ (C : Bool), [(0, (Vp h)), (3, (Vp t)), (4, (Vp u)), (6, (Vi q)), (7, (.bool C))] = x ∧ K = i ∧ (.blk h 99 (fF (fg.mk p0.list k p0.value) j)) :: (.blk u 51 (fj (Op.mk 0 0 0 0 0 [] []) fB fB)) :: (.blk t 51 (fj p1 a b)) :: G = n ∧ pO q p0 k p1 C = some (l, r, s)) ?_ ?_
  ·refine fc<|fa<|Ec Z<|Ea Z<|fb<|?_
   refine fp rfl ?_ ?_
   ·intro o
    obtain ⟨o, H⟩ := It o H
    exact fy<|Pu2<|Pu2<|Pu2<|Sd<|⟨_, by exact R5, (dcd (q = 5)), rfl, rfl, rfl, H⟩
   ·intro o
    obtain ⟨o, H⟩ := If o H
    exact fa<|Ec Z<|Ea Z<|fb<|Pu2<|Pu2<|Pu2<|Sd<|⟨_, by exact R5, (dcd (q = 6)), rfl, rfl, rfl, H⟩
  rintro _ _ _ - ⟨C, rfl, rfl, rfl, H⟩
  unfold pO at H
  refine fp rfl ?_ ?_
  ·intro y
   have H := ift y H
   refine fa<|EF 1 Z<|?_
   refine ff rfl (fm (vs := [(Vi 1)]) (all' := (fj (Op.mk p1.kind 1 p1.channel p1.value p1.deadline p1.cases p1.draws) a b)) rfl rfl rfl rfl rfl (.there (.there .here)) rfl rfl rfl ?_)
   exact fb<|Pu2<|Pu2<|Pu2<|Sd<|⟨_, by exact R2, k, p0.value, 0, 0, p1.kind, 1, p1.channel, p1.value, p1.deadline, rfl, rfl, rfl, H⟩
  ·intro y
   have H := f5 (btf y) H
   refine fc<|fa<|Ec Z<|Ea Z<|fb<|?_
   refine fp rfl ?_ ?_
   ·intro p
    obtain ⟨p, H⟩ := It p H
    refine fa<|Em Z<|?_
    obtain ⟨w, I, N, H⟩ := iy H
    refine ff rfl (Ek Tryz.call23 Z (jb h (fg.mk p0.list k p0.value) j 5 w I N _ _ D) ?_)
    rintro _ _ _ - ⟨rfl, rfl, rfl⟩
    refine EF 1 Z ?_
    refine ff rfl (fm (vs := [(Vi 2)]) (all' := (fj (Op.mk p1.kind 2 p1.channel p1.value p1.deadline p1.cases p1.draws) a b)) rfl rfl rfl rfl rfl (.there (.there .here)) rfl rfl rfl ?_)
    refine EF 4 Z ?_
    refine ff rfl (fm (vs := [(Vi w)]) (all' := (fj (Op.mk p1.kind 2 p1.channel p1.value w p1.cases p1.draws) a b)) rfl rfl rfl rfl rfl (.there (.there .here)) rfl rfl rfl ?_)
    exact fb<|Pu2<|Pu2<|Pu2<|Sd<|⟨_, by exact R2, I, ((fg.mk p0.list k p0.value).value), 0, 0, p1.kind, 2, p1.channel, p1.value, w, rfl, rfl, rfl, H⟩
   ·intro p
    obtain ⟨p, H⟩ := If p H
    exact fy<|Pu2<|Pu2<|Pu2<|Sd<|⟨_, by exact R2, k, p0.value, 0, 0, p1.kind, p1.mode, p1.channel, p1.value, p1.deadline, rfl, rfl, rfl, H⟩
 rintro _ _ _ - ⟨z, A, m, B, c, d, e, f, g, rfl, rfl, rfl, H⟩
 unfold lW at H
 refine fc<|fa<|EL 7 (fj (Op.mk c d e f g p1.cases p1.draws) a b) Z (Rb2 Z)<|?_
 refine ff rfl (fm (vs := (fj (Op.mk c d e f g p1.cases p1.draws) a b)) (all' := (fj (Op.mk c d e f g p1.cases p1.draws) a b)) rfl rfl rfl rfl rfl (.there .here) rfl rfl rfl ?_)
 refine fb<|fz<|?_
 obtain ⟨O, P, Q⟩ := jQ H
 subst l r s
 refine ⟨(by first|exact .inl rfl|exact .inr rfl), [(.agg (fj (Op.mk c d e f g p1.cases p1.draws) a b).toArray)], ⟨(.agg (fj (Op.mk c d e f g p1.cases p1.draws) a b).toArray), _, rfl, ⟨_, 7, (fj (Op.mk c d e f g p1.cases p1.draws) a b), rfl, rfl, rfl, rfl, ⟨rfl, Rb1 Z⟩, rfl⟩, rfl⟩, ?_⟩
 exact Re1<|Re1<|Sd<|⟨a, b, rfl, rfl, rfl, J, L⟩
theorem Fe (a : Nat) (p0 : fg) (b : SV) (p1 : fP) (m : SV) (n : SV) (p2 : Int) (w : Op) (F : Int) (I : Int) (H : nt p0 p1 p2 = some (w, F, I)) (K : Kp) (G : List Ent) (aI : Slr Ty.u8 K (sv b) p0.list) (av : Slr Ty.i64 K (sv m) p1.capacities) (aw : Slr Ty.u64 K (sv n) p1.starts) :
  Fc Tryz.prog 72 #[(Vp a), (.agg (fq p1 m n).toArray), (Vi p2)] K ((.blk a 99 (fF p0 b)) :: G) (fun v c j => ∃ (aN : SV) (aO : SV), v = (.agg (fj w aN aO).toArray) ∧ (.blk a 99 (fF (fg.mk p0.list F I) b)) :: G = j ∧ Slr fX c (sv aN) w.cases ∧ Slr Ty.i64 c (sv aO) w.draws) := by
 refine fN Tryz.func72 rfl Tryz.ntmps72 Tryz.results72 rfl ?_
 unfold nt at H
 refine fc<|fa<|?_
 refine ff rfl (fU (cs := (fq p1 m n)) rfl rfl rfl (fun A => ?_))
 refine ff rfl (fE (cs := (fj (Op.mk 0 0 0 0 0 [] []) fB fB)) rfl rfl rfl rfl (fun o => ?_))
 refine fb<|fc<|fa<|Eq Z (fH (cs := (fj (Op.mk 4 0 0 0 0 [] []) fB fB)) rfl rfl rfl rfl rfl rfl)<|?_
 refine ff rfl (fE (cs := (fj (Op.mk 0 0 0 0 0 [] []) fB fB)) rfl rfl rfl rfl (fun p => ?_))
 refine ff rfl (fm (vs := (fj (Op.mk 4 0 0 0 0 [] []) fB fB)) (all' := (fj (Op.mk 4 0 0 0 0 [] []) fB fB)) rfl rfl rfl rfl rfl .here rfl rfl rfl ?_)
 refine fb ?_
 refine fA (fun x c j => ∃ (al : Int) (am : Int) (R : SV) (P : af2) (S : SV) (Q : ad1), [(0, (Vp a)), (6, (Vp o)), (7, (Vp p))] = x ∧ (.blk a 99 (fF (fg.mk p0.list al am) b)) :: (.blk p 51 (fj (Op.mk 4 0 0 0 0 P Q) R S)) :: (.blk o 51 (fj (Op.mk 0 0 0 0 0 [] []) fB fB)) :: (.tok 108 3 [(sv R)]) :: (.tok 3 1 [(sv S)]) :: G = j ∧ oy p0 al am P Q = some (w, F, I) ∧ Slr fX c (sv R) P ∧ Slr Ty.i64 c (sv S) Q) ?_ ?_
 ·refine fc<|fa<|Ea Z<|fb<|fC<|?_
  refine ga (fun aM x c j => ∃ (e : Int) (r : Int) (s : Int) (u : SV) (z : af2) (h : SV) (t : ad1), [(0, (Vp a)), (2, (Vi p2)), (4, (Vp A)), (6, (Vp o)), (7, (Vp p)), (8, (Vi e))] = x ∧ (.blk a 99 (fF (fg.mk p0.list r s) b)) :: (.blk p 51 (fj (Op.mk 4 0 0 0 0 z t) u h)) :: (.blk o 51 (fj (Op.mk 0 0 0 0 0 [] []) fB fB)) :: (.blk A 27 (fq p1 m n)) :: (.tok 108 3 [(sv u)]) :: (.tok 3 1 [(sv h)]) :: G = j ∧ lp5 (oD p2 p0 p1) aM e r s z t = some (w, F, I) ∧ Slr fX c (sv u) z ∧ Slr Ty.i64 c (sv h) t) BIG ?_ ?_
  ·exact Shift.nilTok1 108 3<|Shift.nilTok1 3 1<|Pu1<|Pu4<|Pu4<|Pu4<|Pu5<|Sd<|⟨_, by exact R6, 0, p0.at_, p0.value, fB, ([] : af2), fB, ([] : ad1), rfl, rfl, H, (Slr.nil fX _), (Slr.nil Ty.i64 _)⟩
  rintro aM _ aq _ J ⟨e, r, s, u, z, h, t, rfl, rfl, H, aJ, ak⟩
  obtain ⟨bD, aA, rfl, aX, H⟩ := FD H
  unfold oD at H
  refine fc<|fc<|fa<|Em Z<|Em Z<|Em Z<|Er (wI (p2 + 1)) Z<|?_
  obtain ⟨bq, L, bm, H⟩ := iy H
  have y := aI.mono J
  refine ff rfl (Ek Tryz.call23 Z (jb a (fg.mk p0.list r s) b (wI (p2 + 1)) bq L bm _ _ y) ?_)
  rintro _ _ _ - ⟨rfl, rfl, rfl⟩
  refine Ec Z<|fb<|?_
  refine fp rfl ?_ ?_
  ·intro ac
   obtain ⟨ac, H⟩ := It ac H
   refine fy ?_
   refine fA (fun x c j => ∃ (an : Int) (ao : Int) (ag : SV) (ae : af2) (ah : SV) (af : ad1), [(0, (Vp a)), (2, (Vi p2)), (4, (Vp A)), (6, (Vp o)), (7, (Vp p)), (8, (Vi e))] = x ∧ (.blk a 99 (fF (fg.mk p0.list an ao) b)) :: (.blk p 51 (fj (Op.mk 4 0 0 0 0 ae af) ag ah)) :: (.blk o 51 (fj (Op.mk 0 0 0 0 0 [] []) fB fB)) :: (.blk A 27 (fq p1 m n)) :: (.tok 108 3 [(sv ag)]) :: (.tok 3 1 [(sv ah)]) :: G = j ∧ oz p2 e p0 p1 aA an ao ae af = some (w, F, I) ∧ Slr fX c (sv ag) ae ∧ Slr Ty.i64 c (sv ah) af) ?_ ?_
   ·refine fC ?_
    refine fA (fun x c j => ∃ (ab : Nat) (N : Int) (O : Int) (i : Bool) (k : Int), [(0, (Vp a)), (2, (Vi p2)), (4, (Vp A)), (6, (Vp o)), (7, (Vp p)), (8, (Vi e)), (9, (Vp ab))] = x ∧ aq = c ∧ (.blk a 99 (fF (fg.mk p0.list N O) b)) :: (.blk ab 108 (fk (Case.mk i k 0))) :: (.blk p 51 (fj (Op.mk 4 0 0 0 0 z t) u h)) :: (.blk o 51 (fj (Op.mk 0 0 0 0 0 [] []) fB fB)) :: (.blk A 27 (fq p1 m n)) :: (.tok 108 3 [(sv u)]) :: (.tok 3 1 [(sv h)]) :: G = j ∧ oC p2 e p0 z t p1 aA N O i k = some (w, F, I)) ?_ ?_
    ·obtain ⟨f, ai, aK, H⟩ := iy H
     obtain ⟨d, W, X, ay, H⟩ := li H
     refine fx _ rfl (Ic Mb1 (Ic Mb2 (Ic Mb3 (Ic Mb4 (Ic Mb5 In0)))))<|Jm 0 Z<|Jm 3 Z<|JL 4 3 (fq p1 m n) Z (Rb2 Z)<|?_
     refine gX 1 7 (by kernel_rfl) ?_ ?_
     ·refine id (Jy Z ?_)
      refine Ek Tryz.call23 Z (jb a (fg.mk p0.list L ((fg.mk p0.list r s).value)) b 2 f ai aK _ _ y) ?_
      rintro _ _ _ - ⟨rfl, rfl, rfl⟩
      refine ⟨(Ic Mb1 (Ic Mb2 (Ic Mb3 (Ic Mb4 (Ic Mb5 In0))))), ?_⟩
      refine Jc 2 Z ?_
      refine gX 5 7 (by kernel_rfl) ?_ ?_
      ·refine id (Jy Z ?_)
       have a2 := av.mono J
       have a3 := aw.mono J
       refine Ek Tryz.call70 Z (kS a (fg.mk p0.list ai ((fg.mk p0.list L ((fg.mk p0.list r s).value)).value)) b p1 m n d W X ay _ _ y a2 a3) ?_
       rintro _ _ _ - ⟨rfl, rfl, rfl⟩
       refine ⟨(Ic Mb1 (Ic Mb2 (Ic Mb3 (Ic Mb4 (Ic Mb5 In0))))), ?_⟩
       refine Jq 6 Z (fH (cs := (fk (Case.mk (dcd (f = 1)) d 0))) rfl rfl rfl rfl rfl rfl) ?_
       refine Ao 7 Z ?_
       refine fE (cs := (fk (Case.mk false 0 0))) rfl rfl rfl rfl (fun aQ => ⟨(Ic Mb2 (Ic Mb3 (Ic Mb4 (Ic Mb5 (Ic Mb6 In0))))), ?_⟩)
       refine Ao 8 Z ?_
       refine fm (vs := (fk (Case.mk (dcd (f = 1)) d 0))) (all' := (fk (Case.mk (dcd (f = 1)) d 0))) rfl rfl rfl rfl rfl .here rfl rfl rfl ⟨(Ic Mb2 (Ic Mb3 (Ic Mb4 (Ic Mb5 (Ic Mb6 In0))))), ?_⟩
       exact Ad<|Pu6<|Pu6<|Pu6<|Pu6<|Pu6<|Pu5<|Pu6<|Sd<|⟨_, by exact R7, aQ, W, X, (dcd (f = 1)), d, rfl, rfl, rfl, H⟩
      ·refine id (Jy Z ?_)
       refine fE (cs := (fk (Case.mk false 0 0))) rfl rfl rfl rfl (fun aR => ⟨(Ic Mb2 (Ic Mb3 (Ic Mb4 (Ic Mb5 (Ic Mb6 In0))))), ?_⟩)
       refine Ao 5 Z ?_
       refine OpW.shift (Pu1 (Sd ?_))
       have a4 := av.mono J
       have a5 := aw.mono J
       refine Ek Tryz.call70 Z (kS a (fg.mk p0.list ai ((fg.mk p0.list L ((fg.mk p0.list r s).value)).value)) b p1 m n d W X ay _ _ y a4 a5) ?_
       rintro _ _ _ - ⟨rfl, rfl, rfl⟩
       refine ⟨(Ic Mb2 (Ic Mb3 (Ic Mb4 (Ic Mb5 (Ic Mb6 In0))))), ?_⟩
       refine Jq 6 Z (fH (cs := (fk (Case.mk (dcd (f = 1)) d 0))) rfl rfl rfl rfl rfl rfl) ?_
       refine Ao 8 Z ?_
       refine fm (vs := (fk (Case.mk (dcd (f = 1)) d 0))) (all' := (fk (Case.mk (dcd (f = 1)) d 0))) rfl rfl rfl rfl rfl (.there .here) rfl rfl rfl ⟨(Ic Mb2 (Ic Mb3 (Ic Mb4 (Ic Mb5 (Ic Mb6 In0))))), ?_⟩
       exact Ad<|Pu6<|Pu6<|Pu6<|Pu6<|Pu6<|Pu6<|Pu6<|Sd<|⟨_, by exact R7, aR, W, X, (dcd (f = 1)), d, rfl, rfl, rfl, H⟩
     ·refine id (Jy Z ?_)
      refine fE (cs := (fk (Case.mk false 0 0))) rfl rfl rfl rfl (fun aS => ⟨(Ic Mb2 (Ic Mb3 (Ic Mb4 (Ic Mb5 (Ic Mb6 In0))))), ?_⟩)
      refine Ao 1 Z ?_
      refine OpW.shift (Pu1 (Sd ?_))
      refine Ek Tryz.call23 Z (jb a (fg.mk p0.list L ((fg.mk p0.list r s).value)) b 2 f ai aK _ _ y) ?_
      rintro _ _ _ - ⟨rfl, rfl, rfl⟩
      refine ⟨(Ic Mb2 (Ic Mb3 (Ic Mb4 (Ic Mb5 (Ic Mb6 In0))))), ?_⟩
      refine Jc 2 Z ?_
      refine Ao 5 Z ?_
      have a6 := av.mono J
      have a7 := aw.mono J
      refine Ek Tryz.call70 Z (kS a (fg.mk p0.list ai ((fg.mk p0.list L ((fg.mk p0.list r s).value)).value)) b p1 m n d W X ay _ _ y a6 a7) ?_
      rintro _ _ _ - ⟨rfl, rfl, rfl⟩
      refine ⟨(Ic Mb2 (Ic Mb3 (Ic Mb4 (Ic Mb5 (Ic Mb6 In0))))), ?_⟩
      refine Jq 6 Z (fH (cs := (fk (Case.mk (dcd (f = 1)) d 0))) rfl rfl rfl rfl rfl rfl) ?_
      refine Ao 8 Z ?_
      refine fm (vs := (fk (Case.mk (dcd (f = 1)) d 0))) (all' := (fk (Case.mk (dcd (f = 1)) d 0))) rfl rfl rfl rfl rfl (.there .here) rfl rfl rfl ⟨(Ic Mb2 (Ic Mb3 (Ic Mb4 (Ic Mb5 (Ic Mb6 In0))))), ?_⟩
      exact Ad<|Pu6<|Pu6<|Pu6<|Pu6<|Pu6<|Pu6<|Pu6<|Sd<|⟨_, by exact R7, aS, W, X, (dcd (f = 1)), d, rfl, rfl, rfl, H⟩
    rintro _ _ _ - ⟨ab, N, O, i, k, rfl, rfl, rfl, H⟩
    unfold oC at H
    refine fA (fun x c j => ∃ (B : Int) (C : Int) (D : Int), [(0, (Vp a)), (2, (Vi p2)), (4, (Vp A)), (6, (Vp o)), (7, (Vp p)), (8, (Vi e)), (9, (Vp ab))] = x ∧ aq = c ∧ (.blk a 99 (fF (fg.mk p0.list B C) b)) :: (.blk ab 108 (fk (Case.mk i k D))) :: (.blk p 51 (fj (Op.mk 4 0 0 0 0 z t) u h)) :: (.blk o 51 (fj (Op.mk 0 0 0 0 0 [] []) fB fB)) :: (.blk A 27 (fq p1 m n)) :: (.tok 108 3 [(sv u)]) :: (.tok 3 1 [(sv h)]) :: G = j ∧ mO p2 e p0 i k z t p1 aA B C D = some (w, F, I)) ?_ ?_
    ·refine fc<|fa<|EF 0 Z<|El (.bool i) Z (Rb1 Z)<|fb<|?_
     refine fp rfl ?_ ?_
     ·intro au
      have H := ift au H
      refine fa<|Em Z<|?_
      obtain ⟨ap, aP, bn, H⟩ := iy H
      refine ff rfl (Ek Tryz.call71 Z (ym a (fg.mk p0.list N O) b ap aP bn _ _ y) ?_)
      rintro _ _ _ - ⟨rfl, rfl, rfl⟩
      refine EF 2 Z ?_
      refine ff rfl (fm (vs := [(.int .u64 ap)]) (all' := (fk (Case.mk i k ap))) rfl rfl rfl rfl rfl (.there .here) rfl rfl rfl ?_)
      exact fb<|Pu6<|Pu6<|Pu6<|Pu6<|Pu6<|Pu6<|Pu6<|Sd<|⟨_, by exact R7, ((fg.mk p0.list N O).at_), aP, ap, rfl, rfl, rfl, H⟩
     ·intro au
      have H := f5 (btf au) H
      exact fy<|Pu6<|Pu6<|Pu6<|Pu6<|Pu6<|Pu6<|Pu6<|Sd<|⟨_, by exact R7, N, O, 0, rfl, rfl, rfl, H⟩
    rintro _ _ _ - ⟨B, C, D, rfl, rfl, rfl, H⟩
    unfold mO at H
    refine fc<|fa<|EF 5 Z<|El (sv u) Z (Rb2 Z)<|EL 3 (fk (Case.mk i k D)) Z (Rb1 Z)<|?_
    have aE : RowR fX aq [(fk (Case.mk i k D))] [(Case.mk i k D)] := RowR.cons rfl (RowR.nil)
    refine ff rfl (gh (T := fX) (rows := [(fk (Case.mk i k D))]) (l := [(Case.mk i k D)]) rfl rfl rfl aE rfl rfl rfl rfl rfl rfl rfl rfl (fun bE => ?_))
    obtain ⟨M, bo, H⟩ := bnd H
    refine ff rfl (f6 (T := fX) (bytes := 24) (q := 0) rfl rfl rfl aJ Mb6 rfl (SrcT.row Mb0 aE rfl) bo rfl rfl rfl rfl rfl rfl rfl rfl (fun E ar ad ax => ⟨_, (.there (.there (.there (.there (.there (.there .here)))))), ?_⟩))
    refine Ow.shift (Re0 (Sd ?_))
    refine EF 5 Z ?_
    refine ff rfl (fm (vs := [(sv E)]) (all' := (fj (Op.mk 4 0 0 0 0 M t) E h)) rfl rfl rfl rfl rfl (.there (.there .here)) rfl rfl rfl ?_)
    refine fb ?_
    obtain ⟨g, aj, aL, H⟩ := iy H
    obtain ⟨Y, az, H⟩ := bnd H
    refine fx _ rfl (Ic Mb1 (Ic Mb3 (Ic Mb4 (Ic Mb5 In0))))<|JF 0 6 Z<|Jm 2 Z<|Jm 3 Z<|Jr 4 (wI (e + 1)) Z<|?_
    refine gX 1 5 (by kernel_rfl) ?_ ?_
    ·refine id (Jyq Z (gv (v := (sv h)) rfl rfl rfl (Rb2 Z)) ⟨(Ic Mb1 (Ic Mb3 (Ic Mb4 (Ic Mb5 In0)))), ?_⟩)
     refine Ao 5 Z ?_
     have a8 := y.mono ad
     refine Ek Tryz.call23 Z (jb a (fg.mk p0.list B C) b (wI (e + 1)) g aj aL _ _ a8) ?_
     rintro _ _ _ - ⟨rfl, rfl, rfl⟩
     refine ⟨(Ic Mb1 (Ic Mb3 (Ic Mb4 (Ic Mb5 In0)))), ?_⟩
     refine Ao 6 Z ?_
     have aF : RowR Ty.i64 ar [[(Vi g)]] [g] := RowR.cons rfl (RowR.nil)
     refine gh (T := Ty.i64) (rows := [[(Vi g)]]) (l := [g]) rfl rfl rfl aF rfl rfl rfl rfl rfl rfl rfl rfl (fun bF => ⟨(Ic Mb2 (Ic Mb4 (Ic Mb5 (Ic Mb6 In0)))), ?_⟩)
     refine Ao 7 Z ?_
     have ba := ak.mono ad
     refine f6 (T := Ty.i64) (bytes := 8) (q := 0) rfl rfl rfl ba Mb7 rfl (SrcT.row Mb0 aF rfl) az rfl rfl rfl rfl rfl rfl rfl rfl (fun aB bt aT a9 => ⟨_, (.there (.there (.there (.there (.there (.there (.there .here))))))), ⟨(Ic Mb2 (Ic Mb4 (Ic Mb5 (Ic Mb6 In0)))), ?_⟩⟩)
     refine Aw.shift (Re0 (Sd ⟨(Ic Mb1 (Ic Mb3 (Ic Mb4 (Ic Mb5 In0)))), ?_⟩))
     refine JF 8 6 Z ?_
     refine Ao 9 Z ?_
     refine fm (vs := [(sv aB)]) (all' := (fj (Op.mk 4 0 0 0 0 M Y) E aB)) rfl rfl rfl rfl rfl (.there (.there .here)) rfl rfl rfl ⟨(Ic Mb1 (Ic Mb3 (Ic Mb4 (Ic Mb5 In0)))), ?_⟩
     refine Ad<|Pu6<|Pu6<|Pu6<|Pu6<|Pu6<|Pu5<|Re6<|?_
     have bb := ax.mono aT
     exact Sd ⟨_, by exact R6, aj, ((fg.mk p0.list B C).value), E, M, aB, Y, rfl, rfl, H, bb, a9⟩
    ·refine id (Jy Z ?_)
     have bc := y.mono ad
     refine Ek Tryz.call23 Z (jb a (fg.mk p0.list B C) b (wI (e + 1)) g aj aL _ _ bc) ?_
     rintro _ _ _ - ⟨rfl, rfl, rfl⟩
     refine ⟨(Ic Mb1 (Ic Mb3 (Ic Mb4 (Ic Mb5 In0)))), ?_⟩
     refine gX 1 6 (by kernel_rfl) ?_ ?_
     ·refine id (Jyq Z (gv (v := (sv h)) rfl rfl rfl (Rb2 Z)) ⟨(Ic Mb1 (Ic Mb3 (Ic Mb4 (Ic Mb5 In0)))), ?_⟩)
      refine Ao 6 Z ?_
      have aG : RowR Ty.i64 ar [[(Vi g)]] [g] := RowR.cons rfl (RowR.nil)
      refine gh (T := Ty.i64) (rows := [[(Vi g)]]) (l := [g]) rfl rfl rfl aG rfl rfl rfl rfl rfl rfl rfl rfl (fun bG => ⟨(Ic Mb2 (Ic Mb4 (Ic Mb5 (Ic Mb6 In0)))), ?_⟩)
      refine Ao 7 Z ?_
      have be := ak.mono ad
      refine f6 (T := Ty.i64) (bytes := 8) (q := 0) rfl rfl rfl be Mb7 rfl (SrcT.row Mb0 aG rfl) az rfl rfl rfl rfl rfl rfl rfl rfl (fun aC bu aU bd => ⟨_, (.there (.there (.there (.there (.there (.there (.there .here))))))), ⟨(Ic Mb2 (Ic Mb4 (Ic Mb5 (Ic Mb6 In0)))), ?_⟩⟩)
      refine Aw.shift (Re0 (Sd ⟨(Ic Mb1 (Ic Mb3 (Ic Mb4 (Ic Mb5 In0)))), ?_⟩))
      refine JF 8 6 Z ?_
      refine Ao 9 Z ?_
      refine fm (vs := [(sv aC)]) (all' := (fj (Op.mk 4 0 0 0 0 M Y) E aC)) rfl rfl rfl rfl rfl (.there (.there .here)) rfl rfl rfl ⟨(Ic Mb1 (Ic Mb3 (Ic Mb4 (Ic Mb5 In0)))), ?_⟩
      refine Ad<|Pu6<|Pu6<|Pu6<|Pu6<|Pu6<|Pu5<|Re6<|?_
      have bf := ax.mono aU
      exact Sd ⟨_, by exact R6, aj, ((fg.mk p0.list B C).value), E, M, aC, Y, rfl, rfl, H, bf, bd⟩
     ·refine id (Jy Z ?_)
      have aH : RowR Ty.i64 ar [[(Vi g)]] [g] := RowR.cons rfl (RowR.nil)
      refine gh (T := Ty.i64) (rows := [[(Vi g)]]) (l := [g]) rfl rfl rfl aH rfl rfl rfl rfl rfl rfl rfl rfl (fun bH => ⟨(Ic Mb2 (Ic Mb4 (Ic Mb5 (Ic Mb6 In0)))), ?_⟩)
      refine gG 1 (by kernel_rfl) (Jyq Z (gv (v := (sv h)) rfl rfl rfl (Rb3 Z)) ⟨(Ic Mb2 (Ic Mb4 (Ic Mb5 (Ic Mb6 In0)))), ?_⟩)
      refine Ao 7 Z ?_
      have bh := ak.mono ad
      refine f6 (T := Ty.i64) (bytes := 8) (q := 0) rfl rfl rfl bh Mb7 rfl (SrcT.row Mb0 aH rfl) az rfl rfl rfl rfl rfl rfl rfl rfl (fun aD bv aV bg => ⟨_, (.there (.there (.there (.there (.there (.there (.there .here))))))), ⟨(Ic Mb2 (Ic Mb4 (Ic Mb5 (Ic Mb6 In0)))), ?_⟩⟩)
      refine Aw.shift (Re0 (Sd ⟨(Ic Mb1 (Ic Mb3 (Ic Mb4 (Ic Mb5 In0)))), ?_⟩))
      refine JF 8 6 Z ?_
      refine Ao 9 Z ?_
      refine fm (vs := [(sv aD)]) (all' := (fj (Op.mk 4 0 0 0 0 M Y) E aD)) rfl rfl rfl rfl rfl (.there (.there .here)) rfl rfl rfl ⟨(Ic Mb1 (Ic Mb3 (Ic Mb4 (Ic Mb5 In0)))), ?_⟩
      refine Ad<|Pu6<|Pu6<|Pu6<|Pu6<|Pu6<|Pu5<|Re6<|?_
      have bi := ax.mono aV
      exact Sd ⟨_, by exact R6, aj, ((fg.mk p0.list B C).value), E, M, aD, Y, rfl, rfl, H, bi, bg⟩
   rintro _ bw _ bC ⟨an, ao, ag, ae, ah, af, rfl, rfl, H, a0, a1⟩
   unfold oz at H
   exact fa<|Em Z<|Er (wI (e + 1)) Z<|Ea Z<|fb<|Pu5<|Pu5<|Pu5<|Pu5<|Pu5<|Pu5<|Sd<|⟨_, by exact R6, _, Nat.lt_succ_self _, (wI (e + 1)), an, ao, ag, ae, ah, af, rfl, rfl, (aX ▸ H), a0, a1⟩
  ·intro ac
   obtain ⟨ac, H⟩ := If ac H
   exact ge<|Pu5<|Pu5<|Pu4<|Pu4<|Pu4<|Re5<|Sd<|⟨_, by exact R3, L, ((fg.mk p0.list r s).value), u, z, h, t, rfl, rfl, H, aJ, ak⟩
 rintro _ bx _ aW ⟨al, am, R, P, S, Q, rfl, rfl, H, aY, aZ⟩
 unfold oy at H
 refine fc<|fa<|Em Z<|EL 7 (fj (Op.mk 4 0 0 0 0 P Q) R S) Z (Rb1 Z)<|?_
 obtain ⟨aa, br, bs, bp, H⟩ := li H
 have bj := aI.mono aW
 refine ff rfl (Ek Tryz.call69 Z (xl a (fg.mk p0.list al am) b (Op.mk 4 0 0 0 0 P Q) R S aa br bs bp _ _ bj aY aZ) ?_)
 rintro _ _ _ - ⟨U, V, rfl, rfl, rfl, bk, bl⟩
 refine ff rfl (fm (vs := (fj aa U V)) (all' := (fj aa U V)) rfl rfl rfl rfl rfl (.there (.there .here)) rfl rfl rfl ?_)
 refine fb<|fz<|?_
 obtain ⟨bz, bA, bB⟩ := jQ H
 subst w F I
 refine ⟨(by first|exact .inl rfl|exact .inr rfl), [(.agg (fj aa U V).toArray)], ⟨(.agg (fj aa U V).toArray), _, rfl, ⟨_, 7, (fj aa U V), rfl, rfl, rfl, rfl, ⟨rfl, Rb2 Z⟩, rfl⟩, rfl⟩, ?_⟩
 exact Re1<|Re1<|Re1<|Re1<|Sd<|⟨U, V, rfl, rfl, bk, bl⟩
end Go.Hx
namespace Go.Hx
open Go Go.Proofs
set_option maxRecDepth 10000
set_option maxHeartbeats 1000000
theorem xm (c : Nat) (p0 : fg) (d : SV) (p1 : fP) (a : SV) (b : SV) (f : Op) (g : Int) (h : Int) (H : nu p0 p1 = some (f, g, h)) (K : Kp) (G : List Ent) (e : Slr Ty.u8 K (sv d) p0.list) (m : Slr Ty.i64 K (sv a) p1.capacities) (n : Slr Ty.u64 K (sv b) p1.starts) :
  Fc Tryz.prog 40 #[(Vp c), (.agg (fq p1 a b).toArray)] K ((.blk c 99 (fF p0 d)) :: G) (fun v O U => ∃ (P : SV) (Q : SV), v = (.agg (fj f P Q).toArray) ∧ (.blk c 99 (fF (fg.mk p0.list g h) d)) :: G = U ∧ Slr fX O (sv P) f.cases ∧ Slr Ty.i64 O (sv Q) f.draws) := by
 refine fN Tryz.func40 rfl Tryz.ntmps40 Tryz.results40 rfl ?_
 unfold nu at H
 refine fc<|fa<|?_
 refine ff rfl (fU (cs := (fq p1 a b)) rfl rfl rfl (fun aC => ?_))
 refine ff rfl (fE (cs := (fj (Op.mk 0 0 0 0 0 [] []) fB fB)) rfl rfl rfl rfl (fun aD => ?_))
 refine fb<|fc<|fc<|fa<|Em Z<|?_
 obtain ⟨am, i, ac, H⟩ := iy H
 refine Ow.shift (Pu2 (Sd ?_))
 refine ff rfl (Ek Tryz.call23 Z (jb c p0 d 20 am i ac _ _ e) ?_)
 rintro _ _ _ - ⟨rfl, rfl, rfl⟩
 refine Ea Z<|fb<|fC<|fc<|fa<|Em Z<|Ec Z<|Ea Z<|fb<|?_
 refine fp rfl ?_ ?_
 ·intro B
  obtain ⟨B, H⟩ := It B H
  refine fc<|fa<|Em Z<|Em Z<|EL 3 (fq p1 a b) Z (Rb2 Z)<|?_
  obtain ⟨I, J, L, ad, H⟩ := li H
  refine ff rfl (Ek Tryz.call70 Z (kS c (fg.mk p0.list i p0.value) d p1 a b I J L ad _ _ e m n) ?_)
  rintro _ _ _ - ⟨rfl, rfl, rfl⟩
  refine Em Z ?_
  obtain ⟨M, R, ae, H⟩ := iy H
  refine ff rfl (Ek Tryz.call71 Z (ym c (fg.mk p0.list J L) d M R ae _ _ e) ?_)
  rintro _ _ _ - ⟨rfl, rfl, rfl⟩
  refine Eq Z (fH (cs := (fj (Op.mk 1 0 I M 0 [] []) fB fB)) rfl rfl rfl rfl rfl rfl) ?_
  obtain ⟨u, an, ao, af, H⟩ := li H
  refine ff rfl (Ek Tryz.call69 Z (xl c (fg.mk p0.list ((fg.mk p0.list J L).at_) R) d (Op.mk 1 0 I M 0 [] []) fB fB u an ao af _ _ e (Slr.nil fX _) (Slr.nil Ty.i64 _)) ?_)
  rintro _ _ _ - ⟨o, p, rfl, rfl, rfl, V, W⟩
  refine ff rfl (fm (vs := (fj u o p)) (all' := (fj u o p)) rfl rfl rfl rfl rfl (.there .here) rfl rfl rfl ?_)
  refine fb<|fz<|?_
  obtain ⟨y, z, A⟩ := jQ H
  subst f g h
  refine ⟨(by first|exact .inl rfl|exact .inr rfl), [(.agg (fj u o p).toArray)], ⟨(.agg (fj u o p).toArray), _, rfl, ⟨_, 7, (fj u o p), rfl, rfl, rfl, rfl, ⟨rfl, Rb1 Z⟩, rfl⟩, rfl⟩, ?_⟩
  exact Re1<|Re1<|Sd<|⟨o, p, rfl, rfl, V, W⟩
 ·intro B
  obtain ⟨B, H⟩ := If B H
  refine fc<|fa<|Em Z<|Ec Z<|Ea Z<|fb<|?_
  refine fp rfl ?_ ?_
  ·intro C
   obtain ⟨C, H⟩ := It C H
   refine fc<|fa<|Em Z<|Em Z<|EL 3 (fq p1 a b) Z (Rb2 Z)<|?_
   obtain ⟨N, S, T, ag, H⟩ := li H
   refine ff rfl (Ek Tryz.call70 Z (kS c (fg.mk p0.list i p0.value) d p1 a b N S T ag _ _ e m n) ?_)
   rintro _ _ _ - ⟨rfl, rfl, rfl⟩
   refine Eq Z (fH (cs := (fj (Op.mk 2 0 N 0 0 [] []) fB fB)) rfl rfl rfl rfl rfl rfl) ?_
   obtain ⟨w, ap, aq, ah, H⟩ := li H
   refine ff rfl (Ek Tryz.call69 Z (xl c (fg.mk p0.list S T) d (Op.mk 2 0 N 0 0 [] []) fB fB w ap aq ah _ _ e (Slr.nil fX _) (Slr.nil Ty.i64 _)) ?_)
   rintro _ _ _ - ⟨q, r, rfl, rfl, rfl, X, Y⟩
   refine ff rfl (fm (vs := (fj w q r)) (all' := (fj w q r)) rfl rfl rfl rfl rfl (.there .here) rfl rfl rfl ?_)
   refine fb<|fz<|?_
   obtain ⟨y, z, A⟩ := jQ H
   subst f g h
   refine ⟨(by first|exact .inl rfl|exact .inr rfl), [(.agg (fj w q r).toArray)], ⟨(.agg (fj w q r).toArray), _, rfl, ⟨_, 7, (fj w q r), rfl, rfl, rfl, rfl, ⟨rfl, Rb1 Z⟩, rfl⟩, rfl⟩, ?_⟩
   exact Re1<|Re1<|Sd<|⟨q, r, rfl, rfl, X, Y⟩
  ·intro C
   obtain ⟨C, H⟩ := If C H
   refine fc<|fa<|Em Z<|Ec Z<|Ea Z<|fb<|?_
   refine fp rfl ?_ ?_
   ·intro D
    obtain ⟨D, H⟩ := It D H
    refine fc<|fa<|Em Z<|EL 3 (fq p1 a b) Z (Rb2 Z)<|?_
    obtain ⟨x, ar, au, ai, H⟩ := li H
    refine ff rfl (Ek Tryz.call72 Z (Fe c (fg.mk p0.list i p0.value) d p1 a b 4 x ar au ai _ _ e m n) ?_)
    rintro _ aB _ aE ⟨s, t, rfl, rfl, aa, ab⟩
    refine ff rfl (fm (vs := (fj x s t)) (all' := (fj x s t)) rfl rfl rfl rfl rfl (.there .here) rfl rfl rfl ?_)
    refine fb<|fz<|?_
    obtain ⟨y, z, A⟩ := jQ H
    subst f g h
    refine ⟨(by first|exact .inl rfl|exact .inr rfl), [(.agg (fj x s t).toArray)], ⟨(.agg (fj x s t).toArray), _, rfl, ⟨_, 7, (fj x s t), rfl, rfl, rfl, rfl, ⟨rfl, Rb1 Z⟩, rfl⟩, rfl⟩, ?_⟩
    exact Re1<|Re1<|Sd<|⟨s, t, rfl, rfl, aa, ab⟩
   ·intro D
    obtain ⟨D, H⟩ := If D H
    refine fc<|fa<|Em Z<|Ec Z<|Ea Z<|fb<|?_
    refine fp rfl ?_ ?_
    ·intro E
     obtain ⟨E, H⟩ := It E H
     refine fc<|fa<|Em Z<|EL 3 (fq p1 a b) Z (Rb2 Z)<|?_
     obtain ⟨j, av, aw, aj, H⟩ := li H
     refine ff rfl (Ek Tryz.call70 Z (kS c (fg.mk p0.list i p0.value) d p1 a b j av aw aj _ _ e m n) ?_)
     rintro _ _ _ - ⟨rfl, rfl, rfl⟩
     refine Eq Z (fH (cs := (fj (Op.mk 3 0 j 0 0 [] []) fB fB)) rfl rfl rfl rfl rfl rfl) ?_
     refine ff rfl (fm (vs := (fj (Op.mk 3 0 j 0 0 [] []) fB fB)) (all' := (fj (Op.mk 3 0 j 0 0 [] []) fB fB)) rfl rfl rfl rfl rfl (.there .here) rfl rfl rfl ?_)
     refine fb<|fz<|?_
     obtain ⟨y, z, A⟩ := jQ H
     subst f g h
     refine ⟨(by first|exact .inl rfl|exact .inr rfl), [(.agg (fj (Op.mk 3 0 j 0 0 [] []) fB fB).toArray)], ⟨(.agg (fj (Op.mk 3 0 j 0 0 [] []) fB fB).toArray), _, rfl, ⟨_, 7, (fj (Op.mk 3 0 j 0 0 [] []) fB fB), rfl, rfl, rfl, rfl, ⟨rfl, Rb1 Z⟩, rfl⟩, rfl⟩, ?_⟩
     exact Re1<|Re1<|Sd<|⟨fB, fB, rfl, rfl, (Slr.nil fX _), (Slr.nil Ty.i64 _)⟩
    ·intro E
     obtain ⟨E, H⟩ := If E H
     refine fc<|fa<|Em Z<|Ec Z<|Ea Z<|fb<|?_
     refine fp rfl ?_ ?_
     ·intro F
      obtain ⟨F, H⟩ := It F H
      refine fc<|fa<|Em Z<|EL 3 (fq p1 a b) Z (Rb2 Z)<|?_
      obtain ⟨k, ax, ay, ak, H⟩ := li H
      refine ff rfl (Ek Tryz.call70 Z (kS c (fg.mk p0.list i p0.value) d p1 a b k ax ay ak _ _ e m n) ?_)
      rintro _ _ _ - ⟨rfl, rfl, rfl⟩
      refine Eq Z (fH (cs := (fj (Op.mk 5 0 k 0 0 [] []) fB fB)) rfl rfl rfl rfl rfl rfl) ?_
      refine ff rfl (fm (vs := (fj (Op.mk 5 0 k 0 0 [] []) fB fB)) (all' := (fj (Op.mk 5 0 k 0 0 [] []) fB fB)) rfl rfl rfl rfl rfl (.there .here) rfl rfl rfl ?_)
      refine fb<|fz<|?_
      obtain ⟨y, z, A⟩ := jQ H
      subst f g h
      refine ⟨(by first|exact .inl rfl|exact .inr rfl), [(.agg (fj (Op.mk 5 0 k 0 0 [] []) fB fB).toArray)], ⟨(.agg (fj (Op.mk 5 0 k 0 0 [] []) fB fB).toArray), _, rfl, ⟨_, 7, (fj (Op.mk 5 0 k 0 0 [] []) fB fB), rfl, rfl, rfl, rfl, ⟨rfl, Rb1 Z⟩, rfl⟩, rfl⟩, ?_⟩
      exact Re1<|Re1<|Sd<|⟨fB, fB, rfl, rfl, (Slr.nil fX _), (Slr.nil Ty.i64 _)⟩
     ·intro F
      obtain ⟨F, H⟩ := If F H
      refine fy<|fc<|fa<|Em Z<|EL 3 (fq p1 a b) Z (Rb2 Z)<|?_
      obtain ⟨l, az, aA, al, H⟩ := li H
      refine ff rfl (Ek Tryz.call70 Z (kS c (fg.mk p0.list i p0.value) d p1 a b l az aA al _ _ e m n) ?_)
      rintro _ _ _ - ⟨rfl, rfl, rfl⟩
      refine Eq Z (fH (cs := (fj (Op.mk 6 0 l 0 0 [] []) fB fB)) rfl rfl rfl rfl rfl rfl) ?_
      refine ff rfl (fm (vs := (fj (Op.mk 6 0 l 0 0 [] []) fB fB)) (all' := (fj (Op.mk 6 0 l 0 0 [] []) fB fB)) rfl rfl rfl rfl rfl (.there .here) rfl rfl rfl ?_)
      refine fb<|fz<|?_
      obtain ⟨y, z, A⟩ := jQ H
      subst f g h
      refine ⟨(by first|exact .inl rfl|exact .inr rfl), [(.agg (fj (Op.mk 6 0 l 0 0 [] []) fB fB).toArray)], ⟨(.agg (fj (Op.mk 6 0 l 0 0 [] []) fB fB).toArray), _, rfl, ⟨_, 7, (fj (Op.mk 6 0 l 0 0 [] []) fB fB), rfl, rfl, rfl, rfl, ⟨rfl, Rb1 Z⟩, rfl⟩, rfl⟩, ?_⟩
      exact Re1<|Re1<|Sd<|⟨fB, fB, rfl, rfl, (Slr.nil fX _), (Slr.nil Ty.i64 _)⟩
theorem Ff (e : Nat) (p0 : fg) (g : SV) (p1 : fP) (j : SV) (k : SV) (p2 : Int) (D : ae4) (E : Int) (F : Int) (H : nv p0 p1 p2 = some (D, E, F)) (K : Kp) (G : List Ent) (a3 : Slr Ty.u8 K (sv g) p0.list) (az : Slr Ty.i64 K (sv j) p1.capacities) (aA : Slr Ty.u64 K (sv k) p1.starts) :
  Fc Tryz.prog 20 #[(Vp e), (.agg (fq p1 j k).toArray), (Vi p2)] K ((.blk e 99 (fF p0 g)) :: G) (fun v n m => ∃ (be : SV) (bc : List (List Value)), v = (sv be) ∧ (.blk e 99 (fF (fg.mk p0.list E F) g)) :: (.row (sv be) 52 1 bc.flatten) :: G = m ∧ RowR (Ty.sl hQ) n bc D) := by
 refine fN Tryz.func20 rfl Tryz.ntmps20 Tryz.results20 rfl ?_
 unfold nv at H
 refine fc<|fa<|?_
 refine ff rfl (fU (cs := (fq p1 j k)) rfl rfl rfl (fun I => ?_))
 refine Ea Z<|fb<|fc<|fa<|EF 2 Z<|El (Vi p1.threads) Z (Rb0 Z)<|?_
 obtain ⟨b4, bZ, H⟩ := bnd H
 refine ff rfl (jK (T := (Ty.sl hQ)) (r := [(sv fB)]) rfl rfl rfl bZ rfl rfl rfl rfl rfl rfl rfl rfl rfl ⟨fB, rfl, (Slr.nil hQ _)⟩ (fun i b1 bp b0 => ?_))
 obtain ⟨b3, bW, rfl⟩ : ∃ vs : List Value, vs = List.replicate p1.threads.toNat (sv fB) ∧ b1 = vs.map one := ⟨_, rfl, by rw [b0]; exact kT.symm⟩
 refine Ow.shift (Shift.nilTokV bW 51 7  (Sd ?_))
 refine Ea Z<|fb<|?_
 refine fA (fun A n m => ∃ (aJ : ae4) (aa : List Value) (aH : Int) (aI : Int), [(7, (sv i))] = A ∧ (.blk e 99 (fF (fg.mk p0.list aH aI) g)) :: (.row (sv i) 52 1 (aa.map one).flatten) :: (.tok 51 7 aa) :: G = m ∧ oG p0 aJ aH aI = some (D, E, F) ∧ RowR (Ty.sl hQ) n (aa.map one) aJ) ?_ ?_
 ·refine fc<|fa<|Ea Z<|fb<|fC<|?_
  refine ga (fun bb A n m => ∃ (d : ae4) (c : List Value) (p : Int) (B : Int) (C : Int), [(0, (Vp e)), (2, (Vi p2)), (4, (Vp I)), (7, (sv i)), (8, (Vi p))] = A ∧ (.blk e 99 (fF (fg.mk p0.list B C) g)) :: (.blk I 27 (fq p1 j k)) :: (.row (sv i) 52 1 (c.map one).flatten) :: (.tok 51 7 c) :: G = m ∧ lp4 (oI p2 p0 p1) bb d p B C = some (D, E, F) ∧ RowR (Ty.sl hQ) n (c.map one) d) BIG ?_ ?_
  ·exact Pu1<|Pu2<|Pu3<|Sd<|⟨_, by exact R5, b4, b3, 0, p0.at_, p0.value, rfl, rfl, H, bp⟩
  rintro bb _ bg _ x ⟨d, c, p, B, C, rfl, rfl, H, o⟩
  obtain ⟨cB, ba, rfl, br, H⟩ := lps4 H
  unfold oI at H
  refine fc ?_
  refine fA (fun A n m => ∃ (aK : Bool) (y : Int) (z : Int), [(0, (Vp e)), (2, (Vi p2)), (4, (Vp I)), (7, (sv i)), (8, (Vi p)), (19, (.bool aK))] = A ∧ bg = n ∧ (.blk e 99 (fF (fg.mk p0.list y z) g)) :: (.blk I 27 (fq p1 j k)) :: (.row (sv i) 52 1 (c.map one).flatten) :: (.tok 51 7 c) :: G = m ∧ mP p2 d p p0 p1 ba aK y z = some (D, E, F)) ?_ ?_
  ·refine fa<|Em Z<|Em Z<|Ec Z<|Em Z<|?_
   refine Ee Z ?_ ?_
   ·intro W
    obtain ⟨W, H⟩ := It W H
    refine Vm Z ?_
    obtain ⟨bf, bX, H⟩ := bnd H
    have bC := a3.mono x
    refine ij rfl rfl rfl rfl (Ek Tryz.call22 Z (tN e (fg.mk p0.list B C) g bf bX _ _ bC) ?_)
    rintro _ _ _ - ⟨rfl, rfl, rfl⟩
    exact Et Z<|fb<|Pu3<|Pu3<|Pu3<|Pu3<|Sd<|⟨_, by exact R6, bf, ((fg.mk p0.list B C).at_), ((fg.mk p0.list B C).value), rfl, rfl, rfl, H⟩
   ·intro W
    obtain ⟨W, H⟩ := If W H
    exact Ez Z<|Ez Z<|Ef Z<|fb<|Pu3<|Pu3<|Pu3<|Pu3<|Sd<|⟨_, by exact R6, false, B, C, rfl, rfl, rfl, H⟩
  rintro _ _ _ - ⟨aK, y, z, rfl, rfl, rfl, H⟩
  unfold mP at H
  refine fp rfl ?_ ?_
  ·intro ay
   have H := ift ay H
   refine fy ?_
   refine fA (fun A n m => ∃ (av : ae4) (Y : List Value) (ar : Int) (au : Int), [(0, (Vp e)), (2, (Vi p2)), (4, (Vp I)), (7, (sv i)), (8, (Vi p))] = A ∧ (.blk e 99 (fF (fg.mk p0.list ar au) g)) :: (.blk I 27 (fq p1 j k)) :: (.row (sv i) 52 1 (Y.map one).flatten) :: (.tok 51 7 Y) :: G = m ∧ oH p2 p p0 p1 ba av ar au = some (D, E, F) ∧ RowR (Ty.sl hQ) n (Y.map one) av) ?_ ?_
   ·refine fC<|fc<|fa<|Em Z<|EF 2 Z<|El (Vi p1.threads) Z (Rb1 Z)<|?_
    obtain ⟨a, aw, bY, H⟩ := iy H
    have aj := a3.mono x
    refine ff rfl (Ek Tryz.call23 Z (jb e (fg.mk p0.list y z) g p1.threads a aw bY _ _ aj) ?_)
    rintro _ _ _ - ⟨rfl, rfl, rfl⟩
    refine Ea Z<|fb<|?_
    obtain ⟨cX, L, H⟩ := bnd H
    obtain ⟨b, u, w, aG, H⟩ := li H
    obtain ⟨h, M, H⟩ := bnd H
    obtain ⟨cY, f, H⟩ := bnd H
    refine fx _ rfl (Ic Mb1 In0)<|Jm 0 Z<|Jm 1 Z<|Jm 2 Z<|Jm 3 Z<|Jm 6 Z<|JL 7 3 (fq p1 j k) Z (Rb0 Z)<|?_
    refine gX 4 8 (by kernel_rfl) ?_ ?_
    ·obtain ⟨cC, X, bs⟩ := RowR.at o L
     obtain ⟨aL, rfl, aC⟩ := bs
     have aF := jc X
     refine id (Jyq Z (gP (T := (Ty.sl hQ)) Mb2 o X (fO L).1 rfl rfl rfl rfl rfl) ⟨(Ic Mb1 In0), ?_⟩)
     refine gX 5 8 (by kernel_rfl) ?_ ?_
     ·refine id (Jyq Z (gv (v := (sv aL)) rfl rfl rfl (ie (T := (Ty.sl hQ)) Mb2 o X rfl rfl)) ⟨(Ic Mb1 In0), ?_⟩)
      refine Ao 8 Z ?_
      have bD := az.mono x
      have bE := aA.mono x
      refine Ek Tryz.call40 Z (xm e (fg.mk p0.list aw ((fg.mk p0.list y z).value)) g p1 j k b u w aG _ _ aj bD bE) ?_
      rintro _ bh _ aP ⟨aM, aN, rfl, rfl, bF, bG⟩
      refine ⟨(Ic Mb1 In0), ?_⟩
      refine Ao 9 Z ?_
      have aR : RowR hQ bh [(fj b aM aN)] [b] := RowR.cons ⟨aM, aN, rfl, bF, bG⟩ (RowR.nil)
      refine gh (T := hQ) (rows := [(fj b aM aN)]) (l := [b]) rfl rfl rfl aR rfl rfl rfl rfl rfl rfl rfl rfl (fun cL => ⟨(Ic Mb2 In0), ?_⟩)
      refine Ao 10 Z ?_
      have bI := aC.mono aP
      refine f6 (T := hQ) (bytes := 88) (q := a.toNat) rfl rfl rfl bI Mb4 aF (SrcT.row Mb0 aR rfl) M rfl rfl rfl rfl rfl rfl rfl rfl (fun N b5 bi bH => ⟨_, (.there (.there (.there (.there .here)))), ⟨(Ic Mb2 In0), ?_⟩⟩)
      refine Aw.shift (Re0 (Sd ⟨(Ic Mb1 In0), ?_⟩))
      have ak := (o.mono aP).mono bi
      obtain ⟨cD, ac, bt⟩ := RowR.at ak f
      obtain ⟨cM, rfl, co⟩ := bt
      have cv := jc ac
      refine gG 11 (by kernel_rfl) (Jyq Z (gP (T := (Ty.sl hQ)) Mb2 ak ac (fO f).1 rfl rfl rfl rfl rfl) ⟨(Ic Mb1 In0), ?_⟩)
      refine Ao 12 Z ?_
      refine gW (T := (Ty.sl hQ)) (vs := [(sv N)]) (r' := [(sv N)]) (l' := (fY d a h)) rfl rfl rfl rfl rfl (.there (.there .here)) ak ac rfl rfl rfl (RowR.set a ak ⟨N, rfl, bH⟩) (fun aS => ⟨(Ic Mb1 In0), ?_⟩)
      have hse := iM c a.toNat (sv N)
      rw [hse] at aS ⊢
      clear hse
      have cg := j6 ac (v := (sv N))
      exact Ad<|Pu3<|Pu3<|Pu3<|Pu3<|Sd<|⟨_, by exact R5, (fY d a h), (c.set a.toNat (sv N)), u, w, rfl, rfl, H, aS⟩
     ·refine id (Jy Z ?_)
      have bJ := az.mono x
      have bK := aA.mono x
      refine Ek Tryz.call40 Z (xm e (fg.mk p0.list aw ((fg.mk p0.list y z).value)) g p1 j k b u w aG _ _ aj bJ bK) ?_
      rintro _ aO _ ab ⟨O, P, rfl, rfl, a4, a5⟩
      refine ⟨(Ic Mb1 In0), ?_⟩
      refine gX 5 9 (by kernel_rfl) ?_ ?_
      ·have a6 := o.mono ab
       refine id (Jyq Z (gv (v := (sv aL)) rfl rfl rfl (ie (T := (Ty.sl hQ)) Mb2 a6 X rfl rfl)) ⟨(Ic Mb1 In0), ?_⟩)
       refine Ao 9 Z ?_
       have aT : RowR hQ aO [(fj b O P)] [b] := RowR.cons ⟨O, P, rfl, a4, a5⟩ (RowR.nil)
       refine gh (T := hQ) (rows := [(fj b O P)]) (l := [b]) rfl rfl rfl aT rfl rfl rfl rfl rfl rfl rfl rfl (fun cN => ⟨(Ic Mb2 In0), ?_⟩)
       refine Ao 10 Z ?_
       have bM := aC.mono ab
       refine f6 (T := hQ) (bytes := 88) (q := a.toNat) rfl rfl rfl bM Mb4 aF (SrcT.row Mb0 aT rfl) M rfl rfl rfl rfl rfl rfl rfl rfl (fun Q b6 bj bL => ⟨_, (.there (.there (.there (.there .here)))), ⟨(Ic Mb2 In0), ?_⟩⟩)
       refine Aw.shift (Re0 (Sd ⟨(Ic Mb1 In0), ?_⟩))
       have al := a6.mono bj
       obtain ⟨cE, ad, bu⟩ := RowR.at al f
       obtain ⟨cO, rfl, cp⟩ := bu
       have cw := jc ad
       refine gG 11 (by kernel_rfl) (Jyq Z (gP (T := (Ty.sl hQ)) Mb2 al ad (fO f).1 rfl rfl rfl rfl rfl) ⟨(Ic Mb1 In0), ?_⟩)
       refine Ao 12 Z ?_
       refine gW (T := (Ty.sl hQ)) (vs := [(sv Q)]) (r' := [(sv Q)]) (l' := (fY d a h)) rfl rfl rfl rfl rfl (.there (.there .here)) al ad rfl rfl rfl (RowR.set a al ⟨Q, rfl, bL⟩) (fun aU => ⟨(Ic Mb1 In0), ?_⟩)
       have hse := iM c a.toNat (sv Q)
       rw [hse] at aU ⊢
       clear hse
       have ch := j6 ad (v := (sv Q))
       exact Ad<|Pu3<|Pu3<|Pu3<|Pu3<|Sd<|⟨_, by exact R5, (fY d a h), (c.set a.toNat (sv Q)), u, w, rfl, rfl, H, aU⟩
      ·refine id (Jy Z ?_)
       have aV : RowR hQ aO [(fj b O P)] [b] := RowR.cons ⟨O, P, rfl, a4, a5⟩ (RowR.nil)
       refine gh (T := hQ) (rows := [(fj b O P)]) (l := [b]) rfl rfl rfl aV rfl rfl rfl rfl rfl rfl rfl rfl (fun cP => ⟨(Ic Mb2 In0), ?_⟩)
       have a7 := o.mono ab
       refine gG 5 (by kernel_rfl) (Jyq Z (gv (v := (sv aL)) rfl rfl rfl (ie (T := (Ty.sl hQ)) Mb3 a7 X rfl rfl)) ⟨(Ic Mb2 In0), ?_⟩)
       refine Ao 10 Z ?_
       have bO := aC.mono ab
       refine f6 (T := hQ) (bytes := 88) (q := a.toNat) rfl rfl rfl bO Mb4 aF (SrcT.row Mb0 aV rfl) M rfl rfl rfl rfl rfl rfl rfl rfl (fun R b7 bk bN => ⟨_, (.there (.there (.there (.there .here)))), ⟨(Ic Mb2 In0), ?_⟩⟩)
       refine Aw.shift (Re0 (Sd ⟨(Ic Mb1 In0), ?_⟩))
       have am := a7.mono bk
       obtain ⟨cF, ae, bv⟩ := RowR.at am f
       obtain ⟨cQ, rfl, cq⟩ := bv
       have cx := jc ae
       refine gG 11 (by kernel_rfl) (Jyq Z (gP (T := (Ty.sl hQ)) Mb2 am ae (fO f).1 rfl rfl rfl rfl rfl) ⟨(Ic Mb1 In0), ?_⟩)
       refine Ao 12 Z ?_
       refine gW (T := (Ty.sl hQ)) (vs := [(sv R)]) (r' := [(sv R)]) (l' := (fY d a h)) rfl rfl rfl rfl rfl (.there (.there .here)) am ae rfl rfl rfl (RowR.set a am ⟨R, rfl, bN⟩) (fun aW => ⟨(Ic Mb1 In0), ?_⟩)
       have hse := iM c a.toNat (sv R)
       rw [hse] at aW ⊢
       clear hse
       have ci := j6 ae (v := (sv R))
       exact Ad<|Pu3<|Pu3<|Pu3<|Pu3<|Sd<|⟨_, by exact R5, (fY d a h), (c.set a.toNat (sv R)), u, w, rfl, rfl, H, aW⟩
    ·refine id (Jy Z ?_)
     have bP := az.mono x
     have bQ := aA.mono x
     refine Ek Tryz.call40 Z (xm e (fg.mk p0.list aw ((fg.mk p0.list y z).value)) g p1 j k b u w aG _ _ aj bP bQ) ?_
     rintro _ ax _ aQ ⟨s, t, rfl, rfl, aD, aE⟩
     refine ⟨(Ic Mb1 In0), ?_⟩
     refine gX 4 9 (by kernel_rfl) ?_ ?_
     ·have J := o.mono aQ
      obtain ⟨cG, af, bw⟩ := RowR.at J L
      obtain ⟨bd, rfl, a8⟩ := bw
      have a9 := jc af
      refine id (Jyq Z (gP (T := (Ty.sl hQ)) Mb2 J af (fO L).1 rfl rfl rfl rfl rfl) ⟨(Ic Mb1 In0), ?_⟩)
      refine gX 5 9 (by kernel_rfl) ?_ ?_
      ·refine id (Jyq Z (gv (v := (sv bd)) rfl rfl rfl (ie (T := (Ty.sl hQ)) Mb2 J af rfl rfl)) ⟨(Ic Mb1 In0), ?_⟩)
       refine Ao 9 Z ?_
       have aX : RowR hQ ax [(fj b s t)] [b] := RowR.cons ⟨s, t, rfl, aD, aE⟩ (RowR.nil)
       refine gh (T := hQ) (rows := [(fj b s t)]) (l := [b]) rfl rfl rfl aX rfl rfl rfl rfl rfl rfl rfl rfl (fun cR => ⟨(Ic Mb2 In0), ?_⟩)
       refine Ao 10 Z ?_
       refine f6 (T := hQ) (bytes := 88) (q := a.toNat) rfl rfl rfl a8 Mb4 a9 (SrcT.row Mb0 aX rfl) M rfl rfl rfl rfl rfl rfl rfl rfl (fun S b8 bl bR => ⟨_, (.there (.there (.there (.there .here)))), ⟨(Ic Mb2 In0), ?_⟩⟩)
       refine Aw.shift (Re0 (Sd ⟨(Ic Mb1 In0), ?_⟩))
       have an := J.mono bl
       obtain ⟨cH, ag, bx⟩ := RowR.at an f
       obtain ⟨cS, rfl, cr⟩ := bx
       have cy := jc ag
       refine gG 11 (by kernel_rfl) (Jyq Z (gP (T := (Ty.sl hQ)) Mb2 an ag (fO f).1 rfl rfl rfl rfl rfl) ⟨(Ic Mb1 In0), ?_⟩)
       refine Ao 12 Z ?_
       refine gW (T := (Ty.sl hQ)) (vs := [(sv S)]) (r' := [(sv S)]) (l' := (fY d a h)) rfl rfl rfl rfl rfl (.there (.there .here)) an ag rfl rfl rfl (RowR.set a an ⟨S, rfl, bR⟩) (fun aY => ⟨(Ic Mb1 In0), ?_⟩)
       have hse := iM c a.toNat (sv S)
       rw [hse] at aY ⊢
       clear hse
       have cj := j6 ag (v := (sv S))
       exact Ad<|Pu3<|Pu3<|Pu3<|Pu3<|Sd<|⟨_, by exact R5, (fY d a h), (c.set a.toNat (sv S)), u, w, rfl, rfl, H, aY⟩
      ·refine id (Jy Z ?_)
       have aZ : RowR hQ ax [(fj b s t)] [b] := RowR.cons ⟨s, t, rfl, aD, aE⟩ (RowR.nil)
       refine gh (T := hQ) (rows := [(fj b s t)]) (l := [b]) rfl rfl rfl aZ rfl rfl rfl rfl rfl rfl rfl rfl (fun cT => ⟨(Ic Mb2 In0), ?_⟩)
       refine gG 5 (by kernel_rfl) (Jyq Z (gv (v := (sv bd)) rfl rfl rfl (ie (T := (Ty.sl hQ)) Mb3 J af rfl rfl)) ⟨(Ic Mb2 In0), ?_⟩)
       refine Ao 10 Z ?_
       refine f6 (T := hQ) (bytes := 88) (q := a.toNat) rfl rfl rfl a8 Mb4 a9 (SrcT.row Mb0 aZ rfl) M rfl rfl rfl rfl rfl rfl rfl rfl (fun U b9 bm bS => ⟨_, (.there (.there (.there (.there .here)))), ⟨(Ic Mb2 In0), ?_⟩⟩)
       refine Aw.shift (Re0 (Sd ⟨(Ic Mb1 In0), ?_⟩))
       have ao := J.mono bm
       obtain ⟨cI, ah, bz⟩ := RowR.at ao f
       obtain ⟨cU, rfl, ct⟩ := bz
       have cz := jc ah
       refine gG 11 (by kernel_rfl) (Jyq Z (gP (T := (Ty.sl hQ)) Mb2 ao ah (fO f).1 rfl rfl rfl rfl rfl) ⟨(Ic Mb1 In0), ?_⟩)
       refine Ao 12 Z ?_
       refine gW (T := (Ty.sl hQ)) (vs := [(sv U)]) (r' := [(sv U)]) (l' := (fY d a h)) rfl rfl rfl rfl rfl (.there (.there .here)) ao ah rfl rfl rfl (RowR.set a ao ⟨U, rfl, bS⟩) (fun a0 => ⟨(Ic Mb1 In0), ?_⟩)
       have hse := iM c a.toNat (sv U)
       rw [hse] at a0 ⊢
       clear hse
       have ck := j6 ah (v := (sv U))
       exact Ad<|Pu3<|Pu3<|Pu3<|Pu3<|Sd<|⟨_, by exact R5, (fY d a h), (c.set a.toNat (sv U)), u, w, rfl, rfl, H, a0⟩
     ·refine id (Jy Z ?_)
      have a1 : RowR hQ ax [(fj b s t)] [b] := RowR.cons ⟨s, t, rfl, aD, aE⟩ (RowR.nil)
      refine gh (T := hQ) (rows := [(fj b s t)]) (l := [b]) rfl rfl rfl a1 rfl rfl rfl rfl rfl rfl rfl rfl (fun cV => ⟨(Ic Mb2 In0), ?_⟩)
      have ap := o.mono aQ
      obtain ⟨cJ, aB, bA⟩ := RowR.at ap L
      obtain ⟨b2, rfl, bT⟩ := bA
      have bV := jc aB
      refine gG 4 (by kernel_rfl) (Jyq Z (gP (T := (Ty.sl hQ)) Mb3 ap aB (fO L).1 rfl rfl rfl rfl rfl) ⟨(Ic Mb2 In0), ?_⟩)
      refine gG 5 (by kernel_rfl) (Jyq Z (gv (v := (sv b2)) rfl rfl rfl (ie (T := (Ty.sl hQ)) Mb3 ap aB rfl rfl)) ⟨(Ic Mb2 In0), ?_⟩)
      refine Ao 10 Z ?_
      refine f6 (T := hQ) (bytes := 88) (q := a.toNat) rfl rfl rfl bT Mb4 bV (SrcT.row Mb0 a1 rfl) M rfl rfl rfl rfl rfl rfl rfl rfl (fun V ca bn bU => ⟨_, (.there (.there (.there (.there .here)))), ⟨(Ic Mb2 In0), ?_⟩⟩)
      refine Aw.shift (Re0 (Sd ⟨(Ic Mb1 In0), ?_⟩))
      have aq := ap.mono bn
      obtain ⟨cK, ai, bB⟩ := RowR.at aq f
      obtain ⟨cW, rfl, cu⟩ := bB
      have cA := jc ai
      refine gG 11 (by kernel_rfl) (Jyq Z (gP (T := (Ty.sl hQ)) Mb2 aq ai (fO f).1 rfl rfl rfl rfl rfl) ⟨(Ic Mb1 In0), ?_⟩)
      refine Ao 12 Z ?_
      refine gW (T := (Ty.sl hQ)) (vs := [(sv V)]) (r' := [(sv V)]) (l' := (fY d a h)) rfl rfl rfl rfl rfl (.there (.there .here)) aq ai rfl rfl rfl (RowR.set a aq ⟨V, rfl, bU⟩) (fun a2 => ⟨(Ic Mb1 In0), ?_⟩)
      have hse := iM c a.toNat (sv V)
      rw [hse] at a2 ⊢
      clear hse
      have cl := j6 ai (v := (sv V))
      exact Ad<|Pu3<|Pu3<|Pu3<|Pu3<|Sd<|⟨_, by exact R5, (fY d a h), (c.set a.toNat (sv V)), u, w, rfl, rfl, H, a2⟩
   rintro _ cb _ cm ⟨av, Y, ar, au, rfl, rfl, H, bo⟩
   unfold oH at H
   exact fa<|Em Z<|Er (wI (p + 1)) Z<|Ea Z<|fb<|Pu3<|Pu3<|Pu3<|Pu3<|Sd<|⟨_, by exact R5, _, Nat.lt_succ_self _, av, Y, (wI (p + 1)), ar, au, rfl, rfl, (br ▸ H), bo⟩
  ·intro ay
   have H := f5 (btf ay) H
   exact ge<|Pu3<|Pu3<|Pu2<|Re3<|Sd<|⟨_, by exact R1, d, c, y, z, rfl, rfl, H, o⟩
 rintro _ cc _ cn ⟨aJ, aa, aH, aI, rfl, rfl, H, bq⟩
 unfold oG at H
 refine fc<|fa<|Em Z<|Ea Z<|fb<|fz<|?_
 obtain ⟨cd, ce, cf⟩ := jQ H
 subst D E F
 refine ⟨(by first|exact .inl rfl|exact .inr rfl), [(sv i)], ⟨(sv i), _, rfl, rfl, rfl⟩, ?_⟩
 exact Pu1<|Pu1<|Re2<|Sd<|⟨i, (aa.map one), rfl, rfl, bq⟩
theorem Dv (p0 : Int) (p1 : Int) (c : Int) (H : sc p0 p1 = some c) (K : Kp) (G : List Ent)  :
  Fc Tryz.prog 12 #[(Vi p0), (Vi p1)] K (G) (fun v e d => v = (Vi c) ∧ K = e ∧ G = d) := by
 refine fN Tryz.func12 rfl Tryz.ntmps12 Tryz.results12 rfl ?_
 unfold sc at H
 refine fc<|fa<|Ea Z<|fb<|fc<|fa<|Em Z<|Em Z<|?_
 obtain ⟨b, g, H⟩ := bnd H
 refine Eq Z (CP g rfl rfl)<|Ea Z<|fb<|fc<|fc<|fa<|Em Z<|Ec Z<|fb<|?_
 refine fp rfl ?_ ?_
 ·intro a
  obtain ⟨a, H⟩ := It a H
  refine fa<|Em Z<|Em Z<|Er (wI (b + p1)) Z<|Ea Z<|fb<|fc<|fa<|Em Z<|Ea Z<|fb<|fz<|?_
  obtain f := gu H
  subst c
  refine ⟨(by first|exact .inl rfl|exact .inr rfl), [(Vi (wI (b + p1)))], ⟨(Vi (wI (b + p1))), _, rfl, rfl, rfl⟩, ?_⟩
  exact Sd ⟨rfl, rfl, rfl⟩
 ·intro a
  obtain ⟨a, H⟩ := If a H
  refine fy<|fc<|fa<|Em Z<|Ea Z<|fb<|fz<|?_
  obtain f := gu H
  subst c
  refine ⟨(by first|exact .inl rfl|exact .inr rfl), [(Vi b)], ⟨(Vi b), _, rfl, rfl, rfl⟩, ?_⟩
  exact Sd ⟨rfl, rfl, rfl⟩
end Go.Hx
namespace Go.Hx
open Go Go.Proofs
set_option maxRecDepth 10000
set_option maxHeartbeats 1000000
theorem qD (p0 : fP) (e : SV) (o : SV) (j : ad0) (H : pI p0 = some j) (K : Kp) (G : List Ent) (q : Slr Ty.i64 K (sv e) p0.capacities) (Q : Slr Ty.u64 K (sv o) p0.starts) :
  Fc Tryz.prog 27 #[(.agg (fq p0 e o).toArray)] K (G) (fun v b f => ∃ (z : SV) (t : List (List Value)), v = (sv z) ∧ (.row (sv z) 104 3 t.flatten) :: (.tok 36 1 (col 1 t)) :: G = f ∧ RowR fK b t j) := by
 refine fN Tryz.func27 rfl Tryz.ntmps27 Tryz.results27 rfl ?_
 unfold pI at H
 refine fc<|fa<|?_
 refine ff rfl (fU (cs := (fq p0 e o)) rfl rfl rfl (fun u => ?_))
 refine Ea Z<|fb<|fc<|fa<|Ea Z<|fb<|?_
 refine fA (fun p b f => ∃ (d : SV) (s : ad0) (i : List (List Value)), [(3, (sv d))] = p ∧ (.row (sv d) 104 3 i.flatten) :: (.tok 36 1 (col 1 i)) :: G = f ∧ zi s = some j ∧ RowR fK b i s) ?_ ?_
 ·refine fc<|fa<|Ea Z<|fb<|fC<|?_
  refine ga (fun n148 p b f => ∃ (n : SV) (m : ad0) (c : List (List Value)) (h : Int), [(1, (Vp u)), (3, (sv n)), (4, (Vi h))] = p ∧ K = b ∧ (.blk u 27 (fq p0 e o)) :: (.row (sv n) 104 3 c.flatten) :: (.tok 36 1 (col 1 c)) :: G = f ∧ lp2 (xX p0) n148 m h = some j ∧ RowR fK b c m) BIG ?_ ?_
  ·have B : RowR fK K [] [] := RowR.nil
   exact Shift.nilRow 104 3<|Shift.tok0 36 1 1<|Pu1<|Pu2<|Sd<|⟨_, by exact R3, fB, ([] : ad0), ([] : List (List Value)), 0, rfl, rfl, rfl, H, B⟩
  rintro n148 _ _ _ - ⟨n, m, c, h, rfl, rfl, rfl, H, w⟩
  obtain ⟨S, R, rfl, E, H⟩ := jR H
  unfold xX at H
  refine fc<|fc<|fa<|Em Z<|EF 0 Z<|El (sv e) Z (Rb0 Z)<|Eq Z (gp (T := Ty.i64) q rfl rfl)<|Ec Z<|fb<|?_
  refine fp rfl ?_ ?_
  ·intro g
   obtain ⟨g, H⟩ := It g H
   refine fy<|fc<|fC<|fa<|Em Z<|EF 0 Z<|El (sv e) Z (Rb0 Z)<|Em Z<|?_
   obtain ⟨a, y, H⟩ := bnd H
   obtain ⟨_, rfl, D⟩ := Slr.at q y
   refine Eq Z (Qi (T := Ty.i64) q y Z)<|El (Vi a) Z (Rdc.k D rfl)<|Eq Z (fH (cs := (ft (fG.mk a [] false) fB)) rfl rfl rfl rfl rfl rfl)<|?_
   have x : RowR fK K [(ft (fG.mk a [] false) fB)] [(fG.mk a [] false)] := RowR.cons ⟨fB, rfl, (Slr.nil Ty.u64 _)⟩ (RowR.nil)
   refine ff rfl (gh (T := fK) (rows := [(ft (fG.mk a [] false) fB)]) (l := [(fG.mk a [] false)]) rfl rfl rfl x rfl rfl rfl rfl rfl rfl rfl rfl (fun U => ?_))
   obtain ⟨M, I, H⟩ := bnd H
   refine ff rfl (BB (T := fK) (bytes := 40) rfl rfl rfl Mb2 w Mb0 x I rfl rfl rfl rfl rfl rfl rfl rfl (fun L J F C => ⟨_, (.there (.there .here)), ?_⟩))
   refine Ow.shift (Shift.tokNil (.there (.there (.there .here))) (Sd ?_))
   have hse := Fz (k := 1) (rows := c) (r := (ft (fG.mk a [] false) fB)) (v := (sv fB)) rfl
   rw [show (Value.slice none 0 0) = (sv fB) from rfl, hse, ← F]
   clear hse
   refine Ow.shift (Re0 (Sd ?_))
   exact Ea Z<|fb<|fa<|Em Z<|Er (wI (h + 1)) Z<|Ea Z<|fb<|Pu2<|Pu2<|Pu2<|Sd<|⟨_, by exact R3, _, Nat.lt_succ_self _, L, M, J, (wI (h + 1)), rfl, rfl, rfl, (E ▸ H), C⟩
  ·intro g
   obtain ⟨g, H⟩ := If g H
   exact ge<|Pu2<|Pu2<|Re2<|Sd<|⟨_, by exact R1, n, m, c, rfl, rfl, H, w⟩
 rintro _ N _ P ⟨d, s, i, rfl, rfl, H, A⟩
 unfold zi at H
 refine fc<|fa<|Em Z<|Ea Z<|fb<|fz<|?_
 obtain O := gu H
 subst j
 refine ⟨(by first|exact .inl rfl|exact .inr rfl), [(sv d)], ⟨(sv d), _, rfl, rfl, rfl⟩, ?_⟩
 exact Pu1<|Pu1<|Sd<|⟨d, i, rfl, rfl, A⟩
theorem l6 (p0 : ad0) (c : SV) (p1 : Int) (b : Bool) (H : qq p0 p1 = some b) (K : Kp) (G : List Ent) (g : Slr fK K (sv c) p0) :
  Fc Tryz.prog 107 #[(sv c), (Vi p1)] K (G) (fun v e d => v = (.bool b) ∧ K = e ∧ G = d) := by
 refine fN Tryz.func107 rfl Tryz.ntmps107 Tryz.results107 rfl ?_
 unfold qq at H
 refine fc<|fa<|Ea Z<|fb<|fc<|fa<|Em Z<|Ec Z<|Em Z<|?_
 refine Ee Z ?_ ?_
 ·intro a
  obtain ⟨a, H⟩ := It a H
  refine Vm Z<|Vm Z<|Vq Z (gp (T := fK) g rfl rfl)<|Vc Z<|Et Z<|Ea Z<|fb<|fz<|?_
  obtain f := gu H
  subst b
  refine ⟨(by first|exact .inl rfl|exact .inr rfl), [(.bool (dcd (p1 < (p0.length : Int))))], ⟨(.bool (dcd (p1 < (p0.length : Int)))), _, rfl, rfl, rfl⟩, ?_⟩
  exact Sd ⟨rfl, rfl, rfl⟩
 ·intro a
  obtain ⟨a, H⟩ := If a H
  refine Ez Z<|Ez Z<|Ez Z<|Ez Z<|Ef Z<|Ea Z<|fb<|fz<|?_
  obtain f := gu H
  subst b
  refine ⟨(by first|exact .inl rfl|exact .inr rfl), [(.bool false)], ⟨(.bool false), _, rfl, rfl, rfl⟩, ?_⟩
  exact Sd ⟨rfl, rfl, rfl⟩
theorem Ak (p0 : ad0) (j : SV) (p1 : Case) (c : Bool) (H : pS p0 p1 = some c) (K : Kp) (G : List Ent) (i : Slr fK K (sv j) p0) :
  Fc Tryz.prog 79 #[(sv j), (.agg (fk p1).toArray)] K (G) (fun v o n => v = (.bool c) ∧ K = o ∧ G = n) := by
 refine fN Tryz.func79 rfl Tryz.ntmps79 Tryz.results79 rfl ?_
 unfold pS at H
 refine fc<|fa<|?_
 refine ff rfl (fU (cs := (fk p1)) rfl rfl rfl (fun t => ?_))
 refine Ea Z<|fb<|fc<|fc<|fa<|Em Z<|EF 1 Z<|El (Vi p1.channel) Z (Rb0 Z)<|?_
 obtain ⟨s, r, H⟩ := bnd H
 refine ff rfl (Ek Tryz.call107 Z (l6 p0 j p1.channel s r _ _ i) ?_)
 rintro _ _ _ - ⟨rfl, rfl, rfl⟩
 refine Eq Z (gg rfl)<|fb<|?_
 refine fp rfl ?_ ?_
 ·intro b
  have b := iC b
  have H := f5 (btf b) H
  refine fc<|fa<|Ea Z<|fb<|fz<|?_
  obtain e := gu H
  subst c
  refine ⟨(by first|exact .inl rfl|exact .inr rfl), [(.bool false)], ⟨(.bool false), _, rfl, rfl, rfl⟩, ?_⟩
  exact Re0<|Sd<|⟨rfl, rfl, rfl⟩
 ·intro b
  have b := iz b
  have H := ift b H
  refine fy<|fc<|fa<|Em Z<|EF 1 Z<|El (Vi p1.channel) Z (Rb0 Z)<|?_
  obtain ⟨a, m, H⟩ := bnd H
  obtain ⟨r25, q, p⟩ := Slr.at i m
  obtain ⟨d, rfl, l⟩ := q
  refine Eq Z (Qi (T := fK) i m Z)<|EL 3 (ft a d) Z (Rdc.k p rfl)<|?_
  refine ff rfl (fE (cs := (ft (fG.mk 0 [] false) fB)) rfl rfl rfl rfl (fun u => ?_))
  refine ff rfl (fm (vs := (ft a d)) (all' := (ft a d)) rfl rfl rfl rfl rfl .here rfl rfl rfl ?_)
  refine fb<|fc<|fc<|fa<|EF 0 Z<|El (.bool p1.send) Z (Rb1 Z)<|fb<|?_
  refine fp rfl ?_ ?_
  ·intro f
   have H := ift f H
   refine fc<|fa<|EF 2 Z<|El (.bool a.closed) Z (Rb0 Z)<|Em Z<|?_
   refine Ee Z ?_ ?_
   ·intro g
    have H := ift g H
    refine Ez Z<|Ez Z<|Ez Z<|Ez Z<|Ez Z<|Ez Z<|Et Z<|Ea Z<|fb<|fz<|?_
    obtain e := gu H
    subst c
    refine ⟨(by first|exact .inl rfl|exact .inr rfl), [(.bool true)], ⟨(.bool true), _, rfl, rfl, rfl⟩, ?_⟩
    exact Re0<|Re0<|Sd<|⟨rfl, rfl, rfl⟩
   ·intro g
    have H := f5 (btf g) H
    refine VF 1 Z<|Vl (sv d) Z (Rb0 Z)<|Vq Z (gp (T := Ty.u64) l rfl rfl)<|VF 0 Z<|Vl (Vi a.capacity) Z (Rb0 Z)<|Vc Z<|Ef Z<|Ea Z<|fb<|fz<|?_
    obtain e := gu H
    subst c
    refine ⟨(by first|exact .inl rfl|exact .inr rfl), [(.bool (dcd ((a.buffer.length : Int) < a.capacity)))], ⟨(.bool (dcd ((a.buffer.length : Int) < a.capacity))), _, rfl, rfl, rfl⟩, ?_⟩
    exact Re0<|Re0<|Sd<|⟨rfl, rfl, rfl⟩
  ·intro f
   have H := f5 (btf f) H
   refine fy<|fc<|fa<|EF 2 Z<|El (.bool a.closed) Z (Rb0 Z)<|Em Z<|?_
   refine Ee Z ?_ ?_
   ·intro h
    have H := ift h H
    refine Ez Z<|Ez Z<|Ez Z<|Ez Z<|Et Z<|Ea Z<|fb<|fz<|?_
    obtain e := gu H
    subst c
    refine ⟨(by first|exact .inl rfl|exact .inr rfl), [(.bool true)], ⟨(.bool true), _, rfl, rfl, rfl⟩, ?_⟩
    exact Re0<|Re0<|Sd<|⟨rfl, rfl, rfl⟩
   ·intro h
    have H := f5 (btf h) H
    refine VF 1 Z<|Vl (sv d) Z (Rb0 Z)<|Vq Z (gp (T := Ty.u64) l rfl rfl)<|Vc Z<|Ef Z<|Ea Z<|fb<|fz<|?_
    obtain e := gu H
    subst c
    refine ⟨(by first|exact .inl rfl|exact .inr rfl), [(.bool (dcd ((a.buffer.length : Int) > 0)))], ⟨(.bool (dcd ((a.buffer.length : Int) > 0))), _, rfl, rfl, rfl⟩, ?_⟩
    exact Re0<|Re0<|Sd<|⟨rfl, rfl, rfl⟩
end Go.Hx
namespace Go.Hx
open Go Go.Proofs
set_option maxRecDepth 10000
set_option maxHeartbeats 1000000
theorem Dp (p0 : fP) (b : SV) (c : SV) (d : fV) (H : rK p0 = some d) (K : Kp) (G : List Ent) (i : Slr Ty.i64 K (sv b) p0.capacities) (j : Slr Ty.u64 K (sv c) p0.starts) :
  Fc Tryz.prog 21 #[(.agg (fq p0 b c).toArray)] K (G) (fun v f h => ∃ (e : SV) (g : SV), v = (.agg (fh d e g).toArray) ∧ (.tok 104 3 [(sv e)]) :: G = h ∧ Slr fK f (sv e) d.chans ∧ Slr fR f (sv g) d.waiting) := by
 refine fN Tryz.func21 rfl Tryz.ntmps21 Tryz.results21 rfl ?_
 unfold rK at H
 refine fc<|fa<|?_
 refine ff rfl (fU (cs := (fq p0 b c)) rfl rfl rfl (fun o => ?_))
 refine ff rfl (fE (cs := (fh (fV.mk [] [] 0) fB fB)) rfl rfl rfl rfl (fun p => ?_))
 refine fb<|fc<|fa<|EL 3 (fq p0 b c) Z (Rb1 Z)<|?_
 obtain ⟨x15, m, H⟩ := bnd H
 refine ff rfl (Ek Tryz.call27 Z (qD p0 b c x15 m _ _ i j) ?_)
 rintro _ n _ r ⟨a, t, rfl, rfl, k⟩
 refine Ow.shift (Shift.settle (T := fK) .here k rfl (fun K22 s l => Sd ?_))
 refine Eq Z (fH (cs := (fh (fV.mk x15 [] 0) a fB)) rfl rfl rfl rfl rfl rfl) ?_
 refine ff rfl (fm (vs := (fh (fV.mk x15 [] 0) a fB)) (all' := (fh (fV.mk x15 [] 0) a fB)) rfl rfl rfl rfl rfl (.there (.there .here)) rfl rfl rfl ?_)
 refine fb<|fz<|?_
 obtain q := gu H
 subst d
 refine ⟨(by first|exact .inl rfl|exact .inr rfl), [(.agg (fh (fV.mk x15 [] 0) a fB).toArray)], ⟨(.agg (fh (fV.mk x15 [] 0) a fB).toArray), _, rfl, ⟨_, 3, (fh (fV.mk x15 [] 0) a fB), rfl, rfl, rfl, rfl, ⟨rfl, Rb2 Z⟩, rfl⟩, rfl⟩, ?_⟩
 exact Re1<|Re1<|Re1<|Sd<|⟨a, fB, rfl, rfl, l, (Slr.nil fR _)⟩
theorem nP (p0 : fV) (g : SV) (a : SV) (p1 : Int) (p2 : fG) (c : SV) (e : fV) (H : pP p0 p1 p2 = some e) (K : Kp) (G : List Ent) (q : Slr fK K (sv g) p0.chans) (r : Slr fR K (sv a) p0.waiting) (s : Slr Ty.u64 K (sv c) p2.buffer) :
  Fc Tryz.prog 73 #[(.agg (fh p0 g a).toArray), (Vi p1), (.agg (ft p2 c).toArray)] K (G) (fun v h n => ∃ (l : SV) (k : List (List Value)) (m : SV), v = (.agg (fh e l m).toArray) ∧ K = h ∧ (.row (sv l) 104 3 k.flatten) :: G = n ∧ RowR fK h k e.chans ∧ Slr fR h (sv m) e.waiting) := by
 refine fN Tryz.func73 rfl Tryz.ntmps73 Tryz.results73 rfl ?_
 unfold pP at H
 refine fc<|fa<|?_
 refine ff rfl (fU (cs := (fh p0 g a)) rfl rfl rfl (fun x => ?_))
 refine ff rfl (fU (cs := (ft p2 c)) rfl rfl rfl (fun y => ?_))
 refine ff rfl (fE (cs := (fh (fV.mk [] [] 0) fB fB)) rfl rfl rfl rfl (fun z => ?_))
 refine fb<|fc<|fa<|EF 0 Z<|El (sv g) Z (Rb2 Z)<|?_
 have o : RowR fK K [] [] := RowR.nil
 refine Ow.shift (Shift.nilRow 104 3 (Sd ?_))
 obtain ⟨d, u, H⟩ := bnd H
 refine ff rfl (gZ (T := fK) (bytes := 40) rfl rfl rfl Mb0 o (SrcT.sl q) u rfl rfl rfl rfl rfl rfl rfl rfl (fun b w f => ⟨_, .here, ?_⟩))
 refine EF 0 Z ?_
 refine ff rfl (fm (vs := [(sv b)]) (all' := (fh (fV.mk d p0.waiting p0.tick) b a)) rfl rfl rfl rfl rfl (.there (.there (.there .here))) rfl rfl rfl ?_)
 refine fb<|fc<|fa<|EF 0 Z<|El (sv b) Z (Rb3 Z)<|Em Z<|EL 3 (ft p2 c) Z (Rb2 Z)<|?_
 obtain ⟨F, j, H⟩ := bnd H
 obtain ⟨D, i, t⟩ := RowR.at f j
 obtain ⟨E, rfl, C⟩ := t
 refine Eq Z (gP (T := fK) Mb0 f i (fO j).1 rfl rfl rfl rfl rfl) ?_
 refine ff rfl (gW (T := fK) (vs := (ft p2 c)) (r' := (ft p2 c)) (l' := (fY d p1 p2)) rfl rfl rfl rfl rfl .here f i rfl rfl rfl (RowR.set p1 f ⟨c, rfl, s⟩) (fun p => ?_))
 have B := i6 i (v := (ft p2 c))
 refine fb<|fc<|fa<|EL 3 (fh (fV.mk (fY d p1 p2) p0.waiting p0.tick) b a) Z (Rb3 Z)<|?_
 refine ff rfl (fm (vs := (fh (fV.mk (fY d p1 p2) p0.waiting p0.tick) b a)) (all' := (fh (fV.mk (fY d p1 p2) p0.waiting p0.tick) b a)) rfl rfl rfl rfl rfl (.there .here) rfl rfl rfl ?_)
 refine fb<|fz<|?_
 obtain A := gu H
 subst e
 refine ⟨(by first|exact .inl rfl|exact .inr rfl), [(.agg (fh (fV.mk (fY d p1 p2) p0.waiting p0.tick) b a).toArray)], ⟨(.agg (fh (fV.mk (fY d p1 p2) p0.waiting p0.tick) b a).toArray), _, rfl, ⟨_, 3, (fh (fV.mk (fY d p1 p2) p0.waiting p0.tick) b a), rfl, rfl, rfl, rfl, ⟨rfl, Rb1 Z⟩, rfl⟩, rfl⟩, ?_⟩
 exact Re1<|Re1<|Re1<|Sd<|⟨b, (w.set p1.toNat (ft p2 c)), a, rfl, rfl, rfl, p, r⟩
end Go.Hx
namespace Go.Hx
open Go Go.Proofs
set_option maxRecDepth 10000
set_option maxHeartbeats 1000000
theorem An (p0 : Op) (f : SV) (g : SV) (d : Case) (e : Bool) (H : sX p0 = some (d, e)) (K : Kp) (G : List Ent) (u : Slr fX K (sv f) p0.cases) (w : Slr Ty.i64 K (sv g) p0.draws) :
  Fc Tryz.prog 81 #[(.agg (fj p0 f g).toArray)] K (G) (fun v i h => v = (.tuple #[(.agg (fk d).toArray), (.bool e)]) ∧ K = i ∧ G = h) := by
 refine fN Tryz.func81 rfl Tryz.ntmps81 Tryz.results81 rfl ?_
 unfold sX at H
 refine fc<|fa<|?_
 refine ff rfl (fU (cs := (fj p0 f g)) rfl rfl rfl (fun p => ?_))
 refine ff rfl (fE (cs := (fk (Case.mk false 0 0))) rfl rfl rfl rfl (fun q => ?_))
 refine Ea Z<|fb<|fc<|?_
 refine fA (fun r i h => ∃ (o : Bool) (k : Int) (l : Int) (a : Int) (m : Int) (b : Int) (i32 : Int) (n : Int), [(1, (Vp p)), (2, (Vp q)), (11, (.bool o))] = r ∧ K = i ∧ (.blk q 108 (fk (Case.mk false k l))) :: (.blk p 51 (fj (Op.mk a m b i32 n p0.cases p0.draws) f g)) :: G = h ∧ oJ p0 o k l a m b i32 n = some (d, e)) ?_ ?_
 ·refine fa<|EF 0 Z<|El (Vi p0.kind) Z (Rb1 Z)<|Ec Z<|Em Z<|?_
  refine Ee Z ?_ ?_
  ·intro c
   have c := lO (iC (c))
   have H := f5 c H
   exact VF 0 Z<|Vl (Vi p0.kind) Z (Rb1 Z)<|Vc Z<|Et Z<|fb<|Pu1<|Pu1<|Sd<|⟨_, by exact R3, (!(dcd (p0.kind = 2))), 0, 0, p0.kind, p0.mode, p0.channel, p0.value, p0.deadline, rfl, rfl, rfl, H⟩
  ·intro c
   have c := lP (iz (c))
   have H := ift c H
   exact Ez Z<|Ez Z<|Ez Z<|Ef Z<|fb<|Pu1<|Pu1<|Sd<|⟨_, by exact R3, false, 0, 0, p0.kind, p0.mode, p0.channel, p0.value, p0.deadline, rfl, rfl, rfl, H⟩
 rintro _ _ _ - ⟨o, k, l, a, m, b, i32, n, rfl, rfl, rfl, H⟩
 unfold oJ at H
 refine fp rfl ?_ ?_
 ·intro j
  have H := ift j H
  refine fc<|fa<|Eq Z (fH (cs := (fk (Case.mk false 0 0))) rfl rfl rfl rfl rfl rfl)<|?_
  refine ff rfl (fm (vs := (fk (Case.mk false 0 0))) (all' := (fk (Case.mk false 0 0))) rfl rfl rfl rfl rfl .here rfl rfl rfl ?_)
  refine Ea Z<|fb<|fz<|?_
  obtain ⟨s, t⟩ := ig H
  subst d e
  refine ⟨(by first|exact .inl rfl|exact .inr rfl), [(.agg (fk (Case.mk false 0 0)).toArray), (.bool false)], ⟨(.agg (fk (Case.mk false 0 0)).toArray), _, rfl, ⟨_, 3, (fk (Case.mk false 0 0)), rfl, rfl, rfl, rfl, ⟨rfl, Rb0 Z⟩, rfl⟩, ⟨(.bool false), _, rfl, rfl, rfl⟩⟩, ?_⟩
  exact Re0<|Re0<|Sd<|⟨rfl, rfl, rfl⟩
 ·intro j
  have H := f5 (btf j) H
  refine fy<|fc<|fa<|EF 0 Z<|El (Vi a) Z (Rb1 Z)<|Ec Z<|EF 2 Z<|El (Vi b) Z (Rb1 Z)<|EF 3 Z<|El (.int .u64 i32) Z (Rb1 Z)<|Eq Z (fH (cs := (fk (Case.mk (dcd (a = 1)) b i32))) rfl rfl rfl rfl rfl rfl)<|?_
  refine ff rfl (fm (vs := (fk (Case.mk (dcd (a = 1)) b i32))) (all' := (fk (Case.mk (dcd (a = 1)) b i32))) rfl rfl rfl rfl rfl .here rfl rfl rfl ?_)
  refine Ea Z<|fb<|fz<|?_
  obtain ⟨s, t⟩ := ig H
  subst d e
  refine ⟨(by first|exact .inl rfl|exact .inr rfl), [(.agg (fk (Case.mk (dcd (a = 1)) b i32)).toArray), (.bool true)], ⟨(.agg (fk (Case.mk (dcd (a = 1)) b i32)).toArray), _, rfl, ⟨_, 3, (fk (Case.mk (dcd (a = 1)) b i32)), rfl, rfl, rfl, rfl, ⟨rfl, Rb0 Z⟩, rfl⟩, ⟨(.bool true), _, rfl, rfl, rfl⟩⟩, ?_⟩
  exact Re0<|Re0<|Sd<|⟨rfl, rfl, rfl⟩
theorem lA (p0 : Op) (a : SV) (d : SV) (e : af2) (H : nF p0 = some e) (K : Kp) (G : List Ent) (j : Slr fX K (sv a) p0.cases) (o : Slr Ty.i64 K (sv d) p0.draws) :
  Fc Tryz.prog 44 #[(.agg (fj p0 a d).toArray)] K (G) (fun v n m => ∃ (k : SV), v = (sv k) ∧ G = m ∧ Slr fX n (sv k) e) := by
 refine fN Tryz.func44 rfl Tryz.ntmps44 Tryz.results44 rfl ?_
 unfold nF at H
 refine fc<|fa<|?_
 refine ff rfl (fU (cs := (fj p0 a d)) rfl rfl rfl (fun t => ?_))
 refine Ea Z<|fb<|fc<|fc<|fa<|EF 0 Z<|El (Vi p0.kind) Z (Rb0 Z)<|Ec Z<|fb<|?_
 refine fp rfl ?_ ?_
 ·intro c
  obtain ⟨c, H⟩ := It c H
  refine fc<|fa<|EF 5 Z<|El (sv a) Z (Rb0 Z)<|Ea Z<|fb<|fz<|?_
  obtain h := gu H
  subst e
  refine ⟨(by first|exact .inl rfl|exact .inr rfl), [(sv a)], ⟨(sv a), _, rfl, rfl, rfl⟩, ?_⟩
  exact Re0<|Sd<|⟨a, rfl, rfl, j⟩
 ·intro c
  obtain ⟨c, H⟩ := If c H
  refine fy<|fc<|fc<|fa<|EL 7 (fj p0 a d) Z (Rb0 Z)<|?_
  obtain ⟨b, r, q, H⟩ := iy H
  refine ff rfl (Ek Tryz.call81 Z (An p0 a d b r q _ _ j o) ?_)
  rintro _ _ _ - ⟨rfl, rfl, rfl⟩
  refine Em Z<|Ex Z<|Ex Z<|?_
  refine ff rfl (fE (cs := (fk (Case.mk false 0 0))) rfl rfl rfl rfl (fun u => ?_))
  refine ff rfl (fm (vs := (fk b)) (all' := (fk b)) rfl rfl rfl rfl rfl .here rfl rfl rfl ?_)
  refine Ea Z<|fb<|fc<|fa<|Em Z<|fb<|?_
  refine fp rfl ?_ ?_
  ·intro f
   have H := ift f H
   refine fc<|fa<|EL 3 (fk b) Z (Rb0 Z)<|?_
   have i : RowR fX K [(fk b)] [b] := RowR.cons rfl (RowR.nil)
   refine ff rfl (gh (T := fX) (rows := [(fk b)]) (l := [b]) rfl rfl rfl i rfl rfl rfl rfl rfl rfl rfl rfl (fun g => ?_))
   refine Ea Z<|fb<|fz<|?_
   obtain h := gu H
   subst e
   refine ⟨(by first|exact .inl rfl|exact .inr rfl), [(sv g)], ⟨(sv g), _, rfl, rfl, rfl⟩, ?_⟩
   refine Shift.settle (T := fX) .here i rfl ?_
   intro s w p
   exact Re0<|Re0<|Re0<|Sd<|⟨g, rfl, rfl, p⟩
  ·intro f
   have H := f5 (btf f) H
   refine fy<|fc<|fa<|Ea Z<|fb<|fz<|?_
   obtain h := gu H
   subst e
   refine ⟨(by first|exact .inl rfl|exact .inr rfl), [(sv fB)], ⟨(sv fB), _, rfl, rfl, rfl⟩, ?_⟩
   exact Re0<|Re0<|Sd<|⟨fB, rfl, rfl, (Slr.nil fX _)⟩
end Go.Hx
namespace Go.Hx
open Go Go.Proofs
set_option maxRecDepth 10000
set_option maxHeartbeats 1000000
theorem qF (p0 : Op) (i : SV) (j : SV) (p1 : Int) (p2 : Bool) (c : Int) (H : pQ p0 p1 p2 = some c) (K : Kp) (G : List Ent) (y : Slr fX K (sv i) p0.cases) (z : Slr Ty.i64 K (sv j) p0.draws) :
  Fc Tryz.prog 74 #[(.agg (fj p0 i j).toArray), (Vi p1), (.bool p2)] K (G) (fun v d b => v = (Vi c) ∧ G = b) := by
 refine fN Tryz.func74 rfl Tryz.ntmps74 Tryz.results74 rfl ?_
 unfold pQ at H
 refine fc<|fa<|?_
 refine ff rfl (fU (cs := (fj p0 i j)) rfl rfl rfl (fun E => ?_))
 refine Ea Z<|fb<|fc<|fa<|EL 7 (fj p0 i j) Z (Rb0 Z)<|?_
 obtain ⟨n, A, H⟩ := bnd H
 refine ff rfl (Ek Tryz.call44 Z (lA p0 i j n A _ _ y z) ?_)
 rintro _ o _ I ⟨r, rfl, rfl, h⟩
 refine Ea Z<|fb<|?_
 refine fA (fun e d b => [] = e ∧ G = b ∧ zr = some c) ?_ ?_
 ·refine fc<|fa<|Ea Z<|fb<|fC<|?_
  refine ga (fun n131 e d b => ∃ (a : Int), [(1, (Vi p1)), (2, (.bool p2)), (7, (sv r)), (8, (Vi a))] = e ∧ o = d ∧ G = b ∧ lp1 (rM p1 p2 n) n131 a = some c) BIG ?_ ?_
  ·exact Re0<|Sd<|⟨_, by exact R4, 0, rfl, rfl, rfl, H⟩
  rintro n131 _ _ _ - ⟨a, rfl, rfl, rfl, H⟩
  obtain ⟨J, B, rfl, x, H⟩ := oe H
  unfold rM at H
  refine fc<|fc<|fa<|Em Z<|Em Z<|Eq Z (gp (T := fX) h rfl rfl)<|Ec Z<|fb<|?_
  refine fp rfl ?_ ?_
  ·intro f
   obtain ⟨f, H⟩ := It f H
   refine fy<|fc<|fC<|?_
   refine fA (fun e d b => ∃ (m : Bool), [(1, (Vi p1)), (2, (.bool p2)), (7, (sv r)), (8, (Vi a)), (32, (.bool m))] = e ∧ o = d ∧ G = b ∧ rL p1 p2 n a B m = some c) ?_ ?_
   ·refine fa<|Em Z<|Em Z<|?_
    obtain ⟨C, p, H⟩ := bnd H
    obtain ⟨_, rfl, u⟩ := Slr.at h p
    refine Eq Z (Qi (T := fX) h p Z)<|EF 1 Z<|El (Vi C.channel) Z (Rdc.k u rfl)<|Em Z<|Ec Z<|Em Z<|?_
    refine Ee Z ?_ ?_
    ·intro g
     obtain ⟨g, H⟩ := It g H
     refine Vm Z<|Vm Z<|?_
     obtain ⟨s, q, H⟩ := bnd H
     obtain ⟨_, rfl, w⟩ := Slr.at h q
     exact Vq Z (Qi (T := fX) h q Z)<|VF 0 Z<|Vl (.bool s.send) Z (Rdc.k w rfl)<|Vm Z<|Vq Z (xg rfl rfl rfl)<|Et Z<|fb<|Sd<|⟨_, by exact R5, (s.send == p2), rfl, rfl, rfl, H⟩
    ·intro g
     obtain ⟨g, H⟩ := If g H
     exact Ez Z<|Ez Z<|Ez Z<|Ez Z<|Ez Z<|Ez Z<|Ez Z<|Ef Z<|fb<|Sd<|⟨_, by exact R5, false, rfl, rfl, rfl, H⟩
   rintro _ _ _ - ⟨m, rfl, rfl, rfl, H⟩
   unfold rL at H
   refine fp rfl ?_ ?_
   ·intro l
    have H := ift l H
    refine fc<|fa<|Em Z<|Ea Z<|fb<|fz<|?_
    obtain t := gu H
    subst c
    refine ⟨(by first|exact .inl rfl|exact .inr rfl), [(Vi a)], ⟨(Vi a), _, rfl, rfl, rfl⟩, ?_⟩
    exact Sd ⟨rfl, rfl⟩
   ·intro l
    have H := f5 (btf l) H
    exact fy<|fa<|Em Z<|Er (wI (a + 1)) Z<|Ea Z<|fb<|Sd<|⟨_, by exact R4, _, Nat.lt_succ_self _, (wI (a + 1)), rfl, rfl, rfl, (x ▸ H)⟩
  ·intro f
   obtain ⟨f, H⟩ := If f H
   exact ge<|Sd<|⟨[], trivial, rfl, rfl, H⟩
 rintro _ D _ F ⟨rfl, rfl, H⟩
 unfold zr at H
 refine fc<|fa<|Ea Z<|fb<|fz<|?_
 obtain t := gu H
 subst c
 refine ⟨(by first|exact .inl rfl|exact .inr rfl), [(Vi (-1))], ⟨(Vi (-1)), _, rfl, rfl, rfl⟩, ?_⟩
 exact Sd ⟨rfl, rfl⟩
theorem nQ (p0 : Op) (c : SV) (d : SV) (p1 : Int) (b : Int) (H : pR p0 p1 = some b) (K : Kp) (G : List Ent) (h : Slr fX K (sv c) p0.cases) (i : Slr Ty.i64 K (sv d) p0.draws) :
  Fc Tryz.prog 75 #[(.agg (fj p0 c d).toArray), (Vi p1)] K (G) (fun v f e => v = (Vi b) ∧ K = f ∧ G = e) := by
 refine fN Tryz.func75 rfl Tryz.ntmps75 Tryz.results75 rfl ?_
 unfold pR at H
 refine fc<|fa<|?_
 refine ff rfl (fU (cs := (fj p0 c d)) rfl rfl rfl (fun b3 => ?_))
 refine Ea Z<|fb<|fc<|fc<|fa<|EF 0 Z<|El (Vi p0.kind) Z (Rb0 Z)<|Ec Z<|fb<|?_
 refine fp rfl ?_ ?_
 ·intro a
  obtain ⟨a, H⟩ := It a H
  refine fc<|fa<|Em Z<|Ea Z<|fb<|fz<|?_
  obtain g := gu H
  subst b
  refine ⟨(by first|exact .inl rfl|exact .inr rfl), [(Vi p1)], ⟨(Vi p1), _, rfl, rfl, rfl⟩, ?_⟩
  exact Re0<|Sd<|⟨rfl, rfl, rfl⟩
 ·intro a
  obtain ⟨a, H⟩ := If a H
  refine fy<|fc<|fa<|Ea Z<|fb<|fz<|?_
  obtain g := gu H
  subst b
  refine ⟨(by first|exact .inl rfl|exact .inr rfl), [(Vi (-1))], ⟨(Vi (-1)), _, rfl, rfl, rfl⟩, ?_⟩
  exact Re0<|Sd<|⟨rfl, rfl, rfl⟩
theorem xp (p0 : fV) (a : SV) (e : SV) (p1 : Int) (h : fV) (H : nw p0 p1 = some h) (K : Kp) (G : List Ent) (C : Slr fK K (sv a) p0.chans) (c : Slr fR K (sv e) p0.waiting) :
  Fc Tryz.prog 76 #[(.agg (fh p0 a e).toArray), (Vi p1)] K (G) (fun v i k => ∃ (w : SV) (r : SV), v = (.agg (fh h w r).toArray) ∧ (.tok 96 8 [(sv r)]) :: G = k ∧ Slr fK i (sv w) h.chans ∧ Slr fR i (sv r) h.waiting) := by
 refine fN Tryz.func76 rfl Tryz.ntmps76 Tryz.results76 rfl ?_
 unfold nw at H
 refine fc<|fa<|?_
 refine ff rfl (fU (cs := (fh p0 a e)) rfl rfl rfl (fun s => ?_))
 refine ff rfl (fE (cs := (fh (fV.mk [] [] 0) fB fB)) rfl rfl rfl rfl (fun t => ?_))
 refine fb ?_
 refine fA (fun x i k => ∃ (b : SV) (d : af0), [(2, (Vp s)), (4, (Vp t))] = x ∧ (.blk t 60 (fh (fV.mk [] [] 0) fB fB)) :: (.blk s 60 (fh (fV.mk p0.chans d p0.tick) a b)) :: (.tok 96 8 [(sv b)]) :: G = k ∧ rO p0 d = some h ∧ Slr fR i (sv b) d) ?_ ?_
 ·obtain ⟨al, j, H⟩ := bnd H
  obtain ⟨am, l, H⟩ := bnd H
  obtain ⟨an, f, H⟩ := bnd H
  obtain ⟨g, m, H⟩ := bnd H
  refine fx _ rfl (Ic Mb0 In0)<|JF 0 1 Z<|Jm 2 Z<|JF 5 1 Z<|Jm 7 Z<|Jr 8 (wI (p1 + 1)) Z<|?_
  refine gX 1 6 (by kernel_rfl) ?_ ?_
  ·refine id (Jyq Z (gv (v := (sv e)) rfl rfl rfl (Rb1 Z)) ⟨(Ic Mb0 In0), ?_⟩)
   have u := Slr.cut c j
   refine Jq 3 Z (xe (T := fR) c j rfl rfl rfl rfl) ?_
   refine gX 4 6 (by kernel_rfl) ?_ ?_
   ·refine id (Jy Z ?_)
    refine OpW.shift (Shift.nilTok1 96 8 (Sd ?_))
    refine f6 (T := fR) (bytes := 96) (q := 0) rfl rfl rfl (Slr.nil fR _) Mb0 rfl (SrcT.sl u) l rfl rfl rfl rfl rfl rfl rfl rfl (fun ai W y E => ⟨_, .here, ⟨(Ic Mb1 In0), ?_⟩⟩)
    refine gG 6 (by kernel_rfl) (Jyq Z (gv (v := (sv e)) rfl rfl rfl (Rb2 Z)) ⟨(Ic Mb1 In0), ?_⟩)
    have F := Slr.cutL c f
    refine Jq 9 Z (lX (T := fR) c f rfl rfl rfl rfl rfl) ?_
    refine Ao 10 Z ?_
    have I := F.mono y
    refine f6 (T := fR) (bytes := 96) (q := 0) rfl rfl rfl E Mb0 rfl (SrcT.sl I) m rfl rfl rfl rfl rfl rfl rfl rfl (fun n X af J => ⟨_, .here, ⟨(Ic Mb1 In0), ?_⟩⟩)
    refine JF 11 1 Z ?_
    refine Ao 12 Z ?_
    refine fm (vs := [(sv n)]) (all' := (fh (fV.mk p0.chans g p0.tick) a n)) rfl rfl rfl rfl rfl (.there (.there .here)) rfl rfl rfl ⟨(Ic Mb1 In0), ?_⟩
    exact Ad<|Pu2<|Pu2<|Sd<|⟨_, by exact R2, n, g, rfl, rfl, H, J⟩
   ·refine id (Jyq Z (gv (v := (sv e)) rfl rfl rfl (Rb1 Z)) ⟨(Ic Mb0 In0), ?_⟩)
    have L := Slr.cutL c f
    refine Jq 9 Z (lX (T := fR) c f rfl rfl rfl rfl rfl) ?_
    refine Ao 4 Z ?_
    refine OpW.shift (Shift.nilTok1 96 8 (Sd ?_))
    refine f6 (T := fR) (bytes := 96) (q := 0) rfl rfl rfl (Slr.nil fR _) Mb0 rfl (SrcT.sl u) l rfl rfl rfl rfl rfl rfl rfl rfl (fun aj Y z M => ⟨_, .here, ⟨(Ic Mb1 In0), ?_⟩⟩)
    refine Ao 10 Z ?_
    have N := L.mono z
    refine f6 (T := fR) (bytes := 96) (q := 0) rfl rfl rfl M Mb0 rfl (SrcT.sl N) m rfl rfl rfl rfl rfl rfl rfl rfl (fun o aa ag O => ⟨_, .here, ⟨(Ic Mb1 In0), ?_⟩⟩)
    refine JF 11 1 Z ?_
    refine Ao 12 Z ?_
    refine fm (vs := [(sv o)]) (all' := (fh (fV.mk p0.chans g p0.tick) a o)) rfl rfl rfl rfl rfl (.there (.there .here)) rfl rfl rfl ⟨(Ic Mb1 In0), ?_⟩
    exact Ad<|Pu2<|Pu2<|Sd<|⟨_, by exact R2, o, g, rfl, rfl, H, O⟩
  ·refine id (Jyq Z (gv (v := (sv e)) rfl rfl rfl (Rb1 Z)) ⟨(Ic Mb0 In0), ?_⟩)
   have P := Slr.cutL c f
   refine Jq 9 Z (lX (T := fR) c f rfl rfl rfl rfl rfl) ?_
   refine gG 1 (by kernel_rfl) (Jyq Z (gv (v := (sv e)) rfl rfl rfl (Rb1 Z)) ⟨(Ic Mb0 In0), ?_⟩)
   have Q := Slr.cut c j
   refine Jq 3 Z (xe (T := fR) c j rfl rfl rfl rfl) ?_
   refine Ao 4 Z ?_
   refine OpW.shift (Shift.nilTok1 96 8 (Sd ?_))
   refine f6 (T := fR) (bytes := 96) (q := 0) rfl rfl rfl (Slr.nil fR _) Mb0 rfl (SrcT.sl Q) l rfl rfl rfl rfl rfl rfl rfl rfl (fun ak ab A R => ⟨_, .here, ⟨(Ic Mb1 In0), ?_⟩⟩)
   refine Ao 10 Z ?_
   have S := P.mono A
   refine f6 (T := fR) (bytes := 96) (q := 0) rfl rfl rfl R Mb0 rfl (SrcT.sl S) m rfl rfl rfl rfl rfl rfl rfl rfl (fun p ac ah U => ⟨_, .here, ⟨(Ic Mb1 In0), ?_⟩⟩)
   refine JF 11 1 Z ?_
   refine Ao 12 Z ?_
   refine fm (vs := [(sv p)]) (all' := (fh (fV.mk p0.chans g p0.tick) a p)) rfl rfl rfl rfl rfl (.there (.there .here)) rfl rfl rfl ⟨(Ic Mb1 In0), ?_⟩
   exact Ad<|Pu2<|Pu2<|Sd<|⟨_, by exact R2, p, g, rfl, rfl, H, U⟩
 rintro _ ad _ B ⟨b, d, rfl, rfl, H, D⟩
 unfold rO at H
 refine fc<|fa<|EL 3 (fh (fV.mk p0.chans d p0.tick) a b) Z (Rb1 Z)<|?_
 refine ff rfl (fm (vs := (fh (fV.mk p0.chans d p0.tick) a b)) (all' := (fh (fV.mk p0.chans d p0.tick) a b)) rfl rfl rfl rfl rfl .here rfl rfl rfl ?_)
 refine fb<|fz<|?_
 obtain ae := gu H
 subst h
 refine ⟨(by first|exact .inl rfl|exact .inr rfl), [(.agg (fh (fV.mk p0.chans d p0.tick) a b).toArray)], ⟨(.agg (fh (fV.mk p0.chans d p0.tick) a b).toArray), _, rfl, ⟨_, 3, (fh (fV.mk p0.chans d p0.tick) a b), rfl, rfl, rfl, rfl, ⟨rfl, Rb0 Z⟩, rfl⟩, rfl⟩, ?_⟩
 refine Pu2<|Re1<|Re1<|?_
 have V := C.mono B
 exact Sd ⟨a, b, rfl, rfl, V, D⟩
theorem qG (p0 : ae2) (h : SV) (p1 : Int) (p2 : Result) (e : ae2) (H : sY p0 p1 p2 = some e) (K : Kp) (G : List Ent) (i : Slr f0 K (sv h) p0) :
  Fc Tryz.prog 77 #[(sv h), (Vi p1), (.agg (fe p2).toArray)] K (G) (fun v c b => ∃ (r : SV), v = (sv r) ∧ (.tok 67 6 [(sv r)]) :: G = b ∧ Slr f0 c (sv r) e) := by
 refine fN Tryz.func77 rfl Tryz.ntmps77 Tryz.results77 rfl ?_
 unfold sY at H
 refine fc<|fa<|?_
 refine ff rfl (fU (cs := (fe p2)) rfl rfl rfl (fun d => ?_))
 refine Ea Z<|fb<|fc<|fa<|Em Z<|Eq Z (gp (T := f0) i rfl rfl)<|Ea Z<|fb<|?_
 refine fA (fun f c b => ∃ (n : Int), [(0, (sv h)), (1, (Vi p1)), (5, (Vp d)), (7, (Vi n))] = f ∧ (.blk d 38 (fe p2)) :: G = b ∧ rQ p0 p1 p2 n = some e) ?_ ?_
 ·refine fC ?_
  refine ga (fun n147 f c b => ∃ (a : Int), [(0, (sv h)), (1, (Vi p1)), (5, (Vp d)), (7, (Vi a))] = f ∧ K = c ∧ (.blk d 38 (fe p2)) :: G = b ∧ lp1 (wc p0 p1 p2) n147 a = some e) BIG ?_ ?_
  ·exact Sd ⟨_, by exact R4, (p0.length : Int), rfl, rfl, rfl, H⟩
  rintro n147 _ _ _ - ⟨a, rfl, rfl, rfl, H⟩
  obtain ⟨Y, R, rfl, E, H⟩ := oe H
  unfold wc at H
  refine fc ?_
  refine fA (fun f c b => ∃ (o : Bool), [(0, (sv h)), (1, (Vi p1)), (5, (Vp d)), (7, (Vi a)), (22, (.bool o))] = f ∧ K = c ∧ (.blk d 38 (fe p2)) :: G = b ∧ rR p0 p1 a p2 R o = some e) ?_ ?_
  ·refine fa<|Em Z<|Ec Z<|Em Z<|?_
   refine Ee Z ?_ ?_
   ·intro g
    obtain ⟨g, H⟩ := It g H
    refine Vm Z<|Vm Z<|Vr (wI (a - 1)) Z<|?_
    obtain ⟨y, u, H⟩ := bnd H
    obtain ⟨_, rfl, D⟩ := Slr.at i u
    exact Vq Z (Qi (T := f0) i u Z)<|VF 0 Z<|Vl (Vi y.thread) Z (Rdc.k D rfl)<|Vm Z<|Vc Z<|Et Z<|fb<|Sd<|⟨_, by exact R5, (dcd (y.thread > p1)), rfl, rfl, rfl, H⟩
   ·intro g
    obtain ⟨g, H⟩ := If g H
    exact Ez Z<|Ez Z<|Ez Z<|Ez Z<|Ez Z<|Ez Z<|Ez Z<|Ez Z<|Ef Z<|fb<|Sd<|⟨_, by exact R5, false, rfl, rfl, rfl, H⟩
  rintro _ _ _ - ⟨o, rfl, rfl, rfl, H⟩
  unfold rR at H
  refine fp rfl ?_ ?_
  ·intro j
   have H := ift j H
   exact fy<|fC<|fa<|Em Z<|Er (wI (a - 1)) Z<|Ea Z<|fb<|Sd<|⟨_, by exact R4, _, Nat.lt_succ_self _, (wI (a - 1)), rfl, rfl, rfl, (E ▸ H)⟩
  ·intro j
   have H := f5 (btf j) H
   exact ge<|Sd<|⟨_, by exact R4, a, rfl, rfl, H⟩
 rintro _ S _ A ⟨n, rfl, rfl, H⟩
 unfold rQ at H
 refine fc<|fa<|Em Z<|Em Z<|?_
 obtain ⟨ad, w, H⟩ := bnd H
 have m := i.mono A
 have F := Slr.cut m w
 refine Eq Z (xe (T := f0) m w rfl rfl rfl rfl) ?_
 refine Ow.shift (Shift.nilTok1 67 6 (Sd ?_))
 obtain ⟨ae, O, H⟩ := bnd H
 refine ff rfl (f6 (T := f0) (bytes := 48) (q := 0) rfl rfl rfl (Slr.nil f0 _) Mb0 rfl (SrcT.sl F) O rfl rfl rfl rfl rfl rfl rfl rfl (fun aa z B I => ⟨_, .here, ?_⟩))
 refine Ea Z<|fb<|fc<|?_
 obtain ⟨af, P, H⟩ := bnd H
 obtain ⟨ag, x, H⟩ := bnd H
 obtain ⟨ah, Q, H⟩ := bnd H
 refine fx _ rfl (Ic Mb1 In0)<|Jm 0 Z<|Jm 1 Z<|JL 2 5 (fe p2) Z (Rb0 Z)<|Jq 3 Z (fH (cs := (fL (Done.mk p1 p2))) rfl rfl rfl rfl rfl rfl)<|Jm 6 Z<|Jm 7 Z<|?_
 have t := m.mono B
 have J := Slr.cutL t x
 refine Jq 8 Z (lX (T := f0) t x rfl rfl rfl rfl rfl) ?_
 refine Ao 4 Z ?_
 have s : RowR f0 z [(fL (Done.mk p1 p2))] [(Done.mk p1 p2)] := RowR.cons rfl (RowR.nil)
 refine gh (T := f0) (rows := [(fL (Done.mk p1 p2))]) (l := [(Done.mk p1 p2)]) rfl rfl rfl s rfl rfl rfl rfl rfl rfl rfl rfl (fun ab => ⟨(Ic Mb2 In0), ?_⟩)
 refine Ao 5 Z ?_
 refine f6 (T := f0) (bytes := 48) (q := 0) rfl rfl rfl I Mb1 rfl (SrcT.row Mb0 s rfl) P rfl rfl rfl rfl rfl rfl rfl rfl (fun ac U C L => ⟨_, (.there .here), ⟨(Ic Mb2 In0), ?_⟩⟩)
 refine Aw.shift (Re0 (Sd ⟨(Ic Mb1 In0), ?_⟩))
 refine Ao 9 Z ?_
 have M := J.mono C
 refine f6 (T := f0) (bytes := 48) (q := 0) rfl rfl rfl L Mb0 rfl (SrcT.sl M) Q rfl rfl rfl rfl rfl rfl rfl rfl (fun p V X N => ⟨_, .here, ⟨(Ic Mb1 In0), ?_⟩⟩)
 refine Ja 10 Z<|Ad<|fz<|?_
 obtain W := gu H
 subst e
 refine ⟨(by first|exact .inl rfl|exact .inr rfl), [(sv p)], ⟨(sv p), _, rfl, rfl, rfl⟩, ?_⟩
 exact Re1<|Sd<|⟨p, rfl, rfl, N⟩
theorem Dq (p0 : fV) (b : SV) (d : SV) (p1 : Int) (p2 : Op) (I : SV) (J : SV) (h : fV) (u : ae2) (H : rU p0 p1 p2 = some (h, u)) (K : Kp) (G : List Ent) (L : Slr fK K (sv b) p0.chans) (aM : Slr fR K (sv d) p0.waiting) (b4 : Slr fX K (sv I) p2.cases) (b5 : Slr Ty.i64 K (sv J) p2.draws) :
  Fc Tryz.prog 41 #[(.agg (fh p0 b d).toArray), (Vi p1), (.agg (fj p2 I J).toArray)] K (G) (fun v a c => ∃ (aX : SV) (aY : SV) (aC : SV), v = (.tuple #[(.agg (fh h aX aY).toArray), (sv aC)]) ∧ (.tok 67 6 [(sv aC)]) :: G = c ∧ Slr fK a (sv aX) h.chans ∧ Slr fR a (sv aY) h.waiting ∧ Slr f0 a (sv aC) u) := by
 refine fN Tryz.func41 rfl Tryz.ntmps41 Tryz.results41 rfl ?_
 unfold rU at H
 refine fc<|fa<|?_
 refine ff rfl (fU (cs := (fh p0 b d)) rfl rfl rfl (fun e => ?_))
 refine ff rfl (fU (cs := (fj p2 I J)) rfl rfl rfl (fun m => ?_))
 refine ff rfl (fE (cs := (fh (fV.mk [] [] 0) fB fB)) rfl rfl rfl rfl (fun f => ?_))
 refine Ea Z<|fb<|fc<|?_
 refine fA (fun i a c => ∃ (aw : Bool), [(1, (Vi p1)), (3, (Vp e)), (5, (Vp m)), (6, (Vp f)), (34, (.bool aw))] = i ∧ K = a ∧ (.blk f 60 (fh (fV.mk [] [] 0) fB fB)) :: (.blk m 51 (fj p2 I J)) :: (.blk e 60 (fh p0 b d)) :: G = c ∧ oM p1 p2 p0 aw = some (h, u)) ?_ ?_
 ·refine fa<|EF 2 Z<|El (Vi p2.channel) Z (Rb1 Z)<|Ec Z<|Em Z<|?_
  refine Ee Z ?_ ?_
  ·intro aa
   obtain ⟨aa, H⟩ := It aa H
   exact Ez Z<|Ez Z<|Ez Z<|Ez Z<|Ez Z<|Ez Z<|Et Z<|Em Z<|Ez Z<|Ez Z<|Ez Z<|Ez Z<|Ez Z<|Ez Z<|Ez Z<|Et Z<|fb<|Pu2<|Pu2<|Pu2<|Sd<|⟨_, by exact R5, true, rfl, rfl, rfl, H⟩
  ·intro aa
   obtain ⟨aa, H⟩ := If aa H
   refine VF 2 Z<|Vl (Vi p2.channel) Z (Rb1 Z)<|VF 0 Z<|Vl (sv b) Z (Rb2 Z)<|Vq Z (gp (T := fK) L rfl rfl)<|Vc Z<|Ef Z<|Em Z<|?_
   refine Ee Z ?_ ?_
   ·intro ab
    obtain ⟨ab, H⟩ := It ab H
    exact Ez Z<|Ez Z<|Ez Z<|Ez Z<|Ez Z<|Ez Z<|Ez Z<|Et Z<|fb<|Pu2<|Pu2<|Pu2<|Sd<|⟨_, by exact R5, true, rfl, rfl, rfl, H⟩
   ·intro ab
    obtain ⟨ab, H⟩ := If ab H
    refine VF 0 Z<|Vl (sv b) Z (Rb2 Z)<|VF 2 Z<|Vl (Vi p2.channel) Z (Rb1 Z)<|?_
    obtain ⟨a1, aT, H⟩ := bnd H
    obtain ⟨ca, bb, a7⟩ := Slr.at L aT
    obtain ⟨cd, rfl, b6⟩ := bb
    exact Vq Z (Qi (T := fK) L aT Z)<|VF 2 Z<|Vl (.bool a1.closed) Z (Rdc.k a7 rfl)<|Ef Z<|fb<|Pu2<|Pu2<|Pu2<|Sd<|⟨_, by exact R5, a1.closed, rfl, rfl, rfl, H⟩
 rintro _ _ _ - ⟨aw, rfl, rfl, rfl, H⟩
 unfold oM at H
 refine fp rfl ?_ ?_
 ·intro ap
  have H := ift ap H
  refine fc<|fa<|EL 3 (fh p0 b d) Z (Rb2 Z)<|Em Z<|Eq Z (fH (cs := (fe (Result.mk 5 (-1) 0 false 0))) rfl rfl rfl rfl rfl rfl)<|Eq Z (fH (cs := (fL (Done.mk p1 (Result.mk 5 (-1) 0 false 0)))) rfl rfl rfl rfl rfl rfl)<|?_
  have aJ : RowR f0 K [(fL (Done.mk p1 (Result.mk 5 (-1) 0 false 0)))] [(Done.mk p1 (Result.mk 5 (-1) 0 false 0))] := RowR.cons rfl (RowR.nil)
  refine ff rfl (gh (T := f0) (rows := [(fL (Done.mk p1 (Result.mk 5 (-1) 0 false 0)))]) (l := [(Done.mk p1 (Result.mk 5 (-1) 0 false 0))]) rfl rfl rfl aJ rfl rfl rfl rfl rfl rfl rfl rfl (fun az => ?_))
  refine ff rfl (fm (vs := (fh p0 b d)) (all' := (fh p0 b d)) rfl rfl rfl rfl rfl (.there .here) rfl rfl rfl ?_)
  refine Ea Z<|fb<|fz<|?_
  obtain ⟨a3, a4⟩ := ig H
  subst h u
  refine ⟨(by first|exact .inl rfl|exact .inr rfl), [(.agg (fh p0 b d).toArray), (sv az)], ⟨(.agg (fh p0 b d).toArray), _, rfl, ⟨_, 3, (fh p0 b d), rfl, rfl, rfl, rfl, ⟨rfl, Rb1 Z⟩, rfl⟩, ⟨(sv az), _, rfl, rfl, rfl⟩⟩, ?_⟩
  refine Shift.settle (T := f0) .here aJ rfl ?_
  intro bV aG bt
  refine Re1<|Re1<|Re1<|?_
  have bu := L.mono aG
  have bv := aM.mono aG
  exact Sd ⟨b, d, az, rfl, rfl, bu, bv, bt⟩
 ·intro ap
  have H := f5 (btf ap) H
  refine fy<|fc<|fa<|EF 0 Z<|El (sv b) Z (Rb2 Z)<|EF 2 Z<|El (Vi p2.channel) Z (Rb1 Z)<|?_
  obtain ⟨B, aU, H⟩ := bnd H
  obtain ⟨cb, bc, a8⟩ := Slr.at L aU
  obtain ⟨R, rfl, bw⟩ := bc
  refine Eq Z (Qi (T := fK) L aU Z)<|EL 3 (ft B R) Z (Rdc.k a8 rfl)<|?_
  refine ff rfl (fE (cs := (ft (fG.mk 0 [] false) fB)) rfl rfl rfl rfl (fun bZ => ?_))
  refine ff rfl (fm (vs := (ft B R)) (all' := (ft B R)) rfl rfl rfl rfl rfl .here rfl rfl rfl ?_)
  refine fb<|fc<|fa<|EF 2 Z<|?_
  refine ff rfl (fm (vs := [(.bool true)]) (all' := (ft (fG.mk B.capacity B.buffer true) R)) rfl rfl rfl rfl rfl .here rfl rfl rfl ?_)
  refine fb<|fc<|fa<|EL 3 (fh p0 b d) Z (Rb3 Z)<|EF 2 Z<|El (Vi p2.channel) Z (Rb2 Z)<|EL 3 (ft (fG.mk B.capacity B.buffer true) R) Z (Rb0 Z)<|?_
  obtain ⟨V, bM, H⟩ := bnd H
  refine ff rfl (Ek Tryz.call73 Z (nP p0 b d p2.channel (fG.mk B.capacity B.buffer true) R V bM _ _ L aM bw) ?_)
  rintro _ _ _ - ⟨aA, cc, aB, rfl, rfl, rfl, bx, bz⟩
  refine ff rfl (fm (vs := (fh V aA aB)) (all' := (fh V aA aB)) rfl rfl rfl rfl rfl (.there (.there (.there (.there .here)))) rfl rfl rfl ?_)
  refine fb<|fc<|fa<|Em Z<|Eq Z (fH (cs := (fe (Result.mk 6 (-1) 0 false 0))) rfl rfl rfl rfl rfl rfl)<|Eq Z (fH (cs := (fL (Done.mk p1 (Result.mk 6 (-1) 0 false 0)))) rfl rfl rfl rfl rfl rfl)<|?_
  have aK : RowR f0 K [(fL (Done.mk p1 (Result.mk 6 (-1) 0 false 0)))] [(Done.mk p1 (Result.mk 6 (-1) 0 false 0))] := RowR.cons rfl (RowR.nil)
  refine ff rfl (gh (T := f0) (rows := [(fL (Done.mk p1 (Result.mk 6 (-1) 0 false 0)))]) (l := [(Done.mk p1 (Result.mk 6 (-1) 0 false 0))]) rfl rfl rfl aK rfl rfl rfl rfl rfl rfl rfl rfl (fun bP => ?_))
  refine Ea Z<|fb<|?_
  refine fA (fun i a c => ∃ (N : SV) (av : ae2) (s : SV) (p : ad0) (t : SV) (q : af0) (y : Int), [(3, (Vp e)), (6, (Vp f)), (9, (sv N))] = i ∧ (.blk f 60 (fh (fV.mk [] [] 0) fB fB)) :: (.blk e 60 (fh (fV.mk p q y) s t)) :: (.tok 67 6 [(sv N)]) :: G = c ∧ rT av p q y = some (h, u) ∧ Slr f0 a (sv N) av ∧ Slr fK a (sv s) p ∧ Slr fR a (sv t) q) ?_ ?_
  ·refine fc<|fa<|Ea Z<|fb<|fC<|?_
   refine ga (fun aW i a c => ∃ (S : SV) (ah : ae2) (g : Int) (aj : SV) (P : ad0) (ak : SV) (Q : af0) (ae : Int), [(3, (Vp e)), (5, (Vp m)), (6, (Vp f)), (9, (sv S)), (10, (Vi g))] = i ∧ (.blk f 60 (fh (fV.mk [] [] 0) fB fB)) :: (.blk m 51 (fj p2 I J)) :: (.blk e 60 (fh (fV.mk P Q ae) aj ak)) :: (.tok 67 6 [(sv S)]) :: G = c ∧ lp5 (sZ p2) aW ah g P Q ae = some (h, u) ∧ Slr f0 a (sv S) ah ∧ Slr fK a (sv aj) P ∧ Slr fR a (sv ak) Q) BIG ?_ ?_
   ·refine Shift.settle (T := f0) .here aK rfl ?_
    intro bW aH bD
    have bF := bx.mono aH
    refine Shift.settle (T := fK) (.there .here) bF rfl ?_
    intro bX aI bE
    refine Pu5<|Pu5<|Pu5<|Re4<|Re4<|?_
    have bG := bD.mono aI
    have bH := (bz.mono aH).mono aI
    exact Sd ⟨_, by exact R5, bP, [(Done.mk p1 (Result.mk 6 (-1) 0 false 0))], 0, aA, V.chans, aB, V.waiting, V.tick, rfl, rfl, H, bG, bE, bH⟩
   rintro aW _ bY _ b3 ⟨S, ah, g, aj, P, ak, Q, ae, rfl, rfl, H, aP, aQ, aR⟩
   obtain ⟨b8, au, rfl, a9, H⟩ := FD H
   unfold sZ at H
   refine fc<|fc<|fa<|Em Z<|Ec Z<|fb<|?_
   refine fp rfl ?_ ?_
   ·intro ac
    obtain ⟨ac, H⟩ := It ac H
    refine fy ?_
    refine fA (fun i a c => ∃ (ai : SV) (am : ae2) (an : SV) (af : ad0) (ao : SV) (ag : af0) (al : Int), [(3, (Vp e)), (5, (Vp m)), (6, (Vp f)), (9, (sv ai)), (10, (Vi g))] = i ∧ (.blk f 60 (fh (fV.mk [] [] 0) fB fB)) :: (.blk m 51 (fj p2 I J)) :: (.blk e 60 (fh (fV.mk af ag al) an ao)) :: (.tok 67 6 [(sv ai)]) :: G = c ∧ wd g p2 au am af ag al = some (h, u) ∧ Slr f0 a (sv ai) am ∧ Slr fK a (sv an) af ∧ Slr fR a (sv ao) ag) ?_ ?_
    ·refine fC<|fc<|fa<|Ea Z<|fb<|fC<|?_
     refine ga (fun aV i a c => ∃ (z : SV) (M : ae2) (w : Int) (D : SV) (n : ad0) (r : SV) (o : af0) (x : Int), [(3, (Vp e)), (5, (Vp m)), (6, (Vp f)), (9, (sv z)), (10, (Vi g)), (11, (Vi w))] = i ∧ (.blk f 60 (fh (fV.mk [] [] 0) fB fB)) :: (.blk m 51 (fj p2 I J)) :: (.blk e 60 (fh (fV.mk n o x) D r)) :: (.tok 67 6 [(sv z)]) :: G = c ∧ lp5 (oL g p2 au) aV M w n o x = some (h, u) ∧ Slr f0 a (sv z) M ∧ Slr fK a (sv D) n ∧ Slr fR a (sv r) o) BIG ?_ ?_
     ·exact Pu3<|Pu3<|Pu3<|Pu3<|Sd<|⟨_, by exact R6, S, ah, 0, aj, P, ak, Q, ae, rfl, rfl, H, aP, aQ, aR⟩
     rintro aV _ bQ _ b0 ⟨z, M, w, D, n, r, o, x, rfl, rfl, H, aq, ar, O⟩
     obtain ⟨b7, bN, rfl, aL, H⟩ := FD H
     unfold oL at H
     refine fc<|fc<|fa<|Em Z<|EF 1 Z<|El (sv r) Z (Rb2 Z)<|Eq Z (gp (T := fR) O rfl rfl)<|Ec Z<|fb<|?_
     refine fp rfl ?_ ?_
     ·intro W
      obtain ⟨W, H⟩ := It W H
      refine fy<|fC<|fc<|fa<|EF 1 Z<|El (sv r) Z (Rb2 Z)<|Em Z<|?_
      obtain ⟨j, aS, H⟩ := bnd H
      obtain ⟨b9, ba, a6⟩ := Slr.at O aS
      obtain ⟨E, F, rfl, aN, aO⟩ := ba
      refine Eq Z (Qi (T := fR) O aS Z)<|EL 8 (gi j E F) Z (Rdc.k a6 rfl)<|?_
      refine ff rfl (fE (cs := (gi (gq.mk 0 (Op.mk 0 0 0 0 0 [] [])) fB fB)) rfl rfl rfl rfl (fun aD => ?_))
      refine ff rfl (fm (vs := (gi j E F)) (all' := (gi j E F)) rfl rfl rfl rfl rfl .here rfl rfl rfl ?_)
      refine fb<|fc<|fa<|EF 1 Z<|EL 7 (fj j.op E F) Z (Rb0 Z)<|EF 2 Z<|El (Vi p2.channel) Z (Rb2 Z)<|Em Z<|Ec Z<|?_
      obtain ⟨aZ, bI, H⟩ := bnd H
      refine ff rfl (Ek Tryz.call74 Z (qF j.op E F p2.channel (dcd (g = 1)) aZ bI _ _ aN aO) ?_)
      rintro _ a2 _ C ⟨rfl, rfl⟩
      refine Ea Z<|fb<|fc<|fc<|fa<|Em Z<|Ec Z<|fb<|?_
      refine fp rfl ?_ ?_
      ·intro X
       obtain ⟨X, H⟩ := It X H
       refine fc<|fa<|Em Z<|Er (wI (w + 1)) Z<|Ea Z<|fb<|ge<|Pu4<|Pu4<|Pu4<|Pu4<|Re4<|?_
       have bg := aq.mono C
       have bh := ar.mono C
       have bi := O.mono C
       exact Sd ⟨_, by exact R6, _, Nat.lt_succ_self _, z, M, (wI (w + 1)), D, n, r, o, x, rfl, rfl, (aL ▸ H), bg, bh, bi⟩
      ·intro X
       obtain ⟨X, H⟩ := If X H
       refine fy<|fc<|fa<|EF 1 Z<|EL 7 (fj j.op E F) Z (Rb0 Z)<|Em Z<|?_
       obtain ⟨A, bJ, H⟩ := bnd H
       have bj := aN.mono C
       have bk := aO.mono C
       refine ff rfl (Ek Tryz.call75 Z (nQ j.op E F aZ A bJ _ _ bj bk) ?_)
       rintro _ _ _ - ⟨rfl, rfl, rfl⟩
       refine Eq Z (fH (cs := (fe (Result.mk 2 A 0 false 0))) rfl rfl rfl rfl rfl rfl) ?_
       refine ff rfl (fE (cs := (fe (Result.mk 0 0 0 false 0))) rfl rfl rfl rfl (fun aE => ?_))
       refine ff rfl (fm (vs := (fe (Result.mk 2 A 0 false 0))) (all' := (fe (Result.mk 2 A 0 false 0))) rfl rfl rfl rfl rfl .here rfl rfl rfl ?_)
       refine fb ?_
       refine fA (fun i a c => ∃ (ad : Int), [(3, (Vp e)), (5, (Vp m)), (6, (Vp f)), (9, (sv z)), (10, (Vi g)), (11, (Vi w)), (12, (Vp aD)), (14, (Vp aE))] = i ∧ a2 = a ∧ (.blk aE 38 (fe (Result.mk ad A 0 false 0))) :: (.blk aD 96 (gi j E F)) :: (.blk f 60 (fh (fV.mk [] [] 0) fB fB)) :: (.blk m 51 (fj p2 I J)) :: (.blk e 60 (fh (fV.mk n o x) D r)) :: (.tok 67 6 [(sv z)]) :: G = c ∧ oK M g w A j p2 n o x au bN ad = some (h, u)) ?_ ?_
       ·refine fc<|fa<|Em Z<|Ec Z<|fb<|?_
        refine fp rfl ?_ ?_
        ·intro Y
         obtain ⟨Y, H⟩ := It Y H
         refine fa<|EF 0 Z<|?_
         refine ff rfl (fm (vs := [(Vi 5)]) (all' := (fe (Result.mk 5 A 0 false 0))) rfl rfl rfl rfl rfl .here rfl rfl rfl ?_)
         exact fb<|Pu5<|Pu5<|Pu5<|Pu5<|Pu5<|Pu5<|Sd<|⟨_, by exact R8, 5, rfl, rfl, rfl, H⟩
        ·intro Y
         obtain ⟨Y, H⟩ := If Y H
         exact fy<|Pu5<|Pu5<|Pu5<|Pu5<|Pu5<|Pu5<|Sd<|⟨_, by exact R8, 2, rfl, rfl, rfl, H⟩
       rintro _ _ _ - ⟨ad, rfl, rfl, rfl, H⟩
       unfold oK at H
       refine fc<|fa<|EL 3 (fh (fV.mk n o x) D r) Z (Rb4 Z)<|Em Z<|?_
       obtain ⟨U, bK, H⟩ := bnd H
       have bl := ar.mono C
       have bm := O.mono C
       refine ff rfl (Ek Tryz.call76 Z (xp (fV.mk n o x) D r w U bK _ _ bl bm) ?_)
       rintro _ bR _ a5 ⟨ax, ay, rfl, rfl, bn, bo⟩
       refine ff rfl (fm (vs := (fh U ax ay)) (all' := (fh U ax ay)) rfl rfl rfl rfl rfl (.there (.there (.there (.there (.there .here))))) rfl rfl rfl ?_)
       refine fb<|fa<|Em Z<|EF 0 Z<|El (Vi j.thread) Z (Rb2 Z)<|EL 5 (fe (Result.mk ad A 0 false 0)) Z (Rb1 Z)<|?_
       obtain ⟨a0, bL, H⟩ := bnd H
       have bp := (aq.mono C).mono a5
       refine ff rfl (Ek Tryz.call77 Z (qG M z j.thread (Result.mk ad A 0 false 0) a0 bL _ _ bp) ?_)
       rintro _ bS _ aF ⟨bO, rfl, rfl, bq⟩
       refine Ea Z<|fb<|Pu6<|Pu6<|Pu6<|Re4<|Re4<|Re4<|Re4<|?_
       have br := bn.mono aF
       have bs := bo.mono aF
       exact Sd ⟨_, by exact R6, _, Nat.lt_succ_self _, bO, a0, w, ax, U.chans, ay, U.waiting, U.tick, rfl, rfl, (aL ▸ H), bq, br, bs⟩
     ·intro W
      obtain ⟨W, H⟩ := If W H
      exact ge<|Pu3<|Pu3<|Pu3<|Pu3<|Sd<|⟨_, by exact R5, z, M, D, n, r, o, x, rfl, rfl, H, aq, ar, O⟩
    rintro _ bT _ b1 ⟨ai, am, an, af, ao, ag, al, rfl, rfl, H, bd, be, bf⟩
    unfold wd at H
    exact fa<|Em Z<|Er (wI (g + 1)) Z<|Ea Z<|fb<|Pu3<|Pu3<|Pu3<|Pu3<|Sd<|⟨_, by exact R5, _, Nat.lt_succ_self _, ai, am, (wI (g + 1)), an, af, ao, ag, al, rfl, rfl, (a9 ▸ H), bd, be, bf⟩
   ·intro ac
    obtain ⟨ac, H⟩ := If ac H
    exact ge<|Pu3<|Pu3<|Pu2<|Re3<|Sd<|⟨_, by exact R3, S, ah, aj, P, ak, Q, ae, rfl, rfl, H, aP, aQ, aR⟩
  rintro _ bU _ b2 ⟨N, av, s, p, t, q, y, rfl, rfl, H, bA, bB, bC⟩
  unfold rT at H
  refine fc<|fa<|EL 3 (fh (fV.mk p q y) s t) Z (Rb1 Z)<|Em Z<|?_
  refine ff rfl (fm (vs := (fh (fV.mk p q y) s t)) (all' := (fh (fV.mk p q y) s t)) rfl rfl rfl rfl rfl .here rfl rfl rfl ?_)
  refine Ea Z<|fb<|fz<|?_
  obtain ⟨a3, a4⟩ := ig H
  subst h u
  refine ⟨(by first|exact .inl rfl|exact .inr rfl), [(.agg (fh (fV.mk p q y) s t).toArray), (sv N)], ⟨(.agg (fh (fV.mk p q y) s t).toArray), _, rfl, ⟨_, 3, (fh (fV.mk p q y) s t), rfl, rfl, rfl, rfl, ⟨rfl, Rb0 Z⟩, rfl⟩, ⟨(sv N), _, rfl, rfl, rfl⟩⟩, ?_⟩
  exact Pu2<|Re1<|Re1<|Sd<|⟨s, t, N, rfl, rfl, bB, bC, bA⟩
theorem yb (p0 : fV) (i : SV) (a : SV) (p1 : Int) (p2 : Case) (f : Int) (H : oO p0 p1 p2 = some f) (K : Kp) (G : List Ent) (M : Slr fK K (sv i) p0.chans) (N : Slr fR K (sv a) p0.waiting) :
  Fc Tryz.prog 80 #[(.agg (fh p0 i a).toArray), (Vi p1), (.agg (fk p2).toArray)] K (G) (fun v m b => v = (Vi f) ∧ G = b) := by
 refine fN Tryz.func80 rfl Tryz.ntmps80 Tryz.results80 rfl ?_
 unfold oO at H
 refine fc<|fa<|?_
 refine ff rfl (fU (cs := (fh p0 i a)) rfl rfl rfl (fun j => ?_))
 refine ff rfl (fU (cs := (fk p2)) rfl rfl rfl (fun l => ?_))
 refine Ea Z<|fb<|fc<|?_
 refine fA (fun g m b => ∃ (s : Bool), [(1, (Vi p1)), (3, (Vp j)), (5, (Vp l)), (18, (.bool s))] = g ∧ K = m ∧ (.blk l 108 (fk p2)) :: (.blk j 60 (fh p0 i a)) :: G = b ∧ r4 p1 p2 p0 s = some f) ?_ ?_
 ·refine fa<|EF 1 Z<|El (Vi p2.channel) Z (Rb0 Z)<|Ec Z<|Em Z<|?_
  refine Ee Z ?_ ?_
  ·intro n
   obtain ⟨n, H⟩ := It n H
   exact Ez Z<|Ez Z<|Ez Z<|Ez Z<|Ez Z<|Ez Z<|Et Z<|fb<|Pu1<|Pu1<|Sd<|⟨_, by exact R4, true, rfl, rfl, rfl, H⟩
  ·intro n
   obtain ⟨n, H⟩ := If n H
   exact VF 1 Z<|Vl (Vi p2.channel) Z (Rb0 Z)<|VF 0 Z<|Vl (sv i) Z (Rb1 Z)<|Vq Z (gp (T := fK) M rfl rfl)<|Vc Z<|Ef Z<|fb<|Pu1<|Pu1<|Sd<|⟨_, by exact R4, (dcd (p2.channel ≥ (p0.chans.length : Int))), rfl, rfl, rfl, H⟩
 rintro _ _ _ - ⟨s, rfl, rfl, rfl, H⟩
 unfold r4 at H
 refine fp rfl ?_ ?_
 ·intro q
  have H := ift q H
  refine fc<|fa<|Ea Z<|fb<|fz<|?_
  obtain w := gu H
  subst f
  refine ⟨(by first|exact .inl rfl|exact .inr rfl), [(Vi (-1))], ⟨(Vi (-1)), _, rfl, rfl, rfl⟩, ?_⟩
  exact Re0<|Re0<|Sd<|⟨rfl, rfl⟩
 ·intro q
  have H := f5 (btf q) H
  refine fy ?_
  refine fA (fun g m b => [] = g ∧ G = b ∧ zu = some f) ?_ ?_
  ·refine fc<|fa<|Ea Z<|fb<|fC<|?_
   refine ga (fun z g m b => ∃ (e : Int), [(1, (Vi p1)), (3, (Vp j)), (5, (Vp l)), (7, (Vi e))] = g ∧ (.blk l 108 (fk p2)) :: (.blk j 60 (fh p0 i a)) :: G = b ∧ lp1 (r3 p1 p2 p0) z e = some f) BIG ?_ ?_
   ·exact Pu1<|Pu1<|Sd<|⟨_, by exact R4, 0, rfl, rfl, H⟩
   rintro z _ W _ E ⟨e, rfl, rfl, H⟩
   obtain ⟨ai, V, rfl, L, H⟩ := oe H
   unfold r3 at H
   refine fc<|fc<|fa<|Em Z<|EF 1 Z<|El (sv a) Z (Rb1 Z)<|?_
   have h := N.mono E
   refine Eq Z (gp (T := fR) h rfl rfl)<|Ec Z<|fb<|?_
   refine fp rfl ?_ ?_
   ·intro o
    obtain ⟨o, H⟩ := It o H
    refine fy<|fc<|fC<|?_
    refine fA (fun g m b => ∃ (t : Bool), [(1, (Vi p1)), (3, (Vp j)), (5, (Vp l)), (7, (Vi e)), (48, (.bool t))] = g ∧ (.blk l 108 (fk p2)) :: (.blk j 60 (fh p0 i a)) :: G = b ∧ r0 p1 e p2 p0 V t = some f) ?_ ?_
    ·obtain ⟨u, p, H⟩ := bnd H
     rcases ic (!(dcd (u.thread = p1))) with x | x <;> revert x
     ·intro c
      have c := lO (iC (c))
      have H := f5 c H
      obtain ⟨C, y, H⟩ := bnd H
      obtain ⟨D, U, H⟩ := bnd H
      refine fx _ rfl (Ic Mb0 (Ic Mb1 In0))<|JF 0 1 Z<|Jl 1 (sv a) Z (Rb1 Z)<|Jm 2 Z<|?_
      obtain ⟨aj, O, F⟩ := Slr.at h p
      obtain ⟨am, an, rfl, ae, af⟩ := O
      refine Jq 3 Z (Qi (T := fR) h p Z)<|JF 4 0 Z<|Jl 5 (Vi u.thread) Z (Rdc.k F rfl)<|Jm 6 Z<|Jc 7 Z<|Jm 8 Z<|Aw.known (d := 34) rfl (lT (iV c))<|BF 9 1 Z<|Bl 10 (sv a) Z (Rb1 Z)<|Bm 11 Z<|?_
      obtain ⟨ak, P, I⟩ := Slr.at h y
      obtain ⟨A, B, rfl, R, S⟩ := P
      refine Bq 12 Z (Qi (T := fR) h y Z)<|BF 13 1 Z<|BL 14 7 (fj C.op A B) Z (Rdc.k I rfl)<|BF 15 1 Z<|Bl 16 (Vi p2.channel) Z (Rb0 Z)<|BF 17 0 Z<|Bl 18 (.bool p2.send) Z (Rb0 Z)<|Bq 19 Z (gg rfl)<|?_
      refine gG 20 (by kernel_rfl) (kE rfl rfl rfl rfl rfl ?_)
      refine Ek Tryz.call74 Z (qF C.op A B p2.channel (!(p2.send)) D U _ _ R S) ?_
      rintro _ X _ ab ⟨rfl, rfl⟩
      refine ⟨(Ic Mb0 (Ic Mb1 In0)), ?_⟩
      exact Bc 21 Z<|Jt 22 Z<|Ad<|Pu1<|Pu1<|Sd<|⟨_, by exact R5, (dcd (D ≥ 0)), rfl, rfl, H⟩
     ·intro c
      have c := lP (iz (c))
      have H := ift c H
      refine fx _ rfl (Ic Mb0 (Ic Mb1 In0))<|JF 0 1 Z<|Jl 1 (sv a) Z (Rb1 Z)<|Jm 2 Z<|?_
      obtain ⟨al, Q, J⟩ := Slr.at h p
      obtain ⟨ao, ap, rfl, ag, ah⟩ := Q
      refine Jq 3 Z (Qi (T := fR) h p Z)<|JF 4 0 Z<|Jl 5 (Vi u.thread) Z (Rdc.k J rfl)<|Jm 6 Z<|Jc 7 Z<|Jm 8 Z<|Aw.known (d := 34) rfl (lS (iv c))<|Jz 9 Z<|Jz 10 Z<|Jz 11 Z<|Jz 12 Z<|Jz 13 Z<|Jz 14 Z<|Jz 15 Z<|Jz 16 Z<|Jz 17 Z<|Jz 18 Z<|Jz 19 Z<|Jz 20 Z<|Jz 21 Z<|Jf 22 Z<|Ad<|?_
      exact Pu1<|Pu1<|Sd<|⟨_, by exact R5, false, rfl, rfl, H⟩
    rintro _ Y _ ac ⟨t, rfl, rfl, H⟩
    unfold r0 at H
    refine fp rfl ?_ ?_
    ·intro r
     have H := ift r H
     refine fc<|fa<|Em Z<|Ea Z<|fb<|fz<|?_
     obtain w := gu H
     subst f
     refine ⟨(by first|exact .inl rfl|exact .inr rfl), [(Vi e)], ⟨(Vi e), _, rfl, rfl, rfl⟩, ?_⟩
     exact Re0<|Re0<|Sd<|⟨rfl, rfl⟩
    ·intro r
     have H := f5 (btf r) H
     exact fy<|fa<|Em Z<|Er (wI (e + 1)) Z<|Ea Z<|fb<|Pu1<|Pu1<|Sd<|⟨_, by exact R4, _, Nat.lt_succ_self _, (wI (e + 1)), rfl, rfl, (L ▸ H)⟩
   ·intro o
    obtain ⟨o, H⟩ := If o H
    exact ge<|Re0<|Re0<|Sd<|⟨[], trivial, rfl, rfl, H⟩
  rintro _ aa _ ad ⟨rfl, rfl, H⟩
  unfold zu at H
  refine fc<|fa<|Ea Z<|fb<|fz<|?_
  obtain w := gu H
  subst f
  refine ⟨(by first|exact .inl rfl|exact .inr rfl), [(Vi (-1))], ⟨(Vi (-1)), _, rfl, rfl, rfl⟩, ?_⟩
  exact Sd ⟨rfl, rfl⟩
theorem yd (p0 : fV) (a : SV) (b : SV) (p1 : Int) (p2 : Case) (c : Bool) (H : oP p0 p1 p2 = some c) (K : Kp) (G : List Ent) (f : Slr fK K (sv a) p0.chans) (i : Slr fR K (sv b) p0.waiting) :
  Fc Tryz.prog 43 #[(.agg (fh p0 a b).toArray), (Vi p1), (.agg (fk p2).toArray)] K (G) (fun v l g => v = (.bool c) ∧ G = g) := by
 refine fN Tryz.func43 rfl Tryz.ntmps43 Tryz.results43 rfl ?_
 unfold oP at H
 refine fc<|fa<|?_
 refine ff rfl (fU (cs := (fh p0 a b)) rfl rfl rfl (fun n => ?_))
 refine ff rfl (fU (cs := (fk p2)) rfl rfl rfl (fun o => ?_))
 refine Ea Z<|fb<|fc<|fa<|EF 0 Z<|El (sv a) Z (Rb1 Z)<|EL 3 (fk p2) Z (Rb0 Z)<|?_
 obtain ⟨x19, j, H⟩ := bnd H
 refine ff rfl (Ek Tryz.call79 Z (Ak p0.chans a p2 x19 j _ _ f) ?_)
 rintro _ _ _ - ⟨rfl, rfl, rfl⟩
 refine Em Z ?_
 refine Ee Z ?_ ?_
 ·intro d
  have H := ift d H
  refine Ez Z<|Ez Z<|Ez Z<|Ez Z<|Ez Z<|Et Z<|Ea Z<|fb<|fz<|?_
  obtain h := gu H
  subst c
  refine ⟨(by first|exact .inl rfl|exact .inr rfl), [(.bool true)], ⟨(.bool true), _, rfl, rfl, rfl⟩, ?_⟩
  exact Re0<|Re0<|Sd<|⟨rfl, rfl⟩
 ·intro d
  have H := f5 (btf d) H
  refine VL 3 (fh p0 a b) Z (Rb1 Z)<|Vm Z<|VL 3 (fk p2) Z (Rb0 Z)<|?_
  obtain ⟨e, k, H⟩ := bnd H
  refine ij rfl rfl rfl rfl (Ek Tryz.call80 Z (yb p0 a b p1 p2 e k _ _ f i) ?_)
  rintro _ m _ p ⟨rfl, rfl⟩
  refine Vc Z<|Ef Z<|Ea Z<|fb<|fz<|?_
  obtain h := gu H
  subst c
  refine ⟨(by first|exact .inl rfl|exact .inr rfl), [(.bool (dcd (e ≥ 0)))], ⟨(.bool (dcd (e ≥ 0))), _, rfl, rfl, rfl⟩, ?_⟩
  exact Re0<|Re0<|Sd<|⟨rfl, rfl⟩
end Go.Hx
namespace Go.Hx
open Go Go.Proofs
set_option maxRecDepth 10000
set_option maxHeartbeats 1000000
theorem Ds (p0 : ad1) (g : SV) (p1 : Int) (c : Int) (H : rW p0 p1 = some c) (K : Kp) (G : List Ent) (d : Slr Ty.i64 K (sv g) p0) :
  Fc Tryz.prog 121 #[(sv g), (Vi p1)] K (G) (fun v i h => v = (Vi c) ∧ K = i ∧ G = h) := by
 refine fN Tryz.func121 rfl Tryz.ntmps121 Tryz.results121 rfl ?_
 unfold rW at H
 refine fc<|fa<|Ea Z<|fb<|fc<|fc<|fa<|Em Z<|Em Z<|Eq Z (gp (T := Ty.i64) d rfl rfl)<|Ec Z<|fb<|?_
 refine fp rfl ?_ ?_
 ·intro a
  obtain ⟨a, H⟩ := It a H
  refine fc<|fa<|Ea Z<|fb<|fz<|?_
  obtain e := gu H
  subst c
  refine ⟨(by first|exact .inl rfl|exact .inr rfl), [(Vi 0)], ⟨(Vi 0), _, rfl, rfl, rfl⟩, ?_⟩
  exact Sd ⟨rfl, rfl, rfl⟩
 ·intro a
  obtain ⟨a, H⟩ := If a H
  refine fy<|fc<|fa<|Em Z<|Em Z<|?_
  obtain ⟨x12, f, H⟩ := bnd H
  obtain ⟨_, rfl, j⟩ := Slr.at d f
  refine Eq Z (Qi (T := Ty.i64) d f Z)<|El (Vi x12) Z (Rdc.k j rfl)<|Em Z<|Er (wI (p1 + 1)) Z<|?_
  obtain ⟨x17, l, H⟩ := bnd H
  refine Eq Z (CP l rfl rfl)<|Ea Z<|fb<|fc<|fc<|fa<|Em Z<|Ec Z<|fb<|?_
  refine fp rfl ?_ ?_
  ·intro b
   obtain ⟨b, H⟩ := It b H
   refine fa<|Em Z<|Em Z<|Er (wI (p1 + 1)) Z<|Er (wI (x17 + (wI (p1 + 1)))) Z<|Ea Z<|fb<|fc<|fa<|Em Z<|Ea Z<|fb<|fz<|?_
   obtain e := gu H
   subst c
   refine ⟨(by first|exact .inl rfl|exact .inr rfl), [(Vi (wI (x17 + (wI (p1 + 1)))))], ⟨(Vi (wI (x17 + (wI (p1 + 1))))), _, rfl, rfl, rfl⟩, ?_⟩
   exact Sd ⟨rfl, rfl, rfl⟩
  ·intro b
   obtain ⟨b, H⟩ := If b H
   refine fy<|fc<|fa<|Em Z<|Ea Z<|fb<|fz<|?_
   obtain e := gu H
   subst c
   refine ⟨(by first|exact .inl rfl|exact .inr rfl), [(Vi x17)], ⟨(Vi x17), _, rfl, rfl, rfl⟩, ?_⟩
   exact Sd ⟨rfl, rfl, rfl⟩
theorem Fj (p0 : Int) (p1 : ad1) (k : SV) (h : ad1) (H : s4 p0 p1 = some h) (K : Kp) (G : List Ent) (ag : Slr Ty.i64 K (sv k) p1) :
  Fc Tryz.prog 106 #[(Vi p0), (sv k)] K (G) (fun v b c => ∃ (S : SV) (R : List (List Value)), v = (sv S) ∧ (.row (sv S) 3 1 R.flatten) :: G = c ∧ RowR Ty.i64 b R h) := by
 refine fN Tryz.func106 rfl Tryz.ntmps106 Tryz.results106 rfl ?_
 unfold s4 at H
 refine fc<|fa<|Ea Z<|fb<|fc<|?_
 refine fA (fun g b c => ∃ (F : Bool), [(0, (Vi p0)), (1, (sv k)), (16, (.bool F))] = g ∧ K = b ∧ G = c ∧ oN p0 p1 F = some h) ?_ ?_
 ·refine fa<|Em Z<|Ec Z<|Em Z<|?_
  refine Ee Z ?_ ?_
  ·intro n
   obtain ⟨n, H⟩ := It n H
   exact Ez Z<|Ez Z<|Et Z<|fb<|Sd<|⟨_, by exact R3, true, rfl, rfl, rfl, H⟩
  ·intro n
   obtain ⟨n, H⟩ := If n H
   exact Vm Z<|Vc Z<|Ef Z<|fb<|Sd<|⟨_, by exact R3, (dcd (p0 > 20)), rfl, rfl, rfl, H⟩
 rintro _ _ _ - ⟨F, rfl, rfl, rfl, H⟩
 unfold oN at H
 refine fp rfl ?_ ?_
 ·intro A
  have H := ift A H
  refine fc<|fa<|Ea Z<|fb<|fz<|?_
  obtain V := gu H
  subst h
  refine ⟨(by first|exact .inl rfl|exact .inr rfl), [(sv fB)], ⟨(sv fB), _, rfl, rfl, rfl⟩, ?_⟩
  have X : RowR Ty.i64 K [] [] := RowR.nil
  exact Shift.nilRow 3 1<|Sd<|⟨fB, ([] : List (List Value)), rfl, rfl, X⟩
 ·intro A
  have H := f5 (btf A) H
  refine fy<|fc<|fa<|Em Z<|?_
  obtain ⟨aq, an, H⟩ := bnd H
  refine ff rfl (jK (T := Ty.i64) (r := [(Vi 0)]) rfl rfl rfl an rfl rfl rfl rfl rfl rfl rfl rfl rfl rfl (fun f ap Y ay => ?_))
  refine Ea Z<|fb<|?_
  refine fA (fun g b c => ∃ (x : ad1) (y : List (List Value)), [(0, (Vi p0)), (1, (sv k)), (5, (sv f))] = g ∧ (.row (sv f) 3 1 y.flatten) :: G = c ∧ rY p0 p1 x = some h ∧ RowR Ty.i64 b y x) ?_ ?_
  ·refine fc<|fa<|Ea Z<|fb<|fC<|?_
   refine ga (fun n207 g b c => ∃ (m : ad1) (s : List (List Value)) (a : Int), [(0, (Vi p0)), (1, (sv k)), (5, (sv f)), (6, (Vi a))] = g ∧ K = b ∧ (.row (sv f) 3 1 s.flatten) :: G = c ∧ lp2 (rZ p0 p1) n207 m a = some h ∧ RowR Ty.i64 b s m) BIG ?_ ?_
   ·exact Sd ⟨_, by exact R4, aq, ap, 0, rfl, rfl, rfl, H, Y⟩
   rintro n207 _ _ _ - ⟨m, s, a, rfl, rfl, rfl, H, q⟩
   obtain ⟨aB, az, rfl, ae, H⟩ := jR H
   unfold rZ at H
   refine fc<|fc<|fa<|Em Z<|Em Z<|Ec Z<|fb<|?_
   refine fp rfl ?_ ?_
   ·intro o
    obtain ⟨o, H⟩ := It o H
    refine fy<|fc<|fC<|fa<|Em Z<|Em Z<|Em Z<|?_
    obtain ⟨aI, L, H⟩ := bnd H
    obtain ⟨aD, B, ah⟩ := RowR.at q L
    obtain rfl := ah
    refine Eq Z (gP (T := Ty.i64) Mb0 q B (fO L).1 rfl rfl rfl rfl rfl) ?_
    refine ff rfl (gW (T := Ty.i64) (vs := [(Vi a)]) (r' := [(Vi a)]) (l' := (fY m a a)) rfl rfl rfl rfl rfl .here q B rfl rfl rfl (RowR.set a q rfl) (fun ab => ?_))
    have au := i6 B (v := [(Vi a)])
    exact fb<|fa<|Em Z<|Er (wI (a + 1)) Z<|Ea Z<|fb<|Sd<|⟨_, by exact R4, _, Nat.lt_succ_self _, (fY m a a), (s.set a.toNat [(Vi a)]), (wI (a + 1)), rfl, rfl, rfl, (ae ▸ H), ab⟩
   ·intro o
    obtain ⟨o, H⟩ := If o H
    exact ge<|Sd<|⟨_, by exact R3, m, s, rfl, rfl, H, q⟩
  rintro _ U _ W ⟨x, y, rfl, rfl, H, aa⟩
  unfold rY at H
  refine fA (fun g b c => ∃ (E : ad1) (z : List (List Value)), [(5, (sv f))] = g ∧ (.row (sv f) 3 1 z.flatten) :: G = c ∧ zt E = some h ∧ RowR Ty.i64 b z E) ?_ ?_
  ·refine fc<|fa<|Em Z<|Er (wI (p0 - 1)) Z<|Ea Z<|fb<|fC<|?_
   refine ga (fun Q g b c => ∃ (j : ad1) (t : List (List Value)) (e : Int), [(1, (sv k)), (5, (sv f)), (7, (Vi e))] = g ∧ U = b ∧ (.row (sv f) 3 1 t.flatten) :: G = c ∧ lp2 (rX p1) Q j e = some h ∧ RowR Ty.i64 b t j) BIG ?_ ?_
   ·exact Sd ⟨_, by exact R3, x, y, (wI (p0 - 1)), rfl, rfl, rfl, H, aa⟩
   rintro Q _ _ _ - ⟨j, t, e, rfl, rfl, rfl, H, d⟩
   obtain ⟨aC, aA, rfl, af, H⟩ := jR H
   unfold rX at H
   refine fc<|fc<|fa<|Em Z<|Ec Z<|fb<|?_
   refine fp rfl ?_ ?_
   ·intro p
    obtain ⟨p, H⟩ := It p H
    refine fy<|fc<|fC<|fc<|fa<|Em Z<|Em Z<|?_
    obtain ⟨u, ao, H⟩ := bnd H
    have am := ag.mono W
    refine ff rfl (Ek Tryz.call121 Z (Ds p1 k e u ao _ _ am) ?_)
    rintro _ _ _ - ⟨rfl, rfl, rfl⟩
    refine Ea Z<|fb<|fc<|?_
    obtain ⟨l, M, H⟩ := bnd H
    obtain ⟨i, N, H⟩ := bnd H
    refine fx _ rfl (Ic Mb0 In0)<|Jm 0 Z<|Jm 1 Z<|?_
    obtain ⟨aE, I, ai⟩ := RowR.at d M
    obtain rfl := ai
    refine Jq 2 Z (gP (T := Ty.i64) Mb0 d I (fO M).1 rfl rfl rfl rfl rfl)<|Jl 3 (Vi l) Z (ie (T := Ty.i64) Mb0 d I rfl rfl)<|Jm 4 Z<|Jm 5 Z<|?_
    obtain ⟨aF, J, aj⟩ := RowR.at d N
    obtain rfl := aj
    refine Jq 6 Z (gP (T := Ty.i64) Mb0 d J (fO N).1 rfl rfl rfl rfl rfl)<|Jl 7 (Vi i) Z (ie (T := Ty.i64) Mb0 d J rfl rfl)<|Ja 8 Z<|Ja 9 Z<|Ad<|fa<|Em Z<|Em Z<|Em Z<|Em Z<|Em Z<|Em Z<|?_
    obtain ⟨aJ, O, H⟩ := bnd H
    obtain ⟨aG, C, ak⟩ := RowR.at d O
    obtain rfl := ak
    refine Eq Z (gP (T := Ty.i64) Mb0 d C (fO O).1 rfl rfl rfl rfl rfl) ?_
    refine ff rfl (gW (T := Ty.i64) (vs := [(Vi i)]) (r' := [(Vi i)]) (l' := (fY j e i)) rfl rfl rfl rfl rfl .here d C rfl rfl rfl (RowR.set e d rfl) (fun w => ?_))
    have av := i6 C (v := [(Vi i)])
    obtain ⟨aK, P, H⟩ := bnd H
    obtain ⟨aH, D, al⟩ := RowR.at w P
    obtain rfl := al
    refine Eq Z (gP (T := Ty.i64) Mb0 w D (fO P).1 rfl rfl rfl rfl rfl) ?_
    refine ff rfl (gW (T := Ty.i64) (vs := [(Vi l)]) (r' := [(Vi l)]) (l' := (fY (fY j e i) u l)) rfl rfl rfl rfl rfl .here w D rfl rfl rfl (RowR.set u w rfl) (fun ad => ?_))
    have aw := i6 D (v := [(Vi l)])
    exact fb<|fa<|Em Z<|Er (wI (e - 1)) Z<|Ea Z<|fb<|Sd<|⟨_, by exact R3, _, Nat.lt_succ_self _, (fY (fY j e i) u l), ((t.set e.toNat [(Vi i)]).set u.toNat [(Vi l)]), (wI (e - 1)), rfl, rfl, rfl, (af ▸ H), ad⟩
   ·intro p
    obtain ⟨p, H⟩ := If p H
    exact ge<|Sd<|⟨_, by exact R1, j, t, rfl, rfl, H, d⟩
  rintro _ ar _ ax ⟨E, z, rfl, rfl, H, ac⟩
  unfold zt at H
  refine fc<|fa<|Em Z<|Ea Z<|fb<|fz<|?_
  obtain V := gu H
  subst h
  refine ⟨(by first|exact .inl rfl|exact .inr rfl), [(sv f)], ⟨(sv f), _, rfl, rfl, rfl⟩, ?_⟩
  exact Sd ⟨f, z, rfl, rfl, ac⟩
end Go.Hx
namespace Go.Hx
open Go Go.Proofs
set_option maxRecDepth 10000
set_option maxHeartbeats 1000000
theorem Fg (p0 : Op) (b : SV) (a : SV) (d : ad1) (H : ny p0 = some d) (K : Kp) (G : List Ent) (i : Slr fX K (sv b) p0.cases) (j : Slr Ty.i64 K (sv a) p0.draws) :
  Fc Tryz.prog 78 #[(.agg (fj p0 b a).toArray)] K (G) (fun v h g => ∃ (f : SV) (e : List (List Value)), v = (sv f) ∧ (.row (sv f) 3 1 e.flatten) :: G = g ∧ RowR Ty.i64 h e d) := by
 refine fN Tryz.func78 rfl Tryz.ntmps78 Tryz.results78 rfl ?_
 unfold ny at H
 refine fc<|fa<|?_
 refine ff rfl (fU (cs := (fj p0 b a)) rfl rfl rfl (fun o => ?_))
 refine Ea Z<|fb<|fc<|fa<|EF 5 Z<|El (sv b) Z (Rb0 Z)<|Eq Z (gp (T := fX) i rfl rfl)<|EF 6 Z<|El (sv a) Z (Rb0 Z)<|?_
 obtain ⟨x10, l, H⟩ := bnd H
 refine ff rfl (Ek Tryz.call106 Z (Fj (p0.cases.length : Int) p0.draws a x10 l _ _ j) ?_)
 rintro _ n _ q ⟨c, m, rfl, rfl, k⟩
 refine Ea Z<|fb<|fz<|?_
 obtain p := gu H
 subst d
 refine ⟨(by first|exact .inl rfl|exact .inr rfl), [(sv c)], ⟨(sv c), _, rfl, rfl, rfl⟩, ?_⟩
 exact Re1<|Sd<|⟨c, m, rfl, rfl, k⟩
end Go.Hx
namespace Go.Hx
open Go Go.Proofs
set_option maxRecDepth 10000
set_option maxHeartbeats 1000000
theorem Dt (p0 : fV) (b : SV) (c : SV) (p1 : Int) (p2 : Op) (a : SV) (d : SV) (e : Int) (H : r6 p0 p1 p2 = some e) (K : Kp) (G : List Ent) (L : Slr fK K (sv b) p0.chans) (M : Slr fR K (sv c) p0.waiting) (t : Slr fX K (sv a) p2.cases) (N : Slr Ty.i64 K (sv d) p2.draws) :
  Fc Tryz.prog 42 #[(.agg (fh p0 b c).toArray), (Vi p1), (.agg (fj p2 a d).toArray)] K (G) (fun v q f => v = (Vi e) ∧ G = f) := by
 refine fN Tryz.func42 rfl Tryz.ntmps42 Tryz.results42 rfl ?_
 unfold r6 at H
 refine fc<|fa<|?_
 refine ff rfl (fU (cs := (fh p0 b c)) rfl rfl rfl (fun r => ?_))
 refine ff rfl (fU (cs := (fj p2 a d)) rfl rfl rfl (fun s => ?_))
 refine Ea Z<|fb<|fc<|fa<|EL 7 (fj p2 a d) Z (Rb0 Z)<|?_
 obtain ⟨D, V, H⟩ := bnd H
 refine ff rfl (Ek Tryz.call78 Z (Fg p2 a d D V _ _ t N) ?_)
 rintro _ ad _ n ⟨B, W, rfl, rfl, Q⟩
 refine Ea Z<|fb<|?_
 refine fA (fun l q f => [] = l ∧ G = f ∧ zv = some e) ?_ ?_
 ·refine fc<|fa<|Ea Z<|fb<|fC<|?_
  refine ga (fun n261 l q f => ∃ (i : Int), [(1, (Vi p1)), (3, (Vp r)), (5, (Vp s)), (7, (sv B)), (8, (Vi i))] = l ∧ (.blk s 51 (fj p2 a d)) :: (.blk r 60 (fh p0 b c)) :: (.row (sv B) 3 1 W.flatten) :: G = f ∧ lp1 (r5 p1 D p2 p0) n261 i = some e) BIG ?_ ?_
  ·exact Pu2<|Pu2<|Sd<|⟨_, by exact R5, 0, rfl, rfl, H⟩
  rintro n261 _ aa _ j ⟨i, rfl, rfl, H⟩
  obtain ⟨ag, af, rfl, J, H⟩ := oe H
  unfold r5 at H
  refine fc<|fc<|fa<|Em Z<|Em Z<|?_
  have h := Q.mono j
  refine Eq Z (mZ (T := Ty.i64) Mb2 h rfl rfl rfl)<|Ec Z<|fb<|?_
  refine fp rfl ?_ ?_
  ·intro g
   obtain ⟨g, H⟩ := It g H
   refine fy<|fc<|fC<|fc<|?_
   obtain ⟨X, y, H⟩ := bnd H
   obtain ⟨C, z, H⟩ := bnd H
   obtain ⟨Y, U, H⟩ := bnd H
   refine fx _ rfl (Ic Mb0 (Ic Mb1 (Ic Mb2 In0)))<|JL 0 3 (fh p0 b c) Z (Rb1 Z)<|Jm 1 Z<|JF 2 5 Z<|Jl 3 (sv a) Z (Rb0 Z)<|Jm 4 Z<|Jm 5 Z<|?_
   obtain ⟨ah, u, O⟩ := RowR.at h y
   obtain rfl := O
   refine Jq 6 Z (gP (T := Ty.i64) Mb2 h u (fO y).1 rfl rfl rfl rfl rfl)<|Jl 7 (Vi X) Z (ie (T := Ty.i64) Mb2 h u rfl rfl)<|?_
   have x := (t.mono n).mono j
   obtain ⟨_, rfl, I⟩ := Slr.at x z
   refine Jq 8 Z (Qi (T := fX) x z Z)<|JL 9 3 (fk C) Z (Rdc.k I rfl)<|?_
   refine Ao 10 Z ?_
   have R := (L.mono n).mono j
   have S := (M.mono n).mono j
   refine Ek Tryz.call43 Z (yd p0 b c p1 C Y U _ _ R S) ?_
   rintro _ ab _ F ⟨rfl, rfl⟩
   refine ⟨(Ic Mb0 (Ic Mb1 (Ic Mb2 In0))), ?_⟩
   refine Ad ?_
   refine fp rfl ?_ ?_
   ·intro m
    have H := ift m H
    refine fc<|fa<|Em Z<|Em Z<|?_
    obtain ⟨p, A, H⟩ := bnd H
    have o := h.mono F
    obtain ⟨ai, w, P⟩ := RowR.at o A
    obtain rfl := P
    refine Eq Z (gP (T := Ty.i64) Mb2 o w (fO A).1 rfl rfl rfl rfl rfl)<|El (Vi p) Z (ie (T := Ty.i64) Mb2 o w rfl rfl)<|Ea Z<|fb<|fz<|?_
    obtain E := gu H
    subst e
    refine ⟨(by first|exact .inl rfl|exact .inr rfl), [(Vi p)], ⟨(Vi p), _, rfl, rfl, rfl⟩, ?_⟩
    exact Re0<|Re0<|Re0<|Sd<|⟨rfl, rfl⟩
   ·intro m
    have H := f5 (btf m) H
    exact fy<|fa<|Em Z<|Er (wI (i + 1)) Z<|Ea Z<|fb<|Pu2<|Pu2<|Pu2<|Sd<|⟨_, by exact R5, _, Nat.lt_succ_self _, (wI (i + 1)), rfl, rfl, (J ▸ H)⟩
  ·intro g
   obtain ⟨g, H⟩ := If g H
   exact ge<|Re0<|Re0<|Re0<|Sd<|⟨[], trivial, rfl, rfl, H⟩
 rintro _ ac _ ae ⟨rfl, rfl, H⟩
 unfold zv at H
 refine fc<|fa<|Ea Z<|fb<|fz<|?_
 obtain E := gu H
 subst e
 refine ⟨(by first|exact .inl rfl|exact .inr rfl), [(Vi (-1))], ⟨(Vi (-1)), _, rfl, rfl, rfl⟩, ?_⟩
 exact Sd ⟨rfl, rfl⟩
theorem l0 (p0 : fV) (d : SV) (c : SV) (p1 : Int) (p2 : Op) (aD : SV) (aE : SV) (p3 : Int) (p4 : Case) (i : fV) (u : ae2) (H : r7 p0 p1 p2 p3 p4 = some (i, u)) (K : Kp) (G : List Ent) (y : Slr fK K (sv d) p0.chans) (C : Slr fR K (sv c) p0.waiting) (ch : Slr fX K (sv aD) p2.cases) (ci : Slr Ty.i64 K (sv aE) p2.draws) :
  Fc Tryz.prog 45 #[(.agg (fh p0 d c).toArray), (Vi p1), (.agg (fj p2 aD aE).toArray), (Vi p3), (.agg (fk p4).toArray)] K (G) (fun v j B => ∃ (bZ : SV) (b0 : SV) (ba : SV), v = (.tuple #[(.agg (fh i bZ b0).toArray), (sv ba)]) ∧ (.tok 67 6 [(sv ba)]) :: G = B ∧ Slr fK j (sv bZ) i.chans ∧ Slr fR j (sv b0) i.waiting ∧ Slr f0 j (sv ba) u) := by
 refine fN Tryz.func45 rfl Tryz.ntmps45 Tryz.results45 rfl ?_
 unfold r7 at H
 refine fc<|fa<|?_
 refine ff rfl (fU (cs := (fh p0 d c)) rfl rfl rfl (fun X => ?_))
 refine ff rfl (fU (cs := (fj p2 aD aE)) rfl rfl rfl (fun ew => ?_))
 refine ff rfl (fU (cs := (fk p4)) rfl rfl rfl (fun Y => ?_))
 refine ff rfl (fE (cs := (fh (fV.mk [] [] 0) fB fB)) rfl rfl rfl rfl (fun F => ?_))
 refine Ea Z<|fb<|fc<|fa<|EF 0 Z<|El (sv d) Z (Rb3 Z)<|EF 1 Z<|El (Vi p4.channel) Z (Rb1 Z)<|?_
 obtain ⟨b, bS, H⟩ := bnd H
 obtain ⟨eE, cj, cd⟩ := Slr.at y bS
 obtain ⟨w, rfl, aI⟩ := cj
 refine Eq Z (Qi (T := fK) y bS Z)<|EL 3 (ft b w) Z (Rdc.k cd rfl)<|?_
 refine ff rfl (fE (cs := (ft (fG.mk 0 [] false) fB)) rfl rfl rfl rfl (fun aa => ?_))
 refine ff rfl (fm (vs := (ft b w)) (all' := (ft b w)) rfl rfl rfl rfl rfl .here rfl rfl rfl ?_)
 refine fb<|fc<|fa<|EL 7 (fj p2 aD aE) Z (Rb3 Z)<|Em Z<|?_
 obtain ⟨a, dL, H⟩ := bnd H
 refine ff rfl (Ek Tryz.call75 Z (nQ p2 aD aE p3 a dL _ _ ch ci) ?_)
 rintro _ _ _ - ⟨rfl, rfl, rfl⟩
 refine Ea Z<|fb<|fc<|fa<|EL 3 (fh p0 d c) Z (Rb4 Z)<|Em Z<|EL 3 (fk p4) Z (Rb2 Z)<|?_
 obtain ⟨W, dM, H⟩ := bnd H
 refine ff rfl (Ek Tryz.call80 Z (yb p0 d c p1 p4 W dM _ _ y C) ?_)
 rintro _ x _ g ⟨rfl, rfl⟩
 refine Ea Z<|fb<|fc<|fc<|fa<|EF 0 Z<|El (.bool p4.send) Z (Rb2 Z)<|fb<|?_
 refine fp rfl ?_ ?_
 ·intro aL
  have H := ift aL H
  refine fc<|fc<|fa<|EF 2 Z<|El (.bool b.closed) Z (Rb0 Z)<|fb<|?_
  refine fp rfl ?_ ?_
  ·intro aM
   have H := ift aM H
   refine fc<|fa<|EL 3 (fh p0 d c) Z (Rb4 Z)<|Em Z<|Em Z<|Eq Z (fH (cs := (fe (Result.mk 5 a 0 false 0))) rfl rfl rfl rfl rfl rfl)<|Eq Z (fH (cs := (fL (Done.mk p1 (Result.mk 5 a 0 false 0)))) rfl rfl rfl rfl rfl rfl)<|?_
   have bw : RowR f0 x [(fL (Done.mk p1 (Result.mk 5 a 0 false 0)))] [(Done.mk p1 (Result.mk 5 a 0 false 0))] := RowR.cons rfl (RowR.nil)
   refine ff rfl (gh (T := f0) (rows := [(fL (Done.mk p1 (Result.mk 5 a 0 false 0)))]) (l := [(Done.mk p1 (Result.mk 5 a 0 false 0))]) rfl rfl rfl bw rfl rfl rfl rfl rfl rfl rfl rfl (fun a1 => ?_))
   refine ff rfl (fm (vs := (fh p0 d c)) (all' := (fh p0 d c)) rfl rfl rfl rfl rfl (.there (.there .here)) rfl rfl rfl ?_)
   refine Ea Z<|fb<|fz<|?_
   obtain ⟨N, O⟩ := ig H
   subst i u
   refine ⟨(by first|exact .inl rfl|exact .inr rfl), [(.agg (fh p0 d c).toArray), (sv a1)], ⟨(.agg (fh p0 d c).toArray), _, rfl, ⟨_, 3, (fh p0 d c), rfl, rfl, rfl, rfl, ⟨rfl, Rb2 Z⟩, rfl⟩, ⟨(sv a1), _, rfl, rfl, rfl⟩⟩, ?_⟩
   refine Shift.settle (T := f0) .here bw rfl ?_
   intro ed bk cN
   refine Re1<|Re1<|Re1<|Re1<|Re1<|?_
   have cO := (y.mono g).mono bk
   have cP := (C.mono g).mono bk
   exact Sd ⟨d, c, a1, rfl, rfl, cO, cP, cN⟩
  ·intro aM
   have H := f5 (btf aM) H
   refine fy<|fc<|fa<|Em Z<|Em Z<|Eq Z (fH (cs := (fe (Result.mk 1 a 0 false 0))) rfl rfl rfl rfl rfl rfl)<|Eq Z (fH (cs := (fL (Done.mk p1 (Result.mk 1 a 0 false 0)))) rfl rfl rfl rfl rfl rfl)<|?_
   have aP : RowR f0 x [(fL (Done.mk p1 (Result.mk 1 a 0 false 0)))] [(Done.mk p1 (Result.mk 1 a 0 false 0))] := RowR.cons rfl (RowR.nil)
   refine ff rfl (gh (T := f0) (rows := [(fL (Done.mk p1 (Result.mk 1 a 0 false 0)))]) (l := [(Done.mk p1 (Result.mk 1 a 0 false 0))]) rfl rfl rfl aP rfl rfl rfl rfl rfl rfl rfl rfl (fun ah => ?_))
   refine Ea Z<|fb<|fc<|fc<|fa<|Em Z<|Ec Z<|fb<|?_
   refine fp rfl ?_ ?_
   ·intro aw
    obtain ⟨aw, H⟩ := It aw H
    refine fc<|fa<|EF 1 Z<|El (sv c) Z (Rb5 Z)<|Em Z<|?_
    obtain ⟨E, bT, H⟩ := bnd H
    have aR := C.mono g
    obtain ⟨eF, ck, ce⟩ := Slr.at aR bT
    obtain ⟨R, S, rfl, cQ, cR⟩ := ck
    refine Eq Z (Qi (T := fR) aR bT Z)<|EL 8 (gi E R S) Z (Rdc.k ce rfl)<|?_
    refine ff rfl (fE (cs := (gi (gq.mk 0 (Op.mk 0 0 0 0 0 [] [])) fB fB)) rfl rfl rfl rfl (fun ex => ?_))
    refine ff rfl (fm (vs := (gi E R S)) (all' := (gi E R S)) rfl rfl rfl rfl rfl .here rfl rfl rfl ?_)
    refine fb<|fc<|?_
    obtain ⟨ar, dN, H⟩ := bnd H
    obtain ⟨b4, dO, H⟩ := bnd H
    obtain ⟨bb, dP, H⟩ := bnd H
    obtain ⟨d2, dQ, H⟩ := bnd H
    refine fx _ rfl (Ic Mb0 (Ic Mb2 (Ic Mb4 (Ic Mb5 (Ic Mb6 In0)))))<|JL 0 3 (fh p0 d c) Z (Rb4 Z)<|Jm 1 Z<|Jm 3 Z<|JF 4 0 Z<|Jl 5 (Vi E.thread) Z (Rb0 Z)<|JF 6 1 Z<|JL 7 7 (fj E.op R S) Z (Rb0 Z)<|JF 8 1 Z<|JL 9 7 (fj E.op R S) Z (Rb0 Z)<|JF 10 1 Z<|Jl 11 (Vi p4.channel) Z (Rb2 Z)<|JF 14 2 Z<|Jl 15 (.int .u64 p4.value) Z (Rb2 Z)<|?_
    refine Ao 2 Z ?_
    have cS := y.mono g
    refine Ek Tryz.call76 Z (xp p0 d c W ar dN _ _ cS aR) ?_
    rintro _ ee _ aN ⟨ai, aj, rfl, rfl, cT, cU⟩
    refine ⟨(Ic Mb1 (Ic Mb3 (Ic Mb5 (Ic Mb6 (Ic Mb7 In0))))), ?_⟩
    refine Ao 12 Z ?_
    have bJ := cQ.mono aN
    have bK := cR.mono aN
    refine Ek Tryz.call74 Z (qF E.op R S p4.channel false b4 dO _ _ bJ bK) ?_
    rintro _ ef _ aB ⟨rfl, rfl⟩
    refine ⟨(Ic Mb1 (Ic Mb3 (Ic Mb5 (Ic Mb6 (Ic Mb7 In0))))), ?_⟩
    refine Ao 13 Z ?_
    have cV := bJ.mono aB
    have cW := bK.mono aB
    refine Ek Tryz.call75 Z (nQ E.op R S b4 bb dP _ _ cV cW) ?_
    rintro _ _ _ - ⟨rfl, rfl, rfl⟩
    refine ⟨(Ic Mb1 (Ic Mb3 (Ic Mb5 (Ic Mb6 (Ic Mb7 In0))))), ?_⟩
    refine Jq 16 Z (fH (cs := (fe (Result.mk 2 bb p4.value true 0))) rfl rfl rfl rfl rfl rfl) ?_
    refine Ao 17 Z ?_
    have cY := (aP.mono aN).mono aB
    refine OpW.shift (Shift.settle (T := f0) (.there (.there .here)) cY rfl (fun eg bl cX => Sd ?_))
    refine Ek Tryz.call77 Z (qG [(Done.mk p1 (Result.mk 1 a 0 false 0))] ah E.thread (Result.mk 2 bb p4.value true 0) d2 dQ _ _ cX) ?_
    rintro _ eh _ bm ⟨a2, rfl, rfl, cZ⟩
    refine ⟨(Ic Mb2 (Ic Mb4 (Ic Mb6 (Ic Mb7 (Ic Mb8 In0))))), ?_⟩
    refine Ao 18 Z ?_
    refine fm (vs := (fh ar ai aj)) (all' := (fh ar ai aj)) rfl rfl rfl rfl rfl (.there (.there (.there (.there (.there .here))))) rfl rfl rfl ⟨(Ic Mb2 (Ic Mb4 (Ic Mb6 (Ic Mb7 (Ic Mb8 In0))))), ?_⟩
    refine Ja 19 Z<|Ad<|fz<|?_
    obtain ⟨N, O⟩ := ig H
    subst i u
    refine ⟨(by first|exact .inl rfl|exact .inr rfl), [(.agg (fh ar ai aj).toArray), (sv a2)], ⟨(.agg (fh ar ai aj).toArray), _, rfl, ⟨_, 3, (fh ar ai aj), rfl, rfl, rfl, rfl, ⟨rfl, Rb5 Z⟩, rfl⟩, ⟨(sv a2), _, rfl, rfl, rfl⟩⟩, ?_⟩
    refine Re1<|Re1<|Re1<|Re1<|Re1<|Re1<|Re1<|Re1<|?_
    have c0 := ((cT.mono aB).mono bl).mono bm
    have c1 := ((cU.mono aB).mono bl).mono bm
    exact Sd ⟨ai, aj, a2, rfl, rfl, c0, c1, cZ⟩
   ·intro aw
    obtain ⟨aw, H⟩ := If aw H
    refine fy ?_
    refine fA (fun M j B => ∃ (ak : SV) (ag : ad1), [(5, (Vp X)), (9, (Vp Y)), (10, (Vp F)), (12, (Vp aa)), (15, (sv ah))] = M ∧ (.blk aa 104 (ft (fG.mk b.capacity ag b.closed) ak)) :: (.blk F 60 (fh (fV.mk [] [] 0) fB fB)) :: (.blk Y 108 (fk p4)) :: (.blk X 60 (fh p0 d c)) :: (.tok 36 1 [(sv ak)]) :: (.row (sv ah) 67 6 [(fL (Done.mk p1 (Result.mk 1 a 0 false 0)))].flatten) :: G = B ∧ we p1 a b p4 p0 ag = some (i, u) ∧ Slr Ty.u64 j (sv ak) ag) ?_ ?_
    ·obtain ⟨eT, aU, H⟩ := bnd H
     obtain ⟨au, aV, H⟩ := bnd H
     refine fx _ rfl (Ic Mb0 (Ic Mb2 (Ic Mb3 (Ic Mb4 (Ic Mb5 In0)))))<|JF 0 1 Z<|JF 3 2 Z<|Jl 4 (.int .u64 p4.value) Z (Rb2 Z)<|?_
     refine gX 1 5 (by kernel_rfl) ?_ ?_
     ·refine id (Jyq Z (gv (v := (sv w)) rfl rfl rfl (Rb1 Z)) ⟨(Ic Mb0 (Ic Mb2 (Ic Mb3 (Ic Mb4 (Ic Mb5 In0))))), ?_⟩)
      refine gX 2 5 (by kernel_rfl) ?_ ?_
      ·refine id (Jy Z ?_)
       refine OpW.shift (Shift.nilTok1 36 1 (Sd ?_))
       have c3 := aI.mono g
       refine f6 (T := Ty.u64) (bytes := 8) (q := 0) rfl rfl rfl (Slr.nil Ty.u64 _) Mb0 rfl (SrcT.sl c3) aU rfl rfl rfl rfl rfl rfl rfl rfl (fun eM b7 eA c4 => ⟨_, .here, ⟨(Ic Mb1 (Ic Mb3 (Ic Mb4 (Ic Mb5 (Ic Mb6 In0))))), ?_⟩⟩)
       refine Ao 5 Z ?_
       have bx : RowR Ty.u64 b7 [[(.int .u64 p4.value)]] [p4.value] := RowR.cons rfl (RowR.nil)
       refine gh (T := Ty.u64) (rows := [[(.int .u64 p4.value)]]) (l := [p4.value]) rfl rfl rfl bx rfl rfl rfl rfl rfl rfl rfl rfl (fun eN => ⟨(Ic Mb2 (Ic Mb4 (Ic Mb5 (Ic Mb6 (Ic Mb7 In0))))), ?_⟩)
       refine Ao 6 Z ?_
       refine f6 (T := Ty.u64) (bytes := 8) (q := 0) rfl rfl rfl c4 Mb1 rfl (SrcT.row Mb0 bx rfl) aV rfl rfl rfl rfl rfl rfl rfl rfl (fun a3 ei eB c5 => ⟨_, (.there .here), ⟨(Ic Mb2 (Ic Mb4 (Ic Mb5 (Ic Mb6 (Ic Mb7 In0))))), ?_⟩⟩)
       refine Aw.shift (Re0 (Sd ⟨(Ic Mb1 (Ic Mb3 (Ic Mb4 (Ic Mb5 (Ic Mb6 In0))))), ?_⟩))
       refine JF 7 1 Z ?_
       refine Ao 8 Z ?_
       refine fm (vs := [(sv a3)]) (all' := (ft (fG.mk b.capacity au b.closed) a3)) rfl rfl rfl rfl rfl (.there (.there .here)) rfl rfl rfl ⟨(Ic Mb1 (Ic Mb3 (Ic Mb4 (Ic Mb5 (Ic Mb6 In0))))), ?_⟩
       exact Ad<|Pu1<|Pu1<|Pu6<|Pu5<|Pu5<|Pu5<|Re6<|Sd<|⟨_, by exact R5, a3, au, rfl, rfl, H, c5⟩
      ·refine id (Jy Z ?_)
       have bz : RowR Ty.u64 x [[(.int .u64 p4.value)]] [p4.value] := RowR.cons rfl (RowR.nil)
       refine gh (T := Ty.u64) (rows := [[(.int .u64 p4.value)]]) (l := [p4.value]) rfl rfl rfl bz rfl rfl rfl rfl rfl rfl rfl rfl (fun eO => ⟨(Ic Mb1 (Ic Mb3 (Ic Mb4 (Ic Mb5 (Ic Mb6 In0))))), ?_⟩)
       refine Ao 2 Z ?_
       refine OpW.shift (Shift.nilTok1 36 1 (Sd ?_))
       have c6 := aI.mono g
       refine f6 (T := Ty.u64) (bytes := 8) (q := 0) rfl rfl rfl (Slr.nil Ty.u64 _) Mb0 rfl (SrcT.sl c6) aU rfl rfl rfl rfl rfl rfl rfl rfl (fun eP ej b8 c7 => ⟨_, .here, ⟨(Ic Mb2 (Ic Mb4 (Ic Mb5 (Ic Mb6 (Ic Mb7 In0))))), ?_⟩⟩)
       refine Ao 6 Z ?_
       have c8 := bz.mono b8
       refine f6 (T := Ty.u64) (bytes := 8) (q := 0) rfl rfl rfl c7 Mb0 rfl (SrcT.row Mb1 c8 rfl) aV rfl rfl rfl rfl rfl rfl rfl rfl (fun a4 ek eC c9 => ⟨_, .here, ⟨(Ic Mb2 (Ic Mb4 (Ic Mb5 (Ic Mb6 (Ic Mb7 In0))))), ?_⟩⟩)
       refine Aw.shift (Re1 (Sd ⟨(Ic Mb1 (Ic Mb3 (Ic Mb4 (Ic Mb5 (Ic Mb6 In0))))), ?_⟩))
       refine JF 7 1 Z ?_
       refine Ao 8 Z ?_
       refine fm (vs := [(sv a4)]) (all' := (ft (fG.mk b.capacity au b.closed) a4)) rfl rfl rfl rfl rfl (.there (.there .here)) rfl rfl rfl ⟨(Ic Mb1 (Ic Mb3 (Ic Mb4 (Ic Mb5 (Ic Mb6 In0))))), ?_⟩
       exact Ad<|Pu1<|Pu1<|Pu6<|Pu5<|Pu5<|Pu5<|Re6<|Sd<|⟨_, by exact R5, a4, au, rfl, rfl, H, c9⟩
     ·refine id (Jy Z ?_)
      have bA : RowR Ty.u64 x [[(.int .u64 p4.value)]] [p4.value] := RowR.cons rfl (RowR.nil)
      refine gh (T := Ty.u64) (rows := [[(.int .u64 p4.value)]]) (l := [p4.value]) rfl rfl rfl bA rfl rfl rfl rfl rfl rfl rfl rfl (fun eQ => ⟨(Ic Mb1 (Ic Mb3 (Ic Mb4 (Ic Mb5 (Ic Mb6 In0))))), ?_⟩)
      refine gG 1 (by kernel_rfl) (Jyq Z (gv (v := (sv w)) rfl rfl rfl (Rb2 Z)) ⟨(Ic Mb1 (Ic Mb3 (Ic Mb4 (Ic Mb5 (Ic Mb6 In0))))), ?_⟩)
      refine Ao 2 Z ?_
      refine OpW.shift (Shift.nilTok1 36 1 (Sd ?_))
      have da := aI.mono g
      refine f6 (T := Ty.u64) (bytes := 8) (q := 0) rfl rfl rfl (Slr.nil Ty.u64 _) Mb0 rfl (SrcT.sl da) aU rfl rfl rfl rfl rfl rfl rfl rfl (fun eR el b9 db => ⟨_, .here, ⟨(Ic Mb2 (Ic Mb4 (Ic Mb5 (Ic Mb6 (Ic Mb7 In0))))), ?_⟩⟩)
      refine Ao 6 Z ?_
      have dc := bA.mono b9
      refine f6 (T := Ty.u64) (bytes := 8) (q := 0) rfl rfl rfl db Mb0 rfl (SrcT.row Mb1 dc rfl) aV rfl rfl rfl rfl rfl rfl rfl rfl (fun a5 em eD dd => ⟨_, .here, ⟨(Ic Mb2 (Ic Mb4 (Ic Mb5 (Ic Mb6 (Ic Mb7 In0))))), ?_⟩⟩)
      refine Aw.shift (Re1 (Sd ⟨(Ic Mb1 (Ic Mb3 (Ic Mb4 (Ic Mb5 (Ic Mb6 In0))))), ?_⟩))
      refine JF 7 1 Z ?_
      refine Ao 8 Z ?_
      refine fm (vs := [(sv a5)]) (all' := (ft (fG.mk b.capacity au b.closed) a5)) rfl rfl rfl rfl rfl (.there (.there .here)) rfl rfl rfl ⟨(Ic Mb1 (Ic Mb3 (Ic Mb4 (Ic Mb5 (Ic Mb6 In0))))), ?_⟩
      exact Ad<|Pu1<|Pu1<|Pu6<|Pu5<|Pu5<|Pu5<|Re6<|Sd<|⟨_, by exact R5, a5, au, rfl, rfl, H, dd⟩
    rintro _ en _ aO ⟨ak, ag, rfl, rfl, H, c2⟩
    unfold we at H
    refine fc<|fa<|EL 3 (fh p0 d c) Z (Rb3 Z)<|EF 1 Z<|El (Vi p4.channel) Z (Rb2 Z)<|EL 3 (ft (fG.mk b.capacity ag b.closed) ak) Z (Rb0 Z)<|?_
    obtain ⟨av, dR, H⟩ := bnd H
    have de := (y.mono g).mono aO
    have df := (C.mono g).mono aO
    refine ff rfl (Ek Tryz.call73 Z (nP p0 d c p4.channel (fG.mk b.capacity ag b.closed) ak av dR _ _ de df c2) ?_)
    rintro _ _ _ - ⟨al, eI, am, rfl, rfl, rfl, dg, dh⟩
    refine Em Z ?_
    refine ff rfl (fm (vs := (fh av al am)) (all' := (fh av al am)) rfl rfl rfl rfl rfl (.there (.there .here)) rfl rfl rfl ?_)
    refine Ea Z<|fb<|fz<|?_
    obtain ⟨N, O⟩ := ig H
    subst i u
    refine ⟨(by first|exact .inl rfl|exact .inr rfl), [(.agg (fh av al am).toArray), (sv ah)], ⟨(.agg (fh av al am).toArray), _, rfl, ⟨_, 3, (fh av al am), rfl, rfl, rfl, rfl, ⟨rfl, Rb2 Z⟩, rfl⟩, ⟨(sv ah), _, rfl, rfl, rfl⟩⟩, ?_⟩
    refine Shift.settle (T := fK) .here dg rfl ?_
    intro eo bn di
    have dk := (aP.mono aO).mono bn
    refine Shift.settle (T := f0) (.there (.there (.there (.there (.there (.there .here)))))) dk rfl ?_
    intro ep bo dj
    refine Pu6<|Re1<|Re1<|Re1<|Re1<|Re1<|Re1<|?_
    have dl := di.mono bo
    have dm := (dh.mono bn).mono bo
    exact Sd ⟨al, am, ah, rfl, rfl, dl, dm, dj⟩
 ·intro aL
  have H := f5 (btf aL) H
  refine fy<|fc<|fa<|Em Z<|Eq Z (fH (cs := (fe (Result.mk 2 a 0 false 0))) rfl rfl rfl rfl rfl rfl)<|?_
  refine ff rfl (fE (cs := (fe (Result.mk 0 0 0 false 0))) rfl rfl rfl rfl (fun aH => ?_))
  refine ff rfl (fm (vs := (fe (Result.mk 2 a 0 false 0))) (all' := (fe (Result.mk 2 a 0 false 0))) rfl rfl rfl rfl rfl .here rfl rfl rfl ?_)
  refine fb ?_
  refine fA (fun M j B => ∃ (f : Int) (e : Bool) (L : SV) (J : ad1), [(1, (Vi p1)), (5, (Vp X)), (9, (Vp Y)), (10, (Vp F)), (12, (Vp aa)), (14, (Vi W)), (17, (Vp aH))] = M ∧ x = j ∧ (.blk aH 38 (fe (Result.mk 2 a f e 0))) :: (.blk aa 104 (ft (fG.mk b.capacity J b.closed) L)) :: (.blk F 60 (fh (fV.mk [] [] 0) fB fB)) :: (.blk Y 108 (fk p4)) :: (.blk X 60 (fh p0 d c)) :: G = B ∧ s5 p1 W a b p4 p0 f e J = some (i, u) ∧ Slr Ty.u64 j (sv L) J) ?_ ?_
  ·refine fc<|fa<|EF 1 Z<|El (sv w) Z (Rb1 Z)<|?_
   have ad := aI.mono g
   refine Eq Z (gp (T := Ty.u64) ad rfl rfl)<|Ec Z<|fb<|?_
   refine fp rfl ?_ ?_
   ·intro ax
    obtain ⟨ax, H⟩ := It ax H
    refine fc<|fa<|EF 1 Z<|El (sv w) Z (Rb1 Z)<|?_
    obtain ⟨aF, bU, H⟩ := bnd H
    obtain ⟨_, rfl, cf⟩ := Slr.at ad bU
    refine Eq Z (Qi (T := Ty.u64) ad bU Z)<|El (.int .u64 aF) Z (Rdc.k cf rfl)<|EF 2 Z<|?_
    refine ff rfl (fm (vs := [(.int .u64 aF)]) (all' := (fe (Result.mk 2 a aF false 0))) rfl rfl rfl rfl rfl .here rfl rfl rfl ?_)
    refine EF 3 Z ?_
    refine ff rfl (fm (vs := [(.bool true)]) (all' := (fe (Result.mk 2 a aF true 0))) rfl rfl rfl rfl rfl .here rfl rfl rfl ?_)
    refine fb<|fa<|EF 1 Z<|El (sv w) Z (Rb1 Z)<|?_
    obtain ⟨b5, bV, H⟩ := bnd H
    have dn := Slr.cutL ad bV
    refine Eq Z (lX (T := Ty.u64) ad bV rfl rfl rfl rfl rfl)<|EF 1 Z<|?_
    refine ff rfl (fm (vs := [(sv (jz w 1 ((1 : Int).toNat) b.buffer.length))]) (all' := (ft (fG.mk b.capacity b5 b.closed) (jz w 1 ((1 : Int).toNat) b.buffer.length))) rfl rfl rfl rfl rfl (.there .here) rfl rfl rfl ?_)
    exact fb<|Pu5<|Pu4<|Pu4<|Pu4<|Pu4<|Re5<|Sd<|⟨_, by exact R7, aF, true, (jz w 1 ((1 : Int).toNat) b.buffer.length), b5, rfl, rfl, rfl, H, dn⟩
   ·intro ax
    obtain ⟨ax, H⟩ := If ax H
    refine fc<|fa<|Em Z<|Ec Z<|fb<|?_
    refine fp rfl ?_ ?_
    ·intro ay
     obtain ⟨ay, H⟩ := It ay H
     refine fc<|fx _ rfl (Ic Mb0 (Ic Mb1 (Ic Mb3 (Ic Mb4 (Ic Mb5 In0)))))<|JL 0 3 (fh p0 d c) Z (Rb4 Z)<|Jm 1 Z<|JL 2 5 (fe (Result.mk 2 a 0 false 0)) Z (Rb0 Z)<|Jq 3 Z (fH (cs := (fL (Done.mk p1 (Result.mk 2 a 0 false 0)))) rfl rfl rfl rfl rfl rfl)<|?_
     refine gX 4 5 (by kernel_rfl) ?_ ?_
     ·refine id (Jy Z ?_)
      have bB : RowR f0 x [(fL (Done.mk p1 (Result.mk 2 a 0 false 0)))] [(Done.mk p1 (Result.mk 2 a 0 false 0))] := RowR.cons rfl (RowR.nil)
      refine gh (T := f0) (rows := [(fL (Done.mk p1 (Result.mk 2 a 0 false 0)))]) (l := [(Done.mk p1 (Result.mk 2 a 0 false 0))]) rfl rfl rfl bB rfl rfl rfl rfl rfl rfl rfl rfl (fun a6 => ⟨(Ic Mb1 (Ic Mb2 (Ic Mb4 (Ic Mb5 (Ic Mb6 In0))))), ?_⟩)
      refine Ao 5 Z ?_
      refine fm (vs := (fh p0 d c)) (all' := (fh p0 d c)) rfl rfl rfl rfl rfl (.there (.there (.there .here))) rfl rfl rfl ⟨(Ic Mb1 (Ic Mb2 (Ic Mb4 (Ic Mb5 (Ic Mb6 In0))))), ?_⟩
      refine Ja 6 Z<|Ad<|fz<|?_
      obtain ⟨N, O⟩ := ig H
      subst i u
      refine ⟨(by first|exact .inl rfl|exact .inr rfl), [(.agg (fh p0 d c).toArray), (sv a6)], ⟨(.agg (fh p0 d c).toArray), _, rfl, ⟨_, 3, (fh p0 d c), rfl, rfl, rfl, rfl, ⟨rfl, Rb3 Z⟩, rfl⟩, ⟨(sv a6), _, rfl, rfl, rfl⟩⟩, ?_⟩
      refine Shift.settle (T := f0) .here bB rfl ?_
      intro er bp dp
      refine Re1<|Re1<|Re1<|Re1<|Re1<|Re1<|?_
      have dq := (y.mono g).mono bp
      have dr := (C.mono g).mono bp
      exact Sd ⟨d, c, a6, rfl, rfl, dq, dr, dp⟩
     ·refine id (Jy Z ?_)
      refine fm (vs := (fh p0 d c)) (all' := (fh p0 d c)) rfl rfl rfl rfl rfl (.there (.there .here)) rfl rfl rfl ⟨(Ic Mb0 (Ic Mb1 (Ic Mb3 (Ic Mb4 (Ic Mb5 In0))))), ?_⟩
      refine Ao 4 Z ?_
      have bC : RowR f0 x [(fL (Done.mk p1 (Result.mk 2 a 0 false 0)))] [(Done.mk p1 (Result.mk 2 a 0 false 0))] := RowR.cons rfl (RowR.nil)
      refine gh (T := f0) (rows := [(fL (Done.mk p1 (Result.mk 2 a 0 false 0)))]) (l := [(Done.mk p1 (Result.mk 2 a 0 false 0))]) rfl rfl rfl bC rfl rfl rfl rfl rfl rfl rfl rfl (fun a7 => ⟨(Ic Mb1 (Ic Mb2 (Ic Mb4 (Ic Mb5 (Ic Mb6 In0))))), ?_⟩)
      refine Ja 6 Z<|Ad<|fz<|?_
      obtain ⟨N, O⟩ := ig H
      subst i u
      refine ⟨(by first|exact .inl rfl|exact .inr rfl), [(.agg (fh p0 d c).toArray), (sv a7)], ⟨(.agg (fh p0 d c).toArray), _, rfl, ⟨_, 3, (fh p0 d c), rfl, rfl, rfl, rfl, ⟨rfl, Rb3 Z⟩, rfl⟩, ⟨(sv a7), _, rfl, rfl, rfl⟩⟩, ?_⟩
      refine Shift.settle (T := f0) .here bC rfl ?_
      intro es bq ds
      refine Re1<|Re1<|Re1<|Re1<|Re1<|Re1<|?_
      have dt := (y.mono g).mono bq
      have du := (C.mono g).mono bq
      exact Sd ⟨d, c, a7, rfl, rfl, dt, du, ds⟩
    ·intro ay
     obtain ⟨ay, H⟩ := If ay H
     exact fy<|Pu5<|Pu4<|Pu4<|Pu4<|Pu4<|Re5<|Sd<|⟨_, by exact R7, 0, false, w, b.buffer, rfl, rfl, rfl, H, ad⟩
  rintro _ _ _ - ⟨f, e, L, J, rfl, rfl, rfl, H, aJ⟩
  unfold s5 at H
  refine fc<|fc<|fa<|Em Z<|Ec Z<|fb<|?_
  refine fp rfl ?_ ?_
  ·intro az
   obtain ⟨az, H⟩ := It az H
   refine fA (fun M j B => ∃ (an : SV) (aW : List (List Value)) (U : SV) (P : ad0) (aX : List (List Value)) (V : SV) (Q : af0) (ae : Int), [(10, (Vp F)), (11, (sv an))] = M ∧ x = j ∧ (.blk F 60 (fh (fV.mk P Q ae) U V)) :: (.row (sv an) 67 6 aW.flatten) :: (.row (sv U) 104 3 aX.flatten) :: G = B ∧ zw p1 a f e P Q ae = some (i, u) ∧ RowR f0 j aW [(Done.mk p1 (Result.mk 2 a f e 0))] ∧ RowR fK j aX P ∧ Slr fR j (sv V) Q) ?_ ?_
   ·obtain ⟨h, bW, H⟩ := bnd H
    refine fx _ rfl (Ic Mb0 (Ic Mb1 (Ic Mb3 (Ic Mb4 In0))))<|JL 0 3 (fh p0 d c) Z (Rb3 Z)<|JF 1 1 Z<|Jl 2 (Vi p4.channel) Z (Rb2 Z)<|JL 3 3 (ft (fG.mk b.capacity J b.closed) L) Z (Rb1 Z)<|Jm 5 Z<|JL 6 5 (fe (Result.mk 2 a f e 0)) Z (Rb0 Z)<|Jq 7 Z (fH (cs := (fL (Done.mk p1 (Result.mk 2 a f e 0)))) rfl rfl rfl rfl rfl rfl)<|?_
    refine gX 4 8 (by kernel_rfl) ?_ ?_
    ·refine id (Jy Z ?_)
     have dw := y.mono g
     have dx := C.mono g
     refine Ek Tryz.call73 Z (nP p0 d c p4.channel (fG.mk b.capacity J b.closed) L h bW _ _ dw dx aJ) ?_
     rintro _ _ _ - ⟨ao, bY, ap, rfl, rfl, rfl, bL, bM⟩
     refine ⟨(Ic Mb1 (Ic Mb2 (Ic Mb4 (Ic Mb5 In0)))), ?_⟩
     refine gX 8 9 (by kernel_rfl) ?_ ?_
     ·refine id (Jy Z ?_)
      have bD : RowR f0 x [(fL (Done.mk p1 (Result.mk 2 a f e 0)))] [(Done.mk p1 (Result.mk 2 a f e 0))] := RowR.cons rfl (RowR.nil)
      refine gh (T := f0) (rows := [(fL (Done.mk p1 (Result.mk 2 a f e 0)))]) (l := [(Done.mk p1 (Result.mk 2 a f e 0))]) rfl rfl rfl bD rfl rfl rfl rfl rfl rfl rfl rfl (fun dZ => ⟨(Ic Mb2 (Ic Mb3 (Ic Mb5 (Ic Mb6 In0)))), ?_⟩)
      refine Ao 9 Z ?_
      refine fm (vs := (fh h ao ap)) (all' := (fh h ao ap)) rfl rfl rfl rfl rfl (.there (.there (.there (.there .here)))) rfl rfl rfl ⟨(Ic Mb2 (Ic Mb3 (Ic Mb5 (Ic Mb6 In0)))), ?_⟩
      exact Ja 10 Z<|Ad<|Pu1<|Pu1<|Pu4<|Re3<|Re3<|Re3<|Re3<|Sd<|⟨_, by exact R2, dZ, [(fL (Done.mk p1 (Result.mk 2 a f e 0)))], ao, h.chans, bY, ap, h.waiting, h.tick, rfl, rfl, rfl, H, bD, bL, bM⟩
     ·refine id (Jy Z ?_)
      refine fm (vs := (fh h ao ap)) (all' := (fh h ao ap)) rfl rfl rfl rfl rfl (.there (.there (.there .here))) rfl rfl rfl ⟨(Ic Mb1 (Ic Mb2 (Ic Mb4 (Ic Mb5 In0)))), ?_⟩
      refine Ao 8 Z ?_
      have bE : RowR f0 x [(fL (Done.mk p1 (Result.mk 2 a f e 0)))] [(Done.mk p1 (Result.mk 2 a f e 0))] := RowR.cons rfl (RowR.nil)
      refine gh (T := f0) (rows := [(fL (Done.mk p1 (Result.mk 2 a f e 0)))]) (l := [(Done.mk p1 (Result.mk 2 a f e 0))]) rfl rfl rfl bE rfl rfl rfl rfl rfl rfl rfl rfl (fun d0 => ⟨(Ic Mb2 (Ic Mb3 (Ic Mb5 (Ic Mb6 In0)))), ?_⟩)
      exact Ja 10 Z<|Ad<|Pu1<|Pu1<|Pu4<|Re3<|Re3<|Re3<|Re3<|Sd<|⟨_, by exact R2, d0, [(fL (Done.mk p1 (Result.mk 2 a f e 0)))], ao, h.chans, bY, ap, h.waiting, h.tick, rfl, rfl, rfl, H, bE, bL, bM⟩
    ·refine id (Jy Z ?_)
     have bF : RowR f0 x [(fL (Done.mk p1 (Result.mk 2 a f e 0)))] [(Done.mk p1 (Result.mk 2 a f e 0))] := RowR.cons rfl (RowR.nil)
     refine gh (T := f0) (rows := [(fL (Done.mk p1 (Result.mk 2 a f e 0)))]) (l := [(Done.mk p1 (Result.mk 2 a f e 0))]) rfl rfl rfl bF rfl rfl rfl rfl rfl rfl rfl rfl (fun d1 => ⟨(Ic Mb1 (Ic Mb2 (Ic Mb4 (Ic Mb5 In0)))), ?_⟩)
     refine Ao 4 Z ?_
     have dy := y.mono g
     have dz := C.mono g
     refine Ek Tryz.call73 Z (nP p0 d c p4.channel (fG.mk b.capacity J b.closed) L h bW _ _ dy dz aJ) ?_
     rintro _ _ _ - ⟨a8, dU, a9, rfl, rfl, rfl, dA, dB⟩
     refine ⟨(Ic Mb2 (Ic Mb3 (Ic Mb5 (Ic Mb6 In0)))), ?_⟩
     refine Ao 9 Z ?_
     refine fm (vs := (fh h a8 a9)) (all' := (fh h a8 a9)) rfl rfl rfl rfl rfl (.there (.there (.there (.there .here)))) rfl rfl rfl ⟨(Ic Mb2 (Ic Mb3 (Ic Mb5 (Ic Mb6 In0)))), ?_⟩
     exact Ja 10 Z<|Ad<|Pu1<|Pu4<|Re3<|Re3<|Re3<|Re3<|Sd<|⟨_, by exact R2, d1, [(fL (Done.mk p1 (Result.mk 2 a f e 0)))], a8, h.chans, dU, a9, h.waiting, h.tick, rfl, rfl, rfl, H, bF, dA, dB⟩
   rintro _ _ _ - ⟨an, aW, U, P, aX, V, Q, ae, rfl, rfl, rfl, H, ca, cb, dv⟩
   unfold zw at H
   refine fz ?_
   obtain ⟨N, O⟩ := ig H
   subst i u
   refine ⟨(by first|exact .inl rfl|exact .inr rfl), [(.agg (fh (fV.mk P Q ae) U V).toArray), (sv an)], ⟨(.agg (fh (fV.mk P Q ae) U V).toArray), _, rfl, ⟨_, 3, (fh (fV.mk P Q ae) U V), rfl, rfl, rfl, rfl, ⟨rfl, Rb0 Z⟩, rfl⟩, ⟨(sv an), _, rfl, rfl, rfl⟩⟩, ?_⟩
   refine Shift.settle (T := fK) (.there (.there .here)) cb rfl ?_
   intro et br dC
   have dE := ca.mono br
   refine Shift.settle (T := f0) (.there .here) dE rfl ?_
   intro eu bs dD
   refine Pu1<|Re1<|Re1<|?_
   have dF := dC.mono bs
   have dG := (dv.mono br).mono bs
   exact Sd ⟨U, V, an, rfl, rfl, dF, dG, dD⟩
  ·intro az
   obtain ⟨az, H⟩ := If az H
   refine fy<|fc<|fa<|EF 1 Z<|El (sv c) Z (Rb4 Z)<|Em Z<|?_
   obtain ⟨s, bX, H⟩ := bnd H
   have aS := C.mono g
   obtain ⟨eG, cl, cg⟩ := Slr.at aS bX
   obtain ⟨z, A, rfl, bN, bO⟩ := cl
   refine Eq Z (Qi (T := fR) aS bX Z)<|EL 8 (gi s z A) Z (Rdc.k cg rfl)<|?_
   refine ff rfl (fE (cs := (gi (gq.mk 0 (Op.mk 0 0 0 0 0 [] [])) fB fB)) rfl rfl rfl rfl (fun bd => ?_))
   refine ff rfl (fm (vs := (gi s z A)) (all' := (gi s z A)) rfl rfl rfl rfl rfl .here rfl rfl rfl ?_)
   refine fb<|fc<|fa<|EF 1 Z<|EL 7 (fj s.op z A) Z (Rb0 Z)<|EF 1 Z<|El (Vi p4.channel) Z (Rb4 Z)<|?_
   obtain ⟨aG, dS, H⟩ := bnd H
   refine ff rfl (Ek Tryz.call74 Z (qF s.op z A p4.channel true aG dS _ _ bN bO) ?_)
   rintro _ ev _ ac ⟨rfl, rfl⟩
   refine Ea Z<|fb<|fc<|fa<|EF 1 Z<|EL 7 (fj s.op z A) Z (Rb0 Z)<|?_
   obtain ⟨d3, dT, H⟩ := bnd H
   have aT := bN.mono ac
   have aQ := bO.mono ac
   refine ff rfl (Ek Tryz.call44 Z (lA s.op z A d3 dT _ _ aT aQ) ?_)
   rintro _ d4 _ I ⟨eJ, rfl, rfl, bG⟩
   refine Em Z ?_
   obtain ⟨D, bP, H⟩ := bnd H
   obtain ⟨_, rfl, cc⟩ := Slr.at bG bP
   refine Eq Z (Qi (T := fX) bG bP Z)<|EF 2 Z<|El (.int .u64 D.value) Z (Rdc.k cc rfl)<|Ea Z<|fb<|?_
   refine fA (fun M j B => ∃ (n : Int) (o : Bool) (aC : SV) (af : ad1), [(1, (Vi p1)), (5, (Vp X)), (9, (Vp Y)), (10, (Vp F)), (12, (Vp aa)), (14, (Vi W)), (17, (Vp aH)), (18, (Vp bd)), (19, (Vi aG))] = M ∧ (.blk bd 96 (gi s z A)) :: (.blk aH 38 (fe (Result.mk 2 a n o 0))) :: (.blk aa 104 (ft (fG.mk b.capacity af b.closed) aC)) :: (.blk F 60 (fh (fV.mk [] [] 0) fB fB)) :: (.blk Y 108 (fk p4)) :: (.blk X 60 (fh p0 d c)) :: G = B ∧ oQ p1 W aG s a b p4 p0 n o af = some (i, u) ∧ Slr Ty.u64 j (sv aC) af) ?_ ?_
   ·refine fc<|fa<|EF 3 Z<|El (.bool e) Z (Rb1 Z)<|fb<|?_
    refine fp rfl ?_ ?_
    ·intro aK
     have H := ift aK H
     refine fa<|EF 1 Z<|El (sv L) Z (Rb2 Z)<|?_
     refine Ow.shift (Shift.nilTok1 36 1 (Sd ?_))
     obtain ⟨eS, dH, H⟩ := bnd H
     have cn := (aJ.mono ac).mono I
     refine ff rfl (f6 (T := Ty.u64) (bytes := 8) (q := 0) rfl rfl rfl (Slr.nil Ty.u64 _) Mb0 rfl (SrcT.sl cn) dH rfl rfl rfl rfl rfl rfl rfl rfl (fun eK b6 ey co => ⟨_, .here, ?_⟩))
     refine Em Z ?_
     have bt : RowR Ty.u64 b6 [[(.int .u64 D.value)]] [D.value] := RowR.cons rfl (RowR.nil)
     refine ff rfl (gh (T := Ty.u64) (rows := [[(.int .u64 D.value)]]) (l := [D.value]) rfl rfl rfl bt rfl rfl rfl rfl rfl rfl rfl rfl (fun eL => ?_))
     obtain ⟨b1, dI, H⟩ := bnd H
     refine ff rfl (f6 (T := Ty.u64) (bytes := 8) (q := 0) rfl rfl rfl co Mb1 rfl (SrcT.row Mb0 bt rfl) dI rfl rfl rfl rfl rfl rfl rfl rfl (fun aY d5 ez cp => ⟨_, (.there .here), ?_⟩))
     refine Ow.shift (Re0 (Sd ?_))
     refine EF 1 Z ?_
     refine ff rfl (fm (vs := [(sv aY)]) (all' := (ft (fG.mk b.capacity b1 b.closed) aY)) rfl rfl rfl rfl rfl (.there (.there (.there .here))) rfl rfl rfl ?_)
     exact fb<|Pu6<|Pu6<|Pu6<|Pu6<|Pu6<|Pu6<|Re6<|Sd<|⟨_, by exact R9, f, e, aY, b1, rfl, rfl, H, cp⟩
    ·intro aK
     have H := f5 (btf aK) H
     refine fa<|Em Z<|EF 2 Z<|?_
     refine ff rfl (fm (vs := [(.int .u64 D.value)]) (all' := (fe (Result.mk 2 a D.value e 0))) rfl rfl rfl rfl rfl (.there .here) rfl rfl rfl ?_)
     refine EF 3 Z ?_
     refine ff rfl (fm (vs := [(.bool true)]) (all' := (fe (Result.mk 2 a D.value true 0))) rfl rfl rfl rfl rfl (.there .here) rfl rfl rfl ?_)
     refine fb<|Pu5<|Pu5<|Pu5<|Pu5<|Pu5<|Pu5<|?_
     have cq := (aJ.mono ac).mono I
     exact Sd ⟨_, by exact R9, D.value, true, L, J, rfl, rfl, H, cq⟩
   rintro _ d6 _ ab ⟨n, o, aC, af, rfl, rfl, H, cm⟩
   unfold oQ at H
   refine fc ?_
   obtain ⟨b2, dJ, H⟩ := bnd H
   obtain ⟨t, dK, H⟩ := bnd H
   refine fx _ rfl (Ic Mb0 (Ic Mb1 (Ic Mb2 (Ic Mb3 (Ic Mb4 In0)))))<|Jm 1 Z<|JF 3 1 Z<|Jl 4 (Vi p4.channel) Z (Rb4 Z)<|JL 5 3 (ft (fG.mk b.capacity af b.closed) aC) Z (Rb2 Z)<|?_
   refine gG 0 (by kernel_rfl) (Jyq Z (jq (m := 3) (cs := (fh p0 d c)) rfl rfl rfl rfl ⟨rfl, Rb5 Z⟩) ⟨(Ic Mb0 (Ic Mb1 (Ic Mb2 (Ic Mb3 (Ic Mb4 In0))))), ?_⟩)
   refine Ao 2 Z ?_
   have cr := (((y.mono g).mono ac).mono I).mono ab
   have ct := ((aS.mono ac).mono I).mono ab
   refine Ek Tryz.call76 Z (xp p0 d c W b2 dJ _ _ cr ct) ?_
   rintro _ bc _ aA ⟨dV, dW, rfl, rfl, cu, cv⟩
   refine ⟨(Ic Mb1 (Ic Mb2 (Ic Mb3 (Ic Mb4 (Ic Mb5 In0))))), ?_⟩
   refine Ao 6 Z ?_
   have cw := cm.mono aA
   refine Ek Tryz.call73 Z (nP b2 dV dW p4.channel (fG.mk b.capacity af b.closed) aC t dK _ _ cu cv cw) ?_
   rintro _ _ _ - ⟨p, eH, r, rfl, rfl, rfl, bH, bI⟩
   refine ⟨(Ic Mb2 (Ic Mb3 (Ic Mb4 (Ic Mb5 (Ic Mb6 In0))))), ?_⟩
   refine Ao 7 Z ?_
   refine fm (vs := (fh t p r)) (all' := (fh t p r)) rfl rfl rfl rfl rfl (.there (.there (.there (.there (.there (.there (.there .here))))))) rfl rfl rfl ⟨(Ic Mb2 (Ic Mb3 (Ic Mb4 (Ic Mb5 (Ic Mb6 In0))))), ?_⟩
   refine Ad<|fc<|?_
   obtain ⟨aq, bQ, H⟩ := bnd H
   obtain ⟨b3, bR, H⟩ := bnd H
   refine fx _ rfl (Ic Mb0 (Ic Mb1 (Ic Mb2 (Ic Mb3 (Ic Mb4 (Ic Mb6 (Ic Mb7 In0)))))))<|JL 0 3 (fh t p r) Z (Rb6 Z)<|Jm 1 Z<|JL 2 5 (fe (Result.mk 2 a n o 0)) Z (Rb3 Z)<|Jq 3 Z (fH (cs := (fL (Done.mk p1 (Result.mk 2 a n o 0)))) rfl rfl rfl rfl rfl rfl)<|JF 5 0 Z<|Jl 6 (Vi s.thread) Z (Rb2 Z)<|JF 7 1 Z<|JL 8 7 (fj s.op z A) Z (Rb2 Z)<|Jm 9 Z<|?_
   refine gX 4 10 (by kernel_rfl) ?_ ?_
   ·refine id (Jy Z ?_)
    have bu : RowR f0 bc [(fL (Done.mk p1 (Result.mk 2 a n o 0)))] [(Done.mk p1 (Result.mk 2 a n o 0))] := RowR.cons rfl (RowR.nil)
    refine gh (T := f0) (rows := [(fL (Done.mk p1 (Result.mk 2 a n o 0)))]) (l := [(Done.mk p1 (Result.mk 2 a n o 0))]) rfl rfl rfl bu rfl rfl rfl rfl rfl rfl rfl rfl (fun dX => ⟨(Ic Mb1 (Ic Mb2 (Ic Mb3 (Ic Mb4 (Ic Mb5 (Ic Mb7 (Ic Mb8 In0))))))), ?_⟩)
    refine Ao 10 Z ?_
    have cx := ((aT.mono I).mono ab).mono aA
    have cy := ((aQ.mono I).mono ab).mono aA
    refine Ek Tryz.call75 Z (nQ s.op z A aG aq bQ _ _ cx cy) ?_
    rintro _ _ _ - ⟨rfl, rfl, rfl⟩
    refine ⟨(Ic Mb1 (Ic Mb2 (Ic Mb3 (Ic Mb4 (Ic Mb5 (Ic Mb7 (Ic Mb8 In0))))))), ?_⟩
    refine Jq 11 Z (fH (cs := (fe (Result.mk 1 aq 0 false 0))) rfl rfl rfl rfl rfl rfl) ?_
    refine Ao 12 Z ?_
    refine OpW.shift (Shift.settle (T := f0) .here bu rfl (fun d7 be cz => Sd ?_))
    refine Ek Tryz.call77 Z (qG [(Done.mk p1 (Result.mk 2 a n o 0))] dX s.thread (Result.mk 1 aq 0 false 0) b3 bR _ _ cz) ?_
    rintro _ d8 _ bf ⟨aZ, rfl, rfl, cA⟩
    refine ⟨(Ic Mb2 (Ic Mb3 (Ic Mb4 (Ic Mb5 (Ic Mb6 (Ic Mb8 (Ic Mb9 In0))))))), ?_⟩
    refine Ao 13 Z ?_
    refine fm (vs := (fh t p r)) (all' := (fh t p r)) rfl rfl rfl rfl rfl (.there (.there (.there (.there (.there (.there (.there .here))))))) rfl rfl rfl ⟨(Ic Mb2 (Ic Mb3 (Ic Mb4 (Ic Mb5 (Ic Mb6 (Ic Mb8 (Ic Mb9 In0))))))), ?_⟩
    refine Ja 14 Z<|Ad<|fz<|?_
    obtain ⟨N, O⟩ := ig H
    subst i u
    refine ⟨(by first|exact .inl rfl|exact .inr rfl), [(.agg (fh t p r).toArray), (sv aZ)], ⟨(.agg (fh t p r).toArray), _, rfl, ⟨_, 3, (fh t p r), rfl, rfl, rfl, rfl, ⟨rfl, Rb7 Z⟩, rfl⟩, ⟨(sv aZ), _, rfl, rfl, rfl⟩⟩, ?_⟩
    have cC := (bH.mono be).mono bf
    refine Shift.settle (T := fK) (.there (.there .here)) cC rfl ?_
    intro d9 bg cB
    refine Re1<|Re1<|Re1<|Re1<|Re1<|Re1<|Re1<|Re1<|Re1<|?_
    have cD := ((bI.mono be).mono bf).mono bg
    have cE := cA.mono bg
    exact Sd ⟨p, r, aZ, rfl, rfl, cB, cD, cE⟩
   ·refine id (Jy Z ?_)
    have cF := ((aT.mono I).mono ab).mono aA
    have cG := ((aQ.mono I).mono ab).mono aA
    refine Ek Tryz.call75 Z (nQ s.op z A aG aq bQ _ _ cF cG) ?_
    rintro _ _ _ - ⟨rfl, rfl, rfl⟩
    refine ⟨(Ic Mb0 (Ic Mb1 (Ic Mb2 (Ic Mb3 (Ic Mb4 (Ic Mb6 (Ic Mb7 In0))))))), ?_⟩
    refine Jq 11 Z (fH (cs := (fe (Result.mk 1 aq 0 false 0))) rfl rfl rfl rfl rfl rfl) ?_
    refine Ao 4 Z ?_
    have bv : RowR f0 bc [(fL (Done.mk p1 (Result.mk 2 a n o 0)))] [(Done.mk p1 (Result.mk 2 a n o 0))] := RowR.cons rfl (RowR.nil)
    refine gh (T := f0) (rows := [(fL (Done.mk p1 (Result.mk 2 a n o 0)))]) (l := [(Done.mk p1 (Result.mk 2 a n o 0))]) rfl rfl rfl bv rfl rfl rfl rfl rfl rfl rfl rfl (fun dY => ⟨(Ic Mb1 (Ic Mb2 (Ic Mb3 (Ic Mb4 (Ic Mb5 (Ic Mb7 (Ic Mb8 In0))))))), ?_⟩)
    refine Ao 12 Z ?_
    refine OpW.shift (Shift.settle (T := f0) .here bv rfl (fun ea bh cH => Sd ?_))
    refine Ek Tryz.call77 Z (qG [(Done.mk p1 (Result.mk 2 a n o 0))] dY s.thread (Result.mk 1 aq 0 false 0) b3 bR _ _ cH) ?_
    rintro _ eb _ bi ⟨a0, rfl, rfl, cI⟩
    refine ⟨(Ic Mb2 (Ic Mb3 (Ic Mb4 (Ic Mb5 (Ic Mb6 (Ic Mb8 (Ic Mb9 In0))))))), ?_⟩
    refine Ao 13 Z ?_
    refine fm (vs := (fh t p r)) (all' := (fh t p r)) rfl rfl rfl rfl rfl (.there (.there (.there (.there (.there (.there (.there .here))))))) rfl rfl rfl ⟨(Ic Mb2 (Ic Mb3 (Ic Mb4 (Ic Mb5 (Ic Mb6 (Ic Mb8 (Ic Mb9 In0))))))), ?_⟩
    refine Ja 14 Z<|Ad<|fz<|?_
    obtain ⟨N, O⟩ := ig H
    subst i u
    refine ⟨(by first|exact .inl rfl|exact .inr rfl), [(.agg (fh t p r).toArray), (sv a0)], ⟨(.agg (fh t p r).toArray), _, rfl, ⟨_, 3, (fh t p r), rfl, rfl, rfl, rfl, ⟨rfl, Rb7 Z⟩, rfl⟩, ⟨(sv a0), _, rfl, rfl, rfl⟩⟩, ?_⟩
    have cK := (bH.mono bh).mono bi
    refine Shift.settle (T := fK) (.there (.there .here)) cK rfl ?_
    intro ec bj cJ
    refine Re1<|Re1<|Re1<|Re1<|Re1<|Re1<|Re1<|Re1<|Re1<|?_
    have cL := ((bI.mono bh).mono bi).mono bj
    have cM := cI.mono bj
    exact Sd ⟨p, r, a0, rfl, rfl, cJ, cL, cM⟩
end Go.Hx
