
import Derived.Test.YtphoeijgpmlbpaaDoorXEM
import Derived.Test.YtphoeijgpmlbpaaDoorXEWDraw1
import Derived.Test.YtphoeijgpmlbpaaDoorXEWRef153
import Derived.Test.YtphoeijgpmlbpaaDoorXEWLinear2
namespace Go.Hx
open Go Go.Proofs
set_option linter.unusedSimpArgs false
set_option linter.unusedVariables false
set_option maxRecDepth 10000
set_option maxHeartbeats 1000000 in
theorem nF (p0 : List Chan) (vp0 : SV) (p1 : Op) (vp1_cases : SV) (vp1_draws : SV) (p2 : Result) (p3 : Op) (vp3_cases : SV) (vp3_draws : SV) (p4 : Result) (y0 : Bool) (H : iY p0 p1 p2 p3 p4 = some y0) (K : Kp) (G : List Ent) (hp0 : Slr aq K (sv vp0) p0) (hp1_cases : Slr aF K (sv vp1_cases) p1.cases) (hp1_draws : Slr Ty.i64 K (sv vp1_draws) p1.draws) (hp3_cases : Slr aF K (sv vp3_cases) p3.cases) (hp3_draws : Slr Ty.i64 K (sv vp3_draws) p3.draws) :
  Fc Tryd.prog 48 #[(sv vp0), (.agg (Op.cells p1 vp1_cases vp1_draws).toArray), (.agg (Result.cells p2).toArray), (.agg (Op.cells p3 vp3_cases vp3_draws).toArray), (.agg (Result.cells p4).toArray)] K (G) (fun v K' G' => v = (.bool y0) ∧ K = K' ∧ G = G') := by
 refine aA Tryd.func48 rfl Tryd.ntmps48 Tryd.results48 rfl ?_
 unfold iY at H
 refine ac<|aa<|?_
 refine ae rfl (aB (cs := (Op.cells p1 vp1_cases vp1_draws)) rfl rfl rfl (fun b67 => ?_))
 refine ae rfl (aB (cs := (Result.cells p2)) rfl rfl rfl (fun b68 => ?_))
 refine ae rfl (aB (cs := (Op.cells p3 vp3_cases vp3_draws)) rfl rfl rfl (fun b69 => ?_))
 refine ae rfl (aB (cs := (Result.cells p4)) rfl rfl rfl (fun b70 => ?_))
 refine Ea Z<|ab<|ac<|?_
 refine ao (fun env' K' G' => ∃ (t89 : Bool), [(0, (sv vp0)), (6, (.pointer (some ((⟨b67, 0, none⟩ : Addr).add 0)))), (7, (.pointer (some ((⟨b68, 0, none⟩ : Addr).add 0)))), (8, (.pointer (some ((⟨b69, 0, none⟩ : Addr).add 0)))), (9, (.pointer (some ((⟨b70, 0, none⟩ : Addr).add 0)))), (38, (.bool t89))] = env' ∧ K = K' ∧ (.blk b70 36 (Result.cells p4)) :: (.blk b69 43 (Op.cells p3 vp3_cases vp3_draws)) :: (.blk b68 36 (Result.cells p2)) :: (.blk b67 43 (Op.cells p1 vp1_cases vp1_draws)) :: G = G' ∧ dS p0 p4 p3 p2 p1 t89 = some y0) ?_ ?_
 ·skip
  refine aa<|EF 0 Z<|El (.int .i64 p2.kind) Z (Rb2 Z)<|Ec Z<|Em Z<|?_
  refine Ee Z ?_ ?_
  ·intro h90
   have h90 := ay (bE (h90))
   have H := ap h90 H
   refine Ez Z<|Ez Z<|Ez Z<|Et Z<|Em Z<|Ez Z<|Ez Z<|Ez Z<|Et Z<|Em Z<|?_
   refine Ez Z<|Ez Z<|Ez Z<|Et Z<|Em Z<|Ez Z<|Ez Z<|Ez Z<|Et Z<|ab<|?_
   refine Pu3<|Pu3<|Pu3<|Pu3<|Shift.done<|?_
   exact ⟨_, by exact ⟨rfl, rfl, rfl, rfl, rfl, rfl, trivial⟩, true, rfl, rfl, rfl, H⟩
  ·intro h90
   have h90 := ax (bB (h90))
   have H := ift h90 H
   refine VF 0 Z<|Vl (.int .i64 p4.kind) Z (Rb0 Z)<|Vc Z<|Ef Z<|Em Z<|?_
   refine Ee Z ?_ ?_
   ·intro h91
    have h91 := ay (bE (h91))
    have H := ap h91 H
    refine Ez Z<|Ez Z<|Ez Z<|Et Z<|Em Z<|Ez Z<|Ez Z<|Ez Z<|Et Z<|Em Z<|?_
    refine Ez Z<|Ez Z<|Ez Z<|Et Z<|ab<|Pu3<|Pu3<|Pu3<|Pu3<|Shift.done<|?_
    exact ⟨_, by exact ⟨rfl, rfl, rfl, rfl, rfl, rfl, trivial⟩, true, rfl, rfl, rfl, H⟩
   ·intro h91
    have h91 := ax (bB (h91))
    have H := ift h91 H
    refine VL 5 (Result.cells p2) Z (Rb2 Z) ?_
    obtain ⟨x92, hx93, H⟩ := bnd H
    refine br rfl rfl rfl rfl (Ek Tryd.call75 Z (bP p2 false false x92 hx93 _ _ ) ?_)
    rintro _ _ _ - ⟨rfl, rfl, rfl⟩
    refine Vq Z (aS rfl)<|Ef Z<|Em Z<|?_
    refine Ee Z ?_ ?_
    ·intro h94
     have h94 := bE (h94)
     have H := ap (btf h94) H
     refine Ez Z<|Ez Z<|Ez Z<|Et Z<|Em Z<|Ez Z<|Ez Z<|Ez Z<|Et Z<|ab<|?_
     refine Pu3<|Pu3<|Pu3<|Pu3<|Shift.done<|?_
     exact ⟨_, by exact ⟨rfl, rfl, rfl, rfl, rfl, rfl, trivial⟩, true, rfl, rfl, rfl, H⟩
    ·intro h94
     have h94 := bB (h94)
     have H := ift h94 H
     refine VL 5 (Result.cells p4) Z (Rb0 Z) ?_
     obtain ⟨x95, hx96, H⟩ := bnd H
     refine br rfl rfl rfl rfl (Ek Tryd.call75 Z (bP p4 true false x95 hx96 _ _ ) ?_)
     rintro _ _ _ - ⟨rfl, rfl, rfl⟩
     refine Vq Z (aS rfl)<|Ef Z<|Em Z<|?_
     refine Ee Z ?_ ?_
     ·intro h97
      have h97 := bE (h97)
      have H := ap (btf h97) H
      refine Ez Z<|Ez Z<|Ez Z<|Et Z<|ab<|Pu3<|Pu3<|Pu3<|Pu3<|Shift.done<|?_
      exact ⟨_, by exact ⟨rfl, rfl, rfl, rfl, rfl, rfl, trivial⟩, true, rfl, rfl, rfl, H⟩
     ·intro h97
      have h97 := bB (h97)
      have H := ift h97 H
      refine VF 3 Z<|Vl (.bool p4.ok) Z (Rb0 Z)<|Vq Z (aS rfl)<|Ef Z<|ab<|Pu3<|Pu3<|Pu3<|Pu3<|Shift.done<|?_
      exact ⟨_, by exact ⟨rfl, rfl, rfl, rfl, rfl, rfl, trivial⟩, (!(p4.ok)), rfl, rfl, rfl, H⟩
 rintro _ _ _ - ⟨t89, rfl, rfl, rfl, H⟩
 unfold dS at H
 refine ah rfl ?_ ?_
 ·intro h98
  have H := ift h98 H
  refine ac<|aa<|Ea Z<|ab<|an<|?_
  obtain ey0 := aV H
  subst y0
  refine ⟨(by first | exact .inl rfl | exact .inr rfl), [(.bool false)], ⟨(.bool false), _, rfl, rfl, rfl⟩, ?_⟩
  refine Re0<|Re0<|Re0<|Re0<|Shift.done<|?_
  exact ⟨rfl, rfl, rfl⟩
 ·intro h98
  have H := ap (btf h98) H
  refine am<|ac<|aa<|EL 7 (Op.cells p1 vp1_cases vp1_draws) Z (Rb3 Z)<|EL 5 (Result.cells p2) Z (Rb2 Z)<|?_
  obtain ⟨x99, x100, hx101, H⟩ := bD H
  refine ae rfl (Ek Tryd.call73 Z (fC p1 vp1_cases vp1_draws p2 x99 x100 hx101 _ _ hp1_cases hp1_draws) ?_)
  rintro _ _ _ - ⟨rfl, rfl, rfl⟩
  refine Em Z<|Ex Z<|Ex Z<|?_
  refine ae rfl (ar (cs := (Case.cells (Case.mk false 0 0))) rfl rfl rfl rfl (fun b102 => ?_))
  refine ae rfl (ag (vs := (Case.cells x99)) (all' := (Case.cells x99)) rfl rfl rfl rfl rfl .here rfl rfl rfl ?_)
  refine Ea Z<|ab<|ac<|aa<|EL 7 (Op.cells p3 vp3_cases vp3_draws) Z (Rb2 Z)<|EL 5 (Result.cells p4) Z (Rb1 Z)<|?_
  obtain ⟨x103, x104, hx105, H⟩ := bD H
  refine ae rfl (Ek Tryd.call73 Z (fC p3 vp3_cases vp3_draws p4 x103 x104 hx105 _ _ hp3_cases hp3_draws) ?_)
  rintro _ _ _ - ⟨rfl, rfl, rfl⟩
  refine Em Z<|Ex Z<|Ex Z<|?_
  refine ae rfl (ar (cs := (Case.cells (Case.mk false 0 0))) rfl rfl rfl rfl (fun b106 => ?_))
  refine ae rfl (ag (vs := (Case.cells x103)) (all' := (Case.cells x103)) rfl rfl rfl rfl rfl .here rfl rfl rfl ?_)
  refine Ea Z<|ab<|ac<|?_
  refine ao (fun env' K' G' => ∃ (t123 : Bool), [(0, (sv vp0)), (9, (.pointer (some ((⟨b70, 0, none⟩ : Addr).add 0)))), (11, (.pointer (some ((⟨b102, 0, none⟩ : Addr).add 0)))), (79, (.bool t123))] = env' ∧ K = K' ∧ (.blk b102 92 (Case.cells x99)) :: (.blk b70 36 (Result.cells p4)) :: G = G' ∧ d7 p0 x99 p4 t123 = some y0) ?_ ?_
  ·skip
   refine aa<|Em Z<|Eq Z (aS rfl)<|Em Z<|?_
   refine Ee Z ?_ ?_
   ·intro h124
    have h124 := bE (h124)
    have H := ap (btf h124) H
    refine Ez Z<|Ez Z<|Et Z<|Em Z<|Ez Z<|Ez Z<|Ez Z<|Et Z<|Em Z<|Ez Z<|?_
    refine Ez Z<|Et Z<|Em Z<|Ez Z<|Ez Z<|Ez Z<|Ez Z<|Ez Z<|Et Z<|Em Z<|?_
    refine Ez Z<|Ez Z<|Ez Z<|Ez Z<|Ez Z<|Et Z<|ab<|Pu2<|Pu2<|Re2<|?_
    refine Re2<|Re2<|Re2<|Shift.done<|?_
    exact ⟨_, by exact ⟨rfl, rfl, rfl, rfl, trivial⟩, true, rfl, rfl, rfl, H⟩
   ·intro h124
    have h124 := bB (h124)
    have H := ift h124 H
    refine Vm Z<|Vq Z (aS rfl)<|Ef Z<|Em Z<|?_
    refine Ee Z ?_ ?_
    ·intro h125
     have h125 := bE (h125)
     have H := ap (btf h125) H
     refine Ez Z<|Ez Z<|Ez Z<|Et Z<|Em Z<|Ez Z<|Ez Z<|Et Z<|Em Z<|Ez Z<|?_
     refine Ez Z<|Ez Z<|Ez Z<|Ez Z<|Et Z<|Em Z<|Ez Z<|Ez Z<|Ez Z<|Ez Z<|?_
     refine Ez Z<|Et Z<|ab<|Pu2<|Pu2<|Re2<|Re2<|Re2<|Re2<|Shift.done<|?_
     exact ⟨_, by exact ⟨rfl, rfl, rfl, rfl, trivial⟩, true, rfl, rfl, rfl, H⟩
    ·intro h125
     have h125 := bB (h125)
     have H := ift h125 H
     refine VF 0 Z<|Vl (.bool x99.send) Z (Rb1 Z)<|Vq Z (aS rfl)<|Ef Z<|Em Z<|?_
     refine Ee Z ?_ ?_
     ·intro h126
      have h126 := bE (h126)
      have H := ap (btf h126) H
      refine Ez Z<|Ez Z<|Et Z<|Em Z<|Ez Z<|Ez Z<|Ez Z<|Ez Z<|Ez Z<|Et Z<|?_
      refine Em Z<|Ez Z<|Ez Z<|Ez Z<|Ez Z<|Ez Z<|Et Z<|ab<|Pu2<|Pu2<|?_
      refine Re2<|Re2<|Re2<|Re2<|Shift.done<|?_
      exact ⟨_, by exact ⟨rfl, rfl, rfl, rfl, trivial⟩, true, rfl, rfl, rfl, H⟩
     ·intro h126
      have h126 := bB (h126)
      have H := ift h126 H
      refine VF 0 Z<|Vl (.bool x103.send) Z (Rb0 Z)<|Ef Z<|Em Z<|?_
      refine Ee Z ?_ ?_
      ·intro h127
       have H := ift h127 H
       refine Ez Z<|Ez Z<|Ez Z<|Ez Z<|Ez Z<|Et Z<|Em Z<|Ez Z<|Ez Z<|Ez Z<|?_
       refine Ez Z<|Ez Z<|Et Z<|ab<|Pu2<|Pu2<|Re2<|Re2<|Re2<|Re2<|?_
       exact Shift.done ⟨_, by exact ⟨rfl, rfl, rfl, rfl, trivial⟩, true, rfl, rfl, rfl, H⟩
      ·intro h127
       have H := ap (btf h127) H
       refine VF 1 Z<|Vl (.int .i64 x99.channel) Z (Rb1 Z)<|VF 1 Z<|Vl (.int .i64 x103.channel) Z (Rb0 Z)<|Vc Z<|Ef Z<|Em Z<|?_
       refine Ee Z ?_ ?_
       ·intro h128
        have h128 := ay (bE (h128))
        have H := ap h128 H
        refine Ez Z<|Ez Z<|Ez Z<|Ez Z<|Ez Z<|Et Z<|ab<|Pu2<|Pu2<|Re2<|?_
        refine Re2<|Re2<|Re2<|Shift.done<|?_
        exact ⟨_, by exact ⟨rfl, rfl, rfl, rfl, trivial⟩, true, rfl, rfl, rfl, H⟩
       ·intro h128
        have h128 := ax (bB (h128))
        have H := ift h128 H
        refine Vm Z<|VF 1 Z<|Vl (.int .i64 x99.channel) Z (Rb1 Z)<|?_
        obtain ⟨x129, hx130, H⟩ := bnd H
        refine br rfl rfl rfl rfl (Ek Tryd.call76 Z (dM p0 vp0 x99.channel x129 hx130 _ _ hp0) ?_)
        rintro _ _ _ - ⟨rfl, rfl, rfl⟩
        refine Vq Z (aS rfl)<|Ef Z<|ab<|Pu2<|Pu2<|Re2<|Re2<|Re2<|Re2<|Shift.done<|?_
        exact ⟨_, by exact ⟨rfl, rfl, rfl, rfl, trivial⟩, (!(x129)), rfl, rfl, rfl, H⟩
  rintro _ _ _ - ⟨t123, rfl, rfl, rfl, H⟩
  unfold d7 at H
  refine ah rfl ?_ ?_
  ·intro h131
   have H := ift h131 H
   refine ac<|aa<|Ea Z<|ab<|an<|?_
   obtain ey0 := aV H
   subst y0
   refine ⟨(by first | exact .inl rfl | exact .inr rfl), [(.bool false)], ⟨(.bool false), _, rfl, rfl, rfl⟩, ?_⟩
   refine Re0<|Re0<|Shift.done<|?_
   exact ⟨rfl, rfl, rfl⟩
  ·intro h131
   have H := ap (btf h131) H
   refine am<|ac<|aa<|Em Z<|EF 1 Z<|El (.int .i64 x99.channel) Z (Rb0 Z)<|?_
   obtain ⟨x132, hx133, H⟩ := bnd H
   obtain ⟨r134, hr135, hk136⟩ := Slr.at hp0 hx133
   obtain ⟨v137, rfl, hs138⟩ := hr135
   refine Eq Z (aY (T := aq) hp0 hx133 rfl rfl rfl rfl rfl)<|EL 3 (Chan.cells x132 v137) Z (Rdc.k hk136 rfl)<|?_
   refine ae rfl (ar (cs := (Chan.cells (Chan.mk 0 [] false) ak)) rfl rfl rfl rfl (fun b139 => ?_))
   refine ae rfl (ag (vs := (Chan.cells x132 v137)) (all' := (Chan.cells x132 v137)) rfl rfl rfl rfl rfl .here rfl rfl rfl ?_)
   refine ab ?_
   refine ao (fun env' K' G' => ∃ (t142 : Bool), [(10, (.bool t142))] = env' ∧ K = K' ∧ G = G' ∧ i6 t142 = some y0) ?_ ?_
   ·skip
    refine aa<|EF 0 Z<|El (.int .i64 x132.capacity) Z (Rb0 Z)<|Ec Z<|Em Z<|?_
    refine Ee Z ?_ ?_
    ·intro h143
     have h143 := ax (h143)
     have H := ift h143 H
     refine VF 2 Z<|Vl (.bool x132.closed) Z (Rb0 Z)<|Vq Z (aS rfl)<|Et Z<|Em Z<|?_
     refine Ee Z ?_ ?_
     ·intro h144
      have h144 := bE (h144)
      have H := ap (btf h144) H
      refine VF 2 Z<|Vl (.int .u64 p4.value) Z (Rb2 Z)<|VF 2 Z<|Vl (.int .u64 x99.value) Z (Rb1 Z)<|Vc Z<|Et Z<|Ea Z<|ab<|Re0<|Re0<|?_
      refine Re0<|Shift.done<|?_
      exact ⟨_, by exact ⟨rfl, trivial⟩, (dcd (p4.value = x99.value)), rfl, rfl, rfl, H⟩
     ·intro h144
      have h144 := bB (h144)
      have H := ift h144 H
      refine Ez Z<|Ez Z<|Ez Z<|Ez Z<|Ez Z<|Ef Z<|Ea Z<|ab<|Re0<|Re0<|?_
      refine Re0<|Shift.done<|?_
      exact ⟨_, by exact ⟨rfl, trivial⟩, false, rfl, rfl, rfl, H⟩
    ·intro h143
     have h143 := ay (h143)
     have H := ap h143 H
     refine Ez Z<|Ez Z<|Ez Z<|Ef Z<|Em Z<|Ez Z<|Ez Z<|Ez Z<|Ez Z<|Ez Z<|?_
     refine Ef Z<|Ea Z<|ab<|Re0<|Re0<|Re0<|Shift.done<|?_
     exact ⟨_, by exact ⟨rfl, trivial⟩, false, rfl, rfl, rfl, H⟩
   rintro _ _ _ - ⟨t142, rfl, rfl, rfl, H⟩
   unfold i6 at H
   refine an ?_
   obtain ey0 := aV H
   subst y0
   refine ⟨(by first | exact .inl rfl | exact .inr rfl), [(.bool t142)], ⟨(.bool t142), _, rfl, rfl, rfl⟩, ?_⟩
   exact Shift.done ⟨rfl, rfl, rfl⟩

set_option maxHeartbeats 1000000 in
theorem ot (p0 : List Chan) (vp0 : SV) (p1 : Op) (vp1_cases : SV) (vp1_draws : SV) (p2 : Result) (p3 : Op) (vp3_cases : SV) (vp3_draws : SV) (p4 : Result) (y0 : Bool) (H : gC p0 p1 p2 p3 p4 = some y0) (K : Kp) (G : List Ent) (hp0 : Slr aq K (sv vp0) p0) (hp1_cases : Slr aF K (sv vp1_cases) p1.cases) (hp1_draws : Slr Ty.i64 K (sv vp1_draws) p1.draws) (hp3_cases : Slr aF K (sv vp3_cases) p3.cases) (hp3_draws : Slr Ty.i64 K (sv vp3_draws) p3.draws) :
  Fc Tryd.prog 26 #[(sv vp0), (.agg (Op.cells p1 vp1_cases vp1_draws).toArray), (.agg (Result.cells p2).toArray), (.agg (Op.cells p3 vp3_cases vp3_draws).toArray), (.agg (Result.cells p4).toArray)] K (G) (fun v K' G' => v = (.bool y0) ∧ K = K' ∧ G = G') := by
 refine aA Tryd.func26 rfl Tryd.ntmps26 Tryd.results26 rfl ?_
 unfold gC at H
 refine ac<|aa<|?_
 refine ae rfl (aB (cs := (Op.cells p1 vp1_cases vp1_draws)) rfl rfl rfl (fun b10 => ?_))
 refine ae rfl (aB (cs := (Result.cells p2)) rfl rfl rfl (fun b11 => ?_))
 refine ae rfl (aB (cs := (Op.cells p3 vp3_cases vp3_draws)) rfl rfl rfl (fun b12 => ?_))
 refine ae rfl (aB (cs := (Result.cells p4)) rfl rfl rfl (fun b13 => ?_))
 refine Ea Z<|ab<|ac<|aa<|Em Z<|EL 7 (Op.cells p1 vp1_cases vp1_draws) Z (Rb3 Z)<|EL 5 (Result.cells p2) Z (Rb2 Z)<|EL 7 (Op.cells p3 vp3_cases vp3_draws) Z (Rb1 Z)<|EL 5 (Result.cells p4) Z (Rb0 Z)<|?_
 obtain ⟨x19, hx20, H⟩ := bnd H
 refine ae rfl (Ek Tryd.call48 Z (nF p0 vp0 p1 vp1_cases vp1_draws p2 p3 vp3_cases vp3_draws p4 x19 hx20 _ _ hp0 hp1_cases hp1_draws hp3_cases hp3_draws) ?_)
 rintro _ _ _ - ⟨rfl, rfl, rfl⟩
 refine Em Z ?_
 refine Ee Z ?_ ?_
 ·intro h21
  have H := ift h21 H
  refine Ez Z<|Ez Z<|Ez Z<|Ez Z<|Ez Z<|Ez Z<|Et Z<|Ea Z<|ab<|an<|?_
  obtain ey0 := aV H
  subst y0
  refine ⟨(by first | exact .inl rfl | exact .inr rfl), [(.bool true)], ⟨(.bool true), _, rfl, rfl, rfl⟩, ?_⟩
  refine Re0<|Re0<|Re0<|Re0<|Shift.done<|?_
  exact ⟨rfl, rfl, rfl⟩
 ·intro h21
  have H := ap (btf h21) H
  refine Vm Z<|VL 7 (Op.cells p3 vp3_cases vp3_draws) Z (Rb1 Z)<|VL 5 (Result.cells p4) Z (Rb0 Z)<|VL 7 (Op.cells p1 vp1_cases vp1_draws) Z (Rb3 Z)<|VL 5 (Result.cells p2) Z (Rb2 Z)<|?_
  obtain ⟨x22, hx23, H⟩ := bnd H
  refine br rfl rfl rfl rfl (Ek Tryd.call48 Z (nF p0 vp0 p3 vp3_cases vp3_draws p4 p1 vp1_cases vp1_draws p2 x22 hx23 _ _ hp0 hp3_cases hp3_draws hp1_cases hp1_draws) ?_)
  rintro _ _ _ - ⟨rfl, rfl, rfl⟩
  refine Ef Z<|Ea Z<|ab<|an<|?_
  obtain ey0 := aV H
  subst y0
  refine ⟨(by first | exact .inl rfl | exact .inr rfl), [(.bool x22)], ⟨(.bool x22), _, rfl, rfl, rfl⟩, ?_⟩
  refine Re0<|Re0<|Re0<|Re0<|Shift.done<|?_
  exact ⟨rfl, rfl, rfl⟩



end Go.Hx

namespace Go.Hx
open Go Go.Proofs
set_option linter.unusedSimpArgs false
set_option linter.unusedVariables false
set_option maxRecDepth 10000
set_option maxHeartbeats 1000000 in
theorem pB (p0 : List Chan) (vp0 : SV) (p1 : List (List Op)) (vp1 : SV) (p2 : List Done) (vp2 : SV) (y0 : List Chan) (y1 : Bool) (H : hU p0 p1 p2 = some (y0, y1)) (K : Kp) (G : List Ent) (hp0 : Slr aq K (sv vp0) p0) (hp1 : Slr (Ty.sl aX) K (sv vp1) p1) (hp2 : Slr aw K (sv vp2) p2) :
  Fc Tryd.prog 13 #[(sv vp0), (sv vp1), (sv vp2)] K (G) (fun v K' G' => ∃ (wy0 : SV), v = (.tuple #[(sv wy0), (.bool y1)]) ∧ G = G' ∧ Slr aq K' (sv wy0) y0) := by
 refine aA Tryd.func13 rfl Tryd.ntmps13 Tryd.results13 rfl ?_
 unfold hU at H
 refine ac<|aa<|Ea Z<|Ea Z<|ab<|ac<|aa<|Em Z<|Eq Z (aO (T := (Ty.sl aX)) hp1 rfl rfl)<|?_
 obtain ⟨x480, hx481, H⟩ := bnd H
 refine ae rfl (cO (T := Ty.i64) (r := [(.int .i64 0)]) rfl rfl rfl hx481 rfl rfl rfl rfl rfl rfl rfl rfl rfl rfl (fun v482 rs483 hR484 hz485 => ?_))
 refine Ea Z<|ab<|?_
 refine ao (fun env' K' G' => ∃ (v952 : SV) (l953 : List Chan), [(0, (sv v952))] = env' ∧ G = G' ∧ jO l953 = some (y0, y1) ∧ Slr aq K' (sv v952) l953) ?_ ?_
 ·skip
  refine ac<|aa<|Ea Z<|ab<|av<|?_
  refine aN (fun n1421 env' K' G' => ∃ (v1414 : SV) (l1415 : List Chan) (l1417 : List Int) (rs1419 : List (List Value)) (i1420 : Int), [(0, (sv v1414)), (1, (sv vp1)), (2, (sv vp2)), (8, (sv v482)), (9, (.int .i64 i1420))] = env' ∧ (.row (sv v482) 3 1 rs1419.flatten) :: G = G' ∧ lp3 (kK p1 p2) n1421 l1415 l1417 i1420 = some (y0, y1) ∧ Slr aq K' (sv v1414) l1415 ∧ RowR Ty.i64 K' rs1419 l1417) BIG ?_ ?_
  ·skip
   exact Shift.done ⟨_, by exact ⟨rfl, rfl, rfl, rfl, rfl, trivial⟩, vp0, p0, x480, rs483, 0, rfl, rfl, H, hp0, hR484⟩
  rintro n1421 _ K1422 _ hK1423 ⟨v1414, l1415, l1417, rs1419, i1420, rfl, rfl, H, hs1416, hR1418⟩
  obtain ⟨m1424, k1425, rfl, hkk1426, H⟩ := jD H
  unfold kK at H
  refine ac<|ac<|aa<|Em Z<|Em Z<|?_
  have hs1429 := (hp2).mono hK1423
  refine Eq Z (aO (T := aw) hs1429 rfl rfl)<|Ec Z<|ab<|?_
  refine ah rfl ?_ ?_
  ·intro h1430
   have h1430 := ax (h1430)
   have H := ift h1430 H
   refine am<|ac<|av<|ac<|aa<|Em Z<|Em Z<|?_
   obtain ⟨x1650, hx1651, H⟩ := bnd H
   obtain ⟨r1652, hr1653, hk1654⟩ := Slr.at hs1429 hx1651
   obtain rfl := hr1653
   refine Eq Z (aY (T := aw) hs1429 hx1651 rfl rfl rfl rfl rfl)<|EF 0 Z<|El (.int .i64 x1650.thread) Z (Rdc.k hk1654 rfl)<|Ea Z<|ab<|ac<|?_
   refine ao (fun env' K' G' => ∃ (t1707 : Bool), [(0, (sv v1414)), (1, (sv vp1)), (2, (sv vp2)), (8, (sv v482)), (9, (.int .i64 i1420)), (10, (.int .i64 x1650.thread)), (49, (.bool t1707))] = env' ∧ K1422 = K' ∧ (.row (sv v482) 3 1 rs1419.flatten) :: G = G' ∧ eL l1415 p1 p2 l1417 i1420 x1650 k1425 t1707 = some (y0, y1)) ?_ ?_
   ·skip
    rcases bk (dcd (x1650.thread < 0)) with hb_ | hb_ <;> revert hb_
    ·intro h1708
     have h1708 := ax (h1708)
     have H := ift h1708 H
     refine aj [.row (sv v482) 3 1 rs1419.flatten] rfl (Inc.cons Mb0 Inc.nil)<|Jm 0 Z (by kernel_rfl)<|Jc 1 Z (by kernel_rfl)<|Jm 2 Z (by kernel_rfl)<|Aw.known (d := 32) rfl (bp h1708)<|Jz 3 Z (by kernel_rfl)<|Jz 4 Z (by kernel_rfl)<|Jz 5 Z (by kernel_rfl)<|Jz 6 Z (by kernel_rfl)<|Jt 7 Z (by kernel_rfl)<|?_
     refine Jm 8 Z (by kernel_rfl)<|Jz 9 Z (by kernel_rfl)<|Jz 10 Z (by kernel_rfl)<|Jz 11 Z (by kernel_rfl)<|Jz 12 Z (by kernel_rfl)<|Jz 13 Z (by kernel_rfl)<|Jz 14 Z (by kernel_rfl)<|Jz 15 Z (by kernel_rfl)<|Jz 16 Z (by kernel_rfl)<|Jz 17 Z (by kernel_rfl)<|?_
     refine Jz 18 Z (by kernel_rfl)<|Jt 19 Z (by kernel_rfl)<|au (by kernel_rfl)<|Shift.done<|?_
     exact ⟨_, by exact ⟨rfl, rfl, rfl, rfl, rfl, rfl, rfl, trivial⟩, true, rfl, rfl, rfl, H⟩
    ·intro h1708
     have h1708 := ay (h1708)
     have H := ap h1708 H
     rcases bk (dcd (x1650.thread ≥ (p1.length : Int))) with hb_ | hb_ <;> revert hb_
     ·intro h1710
      have h1710 := ax (h1710)
      have H := ift h1710 H
      refine aj [.row (sv v482) 3 1 rs1419.flatten] rfl (Inc.cons Mb0 Inc.nil)<|Jm 0 Z (by kernel_rfl)<|Jc 1 Z (by kernel_rfl)<|Jm 2 Z (by kernel_rfl)<|Aw.known (d := 32) rfl (bu h1708)<|Bm 3 Z (by kernel_rfl)<|Bm 4 Z (by kernel_rfl)<|?_
      have hs1711 := (hp1).mono hK1423
      refine Bq 5 Z (by kernel_rfl) (aO (T := (Ty.sl aX)) hs1711 rfl rfl)<|Bc 6 Z (by kernel_rfl)<|Jf 7 Z (by kernel_rfl)<|Jm 8 Z (by kernel_rfl)<|Aw.known (d := 38) rfl (bp h1710)<|Jz 9 Z (by kernel_rfl)<|Jz 10 Z (by kernel_rfl)<|Jz 11 Z (by kernel_rfl)<|Jz 12 Z (by kernel_rfl)<|Jz 13 Z (by kernel_rfl)<|?_
      refine Jz 14 Z (by kernel_rfl)<|Jz 15 Z (by kernel_rfl)<|Jz 16 Z (by kernel_rfl)<|Jz 17 Z (by kernel_rfl)<|Jz 18 Z (by kernel_rfl)<|Jt 19 Z (by kernel_rfl)<|au (by kernel_rfl)<|Shift.done<|?_
      exact ⟨_, by exact ⟨rfl, rfl, rfl, rfl, rfl, rfl, rfl, trivial⟩, true, rfl, rfl, rfl, H⟩
     ·intro h1710
      have h1710 := ay (h1710)
      have H := ap h1710 H
      obtain ⟨x1712, hx1713, H⟩ := bnd H
      obtain ⟨x1717, hx1718, H⟩ := bnd H
      refine aj [.row (sv v482) 3 1 rs1419.flatten] rfl (Inc.cons Mb0 Inc.nil)<|Jm 0 Z (by kernel_rfl)<|Jc 1 Z (by kernel_rfl)<|Jm 2 Z (by kernel_rfl)<|Aw.known (d := 32) rfl (bu h1708)<|Bm 3 Z (by kernel_rfl)<|Bm 4 Z (by kernel_rfl)<|?_
      have hs1724 := (hp1).mono hK1423
      refine Bq 5 Z (by kernel_rfl) (aO (T := (Ty.sl aX)) hs1724 rfl rfl)<|Bc 6 Z (by kernel_rfl)<|Jf 7 Z (by kernel_rfl)<|Jm 8 Z (by kernel_rfl)<|Aw.known (d := 38) rfl (bu h1710)<|Bm 9 Z (by kernel_rfl)<|Bm 10 Z (by kernel_rfl)<|?_
      obtain ⟨r1725, hq1726, hr1727⟩ := RowR.at hR1418 hx1713
      obtain rfl := hr1727
      refine Bq 11 Z (by kernel_rfl) (aZ (T := Ty.i64) Mb0 hR1418 hq1726 (aD hx1713).1 rfl rfl rfl rfl rfl)<|Bl 12 (.int .i64 x1712) Z (by kernel_rfl) (be (T := Ty.i64) Mb0 hR1418 hq1726 rfl rfl)<|Bm 13 Z (by kernel_rfl)<|Bm 14 Z (by kernel_rfl)<|?_
      obtain ⟨r1728, hr1729, hk1730⟩ := Slr.at hs1724 hx1718
      obtain ⟨v1731, rfl, hs1732⟩ := hr1729
      refine Bq 15 Z (by kernel_rfl) (aY (T := (Ty.sl aX)) hs1724 hx1718 rfl rfl rfl rfl rfl)<|Bl 16 (sv v1731) Z (by kernel_rfl) (Rdc.k hk1730 rfl)<|Bq 17 Z (by kernel_rfl) (aO (T := aX) hs1732 rfl rfl)<|Bc 18 Z (by kernel_rfl)<|Jf 19 Z (by kernel_rfl)<|au (by kernel_rfl)<|Shift.done<|?_
      exact ⟨_, by exact ⟨rfl, rfl, rfl, rfl, rfl, rfl, rfl, trivial⟩, (dcd (x1712 ≥ (x1717.length : Int))), rfl, rfl, rfl, H⟩
   rintro _ _ _ - ⟨t1707, rfl, rfl, rfl, H⟩
   unfold eL at H
   refine ah rfl ?_ ?_
   ·intro h1733
    have H := ift h1733 H
    refine ac<|aa<|Ea Z<|Ea Z<|ab<|an<|?_
    obtain ⟨ey0, ey1⟩ := bo H
    subst y0 y1
    refine ⟨(by first | exact .inl rfl | exact .inr rfl), [(sv ak), (.bool false)], ⟨(sv ak), _, rfl, rfl, ⟨(.bool false), _, rfl, rfl, rfl⟩⟩, ?_⟩
    refine Re0<|Shift.done<|?_
    exact ⟨ak, rfl, rfl, (Slr.nil aq _)⟩
   ·intro h1733
    have H := ap (btf h1733) H
    refine am<|ac<|?_
    obtain ⟨x1774, hx1775, H⟩ := bnd H
    obtain ⟨x1782, hx1783, H⟩ := bnd H
    obtain ⟨x1787, hx1788, H⟩ := bnd H
    refine aj [.row (sv v482) 3 1 rs1419.flatten] rfl (Inc.cons Mb0 Inc.nil)<|Jm 0 Z (by kernel_rfl)<|Jm 1 Z (by kernel_rfl)<|?_
    have hs1797 := (hp1).mono hK1423
    obtain ⟨r1798, hr1799, hk1800⟩ := Slr.at hs1797 hx1775
    obtain ⟨v1801, rfl, hs1802⟩ := hr1799
    refine Jq 2 Z (by kernel_rfl) (aY (T := (Ty.sl aX)) hs1797 hx1775 rfl rfl rfl rfl rfl)<|Jl 3 (sv v1801) Z (by kernel_rfl) (Rdc.k hk1800 rfl)<|Jm 4 Z (by kernel_rfl)<|Jm 5 Z (by kernel_rfl)<|?_
    obtain ⟨r1803, hq1804, hr1805⟩ := RowR.at hR1418 hx1783
    obtain rfl := hr1805
    refine Jq 6 Z (by kernel_rfl) (aZ (T := Ty.i64) Mb0 hR1418 hq1804 (aD hx1783).1 rfl rfl rfl rfl rfl)<|Jl 7 (.int .i64 x1782) Z (by kernel_rfl) (be (T := Ty.i64) Mb0 hR1418 hq1804 rfl rfl)<|?_
    obtain ⟨r1806, hr1807, hk1808⟩ := Slr.at hs1802 hx1788
    obtain ⟨v1809, v1810, rfl, hs1811, hs1812⟩ := hr1807
    refine Jq 8 Z (by kernel_rfl) (aY (T := aX) hs1802 hx1788 rfl rfl rfl rfl rfl)<|JL 9 7 (Op.cells x1787 v1809 v1810) Z (by kernel_rfl) (Rdc.k hk1808 rfl)<|?_
    refine ai 10 (by kernel_rfl) (Jy Z ?_)
    refine ar (cs := (Op.cells (Op.mk 0 0 0 0 0 [] []) ak ak)) rfl rfl rfl rfl (fun b1813 => ⟨(Inc.cons Mb1 Inc.nil), ?_⟩)
    refine ai 11 (by kernel_rfl) (Jy Z ?_)
    refine ag (vs := (Op.cells x1787 v1809 v1810)) (all' := (Op.cells x1787 v1809 v1810)) rfl rfl rfl rfl rfl .here rfl rfl rfl ⟨(Inc.cons Mb1 Inc.nil), ?_⟩
    refine au (by kernel_rfl)<|ac<|aa<|Em Z<|Em Z<|?_
    obtain ⟨x1814, hx1815, H⟩ := bnd H
    obtain ⟨r1816, hq1817, hr1818⟩ := RowR.at hR1418 hx1815
    obtain rfl := hr1818
    refine Eq Z (aZ (T := Ty.i64) Mb1 hR1418 hq1817 (aD hx1815).1 rfl rfl rfl rfl rfl)<|El (.int .i64 x1814) Z (be (T := Ty.i64) Mb1 hR1418 hq1817 rfl rfl)<|Er (wI (x1814 + 1)) Z<|?_
    obtain ⟨x1819, hx1820, H⟩ := bnd H
    obtain ⟨r1821, hq1822, hr1823⟩ := RowR.at hR1418 hx1820
    obtain rfl := hr1823
    refine Eq Z (aZ (T := Ty.i64) Mb1 hR1418 hq1822 (aD hx1820).1 rfl rfl rfl rfl rfl) ?_
    refine ae rfl (bd (T := Ty.i64) (vs := [(.int .i64 (wI (x1814 + 1)))]) (r' := [(.int .i64 (wI (x1814 + 1)))]) (l' := (aI l1417 x1650.thread (wI (x1814 + 1)))) rfl rfl rfl rfl rfl (.there .here) hR1418 hq1822 rfl rfl rfl (RowR.set x1650.thread hR1418 rfl) (fun hR1824 => ?_))
    have hE1825 := bW hq1822 (v := [(.int .i64 (wI (x1814 + 1)))])
    refine ab<|ac<|?_
    obtain ⟨x1826, hx1827, H⟩ := bnd H
    obtain ⟨x1831, x1832, hx1833, H⟩ := bD H
    refine aj [.blk b1813 43 (Op.cells x1787 v1809 v1810), .row (sv v482) 3 1 (rs1419.set x1650.thread.toNat [(.int .i64 (wI (x1814 + 1)))]).flatten] rfl (Inc.cons Mb0 (Inc.cons Mb1 Inc.nil))<|Jm 0 Z (by kernel_rfl)<|JL 1 7 (Op.cells x1787 v1809 v1810) Z (by kernel_rfl) (Rb0 Z)<|Jm 2 Z (by kernel_rfl)<|Jm 3 Z (by kernel_rfl)<|?_
    obtain ⟨r1838, hr1839, hk1840⟩ := Slr.at hs1429 hx1827
    obtain rfl := hr1839
    refine Jq 4 Z (by kernel_rfl) (aY (T := aw) hs1429 hx1827 rfl rfl rfl rfl rfl)<|JF 5 1 Z (by kernel_rfl)<|JL 6 5 (Result.cells x1826.result) Z (by kernel_rfl) (Rdc.k hk1840 rfl)<|?_
    refine ai 7 (by kernel_rfl) (Jy Z ?_)
    refine Ek Tryd.call25 Z (oJ l1415 v1414 x1787 v1809 v1810 x1826.result x1831 x1832 hx1833 _ _ hs1416 hs1811 hs1812) ?_
    rintro _ K1842 _ hK1843 ⟨v1841, rfl, rfl, hs1844⟩
    refine ⟨(Inc.cons Mb0 (Inc.cons Mb1 Inc.nil)), ?_⟩
    refine Jm 8 Z (by kernel_rfl)<|Jx 9 Z (by kernel_rfl)<|Jx 10 Z (by kernel_rfl)<|Ja 11 Z (by kernel_rfl)<|Ja 12 Z (by kernel_rfl)<|au (by kernel_rfl)<|ac<|ac<|aa<|Em Z<|?_
    refine ab ?_
    refine ah rfl ?_ ?_
    ·intro h1846
     have H := ift h1846 H
     refine ac<|aa<|Em Z<|Ea Z<|ab<|aP<|aa<|Em Z<|Er (wI (i1420 + 1)) Z<|Ea Z<|?_
     refine ab<|Pu1<|Re1<|?_
     have hs1847 := (hR1824).mono hK1843
     exact Shift.done ⟨_, by exact ⟨rfl, rfl, rfl, rfl, rfl, trivial⟩, _, Nat.lt_succ_self _, v1841, x1831, (aI l1417 x1650.thread (wI (x1814 + 1))), (rs1419.set x1650.thread.toNat [(.int .i64 (wI (x1814 + 1)))]), (wI (i1420 + 1)), rfl, rfl, (hkk1426 ▸ H), hs1844, hs1847⟩
    ·intro h1846
     have H := ap (btf h1846) H
     refine am<|ac<|ac<|aa<|Em Z<|Er (wI (i1420 + 1)) Z<|Em Z<|?_
     have hs1850 := (hs1429).mono hK1843
     refine Eq Z (aO (T := aw) hs1850 rfl rfl)<|Ec Z<|ab<|?_
     refine ah rfl ?_ ?_
     ·intro h1851
      have h1851 := ax (h1851)
      have H := ift h1851 H
      refine ac<|aa<|Ea Z<|Ea Z<|ab<|an<|?_
      obtain ⟨ey0, ey1⟩ := bo H
      subst y0 y1
      refine ⟨(by first | exact .inl rfl | exact .inr rfl), [(sv ak), (.bool false)], ⟨(sv ak), _, rfl, rfl, ⟨(.bool false), _, rfl, rfl, rfl⟩⟩, ?_⟩
      refine Re0<|Re0<|Shift.done<|?_
      exact ⟨ak, rfl, rfl, (Slr.nil aq _)⟩
     ·intro h1851
      have h1851 := ay (h1851)
      have H := ap h1851 H
      refine am<|ac<|aa<|Em Z<|Er (wI (i1420 + 1)) Z<|Ea Z<|ab<|ac<|aa<|Em Z<|?_
      refine Em Z ?_
      obtain ⟨x1852, hx1853, H⟩ := bnd H
      obtain ⟨r1854, hr1855, hk1856⟩ := Slr.at hs1850 hx1853
      obtain rfl := hr1855
      refine Eq Z (aY (T := aw) hs1850 hx1853 rfl rfl rfl rfl rfl)<|EF 0 Z<|El (.int .i64 x1852.thread) Z (Rdc.k hk1856 rfl)<|Ea Z<|ab<|ac<|?_
      refine ao (fun env' K' G' => ∃ (t1913 : Bool), [(0, (sv v1414)), (1, (sv vp1)), (2, (sv vp2)), (8, (sv v482)), (9, (.int .i64 (wI (i1420 + 1)))), (11, (.pointer (some ((⟨b1813, 0, none⟩ : Addr).add 0)))), (14, (.int .i64 x1852.thread)), (110, (.bool t1913))] = env' ∧ K1842 = K' ∧ (.blk b1813 43 (Op.cells x1787 v1809 v1810)) :: (.row (sv v482) 3 1 (rs1419.set x1650.thread.toNat [(.int .i64 (wI (x1814 + 1)))]).flatten) :: G = G' ∧ fc l1415 p1 p2 l1417 x1650 x1814 i1420 x1852 x1787 k1425 t1913 = some (y0, y1)) ?_ ?_
      ·skip
       rcases bk (dcd (x1852.thread < 0)) with hb_ | hb_ <;> revert hb_
       ·intro h1914
        have h1914 := ax (h1914)
        have H := ift h1914 H
        refine aj [.blk b1813 43 (Op.cells x1787 v1809 v1810), .row (sv v482) 3 1 (rs1419.set x1650.thread.toNat [(.int .i64 (wI (x1814 + 1)))]).flatten] rfl (Inc.cons Mb0 (Inc.cons Mb1 Inc.nil))<|Jm 0 Z (by kernel_rfl)<|Jc 1 Z (by kernel_rfl)<|Jm 2 Z (by kernel_rfl)<|Aw.known (d := 93) rfl (bp h1914)<|Jz 3 Z (by kernel_rfl)<|Jz 4 Z (by kernel_rfl)<|Jz 5 Z (by kernel_rfl)<|Jz 6 Z (by kernel_rfl)<|Jt 7 Z (by kernel_rfl)<|?_
        refine Jm 8 Z (by kernel_rfl)<|Jz 9 Z (by kernel_rfl)<|Jz 10 Z (by kernel_rfl)<|Jz 11 Z (by kernel_rfl)<|Jz 12 Z (by kernel_rfl)<|Jz 13 Z (by kernel_rfl)<|Jz 14 Z (by kernel_rfl)<|Jz 15 Z (by kernel_rfl)<|Jz 16 Z (by kernel_rfl)<|Jz 17 Z (by kernel_rfl)<|?_
        refine Jz 18 Z (by kernel_rfl)<|Jt 19 Z (by kernel_rfl)<|au (by kernel_rfl)<|Pu1<|Pu1<|Shift.done<|?_
        exact ⟨_, by exact ⟨rfl, rfl, rfl, rfl, rfl, rfl, rfl, rfl, trivial⟩, true, rfl, rfl, rfl, H⟩
       ·intro h1914
        have h1914 := ay (h1914)
        have H := ap h1914 H
        rcases bk (dcd (x1852.thread ≥ (p1.length : Int))) with hb_ | hb_ <;> revert hb_
        ·intro h1916
         have h1916 := ax (h1916)
         have H := ift h1916 H
         refine aj [.blk b1813 43 (Op.cells x1787 v1809 v1810), .row (sv v482) 3 1 (rs1419.set x1650.thread.toNat [(.int .i64 (wI (x1814 + 1)))]).flatten] rfl (Inc.cons Mb0 (Inc.cons Mb1 Inc.nil))<|Jm 0 Z (by kernel_rfl)<|Jc 1 Z (by kernel_rfl)<|Jm 2 Z (by kernel_rfl)<|Aw.known (d := 93) rfl (bu h1914)<|Bm 3 Z (by kernel_rfl)<|Bm 4 Z (by kernel_rfl)<|?_
         have hs1917 := (hs1797).mono hK1843
         refine Bq 5 Z (by kernel_rfl) (aO (T := (Ty.sl aX)) hs1917 rfl rfl)<|Bc 6 Z (by kernel_rfl)<|Jf 7 Z (by kernel_rfl)<|Jm 8 Z (by kernel_rfl)<|Aw.known (d := 99) rfl (bp h1916)<|Jz 9 Z (by kernel_rfl)<|Jz 10 Z (by kernel_rfl)<|Jz 11 Z (by kernel_rfl)<|Jz 12 Z (by kernel_rfl)<|Jz 13 Z (by kernel_rfl)<|?_
         refine Jz 14 Z (by kernel_rfl)<|Jz 15 Z (by kernel_rfl)<|Jz 16 Z (by kernel_rfl)<|Jz 17 Z (by kernel_rfl)<|Jz 18 Z (by kernel_rfl)<|Jt 19 Z (by kernel_rfl)<|au (by kernel_rfl)<|Pu1<|Pu1<|Shift.done<|?_
         exact ⟨_, by exact ⟨rfl, rfl, rfl, rfl, rfl, rfl, rfl, rfl, trivial⟩, true, rfl, rfl, rfl, H⟩
        ·intro h1916
         have h1916 := ay (h1916)
         have H := ap h1916 H
         obtain ⟨x1918, hx1919, H⟩ := bnd H
         obtain ⟨x1924, hx1925, H⟩ := bnd H
         refine aj [.blk b1813 43 (Op.cells x1787 v1809 v1810), .row (sv v482) 3 1 (rs1419.set x1650.thread.toNat [(.int .i64 (wI (x1814 + 1)))]).flatten] rfl (Inc.cons Mb0 (Inc.cons Mb1 Inc.nil))<|Jm 0 Z (by kernel_rfl)<|Jc 1 Z (by kernel_rfl)<|Jm 2 Z (by kernel_rfl)<|Aw.known (d := 93) rfl (bu h1914)<|Bm 3 Z (by kernel_rfl)<|Bm 4 Z (by kernel_rfl)<|?_
         have hs1931 := (hs1797).mono hK1843
         refine Bq 5 Z (by kernel_rfl) (aO (T := (Ty.sl aX)) hs1931 rfl rfl)<|Bc 6 Z (by kernel_rfl)<|Jf 7 Z (by kernel_rfl)<|Jm 8 Z (by kernel_rfl)<|Aw.known (d := 99) rfl (bu h1916)<|Bm 9 Z (by kernel_rfl)<|Bm 10 Z (by kernel_rfl)<|?_
         have hs1932 := (hR1824).mono hK1843
         obtain ⟨r1933, hq1934, hr1935⟩ := RowR.at hs1932 hx1919
         obtain rfl := hr1935
         refine Bq 11 Z (by kernel_rfl) (aZ (T := Ty.i64) Mb1 hs1932 hq1934 (aD hx1919).1 rfl rfl rfl rfl rfl)<|Bl 12 (.int .i64 x1918) Z (by kernel_rfl) (be (T := Ty.i64) Mb1 hs1932 hq1934 rfl rfl)<|Bm 13 Z (by kernel_rfl)<|Bm 14 Z (by kernel_rfl)<|?_
         obtain ⟨r1936, hr1937, hk1938⟩ := Slr.at hs1931 hx1925
         obtain ⟨v1939, rfl, hs1940⟩ := hr1937
         refine Bq 15 Z (by kernel_rfl) (aY (T := (Ty.sl aX)) hs1931 hx1925 rfl rfl rfl rfl rfl)<|Bl 16 (sv v1939) Z (by kernel_rfl) (Rdc.k hk1938 rfl)<|Bq 17 Z (by kernel_rfl) (aO (T := aX) hs1940 rfl rfl)<|Bc 18 Z (by kernel_rfl)<|Jf 19 Z (by kernel_rfl)<|au (by kernel_rfl)<|Pu1<|Pu1<|Shift.done<|?_
         exact ⟨_, by exact ⟨rfl, rfl, rfl, rfl, rfl, rfl, rfl, rfl, trivial⟩, (dcd (x1918 ≥ (x1924.length : Int))), rfl, rfl, rfl, H⟩
      rintro _ _ _ - ⟨t1913, rfl, rfl, rfl, H⟩
      unfold fc at H
      refine ah rfl ?_ ?_
      ·intro h1941
       have H := ift h1941 H
       refine ac<|aa<|Ea Z<|Ea Z<|ab<|an<|?_
       obtain ⟨ey0, ey1⟩ := bo H
       subst y0 y1
       refine ⟨(by first | exact .inl rfl | exact .inr rfl), [(sv ak), (.bool false)], ⟨(sv ak), _, rfl, rfl, ⟨(.bool false), _, rfl, rfl, rfl⟩⟩, ?_⟩
       refine Re0<|Re0<|Shift.done<|?_
       exact ⟨ak, rfl, rfl, (Slr.nil aq _)⟩
      ·intro h1941
       have H := ap (btf h1941) H
       refine am<|ac<|?_
       obtain ⟨x1984, hx1985, H⟩ := bnd H
       obtain ⟨x1992, hx1993, H⟩ := bnd H
       obtain ⟨x1998, hx1999, H⟩ := bnd H
       refine aj [.blk b1813 43 (Op.cells x1787 v1809 v1810), .row (sv v482) 3 1 (rs1419.set x1650.thread.toNat [(.int .i64 (wI (x1814 + 1)))]).flatten] rfl (Inc.cons Mb0 (Inc.cons Mb1 Inc.nil))<|Jm 0 Z (by kernel_rfl)<|Jm 1 Z (by kernel_rfl)<|?_
       have hs2008 := (hs1797).mono hK1843
       obtain ⟨r2009, hr2010, hk2011⟩ := Slr.at hs2008 hx1985
       obtain ⟨v2012, rfl, hs2013⟩ := hr2010
       refine Jq 2 Z (by kernel_rfl) (aY (T := (Ty.sl aX)) hs2008 hx1985 rfl rfl rfl rfl rfl)<|Jl 3 (sv v2012) Z (by kernel_rfl) (Rdc.k hk2011 rfl)<|Jm 4 Z (by kernel_rfl)<|Jm 5 Z (by kernel_rfl)<|?_
       have hs2014 := (hR1824).mono hK1843
       obtain ⟨r2015, hq2016, hr2017⟩ := RowR.at hs2014 hx1993
       obtain rfl := hr2017
       refine Jq 6 Z (by kernel_rfl) (aZ (T := Ty.i64) Mb1 hs2014 hq2016 (aD hx1993).1 rfl rfl rfl rfl rfl)<|Jl 7 (.int .i64 x1992) Z (by kernel_rfl) (be (T := Ty.i64) Mb1 hs2014 hq2016 rfl rfl)<|?_
       obtain ⟨r2018, hr2019, hk2020⟩ := Slr.at hs2013 hx1999
       obtain ⟨v2021, v2022, rfl, hs2023, hs2024⟩ := hr2019
       refine Jq 8 Z (by kernel_rfl) (aY (T := aX) hs2013 hx1999 rfl rfl rfl rfl rfl)<|JL 9 7 (Op.cells x1998 v2021 v2022) Z (by kernel_rfl) (Rdc.k hk2020 rfl)<|?_
       refine ai 10 (by kernel_rfl) (Jy Z ?_)
       refine ar (cs := (Op.cells (Op.mk 0 0 0 0 0 [] []) ak ak)) rfl rfl rfl rfl (fun b2025 => ⟨(Inc.cons Mb1 (Inc.cons Mb2 Inc.nil)), ?_⟩)
       refine ai 11 (by kernel_rfl) (Jy Z ?_)
       refine ag (vs := (Op.cells x1998 v2021 v2022)) (all' := (Op.cells x1998 v2021 v2022)) rfl rfl rfl rfl rfl .here rfl rfl rfl ⟨(Inc.cons Mb1 (Inc.cons Mb2 Inc.nil)), ?_⟩
       refine au (by kernel_rfl)<|ac<|aa<|Em Z<|Em Z<|?_
       obtain ⟨x2026, hx2027, H⟩ := bnd H
       obtain ⟨r2028, hq2029, hr2030⟩ := RowR.at hs2014 hx2027
       obtain rfl := hr2030
       refine Eq Z (aZ (T := Ty.i64) Mb2 hs2014 hq2029 (aD hx2027).1 rfl rfl rfl rfl rfl)<|El (.int .i64 x2026) Z (be (T := Ty.i64) Mb2 hs2014 hq2029 rfl rfl)<|Er (wI (x2026 + 1)) Z<|?_
       obtain ⟨x2031, hx2032, H⟩ := bnd H
       obtain ⟨r2033, hq2034, hr2035⟩ := RowR.at hs2014 hx2032
       obtain rfl := hr2035
       refine Eq Z (aZ (T := Ty.i64) Mb2 hs2014 hq2034 (aD hx2032).1 rfl rfl rfl rfl rfl) ?_
       refine ae rfl (bd (T := Ty.i64) (vs := [(.int .i64 (wI (x2026 + 1)))]) (r' := [(.int .i64 (wI (x2026 + 1)))]) (l' := (aI (aI l1417 x1650.thread (wI (x1814 + 1))) x1852.thread (wI (x2026 + 1)))) rfl rfl rfl rfl rfl (.there (.there .here)) hs2014 hq2034 rfl rfl rfl (RowR.set x1852.thread hs2014 rfl) (fun hR2036 => ?_))
       have hE2037 := bW hq2034 (v := [(.int .i64 (wI (x2026 + 1)))])
       refine ab<|ac<|?_
       obtain ⟨x2038, hx2039, H⟩ := bnd H
       obtain ⟨x2043, hx2044, H⟩ := bnd H
       obtain ⟨x2048, hx2049, H⟩ := bnd H
       refine aj [.blk b2025 43 (Op.cells x1998 v2021 v2022), .blk b1813 43 (Op.cells x1787 v1809 v1810), .row (sv v482) 3 1 ((rs1419.set x1650.thread.toNat [(.int .i64 (wI (x1814 + 1)))]).set x1852.thread.toNat [(.int .i64 (wI (x2026 + 1)))]).flatten] rfl (Inc.cons Mb0 (Inc.cons Mb1 (Inc.cons Mb2 Inc.nil)))<|Jm 0 Z (by kernel_rfl)<|JL 1 7 (Op.cells x1787 v1809 v1810) Z (by kernel_rfl) (Rb1 Z)<|Jm 2 Z (by kernel_rfl)<|Jm 3 Z (by kernel_rfl)<|Jr 4 (wI ((wI (i1420 + 1)) - 1)) Z (by kernel_rfl)<|?_
       obtain ⟨r2053, hr2054, hk2055⟩ := Slr.at hs1850 hx2039
       obtain rfl := hr2054
       refine Jq 5 Z (by kernel_rfl) (aY (T := aw) hs1850 hx2039 rfl rfl rfl rfl rfl)<|JF 6 1 Z (by kernel_rfl)<|JL 7 5 (Result.cells x2038.result) Z (by kernel_rfl) (Rdc.k hk2055 rfl)<|JL 8 7 (Op.cells x1998 v2021 v2022) Z (by kernel_rfl) (Rb0 Z)<|Jm 9 Z (by kernel_rfl)<|Jm 10 Z (by kernel_rfl)<|?_
       obtain ⟨r2056, hr2057, hk2058⟩ := Slr.at hs1850 hx2044
       obtain rfl := hr2057
       refine Jq 11 Z (by kernel_rfl) (aY (T := aw) hs1850 hx2044 rfl rfl rfl rfl rfl)<|JF 12 1 Z (by kernel_rfl)<|JL 13 5 (Result.cells x2043.result) Z (by kernel_rfl) (Rdc.k hk2058 rfl)<|?_
       refine ai 14 (by kernel_rfl) (Jy Z ?_)
       have hs2059 := (hs1416).mono hK1843
       have hs2060 := (hs1811).mono hK1843
       have hs2061 := (hs1812).mono hK1843
       refine Ek Tryd.call26 Z (ot l1415 v1414 x1787 v1809 v1810 x2038.result x1998 v2021 v2022 x2043.result x2048 hx2049 _ _ hs2059 hs2060 hs2061 hs2023 hs2024) ?_
       rintro _ _ _ - ⟨rfl, rfl, rfl⟩
       refine ⟨(Inc.cons Mb0 (Inc.cons Mb1 (Inc.cons Mb2 Inc.nil))), ?_⟩
       refine Jq 15 Z (by kernel_rfl) (aS rfl)<|au (by kernel_rfl)<|?_
       refine ah rfl ?_ ?_
       ·intro h2062
        have h2062 := bE (h2062)
        have H := ap (btf h2062) H
        refine ac<|aa<|Ea Z<|Ea Z<|ab<|an<|?_
        obtain ⟨ey0, ey1⟩ := bo H
        subst y0 y1
        refine ⟨(by first | exact .inl rfl | exact .inr rfl), [(sv ak), (.bool false)], ⟨(sv ak), _, rfl, rfl, ⟨(.bool false), _, rfl, rfl, rfl⟩⟩, ?_⟩
        refine Re0<|Re0<|Re0<|Shift.done<|?_
        exact ⟨ak, rfl, rfl, (Slr.nil aq _)⟩
       ·intro h2062
        have h2062 := bB (h2062)
        have H := ift h2062 H
        refine am<|aa<|Em Z<|Er (wI ((wI (i1420 + 1)) + 1)) Z<|Ea Z<|ab<|Pu2<|Re1<|Re1<|Shift.done<|?_
        exact ⟨_, by exact ⟨rfl, rfl, rfl, rfl, rfl, trivial⟩, _, Nat.lt_succ_self _, v1414, l1415, (aI (aI l1417 x1650.thread (wI (x1814 + 1))) x1852.thread (wI (x2026 + 1))), ((rs1419.set x1650.thread.toNat [(.int .i64 (wI (x1814 + 1)))]).set x1852.thread.toNat [(.int .i64 (wI (x2026 + 1)))]), (wI ((wI (i1420 + 1)) + 1)), rfl, rfl, (hkk1426 ▸ H), hs2059, hR2036⟩
  ·intro h1430
   have h1430 := ay (h1430)
   have H := ap h1430 H
   refine aP<|Re0<|Shift.done<|?_
   exact ⟨_, by exact ⟨rfl, trivial⟩, v1414, l1415, rfl, rfl, H, hs1416⟩
 rintro _ K2063 _ hK2064 ⟨v952, l953, rfl, rfl, H, hs954⟩
 unfold jO at H
 refine ac<|aa<|Em Z<|Ea Z<|Ea Z<|ab<|an<|?_
 obtain ⟨ey0, ey1⟩ := bo H
 subst y0 y1
 refine ⟨(by first | exact .inl rfl | exact .inr rfl), [(sv v952), (.bool true)], ⟨(sv v952), _, rfl, rfl, ⟨(.bool true), _, rfl, rfl, rfl⟩⟩, ?_⟩
 exact Shift.done ⟨v952, rfl, rfl, hs954⟩



end Go.Hx

namespace Go.Hx
open Go Go.Proofs
set_option linter.unusedSimpArgs false
set_option linter.unusedVariables false
set_option maxRecDepth 10000
set_option maxHeartbeats 1000000 in
theorem o9 (p0 : List Int) (vp0 : SV) (p1 : List Done) (vp1 : SV) (p2 : Int) (p3 : Int) (p4 : Int) (y0 : Bool) (H : kL p0 p1 p2 p3 p4 = some y0) (K : Kp) (G : List Ent) (hp0 : Slr Ty.u8 K (sv vp0) p0) (hp1 : Slr aw K (sv vp1) p1) (hT : dK K) :
  Fc Tryd.prog 5 #[(sv vp0), (sv vp1), (.int .i64 p2), (.int .u8 p3), (.int .u8 p4)] K (G) (fun v K' G' => v = (.bool y0) ∧ G = G') := by
 refine aA Tryd.func5 rfl Tryd.ntmps5 Tryd.results5 rfl ?_
 unfold kL at H
 refine ac<|aa<|Ea Z<|ab<|ac<|ac<|aa<|?_
 obtain ⟨x277, hx278, H⟩ := bnd H
 refine ae rfl (Ek Tryd.call6 Z (oD  x277 hx278 _ _ hT) ?_)
 rintro _ K279 _ hK280 ⟨rfl, rfl⟩
 refine Eq Z (aS rfl)<|ab<|?_
 refine ah rfl ?_ ?_
 ·intro h281
  have h281 := bE (h281)
  have H := ap (btf h281) H
  refine ac<|aa<|Ea Z<|ab<|an<|?_
  obtain ey0 := aV H
  subst y0
  refine ⟨(by first | exact .inl rfl | exact .inr rfl), [(.bool false)], ⟨(.bool false), _, rfl, rfl, rfl⟩, ?_⟩
  exact Shift.done ⟨rfl, rfl⟩
 ·intro h281
  have h281 := bB (h281)
  have H := ift h281 H
  refine am<|ac<|ac<|aa<|Em Z<|?_
  have hs284 := (hp1).mono hK280
  refine Eq Z (aO (T := aw) hs284 rfl rfl)<|Ec Z<|ab<|?_
  refine ah rfl ?_ ?_
  ·intro h285
   have h285 := ax (h285)
   have H := ift h285 H
   refine ac<|aa<|Ea Z<|ab<|an<|?_
   obtain ey0 := aV H
   subst y0
   refine ⟨(by first | exact .inl rfl | exact .inr rfl), [(.bool true)], ⟨(.bool true), _, rfl, rfl, rfl⟩, ?_⟩
   exact Shift.done ⟨rfl, rfl⟩
  ·intro h285
   have h285 := ay (h285)
   have H := ap h285 H
   refine am<|ac<|aa<|Em Z<|?_
   obtain ⟨x286, x287, x288, hx289, H⟩ := c8 H
   have hs290 := (hp0).mono hK280
   refine ae rfl (Ek Tryd.call7 Z (pw p0 vp0 10 x286 x287 x288 hx289 _ _ hs290) ?_)
   rintro _ K296 _ hK297 ⟨v291, v292, v293, rs294, v295, rfl, rfl, hs298, hs299, hs300, hs301⟩
   refine Em Z<|Ex Z<|Ex Z<|Ex Z<|?_
   refine ae rfl (ar (cs := (Config.cells (Config.mk [] [] 0) ak ak)) rfl rfl rfl rfl (fun b302 => ?_))
   refine ae rfl (ag (vs := (Config.cells x286 v291 v292)) (all' := (Config.cells x286 v291 v292)) rfl rfl rfl rfl rfl .here rfl rfl rfl ?_)
   refine Ea Z<|Ea Z<|ab<|ac<|aa<|Ea Z<|ab<|?_
   refine ao (fun env' K' G' => ∃ (v349 : SV) (l350 : List Done), [(1, (sv vp1)), (2, (.int .i64 p2)), (3, (.int .u8 p3)), (4, (.int .u8 p4)), (11, (.pointer (some ((⟨b302, 0, none⟩ : Addr).add 0)))), (12, (sv v293)), (13, (sv v295)), (14, (sv v349))] = env' ∧ (.blk b302 27 (Config.cells x286 v291 v292)) :: (.tok 47 6 [(sv v349)]) :: (.tok 3 1 [(sv v291)]) :: (.tok 34 1 [(sv v292)]) :: (.row (sv v293) 39 1 rs294.flatten) :: (.tok 38 8 [(sv v295)]) :: G = G' ∧ kf p1 p2 p3 p4 x287 x288 x286 l350 = some y0 ∧ Slr aw K' (sv v349) l350) ?_ ?_
   ·skip
    refine ac<|aa<|Em Z<|Eq Z (aO (T := aJ) hs301 rfl rfl)<|Em Z<|ab<|av<|?_
    refine aN (fun n398 env' K' G' => ∃ (v394 : SV) (l395 : List Done) (i397 : Int), [(1, (sv vp1)), (2, (.int .i64 p2)), (3, (.int .u8 p3)), (4, (.int .u8 p4)), (11, (.pointer (some ((⟨b302, 0, none⟩ : Addr).add 0)))), (12, (sv v293)), (13, (sv v295)), (14, (sv v394)), (38, (sv v295)), (39, (.int .i64 (x288.length : Int))), (40, (.int .i64 i397))] = env' ∧ (.blk b302 27 (Config.cells x286 v291 v292)) :: (.tok 47 6 [(sv v394)]) :: (.tok 3 1 [(sv v291)]) :: (.tok 34 1 [(sv v292)]) :: (.row (sv v293) 39 1 rs294.flatten) :: (.tok 38 8 [(sv v295)]) :: G = G' ∧ lp2 (jq p1 p2 p3 p4 x287 x288 x286) n398 l395 i397 = some y0 ∧ Slr aw K' (sv v394) l395) BIG ?_ ?_
    ·skip
     refine Shift.nilTok1 47 6<|Pu5<|Pu5<|Pu5<|Pu5<|Pu4<|Pu5<|Shift.done<|?_
     exact ⟨_, by exact ⟨rfl, rfl, rfl, rfl, rfl, rfl, rfl, rfl, rfl, rfl, rfl, trivial⟩, ak, ([] : List Done), 0, rfl, rfl, H, (Slr.nil aw _)⟩
    rintro n398 _ K399 _ hK400 ⟨v394, l395, i397, rfl, rfl, H, hs396⟩
    obtain ⟨m401, k402, rfl, hkk403, H⟩ := dl H
    unfold jq at H
    refine ac<|aa<|Ec Z<|ab<|ac<|?_
    refine ah rfl ?_ ?_
    ·intro h405
     have h405 := ax (h405)
     have H := ift h405 H
     refine am<|ac<|av<|ac<|aa<|?_
     obtain ⟨x422, hx423, H⟩ := bnd H
     have hs424 := (hs301).mono hK400
     obtain ⟨r425, hr426, hk427⟩ := Slr.at hs424 hx423
     obtain rfl := hr426
     refine Eq Z (aY (T := aJ) hs424 hx423 rfl rfl rfl rfl rfl)<|EL 8 (Event.cells x422) Z (Rdc.k hk427 rfl)<|?_
     refine ae rfl (ar (cs := (Event.cells (Event.mk 0 0 false (Result.mk 0 0 0 false 0)))) rfl rfl rfl rfl (fun b428 => ?_))
     refine ae rfl (ag (vs := (Event.cells x422)) (all' := (Event.cells x422)) rfl rfl rfl rfl rfl .here rfl rfl rfl ?_)
     refine ab<|ac<|aa<|EF 2 Z<|El (.bool x422.ret) Z (Rb0 Z)<|ab<|?_
     refine ah rfl ?_ ?_
     ·intro h429
      have H := ift h429 H
      refine aa<|Em Z<|EF 0 Z<|El (.int .i64 x422.thread) Z (Rb0 Z)<|EF 3 Z<|EL 5 (Result.cells x422.result) Z (Rb0 Z)<|Eq Z (az (cs := (Done.cells (Done.mk x422.thread x422.result))) rfl rfl rfl rfl rfl rfl)<|?_
      have hR431 : RowR aw K399 [(Done.cells (Done.mk x422.thread x422.result))] [(Done.mk x422.thread x422.result)] := RowR.cons rfl (RowR.nil)
      refine ae rfl (aR (T := aw) (rows := [(Done.cells (Done.mk x422.thread x422.result))]) (l := [(Done.mk x422.thread x422.result)]) rfl rfl rfl hR431 rfl rfl rfl rfl rfl rfl rfl rfl (fun v430 => ?_))
      obtain ⟨x432, hx433, H⟩ := bnd H
      refine ae rfl (aG (T := aw) (bytes := 48) (q := 0) rfl rfl rfl hs396 Mb3 rfl (SrcT.row Mb0 hR431 rfl) hx433 rfl rfl rfl rfl rfl rfl rfl rfl (fun v434 K435 hK436 hs437 => ⟨_, (.there (.there (.there .here))), ?_⟩))
      refine Ow.shift (Re0 (Shift.done ?_))
      refine Ea Z<|ab<|aa<|Er (wI (i397 + 1)) Z<|Em Z<|ab<|Pu6<|Pu6<|Pu6<|Pu6<|?_
      refine Pu6<|Pu6<|Re6<|Shift.done<|?_
      exact ⟨_, by exact ⟨rfl, rfl, rfl, rfl, rfl, rfl, rfl, rfl, rfl, rfl, rfl, trivial⟩, _, Nat.lt_succ_self _, v434, x432, (wI (i397 + 1)), rfl, rfl, (hkk403 ▸ H), hs437⟩
     ·intro h429
      have H := ap (btf h429) H
      refine am<|aa<|Er (wI (i397 + 1)) Z<|Em Z<|ab<|Pu6<|Pu6<|Pu6<|Pu6<|Pu6<|?_
      refine Pu6<|Re6<|Shift.done<|?_
      exact ⟨_, by exact ⟨rfl, rfl, rfl, rfl, rfl, rfl, rfl, rfl, rfl, rfl, rfl, trivial⟩, _, Nat.lt_succ_self _, v394, l395, (wI (i397 + 1)), rfl, rfl, (hkk403 ▸ H), hs396⟩
    ·intro h405
     have h405 := ay (h405)
     have H := ap h405 H
     refine aP<|Pu5<|Pu5<|Pu5<|Pu5<|Pu5<|Pu5<|Shift.done<|?_
     exact ⟨_, by exact ⟨rfl, rfl, rfl, rfl, rfl, rfl, rfl, rfl, trivial⟩, v394, l395, rfl, rfl, H, hs396⟩
   rintro _ K438 _ hK439 ⟨v349, l350, rfl, rfl, H, hs351⟩
   unfold kf at H
   refine ac<|aa<|Em Z<|Em Z<|Em Z<|Em Z<|?_
   obtain ⟨x440, hx441, H⟩ := bnd H
   have hs442 := (hs301).mono hK439
   refine ae rfl (Ek Tryd.call10 Z (py x288 v295 p2 p3 p4 x440 hx441 _ _ hs442) ?_)
   rintro _ _ _ - ⟨v443, rs444, rfl, rfl, rfl, hs445⟩
   refine Ea Z<|ab<|ac<|aa<|Ea Z<|ab<|?_
   refine ao (fun env' K' G' => ∃ (v492 : SV) (l493 : List Done), [(1, (sv vp1)), (11, (.pointer (some ((⟨b302, 0, none⟩ : Addr).add 0)))), (12, (sv v293)), (14, (sv v349)), (18, (sv v492))] = env' ∧ (.blk b302 27 (Config.cells x286 v291 v292)) :: (.tok 47 6 [(sv v492)]) :: (.tok 47 6 [(sv v349)]) :: (.tok 3 1 [(sv v291)]) :: (.tok 34 1 [(sv v292)]) :: (.row (sv v293) 39 1 rs294.flatten) :: G = G' ∧ gp p1 x287 l350 x286 l493 = some y0 ∧ Slr aw K' (sv v492) l493) ?_ ?_
   ·skip
    refine ac<|aa<|Em Z<|Eq Z (dI (T := aJ) Mb0 hs445 rfl rfl rfl)<|Em Z<|ab<|av<|?_
    refine aN (fun n541 env' K' G' => ∃ (v537 : SV) (l538 : List Done) (i540 : Int), [(1, (sv vp1)), (11, (.pointer (some ((⟨b302, 0, none⟩ : Addr).add 0)))), (12, (sv v293)), (14, (sv v349)), (18, (sv v537)), (60, (sv v443)), (61, (.int .i64 (x440.length : Int))), (62, (.int .i64 i540))] = env' ∧ (.blk b302 27 (Config.cells x286 v291 v292)) :: (.tok 47 6 [(sv v537)]) :: (.row (sv v443) 38 8 rs444.flatten) :: (.tok 47 6 [(sv v349)]) :: (.tok 3 1 [(sv v291)]) :: (.tok 34 1 [(sv v292)]) :: (.row (sv v293) 39 1 rs294.flatten) :: G = G' ∧ lp2 (kU p1 x287 l350 x440 x286) n541 l538 i540 = some y0 ∧ Slr aw K' (sv v537) l538) BIG ?_ ?_
    ·skip
     refine Shift.nilTok1 47 6<|Pu6<|Pu6<|Pu6<|Pu6<|Pu5<|Pu5<|Pu6<|Re7<|Shift.done<|?_
     exact ⟨_, by exact ⟨rfl, rfl, rfl, rfl, rfl, rfl, rfl, rfl, trivial⟩, ak, ([] : List Done), 0, rfl, rfl, H, (Slr.nil aw _)⟩
    rintro n541 _ K542 _ hK543 ⟨v537, l538, i540, rfl, rfl, H, hs539⟩
    obtain ⟨m544, k545, rfl, hkk546, H⟩ := dl H
    unfold kU at H
    refine ac<|aa<|Ec Z<|ab<|ac<|?_
    refine ah rfl ?_ ?_
    ·intro h548
     have h548 := ax (h548)
     have H := ift h548 H
     refine am<|ac<|av<|ac<|aa<|?_
     obtain ⟨x565, hx566, H⟩ := bnd H
     have hs567 := (hs445).mono hK543
     obtain ⟨r568, hq569, hr570⟩ := RowR.at hs567 hx566
     obtain rfl := hr570
     refine Eq Z (aZ (T := aJ) Mb2 hs567 hq569 (aD hx566).1 rfl rfl rfl rfl rfl)<|EL 8 (Event.cells x565) Z (be (T := aJ) Mb2 hs567 hq569 rfl rfl)<|?_
     refine ae rfl (ar (cs := (Event.cells (Event.mk 0 0 false (Result.mk 0 0 0 false 0)))) rfl rfl rfl rfl (fun b571 => ?_))
     refine ae rfl (ag (vs := (Event.cells x565)) (all' := (Event.cells x565)) rfl rfl rfl rfl rfl .here rfl rfl rfl ?_)
     refine ab<|ac<|aa<|EF 2 Z<|El (.bool x565.ret) Z (Rb0 Z)<|ab<|?_
     refine ah rfl ?_ ?_
     ·intro h572
      have H := ift h572 H
      refine aa<|Em Z<|EF 0 Z<|El (.int .i64 x565.thread) Z (Rb0 Z)<|EF 3 Z<|EL 5 (Result.cells x565.result) Z (Rb0 Z)<|Eq Z (az (cs := (Done.cells (Done.mk x565.thread x565.result))) rfl rfl rfl rfl rfl rfl)<|?_
      have hR574 : RowR aw K542 [(Done.cells (Done.mk x565.thread x565.result))] [(Done.mk x565.thread x565.result)] := RowR.cons rfl (RowR.nil)
      refine ae rfl (aR (T := aw) (rows := [(Done.cells (Done.mk x565.thread x565.result))]) (l := [(Done.mk x565.thread x565.result)]) rfl rfl rfl hR574 rfl rfl rfl rfl rfl rfl rfl rfl (fun v573 => ?_))
      obtain ⟨x575, hx576, H⟩ := bnd H
      refine ae rfl (aG (T := aw) (bytes := 48) (q := 0) rfl rfl rfl hs539 Mb3 rfl (SrcT.row Mb0 hR574 rfl) hx576 rfl rfl rfl rfl rfl rfl rfl rfl (fun v577 K578 hK579 hs580 => ⟨_, (.there (.there (.there .here))), ?_⟩))
      refine Ow.shift (Re0 (Shift.done ?_))
      refine Ea Z<|ab<|aa<|Er (wI (i540 + 1)) Z<|Em Z<|ab<|Pu7<|Pu7<|Pu7<|Pu7<|?_
      refine Pu7<|Pu7<|Pu7<|Re7<|Shift.done<|?_
      exact ⟨_, by exact ⟨rfl, rfl, rfl, rfl, rfl, rfl, rfl, rfl, trivial⟩, _, Nat.lt_succ_self _, v577, x575, (wI (i540 + 1)), rfl, rfl, (hkk546 ▸ H), hs580⟩
     ·intro h572
      have H := ap (btf h572) H
      refine am<|aa<|Er (wI (i540 + 1)) Z<|Em Z<|ab<|Pu7<|Pu7<|Pu7<|Pu7<|Pu7<|?_
      refine Pu7<|Pu7<|Re7<|Shift.done<|?_
      exact ⟨_, by exact ⟨rfl, rfl, rfl, rfl, rfl, rfl, rfl, rfl, trivial⟩, _, Nat.lt_succ_self _, v537, l538, (wI (i540 + 1)), rfl, rfl, (hkk546 ▸ H), hs539⟩
    ·intro h548
     have h548 := ay (h548)
     have H := ap h548 H
     refine aP<|Pu6<|Pu6<|Pu6<|Pu6<|Pu5<|Pu5<|Re6<|Shift.done<|?_
     exact ⟨_, by exact ⟨rfl, rfl, rfl, rfl, rfl, trivial⟩, v537, l538, rfl, rfl, H, hs539⟩
   rintro _ K581 _ hK582 ⟨v492, l493, rfl, rfl, H, hs494⟩
   unfold gp at H
   refine ao (fun env' K' G' => [] = env' ∧ G = G' ∧ j8 = some y0) ?_ ?_
   ·skip
    refine ac<|aa<|Em Z<|Em Z<|Em Z<|?_
    have hs723 := (((hs284).mono hK297).mono hK439).mono hK582
    have hs724 := (hs351).mono hK582
    have hR722 : RowR (Ty.sl aw) K581 [[(sv v349)], [(sv v492)], [(sv vp1)]] [l350, l493, p1] := RowR.cons ⟨v349, rfl, hs724⟩ (RowR.cons ⟨v492, rfl, hs494⟩ (RowR.cons ⟨vp1, rfl, hs723⟩ (RowR.nil)))
    refine ae rfl (aR (T := (Ty.sl aw)) (rows := [[(sv v349)], [(sv v492)], [(sv vp1)]]) (l := [l350, l493, p1]) rfl rfl rfl hR722 rfl rfl rfl rfl rfl rfl rfl rfl (fun v721 => ?_))
    refine Eq Z (dI (T := (Ty.sl aw)) Mb0 hR722 rfl rfl rfl)<|Em Z<|ab<|av<|?_
    refine aN (fun n859 env' K' G' => ∃ (i858 : Int), [(11, (.pointer (some ((⟨b302, 0, none⟩ : Addr).add 0)))), (12, (sv v293)), (80, (sv v721)), (81, (.int .i64 ([l350, l493, p1].length : Int))), (82, (.int .i64 i858))] = env' ∧ (.blk b302 27 (Config.cells x286 v291 v292)) :: (.tok 39 1 [(sv v293)]) :: (.row (sv v721) 45 1 [[(sv v349)], [(sv v492)], [(sv vp1)]].flatten) :: (.tok 3 1 [(sv v291)]) :: (.tok 34 1 [(sv v292)]) :: G = G' ∧ lp1 (kb x287 l350 l493 p1 x286) n859 i858 = some y0 ∧ Slr (Ty.sl aX) K' (sv v293) x287) BIG ?_ ?_
    ·skip
     have hs863 := ((hs300).mono hK439).mono hK582
     refine Shift.settle (T := (Ty.sl aX)) (.there (.there (.there (.there (.there (.there .here)))))) hs863 rfl ?_
     intro K860 hK861 hs862
     refine Pu5<|Pu5<|Pu2<|Pu6<|Pu4<|Re5<|Re5<|Shift.done<|?_
     exact ⟨_, by exact ⟨rfl, rfl, rfl, rfl, rfl, trivial⟩, 0, rfl, rfl, H, hs862⟩
    rintro n859 _ K864 _ hK865 ⟨i858, rfl, rfl, H, hs857⟩
    obtain ⟨m866, k867, rfl, hkk868, H⟩ := iB H
    unfold kb at H
    refine ac<|aa<|Ec Z<|ab<|ac<|?_
    refine ah rfl ?_ ?_
    ·intro h870
     have h870 := ax (h870)
     have H := ift h870 H
     refine am<|ac<|av<|ac<|aa<|?_
     obtain ⟨x931, hx932, H⟩ := bnd H
     have hs933 := (hR722).mono hK865
     obtain ⟨r934, hq935, hr936⟩ := RowR.at hs933 hx932
     obtain ⟨v937, rfl, hs938⟩ := hr936
     refine Eq Z (aZ (T := (Ty.sl aw)) Mb2 hs933 hq935 (aD hx932).1 rfl rfl rfl rfl rfl)<|El (sv v937) Z (be (T := (Ty.sl aw)) Mb2 hs933 hq935 rfl rfl)<|Ea Z<|ab<|ac<|aa<|EL 3 (Config.cells x286 v291 v292) Z (Rb0 Z)<|?_
     obtain ⟨x939, hx940, H⟩ := bnd H
     have hs941 := (((hs298).mono hK439).mono hK582).mono hK865
     have hs942 := (((hs299).mono hK439).mono hK582).mono hK865
     refine ae rfl (Ek Tryd.call12 Z (jU x286 v291 v292 x939 hx940 _ _ hs941 hs942) ?_)
     rintro _ K945 _ hK946 ⟨v943, rs944, rfl, rfl, hs947⟩
     refine Em Z<|Em Z<|?_
     refine Ow.shift (Shift.settle (T := aq) .here hs947 rfl (fun K948 hK949 hs950 => Shift.done ?_))
     obtain ⟨x951, x952, hx953, H⟩ := bD H
     have hs954 := ((hs857).mono hK946).mono hK949
     have hs955 := ((hs938).mono hK946).mono hK949
     refine ae rfl (Ek Tryd.call11 Z (oA x939 v943 x287 v293 x931 v937 x951 x952 hx953 _ _ hs950 hs954 hs955) ?_)
     rintro _ K957 _ hK958 ⟨v956, rfl, rfl, hs959⟩
     refine Em Z<|Ex Z<|Ex Z<|Ea Z<|Ea Z<|ab<|ac<|aa<|EL 3 (Config.cells x286 v291 v292) Z (Rb2 Z)<|?_
     obtain ⟨x960, hx961, H⟩ := bnd H
     have hs962 := (((hs941).mono hK946).mono hK949).mono hK958
     have hs963 := (((hs942).mono hK946).mono hK949).mono hK958
     refine ae rfl (Ek Tryd.call12 Z (jU x286 v291 v292 x960 hx961 _ _ hs962 hs963) ?_)
     rintro _ K966 _ hK967 ⟨v964, rs965, rfl, rfl, hs968⟩
     refine Em Z<|Em Z<|?_
     refine Ow.shift (Shift.settle (T := aq) .here hs968 rfl (fun K969 hK970 hs971 => Shift.done ?_))
     obtain ⟨x972, x973, hx974, H⟩ := bD H
     have hs975 := (((hs954).mono hK958).mono hK967).mono hK970
     have hs976 := (((hs955).mono hK958).mono hK967).mono hK970
     refine ae rfl (Ek Tryd.call13 Z (pB x960 v964 x287 v293 x931 v937 x972 x973 hx974 _ _ hs971 hs975 hs976) ?_)
     rintro _ K978 _ hK979 ⟨v977, rfl, rfl, hs980⟩
     refine Em Z<|Ex Z<|Ex Z<|Ea Z<|Ea Z<|ab<|?_
     refine ao (fun env' K' G' => ∃ (t987 : Bool), [(11, (.pointer (some ((⟨b302, 0, none⟩ : Addr).add 0)))), (12, (sv v293)), (80, (sv v721)), (81, (.int .i64 ([l350, l493, p1].length : Int))), (82, (.int .i64 i858)), (110, (.bool t987))] = env' ∧ (.blk b302 27 (Config.cells x286 v291 v292)) :: (.tok 39 1 [(sv v293)]) :: (.row (sv v721) 45 1 [[(sv v349)], [(sv v492)], [(sv vp1)]].flatten) :: (.tok 3 1 [(sv v291)]) :: (.tok 34 1 [(sv v292)]) :: G = G' ∧ gR x287 l350 l493 p1 i858 x286 k867 t987 = some y0) ?_ ?_
     ·skip
      refine aa<|Em Z<|Em Z<|Eq Z (mN rfl rfl rfl)<|Em Z<|?_
      refine Ee Z ?_ ?_
      ·intro h988
       have h988 := bE (h988)
       have H := ap (btf h988) H
       refine Ez Z<|Ez Z<|Ez Z<|Ez Z<|Et Z<|ab<|Pu8<|Pu8<|Pu8<|Pu8<|?_
       refine Pu8<|Re5<|Re5<|Re5<|Re5<|Shift.done<|?_
       exact ⟨_, by exact ⟨rfl, rfl, rfl, rfl, rfl, rfl, trivial⟩, true, rfl, rfl, H⟩
      ·intro h988
       have h988 := bB (h988)
       have H := ift h988 H
       refine Vm Z<|Vm Z<|?_
       obtain ⟨x989, hx990, H⟩ := bnd H
       have hs991 := (((hs959).mono hK967).mono hK970).mono hK979
       refine br rfl rfl rfl rfl (Ek Tryd.call14 Z (pR x951 v956 x972 v977 x989 hx990 _ _ hs991 hs980) ?_)
       rintro _ K992 _ hK993 ⟨rfl, rfl⟩
       refine Vq Z (aS rfl)<|Ef Z<|ab<|Pu8<|Pu8<|Pu8<|Pu8<|Pu8<|Re5<|Re5<|?_
       refine Re5<|Re5<|Shift.done<|?_
       exact ⟨_, by exact ⟨rfl, rfl, rfl, rfl, rfl, rfl, trivial⟩, (!(x989)), rfl, rfl, H⟩
     rintro _ K994 _ hK995 ⟨t987, rfl, rfl, H⟩
     unfold gR at H
     refine ah rfl ?_ ?_
     ·intro h996
      have H := ift h996 H
      refine ac<|aa<|Ea Z<|ab<|an<|?_
      obtain ey0 := aV H
      subst y0
      refine ⟨(by first | exact .inl rfl | exact .inr rfl), [(.bool false)], ⟨(.bool false), _, rfl, rfl, rfl⟩, ?_⟩
      refine Re0<|Re0<|Re0<|Re0<|Re0<|Shift.done<|?_
      exact ⟨rfl, rfl⟩
     ·intro h996
      have H := ap (btf h996) H
      refine am<|aa<|Er (wI (i858 + 1)) Z<|Em Z<|ab<|Pu4<|Pu4<|Pu4<|Pu4<|Pu4<|?_
      have hs997 := ((hs975).mono hK979).mono hK995
      exact Shift.done ⟨_, by exact ⟨rfl, rfl, rfl, rfl, rfl, trivial⟩, _, Nat.lt_succ_self _, (wI (i858 + 1)), rfl, rfl, (hkk868 ▸ H), hs997⟩
    ·intro h870
     have h870 := ay (h870)
     have H := ap h870 H
     refine aP<|Re0<|Re0<|Re0<|Re0<|Re0<|Shift.done<|?_
     exact ⟨[], trivial, rfl, rfl, H⟩
   rintro _ K998 _ hK999 ⟨rfl, rfl, H⟩
   unfold j8 at H
   refine ac<|aa<|Ea Z<|ab<|an<|?_
   obtain ey0 := aV H
   subst y0
   refine ⟨(by first | exact .inl rfl | exact .inr rfl), [(.bool true)], ⟨(.bool true), _, rfl, rfl, rfl⟩, ?_⟩
   exact Shift.done ⟨rfl, rfl⟩



end Go.Hx
