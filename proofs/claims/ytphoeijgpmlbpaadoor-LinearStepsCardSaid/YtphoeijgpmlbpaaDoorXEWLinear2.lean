
import Derived.Test.YtphoeijgpmlbpaaDoorXEM
import Derived.Test.YtphoeijgpmlbpaaDoorXEWHistory
namespace Go.Hx
open Go Go.Proofs
set_option linter.unusedSimpArgs false
set_option linter.unusedVariables false
set_option maxRecDepth 10000
set_option maxHeartbeats 1000000 in
theorem oC (p0 : Linear_call) (vp0_op_cases : SV) (vp0_op_draws : SV) (p1 : List Chan) (vp1 : SV) (y0 : List Result) (H : na p0 p1 = some y0) (K : Kp) (G : List Ent) (hp0_op_cases : Slr aF K (sv vp0_op_cases) p0.op.cases) (hp0_op_draws : Slr Ty.i64 K (sv vp0_op_draws) p0.op.draws) (hp1 : Slr aq K (sv vp1) p1) :
  Fc Tryd.prog 54 #[(.agg (Linear_call.cells p0 vp0_op_cases vp0_op_draws).toArray), (sv vp1)] K (G) (fun v K' G' => ∃ (wy0 : SV), v = (sv wy0) ∧ (.tok 36 5 [(sv wy0)]) :: G = G' ∧ Slr bh K' (sv wy0) y0) := by
 refine aA Tryd.func54 rfl Tryd.ntmps54 Tryd.results54 rfl ?_
 unfold na at H
 refine ac<|aa<|?_
 refine ae rfl (aB (cs := (Linear_call.cells p0 vp0_op_cases vp0_op_draws)) rfl rfl rfl (fun b11 => ?_))
 refine Ea Z<|ab<|ac<|ac<|aa<|EF 13 Z<|El (.int .i64 p0.coming) Z (Rb0 Z)<|Ec Z<|ab<|?_
 refine ah rfl ?_ ?_
 ·intro h15
  have h15 := ax (h15)
  have H := ift h15 H
  refine ac<|aa<|EF 7 Z<|EL 5 (Result.cells p0.result) Z (Rb0 Z)<|?_
  have hR17 : RowR bh K [(Result.cells p0.result)] [p0.result] := RowR.cons rfl (RowR.nil)
  refine ae rfl (aR (T := bh) (rows := [(Result.cells p0.result)]) (l := [p0.result]) rfl rfl rfl hR17 rfl rfl rfl rfl rfl rfl rfl rfl (fun v16 => ?_))
  refine Ea Z<|ab<|an<|?_
  obtain ey0 := aV H
  subst y0
  refine ⟨(by first | exact .inl rfl | exact .inr rfl), [(sv v16)], ⟨(sv v16), _, rfl, rfl, rfl⟩, ?_⟩
  refine Shift.settle (T := bh) .here hR17 rfl ?_
  intro K18 hK19 hs20
  refine Re1<|Shift.done<|?_
  exact ⟨v16, rfl, rfl, hs20⟩
 ·intro h15
  have h15 := ay (h15)
  have H := ap h15 H
  refine am<|ac<|aa<|Em Z<|EF 0 Z<|EL 7 (Op.cells p0.op vp0_op_cases vp0_op_draws) Z (Rb0 Z)<|?_
  obtain ⟨x21, hx22, H⟩ := bnd H
  refine ae rfl (Ek Tryd.call83 Z (pd p1 vp1 p0.op vp0_op_cases vp0_op_draws x21 hx22 _ _ hp1 hp0_op_cases hp0_op_draws) ?_)
  rintro _ K24 _ hK25 ⟨v23, rfl, rfl, hs26⟩
  refine Ea Z<|ab<|an<|?_
  obtain ey0 := aV H
  subst y0
  refine ⟨(by first | exact .inl rfl | exact .inr rfl), [(sv v23)], ⟨(sv v23), _, rfl, rfl, rfl⟩, ?_⟩
  refine Re1<|Shift.done<|?_
  exact ⟨v23, rfl, rfl, hs26⟩

set_option maxHeartbeats 1000000 in
theorem lA (p0 : Op) (vp0_cases : SV) (vp0_draws : SV) (y0 : List Linear_numbered) (H : kE p0 = some y0) (K : Kp) (G : List Ent) (hp0_cases : Slr aF K (sv vp0_cases) p0.cases) (hp0_draws : Slr Ty.i64 K (sv vp0_draws) p0.draws) :
  Fc Tryd.prog 85 #[(.agg (Op.cells p0 vp0_cases vp0_draws).toArray)] K (G) (fun v K' G' => ∃ (wy0 : SV), v = (sv wy0) ∧ (.tok 151 4 [(sv wy0)]) :: G = G' ∧ Slr aT K' (sv wy0) y0) := by
 refine aA Tryd.func85 rfl Tryd.ntmps85 Tryd.results85 rfl ?_
 unfold kE at H
 refine ac<|aa<|?_
 refine ae rfl (aB (cs := (Op.cells p0 vp0_cases vp0_draws)) rfl rfl rfl (fun b58 => ?_))
 refine Ea Z<|ab<|ac<|ac<|aa<|EL 7 (Op.cells p0 vp0_cases vp0_draws) Z (Rb0 Z)<|?_
 obtain ⟨x66, x67, hx68, H⟩ := bD H
 refine ae rfl (Ek Tryd.call70 Z (kG p0 vp0_cases vp0_draws x66 x67 hx68 _ _ hp0_cases hp0_draws) ?_)
 rintro _ _ _ - ⟨rfl, rfl, rfl⟩
 refine Em Z<|Ex Z<|Ex Z<|?_
 refine ae rfl (ar (cs := (Case.cells (Case.mk false 0 0))) rfl rfl rfl rfl (fun b69 => ?_))
 refine ae rfl (ag (vs := (Case.cells x66)) (all' := (Case.cells x66)) rfl rfl rfl rfl rfl .here rfl rfl rfl ?_)
 refine Ea Z<|ab<|ac<|aa<|Em Z<|ab<|?_
 refine ah rfl ?_ ?_
 ·intro h70
  have H := ift h70 H
  refine ac<|aa<|EL 3 (Case.cells x66) Z (Rb0 Z)<|Eq Z (az (cs := (Linear_numbered.cells (Linear_numbered.mk (-1) x66))) rfl rfl rfl rfl rfl rfl)<|?_
  have hR72 : RowR aT K [(Linear_numbered.cells (Linear_numbered.mk (-1) x66))] [(Linear_numbered.mk (-1) x66)] := RowR.cons rfl (RowR.nil)
  refine ae rfl (aR (T := aT) (rows := [(Linear_numbered.cells (Linear_numbered.mk (-1) x66))]) (l := [(Linear_numbered.mk (-1) x66)]) rfl rfl rfl hR72 rfl rfl rfl rfl rfl rfl rfl rfl (fun v71 => ?_))
  refine Ea Z<|ab<|an<|?_
  obtain ey0 := aV H
  subst y0
  refine ⟨(by first | exact .inl rfl | exact .inr rfl), [(sv v71)], ⟨(sv v71), _, rfl, rfl, rfl⟩, ?_⟩
  refine Shift.settle (T := aT) .here hR72 rfl ?_
  intro K73 hK74 hs75
  refine Re1<|Re1<|Shift.done<|?_
  exact ⟨v71, rfl, rfl, hs75⟩
 ·intro h70
  have H := ap (btf h70) H
  refine am<|ac<|aa<|Ea Z<|ab<|?_
  refine ao (fun env' K' G' => ∃ (v120 : SV) (l121 : List Linear_numbered), [(5, (sv v120))] = env' ∧ (.tok 151 4 [(sv v120)]) :: G = G' ∧ ni l121 = some y0 ∧ Slr aT K' (sv v120) l121) ?_ ?_
  ·skip
   refine ac<|aa<|EF 5 Z<|El (sv vp0_cases) Z (Rb1 Z)<|Eq Z (aO (T := aF) hp0_cases rfl rfl)<|Em Z<|ab<|av<|?_
   refine aN (fun n167 env' K' G' => ∃ (v163 : SV) (l164 : List Linear_numbered) (i166 : Int), [(5, (sv v163)), (18, (sv vp0_cases)), (19, (.int .i64 (p0.cases.length : Int))), (20, (.int .i64 i166))] = env' ∧ (.tok 151 4 [(sv v163)]) :: G = G' ∧ lp2 (mK p0) n167 l164 i166 = some y0 ∧ Slr aT K' (sv v163) l164) BIG ?_ ?_
   ·skip
    refine Shift.nilTok1 151 4<|Re1<|Re1<|Shift.done<|?_
    exact ⟨_, by exact ⟨rfl, rfl, rfl, rfl, trivial⟩, ak, ([] : List Linear_numbered), 0, rfl, rfl, H, (Slr.nil aT _)⟩
   rintro n167 _ K168 _ hK169 ⟨v163, l164, i166, rfl, rfl, H, hs165⟩
   obtain ⟨m170, k171, rfl, hkk172, H⟩ := dl H
   unfold mK at H
   refine ac<|aa<|Ec Z<|ab<|ac<|?_
   refine ah rfl ?_ ?_
   ·intro h174
    have h174 := ax (h174)
    have H := ift h174 H
    refine am<|ac<|av<|ac<|aa<|Em Z<|?_
    obtain ⟨x190, hx191, H⟩ := bnd H
    have hs192 := (hp0_cases).mono hK169
    obtain ⟨r193, hr194, hk195⟩ := Slr.at hs192 hx191
    obtain rfl := hr194
    refine Eq Z (aY (T := aF) hs192 hx191 rfl rfl rfl rfl rfl)<|EL 3 (Case.cells x190) Z (Rdc.k hk195 rfl)<|?_
    refine ae rfl (ar (cs := (Case.cells (Case.mk false 0 0))) rfl rfl rfl rfl (fun b196 => ?_))
    refine Ea Z ?_
    refine ae rfl (ag (vs := (Case.cells x190)) (all' := (Case.cells x190)) rfl rfl rfl rfl rfl .here rfl rfl rfl ?_)
    refine ab<|aa<|Em Z<|Em Z<|EL 3 (Case.cells x190) Z (Rb0 Z)<|Eq Z (az (cs := (Linear_numbered.cells (Linear_numbered.mk i166 x190))) rfl rfl rfl rfl rfl rfl)<|?_
    have hR198 : RowR aT K168 [(Linear_numbered.cells (Linear_numbered.mk i166 x190))] [(Linear_numbered.mk i166 x190)] := RowR.cons rfl (RowR.nil)
    refine ae rfl (aR (T := aT) (rows := [(Linear_numbered.cells (Linear_numbered.mk i166 x190))]) (l := [(Linear_numbered.mk i166 x190)]) rfl rfl rfl hR198 rfl rfl rfl rfl rfl rfl rfl rfl (fun v197 => ?_))
    obtain ⟨x199, hx200, H⟩ := bnd H
    refine ae rfl (aG (T := aT) (bytes := 32) (q := 0) rfl rfl rfl hs165 Mb2 rfl (SrcT.row Mb0 hR198 rfl) hx200 rfl rfl rfl rfl rfl rfl rfl rfl (fun v201 K202 hK203 hs204 => ⟨_, (.there (.there .here)), ?_⟩))
    refine Ow.shift (Re0 (Shift.done ?_))
    refine Ea Z<|ab<|aa<|Er (wI (i166 + 1)) Z<|Em Z<|ab<|Pu1<|Re1<|Shift.done<|?_
    exact ⟨_, by exact ⟨rfl, rfl, rfl, rfl, trivial⟩, _, Nat.lt_succ_self _, v201, x199, (wI (i166 + 1)), rfl, rfl, (hkk172 ▸ H), hs204⟩
   ·intro h174
    have h174 := ay (h174)
    have H := ap h174 H
    refine aP<|Shift.done<|?_
    exact ⟨_, by exact ⟨rfl, trivial⟩, v163, l164, rfl, rfl, H, hs165⟩
  rintro _ K205 _ hK206 ⟨v120, l121, rfl, rfl, H, hs122⟩
  unfold ni at H
  refine ac<|aa<|Em Z<|Ea Z<|ab<|an<|?_
  obtain ey0 := aV H
  subst y0
  refine ⟨(by first | exact .inl rfl | exact .inr rfl), [(sv v120)], ⟨(sv v120), _, rfl, rfl, rfl⟩, ?_⟩
  exact Shift.done ⟨v120, rfl, rfl, hs122⟩

set_option maxHeartbeats 1000000 in
theorem lE (p0 : Linear_call) (vp0_op_cases : SV) (vp0_op_draws : SV) (p1 : Result) (y0 : Bool) (H : jY p0 p1 = some y0) (K : Kp) (G : List Ent) (hp0_op_cases : Slr aF K (sv vp0_op_cases) p0.op.cases) (hp0_op_draws : Slr Ty.i64 K (sv vp0_op_draws) p0.op.draws) :
  Fc Tryd.prog 86 #[(.agg (Linear_call.cells p0 vp0_op_cases vp0_op_draws).toArray), (.agg (Result.cells p1).toArray)] K (G) (fun v K' G' => v = (.bool y0) ∧ K = K' ∧ G = G') := by
 refine aA Tryd.func86 rfl Tryd.ntmps86 Tryd.results86 rfl ?_
 unfold jY at H
 refine ac<|aa<|?_
 refine ae rfl (aB (cs := (Linear_call.cells p0 vp0_op_cases vp0_op_draws)) rfl rfl rfl (fun b4 => ?_))
 refine ae rfl (aB (cs := (Result.cells p1)) rfl rfl rfl (fun b5 => ?_))
 refine Ea Z<|ab<|ac<|aa<|EF 13 Z<|El (.int .i64 p0.coming) Z (Rb1 Z)<|Ec Z<|Em Z<|?_
 refine Ee Z ?_ ?_
 ·intro h7
  have h7 := ax (h7)
  have H := ift h7 H
  refine Ez Z<|Ez Z<|Ez Z<|Ez Z<|Et Z<|Ea Z<|ab<|an<|?_
  obtain ey0 := aV H
  subst y0
  refine ⟨(by first | exact .inl rfl | exact .inr rfl), [(.bool true)], ⟨(.bool true), _, rfl, rfl, rfl⟩, ?_⟩
  refine Re0<|Re0<|Shift.done<|?_
  exact ⟨rfl, rfl, rfl⟩
 ·intro h7
  have h7 := ay (h7)
  have H := ap h7 H
  refine VF 7 Z<|VL 5 (Result.cells p0.result) Z (Rb1 Z)<|VL 5 (Result.cells p1) Z (Rb0 Z)<|Vq Z (cL rfl rfl (fun w => Result.eqrun p0.result p1 w) (by kernel_rfl))<|Ef Z<|Ea Z<|ab<|an<|?_
  obtain ey0 := aV H
  subst y0
  refine ⟨(by first | exact .inl rfl | exact .inr rfl), [(.bool (dcd (p0.result = p1)))], ⟨(.bool (dcd (p0.result = p1))), _, rfl, rfl, rfl⟩, ?_⟩
  refine Re0<|Re0<|Shift.done<|?_
  exact ⟨rfl, rfl, rfl⟩

set_option maxHeartbeats 1000000 in
theorem oV (p0 : List Chan) (vp0 : SV) (p1 : Linear_call) (vp1_op_cases : SV) (vp1_op_draws : SV) (p2 : Linear_call) (vp2_op_cases : SV) (vp2_op_draws : SV) (y0 : List A2Result) (H : mB p0 p1 p2 = some y0) (K : Kp) (G : List Ent) (hp0 : Slr aq K (sv vp0) p0) (hp1_op_cases : Slr aF K (sv vp1_op_cases) p1.op.cases) (hp1_op_draws : Slr Ty.i64 K (sv vp1_op_draws) p1.op.draws) (hp2_op_cases : Slr aF K (sv vp2_op_cases) p2.op.cases) (hp2_op_draws : Slr Ty.i64 K (sv vp2_op_draws) p2.op.draws) :
  Fc Tryd.prog 56 #[(sv vp0), (.agg (Linear_call.cells p1 vp1_op_cases vp1_op_draws).toArray), (.agg (Linear_call.cells p2 vp2_op_cases vp2_op_draws).toArray)] K (G) (fun v K' G' => ∃ (wy0 : SV), v = (sv wy0) ∧ (.tok 122 10 [(sv wy0)]) :: G = G' ∧ Slr bH K' (sv wy0) y0) := by
 refine aA Tryd.func56 rfl Tryd.ntmps56 Tryd.results56 rfl ?_
 unfold mB at H
 refine ac<|aa<|?_
 refine ae rfl (aB (cs := (Linear_call.cells p1 vp1_op_cases vp1_op_draws)) rfl rfl rfl (fun b448 => ?_))
 refine ae rfl (aB (cs := (Linear_call.cells p2 vp2_op_cases vp2_op_draws)) rfl rfl rfl (fun b449 => ?_))
 refine Ea Z<|ab<|ac<|aa<|Ea Z<|ab<|?_
 refine ao (fun env' K' G' => ∃ (v727 : SV) (l728 : List A2Result), [(7, (sv v727))] = env' ∧ (.tok 122 10 [(sv v727)]) :: G = G' ∧ mH l728 = some y0 ∧ Slr bH K' (sv v727) l728) ?_ ?_
 ·skip
  refine ac<|aa<|EF 0 Z<|EL 7 (Op.cells p1.op vp1_op_cases vp1_op_draws) Z (Rb1 Z)<|?_
  obtain ⟨x730, hx731, H⟩ := bnd H
  refine ae rfl (Ek Tryd.call85 Z (lA p1.op vp1_op_cases vp1_op_draws x730 hx731 _ _ hp1_op_cases hp1_op_draws) ?_)
  rintro _ K733 _ hK734 ⟨v732, rfl, rfl, hs735⟩
  refine Eq Z (aO (T := aT) hs735 rfl rfl)<|Em Z<|ab<|av<|?_
  refine aN (fun n1007 env' K' G' => ∃ (v1003 : SV) (l1004 : List A2Result) (i1006 : Int), [(0, (sv vp0)), (4, (.pointer (some ((⟨b448, 0, none⟩ : Addr).add 0)))), (5, (.pointer (some ((⟨b449, 0, none⟩ : Addr).add 0)))), (7, (sv v1003)), (16, (sv v732)), (17, (.int .i64 (x730.length : Int))), (18, (.int .i64 i1006))] = env' ∧ (.blk b449 109 (Linear_call.cells p2 vp2_op_cases vp2_op_draws)) :: (.blk b448 109 (Linear_call.cells p1 vp1_op_cases vp1_op_draws)) :: (.tok 122 10 [(sv v1003)]) :: (.tok 151 4 [(sv v732)]) :: G = G' ∧ lp2 (nr p0 x730 p2 p1) n1007 l1004 i1006 = some y0 ∧ Slr bH K' (sv v1003) l1004) BIG ?_ ?_
  ·skip
   refine Shift.nilTok1 122 10<|Pu1<|Pu1<|Pu3<|Pu3<|Shift.done<|?_
   exact ⟨_, by exact ⟨rfl, rfl, rfl, rfl, rfl, rfl, rfl, trivial⟩, ak, ([] : List A2Result), 0, rfl, rfl, H, (Slr.nil bH _)⟩
  rintro n1007 _ K1008 _ hK1009 ⟨v1003, l1004, i1006, rfl, rfl, H, hs1005⟩
  obtain ⟨m1010, k1011, rfl, hkk1012, H⟩ := dl H
  unfold nr at H
  refine ac<|aa<|Ec Z<|ab<|ac<|?_
  refine ah rfl ?_ ?_
  ·intro h1014
   have h1014 := ax (h1014)
   have H := ift h1014 H
   refine am ?_
   refine ao (fun env' K' G' => ∃ (v1139 : SV) (l1140 : List A2Result), [(0, (sv vp0)), (4, (.pointer (some ((⟨b448, 0, none⟩ : Addr).add 0)))), (5, (.pointer (some ((⟨b449, 0, none⟩ : Addr).add 0)))), (7, (sv v1139)), (16, (sv v732)), (17, (.int .i64 (x730.length : Int))), (18, (.int .i64 i1006))] = env' ∧ (.blk b449 109 (Linear_call.cells p2 vp2_op_cases vp2_op_draws)) :: (.blk b448 109 (Linear_call.cells p1 vp1_op_cases vp1_op_draws)) :: (.tok 122 10 [(sv v1139)]) :: (.tok 151 4 [(sv v732)]) :: G = G' ∧ mb p0 x730 i1006 p2 p1 k1011 l1140 = some y0 ∧ Slr bH K' (sv v1139) l1140) ?_ ?_
   ·skip
    refine av<|ac<|aa<|?_
    obtain ⟨x1142, hx1143, H⟩ := bnd H
    have hs1144 := (hs735).mono hK1009
    obtain ⟨r1145, hr1146, hk1147⟩ := Slr.at hs1144 hx1143
    obtain rfl := hr1146
    refine Eq Z (aY (T := aT) hs1144 hx1143 rfl rfl rfl rfl rfl)<|EL 4 (Linear_numbered.cells x1142) Z (Rdc.k hk1147 rfl)<|?_
    refine ae rfl (ar (cs := (Linear_numbered.cells (Linear_numbered.mk 0 (Case.mk false 0 0)))) rfl rfl rfl rfl (fun b1148 => ?_))
    refine ae rfl (ag (vs := (Linear_numbered.cells x1142)) (all' := (Linear_numbered.cells x1142)) rfl rfl rfl rfl rfl .here rfl rfl rfl ?_)
    refine ab<|ac<|aa<|EF 0 Z<|EL 7 (Op.cells p2.op vp2_op_cases vp2_op_draws) Z (Rb1 Z)<|?_
    obtain ⟨x1149, hx1150, H⟩ := bnd H
    have hs1151 := ((hp2_op_cases).mono hK734).mono hK1009
    have hs1152 := ((hp2_op_draws).mono hK734).mono hK1009
    refine ae rfl (Ek Tryd.call85 Z (lA p2.op vp2_op_cases vp2_op_draws x1149 hx1150 _ _ hs1151 hs1152) ?_)
    rintro _ K1154 _ hK1155 ⟨v1153, rfl, rfl, hs1156⟩
    refine Eq Z (aO (T := aT) hs1156 rfl rfl)<|Em Z<|ab<|av<|?_
    refine aN (fun n1266 env' K' G' => ∃ (v1262 : SV) (l1263 : List A2Result) (i1265 : Int), [(0, (sv vp0)), (4, (.pointer (some ((⟨b448, 0, none⟩ : Addr).add 0)))), (5, (.pointer (some ((⟨b449, 0, none⟩ : Addr).add 0)))), (7, (sv v1262)), (9, (.pointer (some ((⟨b1148, 0, none⟩ : Addr).add 0)))), (16, (sv v732)), (17, (.int .i64 (x730.length : Int))), (18, (.int .i64 i1006)), (24, (sv v1153)), (25, (.int .i64 (x1149.length : Int))), (26, (.int .i64 i1265))] = env' ∧ (.blk b1148 151 (Linear_numbered.cells x1142)) :: (.blk b449 109 (Linear_call.cells p2 vp2_op_cases vp2_op_draws)) :: (.blk b448 109 (Linear_call.cells p1 vp1_op_cases vp1_op_draws)) :: (.tok 122 10 [(sv v1262)]) :: (.tok 151 4 [(sv v1153)]) :: (.tok 151 4 [(sv v732)]) :: G = G' ∧ lp2 (l7 p0 x730 i1006 x1149 x1142 p2 p1 k1011) n1266 l1263 i1265 = some y0 ∧ Slr bH K' (sv v1262) l1263) BIG ?_ ?_
    ·skip
     refine Pu5<|Pu1<|Pu5<|Pu5<|Pu5<|Pu5<|?_
     have hs1267 := (hs1005).mono hK1155
     exact Shift.done ⟨_, by exact ⟨rfl, rfl, rfl, rfl, rfl, rfl, rfl, rfl, rfl, rfl, rfl, trivial⟩, v1003, l1004, 0, rfl, rfl, H, hs1267⟩
    rintro n1266 _ K1268 _ hK1269 ⟨v1262, l1263, i1265, rfl, rfl, H, hs1264⟩
    obtain ⟨m1270, k1271, rfl, hkk1272, H⟩ := dl H
    unfold l7 at H
    refine ac<|aa<|Ec Z<|ab<|ac<|?_
    refine ah rfl ?_ ?_
    ·intro h1274
     have h1274 := ax (h1274)
     have H := ift h1274 H
     refine am ?_
     refine ao (fun env' K' G' => ∃ (v1317 : SV) (l1318 : List A2Result), [(0, (sv vp0)), (4, (.pointer (some ((⟨b448, 0, none⟩ : Addr).add 0)))), (5, (.pointer (some ((⟨b449, 0, none⟩ : Addr).add 0)))), (7, (sv v1317)), (9, (.pointer (some ((⟨b1148, 0, none⟩ : Addr).add 0)))), (16, (sv v732)), (17, (.int .i64 (x730.length : Int))), (18, (.int .i64 i1006)), (24, (sv v1153)), (25, (.int .i64 (x1149.length : Int))), (26, (.int .i64 i1265))] = env' ∧ (.blk b1148 151 (Linear_numbered.cells x1142)) :: (.blk b449 109 (Linear_call.cells p2 vp2_op_cases vp2_op_draws)) :: (.blk b448 109 (Linear_call.cells p1 vp1_op_cases vp1_op_draws)) :: (.tok 122 10 [(sv v1317)]) :: (.tok 151 4 [(sv v1153)]) :: (.tok 151 4 [(sv v732)]) :: G = G' ∧ fH p0 x730 i1006 x1149 i1265 x1142 p2 p1 k1011 k1271 l1318 = some y0 ∧ Slr bH K' (sv v1317) l1318) ?_ ?_
     ·skip
      refine av<|ac<|aa<|?_
      obtain ⟨x1320, hx1321, H⟩ := bnd H
      have hs1322 := (hs1156).mono hK1269
      obtain ⟨r1323, hr1324, hk1325⟩ := Slr.at hs1322 hx1321
      obtain rfl := hr1324
      refine Eq Z (aY (T := aT) hs1322 hx1321 rfl rfl rfl rfl rfl)<|EL 4 (Linear_numbered.cells x1320) Z (Rdc.k hk1325 rfl)<|?_
      refine ae rfl (ar (cs := (Linear_numbered.cells (Linear_numbered.mk 0 (Case.mk false 0 0)))) rfl rfl rfl rfl (fun b1326 => ?_))
      refine ae rfl (ag (vs := (Linear_numbered.cells x1320)) (all' := (Linear_numbered.cells x1320)) rfl rfl rfl rfl rfl .here rfl rfl rfl ?_)
      refine ab<|ac<|?_
      refine ao (fun env' K' G' => ∃ (t1333 : Bool), [(0, (sv vp0)), (4, (.pointer (some ((⟨b448, 0, none⟩ : Addr).add 0)))), (5, (.pointer (some ((⟨b449, 0, none⟩ : Addr).add 0)))), (7, (sv v1262)), (9, (.pointer (some ((⟨b1148, 0, none⟩ : Addr).add 0)))), (11, (.pointer (some ((⟨b1326, 0, none⟩ : Addr).add 0)))), (16, (sv v732)), (17, (.int .i64 (x730.length : Int))), (18, (.int .i64 i1006)), (24, (sv v1153)), (25, (.int .i64 (x1149.length : Int))), (26, (.int .i64 i1265)), (47, (.bool t1333))] = env' ∧ K1268 = K' ∧ (.blk b1326 151 (Linear_numbered.cells x1320)) :: (.blk b1148 151 (Linear_numbered.cells x1142)) :: (.blk b449 109 (Linear_call.cells p2 vp2_op_cases vp2_op_draws)) :: (.blk b448 109 (Linear_call.cells p1 vp1_op_cases vp1_op_draws)) :: (.tok 122 10 [(sv v1262)]) :: (.tok 151 4 [(sv v1153)]) :: (.tok 151 4 [(sv v732)]) :: G = G' ∧ fS p0 l1263 x730 i1006 x1149 i1265 x1320 x1142 p2 p1 k1011 k1271 t1333 = some y0) ?_ ?_
      ·skip
       refine aa<|EF 1 Z<|EF 1 Z<|El (.bool x1142.case_.send) Z (Rb1 Z)<|Eq Z (aS rfl)<|Em Z<|?_
       refine Ee Z ?_ ?_
       ·intro h1334
        have h1334 := bE (h1334)
        have H := ap (btf h1334) H
        refine Ez Z<|Ez Z<|Ez Z<|Et Z<|Em Z<|Ez Z<|Ez Z<|Ez Z<|Ez Z<|Ez Z<|?_
        refine Ez Z<|Ez Z<|Et Z<|ab<|Pu6<|Pu6<|Pu6<|Pu6<|Pu6<|Pu6<|?_
        refine Pu6<|Shift.done<|?_
        exact ⟨_, by exact ⟨rfl, rfl, rfl, rfl, rfl, rfl, rfl, rfl, rfl, rfl, rfl, rfl, rfl, trivial⟩, true, rfl, rfl, rfl, H⟩
       ·intro h1334
        have h1334 := bB (h1334)
        have H := ift h1334 H
        refine VF 1 Z<|VF 1 Z<|Vl (.bool x1320.case_.send) Z (Rb0 Z)<|Ef Z<|Em Z<|?_
        refine Ee Z ?_ ?_
        ·intro h1335
         have H := ift h1335 H
         refine Ez Z<|Ez Z<|Ez Z<|Ez Z<|Ez Z<|Ez Z<|Ez Z<|Et Z<|ab<|Pu6<|?_
         refine Pu6<|Pu6<|Pu6<|Pu6<|Pu6<|Pu6<|Shift.done<|?_
         exact ⟨_, by exact ⟨rfl, rfl, rfl, rfl, rfl, rfl, rfl, rfl, rfl, rfl, rfl, rfl, rfl, trivial⟩, true, rfl, rfl, rfl, H⟩
        ·intro h1335
         have H := ap (btf h1335) H
         refine VF 1 Z<|VF 2 Z<|Vl (.int .i64 x1142.case_.channel) Z (Rb1 Z)<|VF 1 Z<|VF 2 Z<|Vl (.int .i64 x1320.case_.channel) Z (Rb0 Z)<|Vc Z<|Ef Z<|ab<|Pu6<|?_
         refine Pu6<|Pu6<|Pu6<|Pu6<|Pu6<|Pu6<|Shift.done<|?_
         exact ⟨_, by exact ⟨rfl, rfl, rfl, rfl, rfl, rfl, rfl, rfl, rfl, rfl, rfl, rfl, rfl, trivial⟩, (!(dcd (x1142.case_.channel = x1320.case_.channel))), rfl, rfl, rfl, H⟩
      rintro _ _ _ - ⟨t1333, rfl, rfl, rfl, H⟩
      unfold fS at H
      refine ah rfl ?_ ?_
      ·intro h1336
       have H := ift h1336 H
       refine aP<|Pu6<|Pu6<|Pu6<|Pu6<|Pu6<|Pu6<|Re6<|Shift.done<|?_
       exact ⟨_, by exact ⟨rfl, rfl, rfl, rfl, rfl, rfl, rfl, rfl, rfl, rfl, rfl, trivial⟩, v1262, l1263, rfl, rfl, H, hs1264⟩
      ·intro h1336
       have H := ap (btf h1336) H
       refine am ?_
       refine ao (fun env' K' G' => ∃ (b1343 : Nat) (b1344 : Nat), [(0, (sv vp0)), (4, (.pointer (some ((⟨b448, 0, none⟩ : Addr).add 0)))), (5, (.pointer (some ((⟨b449, 0, none⟩ : Addr).add 0)))), (7, (sv v1262)), (9, (.pointer (some ((⟨b1148, 0, none⟩ : Addr).add 0)))), (12, (.pointer (some ((⟨b1343, 0, none⟩ : Addr).add 0)))), (13, (.pointer (some ((⟨b1344, 0, none⟩ : Addr).add 0)))), (16, (sv v732)), (17, (.int .i64 (x730.length : Int))), (18, (.int .i64 i1006)), (24, (sv v1153)), (25, (.int .i64 (x1149.length : Int))), (26, (.int .i64 i1265))] = env' ∧ K1268 = K' ∧ (.blk b1344 36 (Result.cells (Result.mk 2 x1320.index x1142.case_.value true 0))) :: (.blk b1343 36 (Result.cells (Result.mk 1 x1142.index 0 false 0))) :: (.blk b1148 151 (Linear_numbered.cells x1142)) :: (.blk b449 109 (Linear_call.cells p2 vp2_op_cases vp2_op_draws)) :: (.blk b448 109 (Linear_call.cells p1 vp1_op_cases vp1_op_draws)) :: (.tok 122 10 [(sv v1262)]) :: (.tok 151 4 [(sv v1153)]) :: (.tok 151 4 [(sv v732)]) :: G = G' ∧ mR p0 l1263 x730 i1006 x1149 i1265 x1320 x1142 p2 p1 k1011 k1271 = some y0) ?_ ?_
       ·skip
        refine aj [.blk b1326 151 (Linear_numbered.cells x1320), .blk b1148 151 (Linear_numbered.cells x1142), .blk b449 109 (Linear_call.cells p2 vp2_op_cases vp2_op_draws), .blk b448 109 (Linear_call.cells p1 vp1_op_cases vp1_op_draws), .tok 122 10 [(sv v1262)], .tok 151 4 [(sv v1153)], .tok 151 4 [(sv v732)]] rfl (Inc.cons Mb0 (Inc.cons Mb1 (Inc.cons Mb2 (Inc.cons Mb3 (Inc.cons Mb4 (Inc.cons Mb5 (Inc.cons Mb6 Inc.nil)))))))<|JF 0 0 Z (by kernel_rfl)<|Jl 1 (.int .i64 x1142.index) Z (by kernel_rfl) (Rb1 Z)<|Jq 2 Z (by kernel_rfl) (az (cs := (Result.cells (Result.mk 1 x1142.index 0 false 0))) rfl rfl rfl rfl rfl rfl)<|JF 3 0 Z (by kernel_rfl)<|Jl 4 (.int .i64 x1320.index) Z (by kernel_rfl) (Rb0 Z)<|JF 5 1 Z (by kernel_rfl)<|JF 6 3 Z (by kernel_rfl)<|Jl 7 (.int .u64 x1142.case_.value) Z (by kernel_rfl) (Rb1 Z)<|Jq 8 Z (by kernel_rfl) (az (cs := (Result.cells (Result.mk 2 x1320.index x1142.case_.value true 0))) rfl rfl rfl rfl rfl rfl)<|?_
        refine bm 9 10 (by kernel_rfl) ?_ ?_
        ·skip
         refine id (Jy Z ?_)
         refine ar (cs := (Result.cells (Result.mk 0 0 0 false 0))) rfl rfl rfl rfl (fun b1347 => ⟨(Inc.cons Mb1 (Inc.cons Mb2 (Inc.cons Mb3 (Inc.cons Mb4 (Inc.cons Mb5 (Inc.cons Mb6 (Inc.cons Mb7 Inc.nil))))))), ?_⟩)
         refine ai 10 (by kernel_rfl) (Jy Z ?_)
         refine ar (cs := (Result.cells (Result.mk 0 0 0 false 0))) rfl rfl rfl rfl (fun b1348 => ⟨(Inc.cons Mb2 (Inc.cons Mb3 (Inc.cons Mb4 (Inc.cons Mb5 (Inc.cons Mb6 (Inc.cons Mb7 (Inc.cons Mb8 Inc.nil))))))), ?_⟩)
         refine ai 11 (by kernel_rfl) (Jy Z ?_)
         refine ag (vs := (Result.cells (Result.mk 1 x1142.index 0 false 0))) (all' := (Result.cells (Result.mk 1 x1142.index 0 false 0))) rfl rfl rfl rfl rfl (.there .here) rfl rfl rfl ⟨(Inc.cons Mb2 (Inc.cons Mb3 (Inc.cons Mb4 (Inc.cons Mb5 (Inc.cons Mb6 (Inc.cons Mb7 (Inc.cons Mb8 Inc.nil))))))), ?_⟩
         refine ai 12 (by kernel_rfl) (Jy Z ?_)
         refine ag (vs := (Result.cells (Result.mk 2 x1320.index x1142.case_.value true 0))) (all' := (Result.cells (Result.mk 2 x1320.index x1142.case_.value true 0))) rfl rfl rfl rfl rfl .here rfl rfl rfl ⟨(Inc.cons Mb2 (Inc.cons Mb3 (Inc.cons Mb4 (Inc.cons Mb5 (Inc.cons Mb6 (Inc.cons Mb7 (Inc.cons Mb8 Inc.nil))))))), ?_⟩
         refine au (by kernel_rfl)<|Pu8<|Pu8<|Pu8<|Pu8<|Pu8<|Pu8<|Pu7<|Pu7<|Re8<|?_
         exact Shift.done ⟨_, by exact ⟨rfl, rfl, rfl, rfl, rfl, rfl, rfl, rfl, rfl, rfl, rfl, rfl, rfl, trivial⟩, b1347, b1348, rfl, rfl, rfl, H⟩
        ·skip
         refine id (Jy Z ?_)
         refine ar (cs := (Result.cells (Result.mk 0 0 0 false 0))) rfl rfl rfl rfl (fun b1349 => ⟨(Inc.cons Mb1 (Inc.cons Mb2 (Inc.cons Mb3 (Inc.cons Mb4 (Inc.cons Mb5 (Inc.cons Mb6 (Inc.cons Mb7 Inc.nil))))))), ?_⟩)
         refine ai 9 (by kernel_rfl) (Jy Z ?_)
         refine ar (cs := (Result.cells (Result.mk 0 0 0 false 0))) rfl rfl rfl rfl (fun b1350 => ⟨(Inc.cons Mb2 (Inc.cons Mb3 (Inc.cons Mb4 (Inc.cons Mb5 (Inc.cons Mb6 (Inc.cons Mb7 (Inc.cons Mb8 Inc.nil))))))), ?_⟩)
         refine ai 11 (by kernel_rfl) (Jy Z ?_)
         refine ag (vs := (Result.cells (Result.mk 1 x1142.index 0 false 0))) (all' := (Result.cells (Result.mk 1 x1142.index 0 false 0))) rfl rfl rfl rfl rfl .here rfl rfl rfl ⟨(Inc.cons Mb2 (Inc.cons Mb3 (Inc.cons Mb4 (Inc.cons Mb5 (Inc.cons Mb6 (Inc.cons Mb7 (Inc.cons Mb8 Inc.nil))))))), ?_⟩
         refine ai 12 (by kernel_rfl) (Jy Z ?_)
         refine ag (vs := (Result.cells (Result.mk 2 x1320.index x1142.case_.value true 0))) (all' := (Result.cells (Result.mk 2 x1320.index x1142.case_.value true 0))) rfl rfl rfl rfl rfl (.there .here) rfl rfl rfl ⟨(Inc.cons Mb2 (Inc.cons Mb3 (Inc.cons Mb4 (Inc.cons Mb5 (Inc.cons Mb6 (Inc.cons Mb7 (Inc.cons Mb8 Inc.nil))))))), ?_⟩
         refine au (by kernel_rfl)<|Pu8<|Pu8<|Pu8<|Pu8<|Pu8<|Pu8<|Pu6<|Pu7<|Re8<|?_
         exact Shift.done ⟨_, by exact ⟨rfl, rfl, rfl, rfl, rfl, rfl, rfl, rfl, rfl, rfl, rfl, rfl, rfl, trivial⟩, b1350, b1349, rfl, rfl, rfl, H⟩
       rintro _ _ _ - ⟨b1343, b1344, rfl, rfl, rfl, H⟩
       unfold mR at H
       refine ao (fun env' K' G' => ∃ (t1364 : Bool), [(0, (sv vp0)), (4, (.pointer (some ((⟨b448, 0, none⟩ : Addr).add 0)))), (5, (.pointer (some ((⟨b449, 0, none⟩ : Addr).add 0)))), (7, (sv v1262)), (9, (.pointer (some ((⟨b1148, 0, none⟩ : Addr).add 0)))), (12, (.pointer (some ((⟨b1343, 0, none⟩ : Addr).add 0)))), (13, (.pointer (some ((⟨b1344, 0, none⟩ : Addr).add 0)))), (16, (sv v732)), (17, (.int .i64 (x730.length : Int))), (18, (.int .i64 i1006)), (24, (sv v1153)), (25, (.int .i64 (x1149.length : Int))), (26, (.int .i64 i1265)), (74, (.bool t1364))] = env' ∧ K1268 = K' ∧ (.blk b1344 36 (Result.cells (Result.mk 2 x1320.index x1142.case_.value true 0))) :: (.blk b1343 36 (Result.cells (Result.mk 1 x1142.index 0 false 0))) :: (.blk b1148 151 (Linear_numbered.cells x1142)) :: (.blk b449 109 (Linear_call.cells p2 vp2_op_cases vp2_op_draws)) :: (.blk b448 109 (Linear_call.cells p1 vp1_op_cases vp1_op_draws)) :: (.tok 122 10 [(sv v1262)]) :: (.tok 151 4 [(sv v1153)]) :: (.tok 151 4 [(sv v732)]) :: G = G' ∧ gg p0 l1263 x730 i1006 x1149 i1265 x1320 x1142 p2 p1 k1011 k1271 t1364 = some y0) ?_ ?_
       ·skip
        refine aa<|EL 14 (Linear_call.cells p1 vp1_op_cases vp1_op_draws) Z (Rb4 Z)<|EL 5 (Result.cells (Result.mk 1 x1142.index 0 false 0)) Z (Rb1 Z)<|?_
        obtain ⟨x1365, hx1366, H⟩ := bnd H
        have hs1367 := ((((hp1_op_cases).mono hK734).mono hK1009).mono hK1155).mono hK1269
        have hs1368 := ((((hp1_op_draws).mono hK734).mono hK1009).mono hK1155).mono hK1269
        refine ae rfl (Ek Tryd.call86 Z (lE p1 vp1_op_cases vp1_op_draws (Result.mk 1 x1142.index 0 false 0) x1365 hx1366 _ _ hs1367 hs1368) ?_)
        rintro _ _ _ - ⟨rfl, rfl, rfl⟩
        refine Em Z ?_
        refine Ee Z ?_ ?_
        ·intro h1369
         have H := ift h1369 H
         refine VL 14 (Linear_call.cells p2 vp2_op_cases vp2_op_draws) Z (Rb3 Z)<|VL 5 (Result.cells (Result.mk 2 x1320.index x1142.case_.value true 0)) Z (Rb0 Z)<|?_
         obtain ⟨x1370, hx1371, H⟩ := bnd H
         have hs1372 := ((hs1151).mono hK1155).mono hK1269
         have hs1373 := ((hs1152).mono hK1155).mono hK1269
         refine br rfl rfl rfl rfl (Ek Tryd.call86 Z (lE p2 vp2_op_cases vp2_op_draws (Result.mk 2 x1320.index x1142.case_.value true 0) x1370 hx1371 _ _ hs1372 hs1373) ?_)
         rintro _ _ _ - ⟨rfl, rfl, rfl⟩
         refine Et Z<|Em Z<|?_
         refine Ee Z ?_ ?_
         ·intro h1374
          have H := ift h1374 H
          refine Vm Z<|VF 0 Z<|VL 7 (Op.cells p1.op vp1_op_cases vp1_op_draws) Z (Rb4 Z)<|VL 5 (Result.cells (Result.mk 1 x1142.index 0 false 0)) Z (Rb1 Z)<|VF 0 Z<|VL 7 (Op.cells p2.op vp2_op_cases vp2_op_draws) Z (Rb3 Z)<|VL 5 (Result.cells (Result.mk 2 x1320.index x1142.case_.value true 0)) Z (Rb0 Z)<|?_
          obtain ⟨x1375, hx1376, H⟩ := bnd H
          have hs1377 := ((((hp0).mono hK734).mono hK1009).mono hK1155).mono hK1269
          refine br rfl rfl rfl rfl (Ek Tryd.call24 Z (nN p0 vp0 p1.op vp1_op_cases vp1_op_draws (Result.mk 1 x1142.index 0 false 0) p2.op vp2_op_cases vp2_op_draws (Result.mk 2 x1320.index x1142.case_.value true 0) x1375 hx1376 _ _ hs1377 hs1367 hs1368 hs1372 hs1373) ?_)
          rintro _ _ _ - ⟨rfl, rfl, rfl⟩
          refine Et Z<|ab<|Pu7<|Pu7<|Pu7<|Pu7<|Pu7<|Pu7<|Pu7<|Pu7<|?_
          exact Shift.done ⟨_, by exact ⟨rfl, rfl, rfl, rfl, rfl, rfl, rfl, rfl, rfl, rfl, rfl, rfl, rfl, rfl, trivial⟩, x1375, rfl, rfl, rfl, H⟩
         ·intro h1374
          have H := ap (btf h1374) H
          refine Ez Z<|Ez Z<|Ez Z<|Ez Z<|Ez Z<|Ez Z<|Ez Z<|Ez Z<|Ef Z<|ab<|?_
          refine Pu7<|Pu7<|Pu7<|Pu7<|Pu7<|Pu7<|Pu7<|Pu7<|Shift.done<|?_
          exact ⟨_, by exact ⟨rfl, rfl, rfl, rfl, rfl, rfl, rfl, rfl, rfl, rfl, rfl, rfl, rfl, rfl, trivial⟩, false, rfl, rfl, rfl, H⟩
        ·intro h1369
         have H := ap (btf h1369) H
         refine Ez Z<|Ez Z<|Ez Z<|Ef Z<|Em Z<|Ez Z<|Ez Z<|Ez Z<|Ez Z<|Ez Z<|?_
         refine Ez Z<|Ez Z<|Ez Z<|Ef Z<|ab<|Pu7<|Pu7<|Pu7<|Pu7<|Pu7<|?_
         refine Pu7<|Pu7<|Pu7<|Shift.done<|?_
         exact ⟨_, by exact ⟨rfl, rfl, rfl, rfl, rfl, rfl, rfl, rfl, rfl, rfl, rfl, rfl, rfl, rfl, trivial⟩, false, rfl, rfl, rfl, H⟩
       rintro _ _ _ - ⟨t1364, rfl, rfl, rfl, H⟩
       unfold gg at H
       refine ah rfl ?_ ?_
       ·intro h1378
        have H := ift h1378 H
        refine aa<|Em Z<|EL 5 (Result.cells (Result.mk 1 x1142.index 0 false 0)) Z (Rb1 Z)<|EL 5 (Result.cells (Result.mk 2 x1320.index x1142.case_.value true 0)) Z (Rb0 Z)<|Eq Z (kZ (cs := (A2Result.cells (A2Result.mk (Result.mk 1 x1142.index 0 false 0) (Result.mk 2 x1320.index x1142.case_.value true 0)))) rfl rfl rfl rfl rfl rfl)<|?_
        have hR1380 : RowR bH K1268 [(A2Result.cells (A2Result.mk (Result.mk 1 x1142.index 0 false 0) (Result.mk 2 x1320.index x1142.case_.value true 0)))] [(A2Result.mk (Result.mk 1 x1142.index 0 false 0) (Result.mk 2 x1320.index x1142.case_.value true 0))] := RowR.cons rfl (RowR.nil)
        refine ae rfl (aR (T := bH) (rows := [(A2Result.cells (A2Result.mk (Result.mk 1 x1142.index 0 false 0) (Result.mk 2 x1320.index x1142.case_.value true 0)))]) (l := [(A2Result.mk (Result.mk 1 x1142.index 0 false 0) (Result.mk 2 x1320.index x1142.case_.value true 0))]) rfl rfl rfl hR1380 rfl rfl rfl rfl rfl rfl rfl rfl (fun v1379 => ?_))
        obtain ⟨x1381, hx1382, H⟩ := bnd H
        refine ae rfl (aG (T := bH) (bytes := 80) (q := 0) rfl rfl rfl hs1264 Mb6 rfl (SrcT.row Mb0 hR1380 rfl) hx1382 rfl rfl rfl rfl rfl rfl rfl rfl (fun v1383 K1384 hK1385 hs1386 => ⟨_, (.there (.there (.there (.there (.there (.there .here)))))), ?_⟩))
        refine Ow.shift (Re0 (Shift.done ?_))
        refine Ea Z<|ab<|Pu7<|Pu7<|Pu7<|Pu7<|Pu7<|Pu7<|Re6<|Re6<|?_
        exact Shift.done ⟨_, by exact ⟨rfl, rfl, rfl, rfl, rfl, rfl, rfl, rfl, rfl, rfl, rfl, trivial⟩, v1383, x1381, rfl, rfl, H, hs1386⟩
       ·intro h1378
        have H := ap (btf h1378) H
        refine am<|Pu7<|Pu7<|Pu7<|Pu7<|Pu7<|Pu7<|Re6<|Re6<|Shift.done<|?_
        exact ⟨_, by exact ⟨rfl, rfl, rfl, rfl, rfl, rfl, rfl, rfl, rfl, rfl, rfl, trivial⟩, v1262, l1263, rfl, rfl, H, hs1264⟩
     rintro _ K1387 _ hK1388 ⟨v1317, l1318, rfl, rfl, H, hs1319⟩
     unfold fH at H
     refine aa<|Er (wI (i1265 + 1)) Z<|Em Z<|ab<|Pu5<|Pu5<|Pu5<|Pu5<|Pu5<|Pu5<|?_
     exact Shift.done ⟨_, by exact ⟨rfl, rfl, rfl, rfl, rfl, rfl, rfl, rfl, rfl, rfl, rfl, trivial⟩, _, Nat.lt_succ_self _, v1317, l1318, (wI (i1265 + 1)), rfl, rfl, (hkk1272 ▸ H), hs1319⟩
    ·intro h1274
     have h1274 := ay (h1274)
     have H := ap h1274 H
     refine aP<|Pu5<|Pu4<|Pu4<|Pu4<|Re4<|Re4<|Shift.done<|?_
     exact ⟨_, by exact ⟨rfl, rfl, rfl, rfl, rfl, rfl, rfl, trivial⟩, v1262, l1263, rfl, rfl, H, hs1264⟩
   rintro _ K1389 _ hK1390 ⟨v1139, l1140, rfl, rfl, H, hs1141⟩
   unfold mb at H
   refine aa<|Er (wI (i1006 + 1)) Z<|Em Z<|ab<|Pu3<|Pu3<|Pu3<|Pu3<|Shift.done<|?_
   exact ⟨_, by exact ⟨rfl, rfl, rfl, rfl, rfl, rfl, rfl, trivial⟩, _, Nat.lt_succ_self _, v1139, l1140, (wI (i1006 + 1)), rfl, rfl, (hkk1012 ▸ H), hs1141⟩
  ·intro h1014
   have h1014 := ay (h1014)
   have H := ap h1014 H
   refine aP<|Pu2<|Re1<|Re1<|Re1<|Shift.done<|?_
   exact ⟨_, by exact ⟨rfl, trivial⟩, v1003, l1004, rfl, rfl, H, hs1005⟩
 rintro _ K1391 _ hK1392 ⟨v727, l728, rfl, rfl, H, hs729⟩
 unfold mH at H
 refine ac<|aa<|Em Z<|Ea Z<|ab<|an<|?_
 obtain ey0 := aV H
 subst y0
 refine ⟨(by first | exact .inl rfl | exact .inr rfl), [(sv v727)], ⟨(sv v727), _, rfl, rfl, rfl⟩, ?_⟩
 exact Shift.done ⟨v727, rfl, rfl, hs729⟩

set_option maxHeartbeats 1000000 in
theorem li (rc : (List (List Linear_call)) → Bool → (ByteArray → Option Bool) → (List Done) → (List Int) → (List Chan) → Option (Bool × (List Done) × (ByteArray → Option Bool))) (ih : ∀ (bp0 : Nat) (p0_threads : List (List Linear_call)) (vp0_threads : SV) (p0_open_ : Bool) (p0_failed : ByteArray → Option Bool) (bp0_failed : Nat) (esp0_failed : Array MapEntry) (ckp0_failed : Nat) (p0_order : List Done) (vp0_order : SV) (rsp0_order : List (List Value)) (p1 : List Int) (vp1 : SV) (p2 : List Chan) (vp2 : SV) (y0 : Bool) (z0_order : List Done) (ubp0_failed : ByteArray → Option Bool) (H : rc p0_threads p0_open_ p0_failed p0_order p1 p2 = some (y0, z0_order, ubp0_failed)) (K : Kp) (G : List Ent) (hp0_threads : Slr (Ty.sl aC) K (sv vp0_threads) p0_threads) (hp0_failed : MapR Ty.bool Value.string K esp0_failed p0_failed) (hp0_order : RowR aw K rsp0_order p0_order) (hp1 : Slr Ty.i64 K (sv vp1) p1) (hp2 : Slr aq K (sv vp2) p2) (hT : dK K), Fc Tryd.prog 29 #[(.pointer (some ((⟨bp0, 0, none⟩ : Addr).add 0))), (sv vp1), (sv vp2)] K ((.blk bp0 82 [(sv vp0_threads), (.bool p0_open_), .nilFunc, (.map (some bp0_failed)), (sv vp0_order)]) :: (.obj bp0_failed (.map esp0_failed ckp0_failed)) :: (.row (sv vp0_order) 47 6 rsp0_order.flatten) :: G) (fun v K' G' => ∃ (wz0_order : SV) (rswz0_order : List (List Value)) (esubp0_failed : Array MapEntry) (ckubp0_failed : Nat), v = (.bool y0) ∧ (.blk bp0 82 [(sv vp0_threads), (.bool p0_open_), .nilFunc, (.map (some bp0_failed)), (sv wz0_order)]) :: (.row (sv wz0_order) 47 6 rswz0_order.flatten) :: (.obj bp0_failed (.map esubp0_failed ckubp0_failed)) :: G = G' ∧ RowR aw K' rswz0_order z0_order ∧ MapR Ty.bool Value.string K' esubp0_failed ubp0_failed)) (bp0 : Nat) (p0_threads : List (List Linear_call)) (vp0_threads : SV) (p0_open_ : Bool) (p0_failed : ByteArray → Option Bool) (bp0_failed : Nat) (esp0_failed : Array MapEntry) (ckp0_failed : Nat) (p0_order : List Done) (vp0_order : SV) (rsp0_order : List (List Value)) (p1 : List Int) (vp1 : SV) (p2 : List Chan) (vp2 : SV) (p3 : List Done) (vp3 : SV) (y0 : Bool) (z0_order : List Done) (ubp0_failed : ByteArray → Option Bool) (H : jv rc p0_threads p0_open_ p0_failed p0_order p1 p2 p3 = some (y0, z0_order, ubp0_failed)) (K : Kp) (G : List Ent) (hp0_threads : Slr (Ty.sl aC) K (sv vp0_threads) p0_threads) (hp0_failed : MapR Ty.bool Value.string K esp0_failed p0_failed) (hp0_order : RowR aw K rsp0_order p0_order) (hp1 : Slr Ty.i64 K (sv vp1) p1) (hp2 : Slr aq K (sv vp2) p2) (hp3 : Slr aw K (sv vp3) p3) (hT : dK K) :
  Fc Tryd.prog 55 #[(.pointer (some ((⟨bp0, 0, none⟩ : Addr).add 0))), (sv vp1), (sv vp2), (sv vp3)] K ((.blk bp0 82 [(sv vp0_threads), (.bool p0_open_), .nilFunc, (.map (some bp0_failed)), (sv vp0_order)]) :: (.obj bp0_failed (.map esp0_failed ckp0_failed)) :: (.row (sv vp0_order) 47 6 rsp0_order.flatten) :: G) (fun v K' G' => ∃ (wz0_order : SV) (rswz0_order : List (List Value)) (esubp0_failed : Array MapEntry) (ckubp0_failed : Nat), v = (.bool y0) ∧ (.blk bp0 82 [(sv vp0_threads), (.bool p0_open_), .nilFunc, (.map (some bp0_failed)), (sv wz0_order)]) :: (.row (sv wz0_order) 47 6 rswz0_order.flatten) :: (.obj bp0_failed (.map esubp0_failed ckubp0_failed)) :: G = G' ∧ RowR aw K' rswz0_order z0_order ∧ MapR Ty.bool Value.string K' esubp0_failed ubp0_failed) := by
 refine aA Tryd.func55 rfl Tryd.ntmps55 Tryd.results55 rfl ?_
 unfold jv at H
 refine ac<|aa<|Ea Z<|ab<|ac<|aa<|Em Z<|?_
 obtain ⟨x95, hx96, H⟩ := bnd H
 refine ae rfl (Ek Tryd.call84 Z (oE p1 vp1 x95 hx96 _ _ hp1) ?_)
 rintro _ _ _ - ⟨v97, rs98, rfl, rfl, rfl, hs99⟩
 refine Ea Z<|ab<|?_
 refine ao (fun env' K' G' => ∃ (l153 : List Int) (rs155 : List (List Value)), [(0, (.pointer (some ((⟨bp0, 0, none⟩ : Addr).add 0)))), (2, (sv vp2)), (3, (sv vp3)), (9, (sv v97))] = env' ∧ (.blk bp0 82 [(sv vp0_threads), (.bool p0_open_), .nilFunc, (.map (some bp0_failed)), (sv vp0_order)]) :: (.row (sv v97) 3 1 rs155.flatten) :: (.obj bp0_failed (.map esp0_failed ckp0_failed)) :: (.row (sv vp0_order) 47 6 rsp0_order.flatten) :: G = G' ∧ mh p2 p3 p0_threads p0_open_ p0_order p0_failed rc l153 = some (y0, z0_order, ubp0_failed) ∧ RowR Ty.i64 K' rs155 l153) ?_ ?_
 ·skip
  refine ac<|aa<|Em Z<|Eq Z (aO (T := aw) hp3 rfl rfl)<|Em Z<|ab<|av<|?_
  refine aN (fun n209 env' K' G' => ∃ (l205 : List Int) (rs207 : List (List Value)) (i208 : Int), [(0, (.pointer (some ((⟨bp0, 0, none⟩ : Addr).add 0)))), (2, (sv vp2)), (3, (sv vp3)), (9, (sv v97)), (15, (sv vp3)), (16, (.int .i64 (p3.length : Int))), (17, (.int .i64 i208))] = env' ∧ K = K' ∧ (.blk bp0 82 [(sv vp0_threads), (.bool p0_open_), .nilFunc, (.map (some bp0_failed)), (sv vp0_order)]) :: (.row (sv v97) 3 1 rs207.flatten) :: (.obj bp0_failed (.map esp0_failed ckp0_failed)) :: (.row (sv vp0_order) 47 6 rsp0_order.flatten) :: G = G' ∧ lp2 (ng p2 p3 p0_threads p0_open_ p0_order p0_failed rc) n209 l205 i208 = some (y0, z0_order, ubp0_failed) ∧ RowR Ty.i64 K' rs207 l205) BIG ?_ ?_
  ·skip
   refine Pu3<|Pu3<|Pu2<|Pu3<|Shift.done<|?_
   exact ⟨_, by exact ⟨rfl, rfl, rfl, rfl, rfl, rfl, rfl, trivial⟩, x95, rs98, 0, rfl, rfl, rfl, H, hs99⟩
  rintro n209 _ _ _ - ⟨l205, rs207, i208, rfl, rfl, rfl, H, hR206⟩
  obtain ⟨m210, k211, rfl, hkk212, H⟩ := dl H
  unfold ng at H
  refine ac<|aa<|Ec Z<|ab<|ac<|?_
  refine ah rfl ?_ ?_
  ·intro h214
   have h214 := ax (h214)
   have H := ift h214 H
   refine am<|ac<|av<|ac<|aa<|?_
   obtain ⟨x233, hx234, H⟩ := bnd H
   obtain ⟨r235, hr236, hk237⟩ := Slr.at hp3 hx234
   obtain rfl := hr236
   refine Eq Z (aY (T := aw) hp3 hx234 rfl rfl rfl rfl rfl)<|EL 6 (Done.cells x233) Z (Rdc.k hk237 rfl)<|?_
   refine ae rfl (ar (cs := (Done.cells (Done.mk 0 (Result.mk 0 0 0 false 0)))) rfl rfl rfl rfl (fun b238 => ?_))
   refine ae rfl (ag (vs := (Done.cells x233)) (all' := (Done.cells x233)) rfl rfl rfl rfl rfl .here rfl rfl rfl ?_)
   refine ab<|aa<|Em Z<|EF 0 Z<|El (.int .i64 x233.thread) Z (Rb0 Z)<|?_
   obtain ⟨x239, hx240, H⟩ := bnd H
   obtain ⟨r241, hq242, hr243⟩ := RowR.at hR206 hx240
   obtain rfl := hr243
   refine Eq Z (aZ (T := Ty.i64) Mb2 hR206 hq242 (aD hx240).1 rfl rfl rfl rfl rfl)<|El (.int .i64 x239) Z (be (T := Ty.i64) Mb2 hR206 hq242 rfl rfl)<|Er (wI (x239 + 1)) Z<|?_
   obtain ⟨x244, hx245, H⟩ := bnd H
   obtain ⟨r246, hq247, hr248⟩ := RowR.at hR206 hx245
   obtain rfl := hr248
   refine Eq Z (aZ (T := Ty.i64) Mb2 hR206 hq247 (aD hx245).1 rfl rfl rfl rfl rfl) ?_
   refine ae rfl (bd (T := Ty.i64) (vs := [(.int .i64 (wI (x239 + 1)))]) (r' := [(.int .i64 (wI (x239 + 1)))]) (l' := (aI l205 x233.thread (wI (x239 + 1)))) rfl rfl rfl rfl rfl (.there (.there .here)) hR206 hq247 rfl rfl rfl (RowR.set x233.thread hR206 rfl) (fun hR249 => ?_))
   have hE250 := bW hq247 (v := [(.int .i64 (wI (x239 + 1)))])
   refine ab<|aa<|Er (wI (i208 + 1)) Z<|Em Z<|ab<|Pu4<|Pu4<|Pu4<|Pu4<|Re4<|?_
   exact Shift.done ⟨_, by exact ⟨rfl, rfl, rfl, rfl, rfl, rfl, rfl, trivial⟩, _, Nat.lt_succ_self _, (aI l205 x233.thread (wI (x239 + 1))), (rs207.set x233.thread.toNat [(.int .i64 (wI (x239 + 1)))]), (wI (i208 + 1)), rfl, rfl, rfl, (hkk212 ▸ H), hR249⟩
  ·intro h214
   have h214 := ay (h214)
   have H := ap h214 H
   refine aP<|Pu3<|Pu3<|Pu3<|Pu3<|Shift.done<|?_
   exact ⟨_, by exact ⟨rfl, rfl, rfl, rfl, trivial⟩, l205, rs207, rfl, rfl, H, hR206⟩
 rintro _ K251 _ hK252 ⟨l153, rs155, rfl, rfl, H, hR154⟩
 unfold mh at H
 refine ac<|aa<|Em Z<|Eq Z (aM rfl)<|EF 4 Z<|El (sv vp0_order) Z (Rb0 Z)<|?_
 have hs253 := (hp0_order).mono hK252
 refine Eq Z (dI (T := aw) Mb3 hs253 rfl rfl rfl)<|Ea Z<|ab<|ac<|aa<|Em Z<|Em Z<|Eq Z (aM rfl)<|EF 4 Z<|El (sv vp0_order) Z (Rb0 Z)<|?_
 refine Em Z ?_
 obtain ⟨x254, hx255, H⟩ := bnd H
 have hs256 := (hp3).mono hK252
 refine ae rfl (bz (T := aw) (bytes := 48) rfl rfl rfl Mb3 hs253 (SrcT.sl hs256) hx255 rfl rfl rfl rfl rfl rfl rfl rfl (fun v257 rs258 hR259 => ⟨_, (.there (.there (.there .here))), ?_⟩))
 refine Eq Z (aM rfl)<|EF 4 Z<|?_
 refine ae rfl (ag (vs := [(sv v257)]) (all' := [(sv vp0_threads), (.bool p0_open_), .nilFunc, (.map (some bp0_failed)), (sv v257)]) rfl rfl rfl rfl rfl .here rfl rfl rfl ?_)
 refine ab<|ac<|ac<|aa<|Em Z<|Em Z<|Em Z<|?_
 refine Ow.shift (Shift.settle (T := Ty.i64) (.there .here) hR154 rfl (fun K281 hK282 hs283 => Shift.done ?_))
 obtain ⟨x284, x285, x286, hx287, H⟩ := c8 H
 refine Ow.shift (Pu3 (Shift.done ?_))
 refine Ow.shift (Pu3 (Shift.done ?_))
 refine Ow.shift (Pu2 (Shift.done ?_))
 have hs288 := ((hp0_threads).mono hK252).mono hK282
 have hs289 := ((hp0_failed).mono hK252).mono hK282
 have hs290 := (hR259).mono hK282
 have hs291 := ((hp2).mono hK252).mono hK282
 have hs292 := ((hT).mono hK252).mono hK282
 refine ae rfl (Ek Tryd.call29 Z (ih bp0 p0_threads vp0_threads p0_open_ p0_failed bp0_failed esp0_failed ckp0_failed x254 v257 rs258 l153 v97 p2 vp2 x284 x285 x286 hx287 _ _ hs288 hs289 hs290 hs283 hs291 hs292) ?_)
 rintro _ K297 _ hK298 ⟨v293, rs294, es295, b296, rfl, rfl, hs299, hs300⟩
 refine ab ?_
 refine ah rfl ?_ ?_
 ·intro h301
  have H := ift h301 H
  refine ac<|aa<|Ea Z<|ab<|an<|?_
  obtain ⟨ey0, ez0_order, eubp0_failed⟩ := cx H
  subst y0 z0_order ubp0_failed
  refine ⟨(by first | exact .inl rfl | exact .inr rfl), [(.bool true)], ⟨(.bool true), _, rfl, rfl, rfl⟩, ?_⟩
  refine Pu2<|Pu2<|Pu2<|Re3<|Shift.done<|?_
  exact ⟨v293, rs294, es295, b296, rfl, rfl, hs299, hs300⟩
 ·intro h301
  have H := ap (btf h301) H
  refine am<|ac<|aa<|Em Z<|Em Z<|Eq Z (aM rfl)<|EF 4 Z<|El (sv v293) Z (Rb0 Z)<|Em Z<|?_
  obtain ⟨x302, hx303, H⟩ := bnd H
  refine Eq Z (p9 (T := aw) Mb1 hs299 rfl hx303 rfl rfl rfl rfl)<|Eq Z (aM rfl)<|EF 4 Z<|?_
  refine Ow.shift (Pu1 (Shift.done ?_))
  have hR304 := RowR.cutH hs299 hx303
  refine Ow.shift (Shift.cutRow (T := aw) hs299 rfl hx303 (Shift.done ?_))
  refine ae rfl (ag (vs := [(sv (cj v293 6 0 (p0_order.length : Int).toNat))]) (all' := [(sv vp0_threads), (.bool p0_open_), .nilFunc, (.map (some bp0_failed)), (sv (cj v293 6 0 (p0_order.length : Int).toNat))]) rfl rfl rfl rfl rfl (.there .here) rfl rfl rfl ?_)
  refine ab<|ac<|aa<|Ea Z<|ab<|an<|?_
  obtain ⟨ey0, ez0_order, eubp0_failed⟩ := cx H
  subst y0 z0_order ubp0_failed
  refine ⟨(by first | exact .inl rfl | exact .inr rfl), [(.bool false)], ⟨(.bool false), _, rfl, rfl, rfl⟩, ?_⟩
  refine Pu2<|Pu1<|Pu2<|Re3<|Shift.done<|?_
  exact ⟨(cj v293 6 0 (p0_order.length : Int).toNat), (rs294.take (p0_order.length : Int).toNat), es295, b296, rfl, rfl, hR304, hs300⟩



end Go.Hx

namespace Go.Hx
open Go Go.Proofs
set_option linter.unusedSimpArgs false
set_option linter.unusedVariables false
set_option maxRecDepth 10000
set_option maxHeartbeats 1000000 in
theorem lq (p0 : Config) (vp0_capacities : SV) (vp0_starts : SV) (y0 : List Chan) (H : nh p0 = some y0) (K : Kp) (G : List Ent) (hp0_capacities : Slr Ty.i64 K (sv vp0_capacities) p0.capacities) (hp0_starts : Slr Ty.u64 K (sv vp0_starts) p0.starts) :
  Fc Tryd.prog 30 #[(.agg (Config.cells p0 vp0_capacities vp0_starts).toArray)] K (G) (fun v K' G' => ∃ (wy0 : SV), v = (sv wy0) ∧ (.tok 74 3 [(sv wy0)]) :: G = G' ∧ Slr aq K' (sv wy0) y0) := by
 refine aA Tryd.func30 rfl Tryd.ntmps30 Tryd.results30 rfl ?_
 unfold nh at H
 refine ac<|aa<|?_
 refine ae rfl (aB (cs := (Config.cells p0 vp0_capacities vp0_starts)) rfl rfl rfl (fun b49 => ?_))
 refine Ea Z<|ab<|ac<|aa<|Ea Z<|ab<|?_
 refine ao (fun env' K' G' => ∃ (v92 : SV) (l93 : List Chan), [(3, (sv v92))] = env' ∧ (.tok 74 3 [(sv v92)]) :: G = G' ∧ mG l93 = some y0 ∧ Slr aq K' (sv v92) l93) ?_ ?_
 ·skip
  refine ac<|aa<|EF 0 Z<|El (sv vp0_capacities) Z (Rb0 Z)<|Eq Z (aO (T := Ty.i64) hp0_capacities rfl rfl)<|Em Z<|ab<|av<|?_
  refine aN (fun n137 env' K' G' => ∃ (v133 : SV) (l134 : List Chan) (i136 : Int), [(3, (sv v133)), (7, (sv vp0_capacities)), (8, (.int .i64 (p0.capacities.length : Int))), (9, (.int .i64 i136))] = env' ∧ (.tok 74 3 [(sv v133)]) :: G = G' ∧ lp2 (m9 p0) n137 l134 i136 = some y0 ∧ Slr aq K' (sv v133) l134) BIG ?_ ?_
  ·skip
   refine Shift.nilTok1 74 3<|Re1<|Shift.done<|?_
   exact ⟨_, by exact ⟨rfl, rfl, rfl, rfl, trivial⟩, ak, ([] : List Chan), 0, rfl, rfl, H, (Slr.nil aq _)⟩
  rintro n137 _ K138 _ hK139 ⟨v133, l134, i136, rfl, rfl, H, hs135⟩
  obtain ⟨m140, k141, rfl, hkk142, H⟩ := dl H
  unfold m9 at H
  refine ac<|aa<|Ec Z<|ab<|ac<|?_
  refine ah rfl ?_ ?_
  ·intro h144
   have h144 := ax (h144)
   have H := ift h144 H
   refine am<|ac<|av<|ac<|aa<|?_
   obtain ⟨x159, hx160, H⟩ := bnd H
   have hs161 := (hp0_capacities).mono hK139
   obtain ⟨r162, hr163, hk164⟩ := Slr.at hs161 hx160
   obtain rfl := hr163
   refine Eq Z (aY (T := Ty.i64) hs161 hx160 rfl rfl rfl rfl rfl)<|El (.int .i64 x159) Z (Rdc.k hk164 rfl)<|Ea Z<|ab<|aa<|Em Z<|Em Z<|Eq Z (az (cs := (Chan.cells (Chan.mk x159 [] false) ak)) rfl rfl rfl rfl rfl rfl)<|?_
   have hR166 : RowR aq K138 [(Chan.cells (Chan.mk x159 [] false) ak)] [(Chan.mk x159 [] false)] := RowR.cons ⟨ak, rfl, (Slr.nil Ty.u64 _)⟩ (RowR.nil)
   refine ae rfl (aR (T := aq) (rows := [(Chan.cells (Chan.mk x159 [] false) ak)]) (l := [(Chan.mk x159 [] false)]) rfl rfl rfl hR166 rfl rfl rfl rfl rfl rfl rfl rfl (fun v165 => ?_))
   obtain ⟨x167, hx168, H⟩ := bnd H
   refine ae rfl (aG (T := aq) (bytes := 40) (q := 0) rfl rfl rfl hs135 Mb1 rfl (SrcT.row Mb0 hR166 rfl) hx168 rfl rfl rfl rfl rfl rfl rfl rfl (fun v169 K170 hK171 hs172 => ⟨_, (.there .here), ?_⟩))
   refine Ow.shift (Re0 (Shift.done ?_))
   refine Ea Z<|ab<|aa<|Er (wI (i136 + 1)) Z<|Em Z<|ab<|Shift.done<|?_
   exact ⟨_, by exact ⟨rfl, rfl, rfl, rfl, trivial⟩, _, Nat.lt_succ_self _, v169, x167, (wI (i136 + 1)), rfl, rfl, (hkk142 ▸ H), hs172⟩
  ·intro h144
   have h144 := ay (h144)
   have H := ap h144 H
   refine aP<|Shift.done<|?_
   exact ⟨_, by exact ⟨rfl, trivial⟩, v133, l134, rfl, rfl, H, hs135⟩
 rintro _ K173 _ hK174 ⟨v92, l93, rfl, rfl, H, hs94⟩
 unfold mG at H
 refine ac<|aa<|Em Z<|Ea Z<|ab<|an<|?_
 obtain ey0 := aV H
 subst y0
 refine ⟨(by first | exact .inl rfl | exact .inr rfl), [(sv v92)], ⟨(sv v92), _, rfl, rfl, rfl⟩, ?_⟩
 exact Shift.done ⟨v92, rfl, rfl, hs94⟩



end Go.Hx

namespace Go.Hx
open Go Go.Proofs
set_option linter.unusedSimpArgs false
set_option linter.unusedVariables false
set_option maxRecDepth 10000
set_option maxHeartbeats 1000000 in
theorem lp (fu : Nat) : ∀ (bp0 : Nat) (p0_threads : List (List Linear_call)) (vp0_threads : SV) (p0_open_ : Bool) (p0_failed : ByteArray → Option Bool) (bp0_failed : Nat) (esp0_failed : Array MapEntry) (ckp0_failed : Nat) (p0_order : List Done) (vp0_order : SV) (rsp0_order : List (List Value)) (p1 : List Int) (vp1 : SV) (p2 : List Chan) (vp2 : SV) (y0 : Bool) (z0_order : List Done) (ubp0_failed : ByteArray → Option Bool) (H : fI fu p0_threads p0_open_ p0_failed p0_order p1 p2 = some (y0, z0_order, ubp0_failed)) (K : Kp) (G : List Ent) (hp0_threads : Slr (Ty.sl aC) K (sv vp0_threads) p0_threads) (hp0_failed : MapR Ty.bool Value.string K esp0_failed p0_failed) (hp0_order : RowR aw K rsp0_order p0_order) (hp1 : Slr Ty.i64 K (sv vp1) p1) (hp2 : Slr aq K (sv vp2) p2) (hT : dK K),
  Fc Tryd.prog 29 #[(.pointer (some ((⟨bp0, 0, none⟩ : Addr).add 0))), (sv vp1), (sv vp2)] K ((.blk bp0 82 [(sv vp0_threads), (.bool p0_open_), .nilFunc, (.map (some bp0_failed)), (sv vp0_order)]) :: (.obj bp0_failed (.map esp0_failed ckp0_failed)) :: (.row (sv vp0_order) 47 6 rsp0_order.flatten) :: G) (fun v K' G' => ∃ (wz0_order : SV) (rswz0_order : List (List Value)) (esubp0_failed : Array MapEntry) (ckubp0_failed : Nat), v = (.bool y0) ∧ (.blk bp0 82 [(sv vp0_threads), (.bool p0_open_), .nilFunc, (.map (some bp0_failed)), (sv wz0_order)]) :: (.row (sv wz0_order) 47 6 rswz0_order.flatten) :: (.obj bp0_failed (.map esubp0_failed ckubp0_failed)) :: G = G' ∧ RowR aw K' rswz0_order z0_order ∧ MapR Ty.bool Value.string K' esubp0_failed ubp0_failed) := by
 induction fu with
 | zero => intro bp0 p0_threads vp0_threads p0_open_ p0_failed bp0_failed esp0_failed ckp0_failed p0_order vp0_order rsp0_order p1 vp1 p2 vp2 y0 z0_order ubp0_failed H K G hp0_threads hp0_failed hp0_order hp1 hp2 hT; cases H
 | succ fu ih =>
 intro bp0 p0_threads vp0_threads p0_open_ p0_failed bp0_failed esp0_failed ckp0_failed p0_order vp0_order rsp0_order p1 vp1 p2 vp2 y0 z0_order ubp0_failed H K G hp0_threads hp0_failed hp0_order hp1 hp2 hT
 have H : mW (fI fu) p0_threads p0_open_ p0_failed p0_order p1 p2 = some (y0, z0_order, ubp0_failed) := H
 generalize fI fu = rc at H ih
 refine aA Tryd.func29 rfl Tryd.ntmps29 Tryd.results29 rfl ?_
 unfold mW at H
 refine ac<|aa<|Ea Z<|ab<|ac<|aa<|Em Z<|Em Z<|?_
 obtain ⟨x917, x918, hx919, H⟩ := bD H
 refine Ow.shift (Pu2 (Shift.done ?_))
 refine Ow.shift (Pu2 (Shift.done ?_))
 refine Ow.shift (Pu2 (Shift.done ?_))
 refine ae rfl (Ek Tryd.call51 Z (pj bp0 p0_threads vp0_threads p0_open_ p0_failed bp0_failed esp0_failed ckp0_failed p0_order vp0_order rsp0_order p1 vp1 x917 x918 hx919 _ _ hp0_threads hp0_failed hp0_order hp1) ?_)
 rintro _ K920 _ hK921 ⟨rfl, rfl⟩
 refine Em Z<|Ex Z<|Ex Z<|Ea Z<|Ea Z<|ab<|ac<|ac<|aa<|Em Z<|?_
 refine Eq Z (aS rfl)<|ab<|?_
 refine ah rfl ?_ ?_
 ·intro h923
  have h923 := bE (h923)
  have H := ap (btf h923) H
  refine ac<|ac<|aa<|Em Z<|Eq Z (aM rfl)<|EF 2 Z<|El (.nilFunc) Z (Rb0 Z)<|Eq Z (nT rfl rfl rfl)<|Em Z<|Ez Z<|?_
  refine Ez Z<|Ez Z<|Ez Z<|Ez Z<|Ez Z<|Et Z<|ab<|oa rfl<|ac<|aa<|?_
  refine Ea Z<|ab<|an<|?_
  obtain ⟨ey0, ez0_order, eubp0_failed⟩ := cx H
  subst y0 z0_order ubp0_failed
  refine ⟨(by first | exact .inl rfl | exact .inr rfl), [(.bool true)], ⟨(.bool true), _, rfl, rfl, rfl⟩, ?_⟩
  refine Pu1<|Pu2<|Pu2<|?_
  have hs924 := (hp0_order).mono hK921
  have hs925 := (hp0_failed).mono hK921
  exact Shift.done ⟨vp0_order, rsp0_order, esp0_failed, ckp0_failed, rfl, rfl, hs924, hs925⟩
 ·intro h923
  have h923 := bB (h923)
  have H := ift h923 H
  refine am<|ac<|aa<|Em Z<|Em Z<|?_
  obtain ⟨x926, hx927, H⟩ := bnd H
  have hs928 := (hp1).mono hK921
  have hs929 := (hp2).mono hK921
  have hs930 := (hT).mono hK921
  refine ae rfl (Ek Tryd.call52 Z (oZ p1 vp1 p2 vp2 x926 hx927 _ _ hs928 hs929 hs930) ?_)
  rintro _ K931 _ hK932 ⟨rfl, rfl⟩
  refine Ea Z<|ab<|ac<|ac<|aa<|Em Z<|Eq Z (aM rfl)<|EF 3 Z<|El (.map (some bp0_failed)) Z (Rb0 Z)<|Em Z<|?_
  have hs935 := ((hp0_failed).mono hK921).mono hK932
  refine Eq Z (p6 (kv := Value.string) (k := x926) (KeyK.str rfl) hs935 Mb1 rfl rfl rfl rfl rfl)<|ab<|?_
  refine ah rfl ?_ ?_
  ·intro h936
   have H := ift h936 H
   refine ac<|aa<|Ea Z<|ab<|an<|?_
   obtain ⟨ey0, ez0_order, eubp0_failed⟩ := cx H
   subst y0 z0_order ubp0_failed
   refine ⟨(by first | exact .inl rfl | exact .inr rfl), [(.bool false)], ⟨(.bool false), _, rfl, rfl, rfl⟩, ?_⟩
   refine Pu1<|Pu2<|Pu2<|?_
   have hs937 := ((hp0_order).mono hK921).mono hK932
   exact Shift.done ⟨vp0_order, rsp0_order, esp0_failed, ckp0_failed, rfl, rfl, hs937, hs935⟩
  ·intro h936
   have H := ap (btf h936) H
   refine am ?_
   refine ao (fun env' K' G' => ∃ (es1826 : Array MapEntry) (ck1827 : Nat) (m1828 : ByteArray → Option Bool) (v1830 : SV) (l1831 : List Done) (rs1833 : List (List Value)), [(0, (.pointer (some ((⟨bp0, 0, none⟩ : Addr).add 0)))), (9, (.string x926))] = env' ∧ (.blk bp0 82 [(sv vp0_threads), (.bool p0_open_), .nilFunc, (.map (some bp0_failed)), (sv v1830)]) :: (.obj bp0_failed (.map es1826 ck1827)) :: (.row (sv v1830) 47 6 rs1833.flatten) :: G = G' ∧ me x926 p0_threads p0_open_ rc m1828 l1831 = some (y0, z0_order, ubp0_failed) ∧ MapR Ty.bool Value.string K' es1826 m1828 ∧ RowR aw K' rs1833 l1831) ?_ ?_
   ·skip
    refine ac<|aa<|Em Z<|Eq Z (aM rfl)<|EF 0 Z<|El (sv vp0_threads) Z (Rb0 Z)<|?_
    have hs1834 := ((hp0_threads).mono hK921).mono hK932
    refine Eq Z (aO (T := (Ty.sl aC)) hs1834 rfl rfl)<|Em Z<|ab<|av<|?_
    refine aN (fun n2722 env' K' G' => ∃ (i2713 : Int) (es2714 : Array MapEntry) (ck2715 : Nat) (m2716 : ByteArray → Option Bool) (v2718 : SV) (l2719 : List Done) (rs2721 : List (List Value)), [(0, (.pointer (some ((⟨bp0, 0, none⟩ : Addr).add 0)))), (1, (sv vp1)), (2, (sv vp2)), (7, (.int .i64 x917)), (9, (.string x926)), (56, (.int .i64 (p0_threads.length : Int))), (57, (.int .i64 i2713))] = env' ∧ (.blk bp0 82 [(sv vp0_threads), (.bool p0_open_), .nilFunc, (.map (some bp0_failed)), (sv v2718)]) :: (.obj bp0_failed (.map es2714 ck2715)) :: (.row (sv v2718) 47 6 rs2721.flatten) :: G = G' ∧ lp3 (mI p1 p2 x917 x926 p0_threads p0_open_ rc) n2722 i2713 m2716 l2719 = some (y0, z0_order, ubp0_failed) ∧ MapR Ty.bool Value.string K' es2714 m2716 ∧ RowR aw K' rs2721 l2719) BIG ?_ ?_
    ·skip
     refine Pu2<|Pu2<|Pu2<|?_
     have hs2723 := ((hp0_order).mono hK921).mono hK932
     exact Shift.done ⟨_, by exact ⟨rfl, rfl, rfl, rfl, rfl, rfl, rfl, trivial⟩, 0, esp0_failed, ckp0_failed, p0_failed, vp0_order, p0_order, rsp0_order, rfl, rfl, H, hs935, hs2723⟩
    rintro n2722 _ K2724 _ hK2725 ⟨i2713, es2714, ck2715, m2716, v2718, l2719, rs2721, rfl, rfl, H, hM2717, hR2720⟩
    obtain ⟨m2726, k2727, rfl, hkk2728, H⟩ := jD H
    unfold mI at H
    refine ac<|aa<|Ec Z<|ab<|ac<|?_
    refine ah rfl ?_ ?_
    ·intro h2730
     have h2730 := ax (h2730)
     have H := ift h2730 H
     refine am ?_
     refine ao (fun env' K' G' => ∃ (es3152 : Array MapEntry) (ck3153 : Nat) (m3154 : ByteArray → Option Bool) (v3156 : SV) (l3157 : List Done) (rs3159 : List (List Value)), [(0, (.pointer (some ((⟨bp0, 0, none⟩ : Addr).add 0)))), (1, (sv vp1)), (2, (sv vp2)), (7, (.int .i64 x917)), (9, (.string x926)), (56, (.int .i64 (p0_threads.length : Int))), (57, (.int .i64 i2713))] = env' ∧ (.blk bp0 82 [(sv vp0_threads), (.bool p0_open_), .nilFunc, (.map (some bp0_failed)), (sv v3156)]) :: (.obj bp0_failed (.map es3152 ck3153)) :: (.row (sv v3156) 47 6 rs3159.flatten) :: G = G' ∧ jH p1 p2 x917 x926 p0_threads i2713 p0_open_ k2727 rc m3154 l3157 = some (y0, z0_order, ubp0_failed) ∧ MapR Ty.bool Value.string K' es3152 m3154 ∧ RowR aw K' rs3159 l3157) ?_ ?_
     ·skip
      refine av<|ac<|aa<|Em Z<|Ea Z<|ab<|ac<|aa<|Em Z<|Em Z<|?_
      refine Em Z<|Em Z<|?_
      obtain ⟨x3160, x3161, hx3162, H⟩ := bD H
      refine Ow.shift (Pu2 (Shift.done ?_))
      refine Ow.shift (Pu2 (Shift.done ?_))
      refine Ow.shift (Pu2 (Shift.done ?_))
      have hs3163 := (hs1834).mono hK2725
      have hs3164 := ((hs928).mono hK932).mono hK2725
      refine ae rfl (Ek Tryd.call53 Z (lW bp0 p0_threads vp0_threads p0_open_ m2716 bp0_failed es2714 ck2715 l2719 v2718 rs2721 p1 vp1 i2713 x917 x3160 x3161 hx3162 _ _ hs3163 hM2717 hR2720 hs3164) ?_)
      rintro _ _ _ - ⟨v3165, v3166, rfl, rfl, rfl, hs3167, hs3168⟩
      refine Em Z<|Ex Z<|Ex Z<|?_
      refine ae rfl (ar (cs := (Linear_call.cells (Linear_call.mk (Op.mk 0 0 0 0 0 [] []) (Result.mk 0 0 0 false 0) 0 0) ak ak)) rfl rfl rfl rfl (fun b3169 => ?_))
      refine ae rfl (ag (vs := (Linear_call.cells x3160 v3165 v3166)) (all' := (Linear_call.cells x3160 v3165 v3166)) rfl rfl rfl rfl rfl .here rfl rfl rfl ?_)
      refine Ea Z<|ab<|ac<|ac<|aa<|Em Z<|Eq Z (aS rfl)<|ab<|?_
      refine ah rfl ?_ ?_
      ·intro h3171
       have h3171 := bE (h3171)
       have H := ap (btf h3171) H
       refine aP<|Pu3<|Pu3<|Pu3<|Re3<|Shift.done<|?_
       exact ⟨_, by exact ⟨rfl, rfl, rfl, rfl, rfl, rfl, rfl, trivial⟩, es2714, ck2715, m2716, v2718, l2719, rs2721, rfl, rfl, H, hM2717, hR2720⟩
      ·intro h3171
       have h3171 := bB (h3171)
       have H := ift h3171 H
       refine am ?_
       refine ao (fun env' K' G' => ∃ (es3309 : Array MapEntry) (ck3310 : Nat) (m3311 : ByteArray → Option Bool) (v3313 : SV) (l3314 : List Done) (rs3316 : List (List Value)), [(0, (.pointer (some ((⟨bp0, 0, none⟩ : Addr).add 0)))), (1, (sv vp1)), (2, (sv vp2)), (7, (.int .i64 x917)), (9, (.string x926)), (10, (.int .i64 i2713)), (11, (.pointer (some ((⟨b3169, 0, none⟩ : Addr).add 0)))), (56, (.int .i64 (p0_threads.length : Int))), (57, (.int .i64 i2713))] = env' ∧ (.blk bp0 82 [(sv vp0_threads), (.bool p0_open_), .nilFunc, (.map (some bp0_failed)), (sv v3313)]) :: (.blk b3169 109 (Linear_call.cells x3160 v3165 v3166)) :: (.obj bp0_failed (.map es3309 ck3310)) :: (.row (sv v3313) 47 6 rs3316.flatten) :: G = G' ∧ nq p1 p2 x917 x926 i2713 p0_threads p0_open_ x3160 k2727 rc m3311 l3314 = some (y0, z0_order, ubp0_failed) ∧ MapR Ty.bool Value.string K' es3309 m3311 ∧ RowR aw K' rs3316 l3314) ?_ ?_
       ·skip
        refine ac<|aa<|EL 14 (Linear_call.cells x3160 v3165 v3166) Z (Rb0 Z)<|Em Z<|?_
        obtain ⟨x3317, hx3318, H⟩ := bnd H
        have hs3319 := ((hs929).mono hK932).mono hK2725
        refine ae rfl (Ek Tryd.call54 Z (oC x3160 v3165 v3166 p2 vp2 x3317 hx3318 _ _ hs3167 hs3168 hs3319) ?_)
        rintro _ K3321 _ hK3322 ⟨v3320, rfl, rfl, hs3323⟩
        refine Eq Z (aO (T := bh) hs3323 rfl rfl)<|Em Z<|ab<|av<|?_
        refine aN (fun n3454 env' K' G' => ∃ (i3445 : Int) (es3446 : Array MapEntry) (ck3447 : Nat) (m3448 : ByteArray → Option Bool) (v3450 : SV) (l3451 : List Done) (rs3453 : List (List Value)), [(0, (.pointer (some ((⟨bp0, 0, none⟩ : Addr).add 0)))), (1, (sv vp1)), (2, (sv vp2)), (7, (.int .i64 x917)), (9, (.string x926)), (10, (.int .i64 i2713)), (11, (.pointer (some ((⟨b3169, 0, none⟩ : Addr).add 0)))), (56, (.int .i64 (p0_threads.length : Int))), (57, (.int .i64 i2713)), (72, (sv v3320)), (73, (.int .i64 (x3317.length : Int))), (74, (.int .i64 i3445))] = env' ∧ (.blk bp0 82 [(sv vp0_threads), (.bool p0_open_), .nilFunc, (.map (some bp0_failed)), (sv v3450)]) :: (.blk b3169 109 (Linear_call.cells x3160 v3165 v3166)) :: (.obj bp0_failed (.map es3446 ck3447)) :: (.row (sv v3450) 47 6 rs3453.flatten) :: (.tok 36 5 [(sv v3320)]) :: G = G' ∧ lp3 (m3 p1 p2 x917 x926 i2713 p0_threads x3317 p0_open_ x3160 k2727 rc) n3454 i3445 m3448 l3451 = some (y0, z0_order, ubp0_failed) ∧ MapR Ty.bool Value.string K' es3446 m3448 ∧ RowR aw K' rs3453 l3451) BIG ?_ ?_
        ·skip
         refine Pu4<|Pu4<|Pu3<|Pu4<|?_
         have hs3455 := (hM2717).mono hK3322
         have hs3456 := (hR2720).mono hK3322
         exact Shift.done ⟨_, by exact ⟨rfl, rfl, rfl, rfl, rfl, rfl, rfl, rfl, rfl, rfl, rfl, rfl, trivial⟩, 0, es2714, ck2715, m2716, v2718, l2719, rs2721, rfl, rfl, H, hs3455, hs3456⟩
        rintro n3454 _ K3457 _ hK3458 ⟨i3445, es3446, ck3447, m3448, v3450, l3451, rs3453, rfl, rfl, H, hM3449, hR3452⟩
        obtain ⟨m3459, k3460, rfl, hkk3461, H⟩ := jD H
        unfold m3 at H
        refine ac<|aa<|Ec Z<|ab<|ac<|?_
        refine ah rfl ?_ ?_
        ·intro h3463
         have h3463 := ax (h3463)
         have H := ift h3463 H
         refine am<|ac<|av<|ac<|aa<|?_
         obtain ⟨x3517, hx3518, H⟩ := bnd H
         have hs3519 := (hs3323).mono hK3458
         obtain ⟨r3520, hr3521, hk3522⟩ := Slr.at hs3519 hx3518
         obtain rfl := hr3521
         refine Eq Z (aY (T := bh) hs3519 hx3518 rfl rfl rfl rfl rfl)<|EL 5 (Result.cells x3517) Z (Rdc.k hk3522 rfl)<|?_
         refine ae rfl (ar (cs := (Result.cells (Result.mk 0 0 0 false 0))) rfl rfl rfl rfl (fun b3523 => ?_))
         refine ae rfl (ag (vs := (Result.cells x3517)) (all' := (Result.cells x3517)) rfl rfl rfl rfl rfl .here rfl rfl rfl ?_)
         refine ab<|ac<|aa<|Em Z<|EF 0 Z<|EL 7 (Op.cells x3160.op v3165 v3166) Z (Rb2 Z)<|EL 5 (Result.cells x3517) Z (Rb0 Z)<|?_
         obtain ⟨x3524, x3525, hx3526, H⟩ := bD H
         have hs3527 := ((hs3319).mono hK3322).mono hK3458
         have hs3528 := ((hs3167).mono hK3322).mono hK3458
         have hs3529 := ((hs3168).mono hK3322).mono hK3458
         refine ae rfl (Ek Tryd.call23 Z (jS p2 vp2 x3160.op v3165 v3166 x3517 x3524 x3525 hx3526 _ _ hs3527 hs3528 hs3529) ?_)
         rintro _ K3531 _ hK3532 ⟨v3530, rfl, rfl, hs3533⟩
         refine Em Z<|Ex Z<|Ex Z<|Ea Z<|Ea Z<|ab<|?_
         refine ao (fun env' K' G' => ∃ (t3558 : Bool) (es3559 : Array MapEntry) (ck3560 : Nat) (m3561 : ByteArray → Option Bool) (v3563 : SV) (l3564 : List Done) (rs3566 : List (List Value)), [(0, (.pointer (some ((⟨bp0, 0, none⟩ : Addr).add 0)))), (1, (sv vp1)), (2, (sv vp2)), (7, (.int .i64 x917)), (9, (.string x926)), (10, (.int .i64 i2713)), (11, (.pointer (some ((⟨b3169, 0, none⟩ : Addr).add 0)))), (56, (.int .i64 (p0_threads.length : Int))), (57, (.int .i64 i2713)), (72, (sv v3320)), (73, (.int .i64 (x3317.length : Int))), (74, (.int .i64 i3445)), (96, (.bool t3558))] = env' ∧ (.blk bp0 82 [(sv vp0_threads), (.bool p0_open_), .nilFunc, (.map (some bp0_failed)), (sv v3563)]) :: (.blk b3169 109 (Linear_call.cells x3160 v3165 v3166)) :: (.obj bp0_failed (.map es3559 ck3560)) :: (.row (sv v3563) 47 6 rs3566.flatten) :: (.tok 36 5 [(sv v3320)]) :: G = G' ∧ km p1 p2 x917 x926 i2713 p0_threads x3317 i3445 p0_open_ x3160 k2727 k3460 rc t3558 m3561 l3564 = some (y0, z0_order, ubp0_failed) ∧ MapR Ty.bool Value.string K' es3559 m3561 ∧ RowR aw K' rs3566 l3564) ?_ ?_
         ·skip
          refine aa<|Em Z<|Em Z<|?_
          refine Ee Z ?_ ?_
          ·intro h3567
           have H := ift h3567 H
           refine Vm Z<|Vm Z<|Vm Z<|Vm Z<|VL 5 (Result.cells x3517) Z (Rb0 Z)<|Vq Z (az (cs := (Done.cells (Done.mk i2713 x3517))) rfl rfl rfl rfl rfl rfl)<|?_
           have hR3569 : RowR aw K3531 [(Done.cells (Done.mk i2713 x3517))] [(Done.mk i2713 x3517)] := RowR.cons rfl (RowR.nil)
           refine br rfl rfl rfl rfl (aR (T := aw) (rows := [(Done.cells (Done.mk i2713 x3517))]) (l := [(Done.mk i2713 x3517)]) rfl rfl rfl hR3569 rfl rfl rfl rfl rfl rfl rfl rfl (fun v3568 => ?_))
           refine Ow.shift (Shift.settle (T := aw) .here hR3569 rfl (fun K3570 hK3571 hs3572 => Shift.done ?_))
           obtain ⟨x3573, x3574, x3575, hx3576, H⟩ := c8 H
           refine Ow.shift (Pu5 (Shift.done ?_))
           refine Ow.shift (Pu5 (Shift.done ?_))
           refine Ow.shift (Pu4 (Shift.done ?_))
           have hs3577 := ((((hs3163).mono hK3322).mono hK3458).mono hK3532).mono hK3571
           have hs3578 := ((hM3449).mono hK3532).mono hK3571
           have hs3579 := ((hR3452).mono hK3532).mono hK3571
           have hs3580 := ((((hs3164).mono hK3322).mono hK3458).mono hK3532).mono hK3571
           have hs3581 := (hs3533).mono hK3571
           have hs3582 := ((((((hs930).mono hK932).mono hK2725).mono hK3322).mono hK3458).mono hK3532).mono hK3571
           refine br rfl rfl rfl rfl (Ek Tryd.call55 Z (li rc ih bp0 p0_threads vp0_threads p0_open_ m3448 bp0_failed es3446 ck3447 l3451 v3450 rs3453 p1 vp1 x3524 v3530 [(Done.mk i2713 x3517)] v3568 x3573 x3574 x3575 hx3576 _ _ hs3577 hs3578 hs3579 hs3580 hs3581 hs3572 hs3582) ?_)
           rintro _ K3587 _ hK3588 ⟨v3583, rs3584, es3585, b3586, rfl, rfl, hs3589, hs3590⟩
           refine Et Z<|ab<|Pu6<|Pu2<|Pu3<|Pu6<|Pu4<|Re5<|Re5<|Shift.done<|?_
           exact ⟨_, by exact ⟨rfl, rfl, rfl, rfl, rfl, rfl, rfl, rfl, rfl, rfl, rfl, rfl, rfl, trivial⟩, x3573, es3585, b3586, x3575, v3583, x3574, rs3584, rfl, rfl, H, hs3590, hs3589⟩
          ·intro h3567
           have H := ap (btf h3567) H
           refine Ez Z<|Ez Z<|Ez Z<|Ez Z<|Ez Z<|Ez Z<|Ez Z<|Ez Z<|Ef Z<|ab<|?_
           refine Pu5<|Pu5<|Pu5<|Pu5<|Pu5<|Re5<|?_
           have hs3591 := (hM3449).mono hK3532
           have hs3592 := (hR3452).mono hK3532
           exact Shift.done ⟨_, by exact ⟨rfl, rfl, rfl, rfl, rfl, rfl, rfl, rfl, rfl, rfl, rfl, rfl, rfl, trivial⟩, false, es3446, ck3447, m3448, v3450, l3451, rs3453, rfl, rfl, H, hs3591, hs3592⟩
         rintro _ K3593 _ hK3594 ⟨t3558, es3559, ck3560, m3561, v3563, l3564, rs3566, rfl, rfl, H, hM3562, hR3565⟩
         unfold km at H
         refine ah rfl ?_ ?_
         ·intro h3595
          have H := ift h3595 H
          refine ac<|aa<|Ea Z<|ab<|an<|?_
          obtain ⟨ey0, ez0_order, eubp0_failed⟩ := cx H
          subst y0 z0_order ubp0_failed
          refine ⟨(by first | exact .inl rfl | exact .inr rfl), [(.bool true)], ⟨(.bool true), _, rfl, rfl, rfl⟩, ?_⟩
          refine Pu2<|Pu3<|Pu2<|Re3<|Re3<|Shift.done<|?_
          exact ⟨v3563, rs3566, es3559, ck3560, rfl, rfl, hR3565, hM3562⟩
         ·intro h3595
          have H := ap (btf h3595) H
          refine am<|aa<|Er (wI (i3445 + 1)) Z<|Em Z<|ab<|Pu4<|Pu4<|Pu4<|Pu4<|Pu4<|?_
          exact Shift.done ⟨_, by exact ⟨rfl, rfl, rfl, rfl, rfl, rfl, rfl, rfl, rfl, rfl, rfl, rfl, trivial⟩, _, Nat.lt_succ_self _, (wI (i3445 + 1)), es3559, ck3560, m3561, v3563, l3564, rs3566, rfl, rfl, (hkk3461 ▸ H), hM3562, hR3565⟩
        ·intro h3463
         have h3463 := ay (h3463)
         have H := ap h3463 H
         refine aP<|Pu3<|Pu3<|Pu3<|Pu3<|Re4<|Shift.done<|?_
         exact ⟨_, by exact ⟨rfl, rfl, rfl, rfl, rfl, rfl, rfl, rfl, rfl, trivial⟩, es3446, ck3447, m3448, v3450, l3451, rs3453, rfl, rfl, H, hM3449, hR3452⟩
       rintro _ K3596 _ hK3597 ⟨es3309, ck3310, m3311, v3313, l3314, rs3316, rfl, rfl, H, hM3312, hR3315⟩
       unfold nq at H
       refine ac<|aa<|Em Z<|Eq Z (aM rfl)<|EF 0 Z<|El (sv vp0_threads) Z (Rb0 Z)<|?_
       have hs3598 := (hs3163).mono hK3597
       refine Eq Z (aO (T := (Ty.sl aC)) hs3598 rfl rfl)<|Em Z<|ab<|av<|?_
       refine aN (fun n3861 env' K' G' => ∃ (i3852 : Int) (es3853 : Array MapEntry) (ck3854 : Nat) (m3855 : ByteArray → Option Bool) (v3857 : SV) (l3858 : List Done) (rs3860 : List (List Value)), [(0, (.pointer (some ((⟨bp0, 0, none⟩ : Addr).add 0)))), (1, (sv vp1)), (2, (sv vp2)), (7, (.int .i64 x917)), (9, (.string x926)), (10, (.int .i64 i2713)), (11, (.pointer (some ((⟨b3169, 0, none⟩ : Addr).add 0)))), (56, (.int .i64 (p0_threads.length : Int))), (57, (.int .i64 i2713)), (102, (.int .i64 (p0_threads.length : Int))), (103, (.int .i64 i3852))] = env' ∧ (.blk bp0 82 [(sv vp0_threads), (.bool p0_open_), .nilFunc, (.map (some bp0_failed)), (sv v3857)]) :: (.blk b3169 109 (Linear_call.cells x3160 v3165 v3166)) :: (.obj bp0_failed (.map es3853 ck3854)) :: (.row (sv v3857) 47 6 rs3860.flatten) :: G = G' ∧ lp3 (nt p1 p2 x917 x926 i2713 p0_threads p0_open_ x3160 k2727 rc) n3861 i3852 m3855 l3858 = some (y0, z0_order, ubp0_failed) ∧ MapR Ty.bool Value.string K' es3853 m3855 ∧ RowR aw K' rs3860 l3858) BIG ?_ ?_
       ·skip
        refine Pu3<|Pu3<|Pu3<|Pu3<|Shift.done<|?_
        exact ⟨_, by exact ⟨rfl, rfl, rfl, rfl, rfl, rfl, rfl, rfl, rfl, rfl, rfl, trivial⟩, 0, es3309, ck3310, m3311, v3313, l3314, rs3316, rfl, rfl, H, hM3312, hR3315⟩
       rintro n3861 _ K3862 _ hK3863 ⟨i3852, es3853, ck3854, m3855, v3857, l3858, rs3860, rfl, rfl, H, hM3856, hR3859⟩
       obtain ⟨m3864, k3865, rfl, hkk3866, H⟩ := jD H
       unfold nt at H
       refine ac<|aa<|Ec Z<|ab<|ac<|?_
       refine ah rfl ?_ ?_
       ·intro h3868
        have h3868 := ax (h3868)
        have H := ift h3868 H
        refine am ?_
        refine ao (fun env' K' G' => ∃ (es3977 : Array MapEntry) (ck3978 : Nat) (m3979 : ByteArray → Option Bool) (v3981 : SV) (l3982 : List Done) (rs3984 : List (List Value)), [(0, (.pointer (some ((⟨bp0, 0, none⟩ : Addr).add 0)))), (1, (sv vp1)), (2, (sv vp2)), (7, (.int .i64 x917)), (9, (.string x926)), (10, (.int .i64 i2713)), (11, (.pointer (some ((⟨b3169, 0, none⟩ : Addr).add 0)))), (56, (.int .i64 (p0_threads.length : Int))), (57, (.int .i64 i2713)), (102, (.int .i64 (p0_threads.length : Int))), (103, (.int .i64 i3852))] = env' ∧ (.blk bp0 82 [(sv vp0_threads), (.bool p0_open_), .nilFunc, (.map (some bp0_failed)), (sv v3981)]) :: (.blk b3169 109 (Linear_call.cells x3160 v3165 v3166)) :: (.obj bp0_failed (.map es3977 ck3978)) :: (.row (sv v3981) 47 6 rs3984.flatten) :: G = G' ∧ j5 p1 p2 x917 x926 i2713 p0_threads i3852 p0_open_ x3160 k2727 k3865 rc m3979 l3982 = some (y0, z0_order, ubp0_failed) ∧ MapR Ty.bool Value.string K' es3977 m3979 ∧ RowR aw K' rs3984 l3982) ?_ ?_
        ·skip
         refine av<|ac<|aa<|Em Z<|Ea Z<|ab<|ac<|aa<|Em Z<|Em Z<|?_
         refine Em Z<|Em Z<|?_
         obtain ⟨x3985, x3986, hx3987, H⟩ := bD H
         refine Ow.shift (Pu3 (Shift.done ?_))
         refine Ow.shift (Pu3 (Shift.done ?_))
         refine Ow.shift (Pu2 (Shift.done ?_))
         have hs3988 := (hs3598).mono hK3863
         have hs3989 := ((hs3164).mono hK3597).mono hK3863
         refine ae rfl (Ek Tryd.call53 Z (lW bp0 p0_threads vp0_threads p0_open_ m3855 bp0_failed es3853 ck3854 l3858 v3857 rs3860 p1 vp1 i3852 x917 x3985 x3986 hx3987 _ _ hs3988 hM3856 hR3859 hs3989) ?_)
         rintro _ _ _ - ⟨v3990, v3991, rfl, rfl, rfl, hs3992, hs3993⟩
         refine Em Z<|Ex Z<|Ex Z<|?_
         refine ae rfl (ar (cs := (Linear_call.cells (Linear_call.mk (Op.mk 0 0 0 0 0 [] []) (Result.mk 0 0 0 false 0) 0 0) ak ak)) rfl rfl rfl rfl (fun b3994 => ?_))
         refine ae rfl (ag (vs := (Linear_call.cells x3985 v3990 v3991)) (all' := (Linear_call.cells x3985 v3990 v3991)) rfl rfl rfl rfl rfl .here rfl rfl rfl ?_)
         refine Ea Z<|ab<|ac<|?_
         refine ao (fun env' K' G' => ∃ (t3999 : Bool), [(0, (.pointer (some ((⟨bp0, 0, none⟩ : Addr).add 0)))), (1, (sv vp1)), (2, (sv vp2)), (7, (.int .i64 x917)), (9, (.string x926)), (10, (.int .i64 i2713)), (11, (.pointer (some ((⟨b3169, 0, none⟩ : Addr).add 0)))), (17, (.int .i64 i3852)), (18, (.pointer (some ((⟨b3994, 0, none⟩ : Addr).add 0)))), (56, (.int .i64 (p0_threads.length : Int))), (57, (.int .i64 i2713)), (102, (.int .i64 (p0_threads.length : Int))), (103, (.int .i64 i3852)), (120, (.bool t3999))] = env' ∧ K3862 = K' ∧ (.blk bp0 82 [(sv vp0_threads), (.bool p0_open_), .nilFunc, (.map (some bp0_failed)), (sv v3857)]) :: (.blk b3994 109 (Linear_call.cells x3985 v3990 v3991)) :: (.blk b3169 109 (Linear_call.cells x3160 v3165 v3166)) :: (.obj bp0_failed (.map es3853 ck3854)) :: (.row (sv v3857) 47 6 rs3860.flatten) :: G = G' ∧ jK p1 p2 x917 x926 i2713 i3852 p0_threads p0_open_ l3858 x3985 x3160 m3855 k2727 k3865 rc t3999 = some (y0, z0_order, ubp0_failed)) ?_ ?_
         ·skip
          refine aa<|Em Z<|Eq Z (aS rfl)<|Em Z<|?_
          refine Ee Z ?_ ?_
          ·intro h4000
           have h4000 := bE (h4000)
           have H := ap (btf h4000) H
           refine Ez Z<|Ez Z<|Ez Z<|Et Z<|ab<|Pu3<|Pu3<|Pu4<|Pu3<|Pu4<|?_
           exact Shift.done ⟨_, by exact ⟨rfl, rfl, rfl, rfl, rfl, rfl, rfl, rfl, rfl, rfl, rfl, rfl, rfl, rfl, trivial⟩, true, rfl, rfl, rfl, H⟩
          ·intro h4000
           have h4000 := bB (h4000)
           have H := ift h4000 H
           refine Vm Z<|Vm Z<|Vc Z<|Ef Z<|ab<|Pu3<|Pu3<|Pu4<|Pu3<|Pu4<|?_
           exact Shift.done ⟨_, by exact ⟨rfl, rfl, rfl, rfl, rfl, rfl, rfl, rfl, rfl, rfl, rfl, rfl, rfl, rfl, trivial⟩, (dcd (i3852 = i2713)), rfl, rfl, rfl, H⟩
         rintro _ _ _ - ⟨t3999, rfl, rfl, rfl, H⟩
         unfold jK at H
         refine ah rfl ?_ ?_
         ·intro h4001
          have H := ift h4001 H
          refine aP<|Pu4<|Pu4<|Pu4<|Pu3<|Re4<|Shift.done<|?_
          exact ⟨_, by exact ⟨rfl, rfl, rfl, rfl, rfl, rfl, rfl, rfl, rfl, rfl, rfl, trivial⟩, es3853, ck3854, m3855, v3857, l3858, rs3860, rfl, rfl, H, hM3856, hR3859⟩
         ·intro h4001
          have H := ap (btf h4001) H
          refine am<|ac<|aa<|Em Z<|EL 14 (Linear_call.cells x3160 v3165 v3166) Z (Rb2 Z)<|EL 14 (Linear_call.cells x3985 v3990 v3991) Z (Rb1 Z)<|?_
          obtain ⟨x4002, hx4003, H⟩ := bnd H
          have hs4004 := ((((hs929).mono hK932).mono hK2725).mono hK3597).mono hK3863
          have hs4005 := ((hs3167).mono hK3597).mono hK3863
          have hs4006 := ((hs3168).mono hK3597).mono hK3863
          refine ae rfl (Ek Tryd.call56 Z (oV p2 vp2 x3160 v3165 v3166 x3985 v3990 v3991 x4002 hx4003 _ _ hs4004 hs4005 hs4006 hs3992 hs3993) ?_)
          rintro _ K4008 _ hK4009 ⟨v4007, rfl, rfl, hs4010⟩
          refine Eq Z (aO (T := bH) hs4010 rfl rfl)<|Em Z<|ab<|av<|?_
          refine aN (fun n4097 env' K' G' => ∃ (i4088 : Int) (es4089 : Array MapEntry) (ck4090 : Nat) (m4091 : ByteArray → Option Bool) (v4093 : SV) (l4094 : List Done) (rs4096 : List (List Value)), [(0, (.pointer (some ((⟨bp0, 0, none⟩ : Addr).add 0)))), (1, (sv vp1)), (2, (sv vp2)), (7, (.int .i64 x917)), (9, (.string x926)), (10, (.int .i64 i2713)), (11, (.pointer (some ((⟨b3169, 0, none⟩ : Addr).add 0)))), (17, (.int .i64 i3852)), (56, (.int .i64 (p0_threads.length : Int))), (57, (.int .i64 i2713)), (102, (.int .i64 (p0_threads.length : Int))), (103, (.int .i64 i3852)), (124, (sv v4007)), (125, (.int .i64 (x4002.length : Int))), (126, (.int .i64 i4088))] = env' ∧ (.blk bp0 82 [(sv vp0_threads), (.bool p0_open_), .nilFunc, (.map (some bp0_failed)), (sv v4093)]) :: (.blk b3169 109 (Linear_call.cells x3160 v3165 v3166)) :: (.obj bp0_failed (.map es4089 ck4090)) :: (.row (sv v4093) 47 6 rs4096.flatten) :: (.tok 122 10 [(sv v4007)]) :: G = G' ∧ lp3 (l5 p1 p2 x917 x926 i2713 i3852 p0_threads x4002 p0_open_ x3160 k2727 k3865 rc) n4097 i4088 m4091 l4094 = some (y0, z0_order, ubp0_failed) ∧ MapR Ty.bool Value.string K' es4089 m4091 ∧ RowR aw K' rs4096 l4094) BIG ?_ ?_
          ·skip
           refine Pu5<|Pu5<|Pu5<|Pu4<|Re5<|?_
           have hs4098 := (hM3856).mono hK4009
           have hs4099 := (hR3859).mono hK4009
           exact Shift.done ⟨_, by exact ⟨rfl, rfl, rfl, rfl, rfl, rfl, rfl, rfl, rfl, rfl, rfl, rfl, rfl, rfl, rfl, trivial⟩, 0, es3853, ck3854, m3855, v3857, l3858, rs3860, rfl, rfl, H, hs4098, hs4099⟩
          rintro n4097 _ K4100 _ hK4101 ⟨i4088, es4089, ck4090, m4091, v4093, l4094, rs4096, rfl, rfl, H, hM4092, hR4095⟩
          obtain ⟨m4102, k4103, rfl, hkk4104, H⟩ := jD H
          unfold l5 at H
          refine ac<|aa<|Ec Z<|ab<|ac<|?_
          refine ah rfl ?_ ?_
          ·intro h4106
           have h4106 := ax (h4106)
           have H := ift h4106 H
           refine am<|ac<|av<|ac<|aa<|?_
           obtain ⟨x4138, hx4139, H⟩ := bnd H
           have hs4140 := (hs4010).mono hK4101
           obtain ⟨r4141, hr4142, hk4143⟩ := Slr.at hs4140 hx4139
           obtain rfl := hr4142
           refine Eq Z (aY (T := bH) hs4140 hx4139 rfl rfl rfl rfl rfl)<|EL 10 (A2Result.cells x4138) Z (Rdc.k hk4143 rfl)<|?_
           refine ae rfl (ar (cs := (A2Result.cells (A2Result.mk (Result.mk 0 0 0 false 0) (Result.mk 0 0 0 false 0)))) rfl rfl rfl rfl (fun b4144 => ?_))
           refine ae rfl (ag (vs := (A2Result.cells x4138)) (all' := (A2Result.cells x4138)) rfl rfl rfl rfl rfl .here rfl rfl rfl ?_)
           refine ab<|ac<|aa<|Em Z<|Em Z<|Em Z<|Em Z<|Eq Z (l0 (q := 0) (m := 0) rfl rfl rfl rfl rfl (by decide) rfl (by decide))<|EL 5 (Result.cells x4138.x0) Z (Rb0 Z)<|Eq Z (az (cs := (Done.cells (Done.mk i2713 x4138.x0))) rfl rfl rfl rfl rfl rfl)<|?_
           refine Em Z<|Eq Z (l0 (q := 1) (m := 5) rfl rfl rfl rfl rfl (by decide) rfl (by decide))<|EL 5 (Result.cells x4138.x1) Z (Rb0 Z)<|Eq Z (az (cs := (Done.cells (Done.mk i3852 x4138.x1))) rfl rfl rfl rfl rfl rfl)<|?_
           have hR4146 : RowR aw K4100 [(Done.cells (Done.mk i2713 x4138.x0)), (Done.cells (Done.mk i3852 x4138.x1))] [(Done.mk i2713 x4138.x0), (Done.mk i3852 x4138.x1)] := RowR.cons rfl (RowR.cons rfl (RowR.nil))
           refine ae rfl (aR (T := aw) (rows := [(Done.cells (Done.mk i2713 x4138.x0)), (Done.cells (Done.mk i3852 x4138.x1))]) (l := [(Done.mk i2713 x4138.x0), (Done.mk i3852 x4138.x1)]) rfl rfl rfl hR4146 rfl rfl rfl rfl rfl rfl rfl rfl (fun v4145 => ?_))
           refine Ow.shift (Shift.settle (T := aw) .here hR4146 rfl (fun K4147 hK4148 hs4149 => Shift.done ?_))
           obtain ⟨x4150, x4151, x4152, hx4153, H⟩ := c8 H
           refine Ow.shift (Pu5 (Shift.done ?_))
           refine Ow.shift (Pu5 (Shift.done ?_))
           refine Ow.shift (Pu4 (Shift.done ?_))
           have hs4154 := (((hs3988).mono hK4009).mono hK4101).mono hK4148
           have hs4155 := (hM4092).mono hK4148
           have hs4156 := (hR4095).mono hK4148
           have hs4157 := (((hs3989).mono hK4009).mono hK4101).mono hK4148
           have hs4158 := (((hs4004).mono hK4009).mono hK4101).mono hK4148
           have hs4159 := (((((((hs930).mono hK932).mono hK2725).mono hK3597).mono hK3863).mono hK4009).mono hK4101).mono hK4148
           refine ae rfl (Ek Tryd.call55 Z (li rc ih bp0 p0_threads vp0_threads p0_open_ m4091 bp0_failed es4089 ck4090 l4094 v4093 rs4096 p1 vp1 p2 vp2 [(Done.mk i2713 x4138.x0), (Done.mk i3852 x4138.x1)] v4145 x4150 x4151 x4152 hx4153 _ _ hs4154 hs4155 hs4156 hs4157 hs4158 hs4149 hs4159) ?_)
           rintro _ K4164 _ hK4165 ⟨v4160, rs4161, es4162, b4163, rfl, rfl, hs4166, hs4167⟩
           refine ab ?_
           refine ah rfl ?_ ?_
           ·intro h4168
            have H := ift h4168 H
            refine ac<|aa<|Ea Z<|ab<|an<|?_
            obtain ⟨ey0, ez0_order, eubp0_failed⟩ := cx H
            subst y0 z0_order ubp0_failed
            refine ⟨(by first | exact .inl rfl | exact .inr rfl), [(.bool true)], ⟨(.bool true), _, rfl, rfl, rfl⟩, ?_⟩
            refine Pu2<|Pu2<|Pu2<|Re3<|Re3<|Re3<|Re3<|Shift.done<|?_
            exact ⟨v4160, rs4161, es4162, b4163, rfl, rfl, hs4166, hs4167⟩
           ·intro h4168
            have H := ap (btf h4168) H
            refine am<|aa<|Er (wI (i4088 + 1)) Z<|Em Z<|ab<|Pu6<|Pu2<|Pu3<|Pu6<|Pu4<|?_
            refine Re5<|Re5<|Shift.done<|?_
            exact ⟨_, by exact ⟨rfl, rfl, rfl, rfl, rfl, rfl, rfl, rfl, rfl, rfl, rfl, rfl, rfl, rfl, rfl, trivial⟩, _, Nat.lt_succ_self _, (wI (i4088 + 1)), es4162, b4163, x4152, v4160, x4151, rs4161, rfl, rfl, (hkk4104 ▸ H), hs4167, hs4166⟩
          ·intro h4106
           have h4106 := ay (h4106)
           have H := ap h4106 H
           refine aP<|Pu3<|Pu3<|Pu3<|Pu3<|Re4<|Shift.done<|?_
           exact ⟨_, by exact ⟨rfl, rfl, rfl, rfl, rfl, rfl, rfl, rfl, rfl, rfl, rfl, trivial⟩, es4089, ck4090, m4091, v4093, l4094, rs4096, rfl, rfl, H, hM4092, hR4095⟩
        rintro _ K4169 _ hK4170 ⟨es3977, ck3978, m3979, v3981, l3982, rs3984, rfl, rfl, H, hM3980, hR3983⟩
        unfold j5 at H
        refine aa<|Er (wI (i3852 + 1)) Z<|Em Z<|ab<|Pu3<|Pu3<|Pu3<|Pu3<|Shift.done<|?_
        exact ⟨_, by exact ⟨rfl, rfl, rfl, rfl, rfl, rfl, rfl, rfl, rfl, rfl, rfl, trivial⟩, _, Nat.lt_succ_self _, (wI (i3852 + 1)), es3977, ck3978, m3979, v3981, l3982, rs3984, rfl, rfl, (hkk3866 ▸ H), hM3980, hR3983⟩
       ·intro h3868
        have h3868 := ay (h3868)
        have H := ap h3868 H
        refine aP<|Pu3<|Pu3<|Pu2<|Re3<|Shift.done<|?_
        exact ⟨_, by exact ⟨rfl, rfl, rfl, rfl, rfl, rfl, rfl, trivial⟩, es3853, ck3854, m3855, v3857, l3858, rs3860, rfl, rfl, H, hM3856, hR3859⟩
     rintro _ K4171 _ hK4172 ⟨es3152, ck3153, m3154, v3156, l3157, rs3159, rfl, rfl, H, hM3155, hR3158⟩
     unfold jH at H
     refine aa<|Er (wI (i2713 + 1)) Z<|Em Z<|ab<|Pu2<|Pu2<|Pu2<|Shift.done<|?_
     exact ⟨_, by exact ⟨rfl, rfl, rfl, rfl, rfl, rfl, rfl, trivial⟩, _, Nat.lt_succ_self _, (wI (i2713 + 1)), es3152, ck3153, m3154, v3156, l3157, rs3159, rfl, rfl, (hkk2728 ▸ H), hM3155, hR3158⟩
    ·intro h2730
     have h2730 := ay (h2730)
     have H := ap h2730 H
     refine aP<|Pu2<|Pu2<|Pu2<|Shift.done<|?_
     exact ⟨_, by exact ⟨rfl, rfl, trivial⟩, es2714, ck2715, m2716, v2718, l2719, rs2721, rfl, rfl, H, hM2717, hR2720⟩
   rintro _ K4173 _ hK4174 ⟨es1826, ck1827, m1828, v1830, l1831, rs1833, rfl, rfl, H, hM1829, hR1832⟩
   unfold me at H
   refine ac<|aa<|Em Z<|Eq Z (aM rfl)<|EF 3 Z<|El (.map (some bp0_failed)) Z (Rb0 Z)<|Em Z<|?_
   refine ae rfl (lw (T := Ty.bool) (kv := Value.string) (k := x926) (x1 := true) (KeyK.str rfl) hM1829 Mb1 rfl rfl rfl rfl rfl (fun es4175 ck4176 hM4177 => ⟨_, (.there .here), ?_⟩))
   refine ab<|ac<|aa<|Ea Z<|ab<|an<|?_
   obtain ⟨ey0, ez0_order, eubp0_failed⟩ := cx H
   subst y0 z0_order ubp0_failed
   refine ⟨(by first | exact .inl rfl | exact .inr rfl), [(.bool false)], ⟨(.bool false), _, rfl, rfl, rfl⟩, ?_⟩
   refine Pu1<|Pu2<|Pu2<|Shift.done<|?_
   exact ⟨v1830, rs1833, es4175, ck4176, rfl, rfl, hR1832, hM4177⟩

set_option maxHeartbeats 1000000 in
theorem lO (p0 : Config) (vp0_capacities : SV) (vp0_starts : SV) (p1 : List (List Op)) (vp1 : SV) (p2 : List Event) (vp2 : SV) (y0 : List Done) (y1 : Bool) (H : kD p0 p1 p2 = some (y0, y1)) (K : Kp) (G : List Ent) (hp0_capacities : Slr Ty.i64 K (sv vp0_capacities) p0.capacities) (hp0_starts : Slr Ty.u64 K (sv vp0_starts) p0.starts) (hp1 : Slr (Ty.sl aX) K (sv vp1) p1) (hp2 : Slr aJ K (sv vp2) p2) (hT : dK K) :
  Fc Tryd.prog 15 #[(.agg (Config.cells p0 vp0_capacities vp0_starts).toArray), (sv vp1), (sv vp2)] K (G) (fun v K' G' => ∃ (wy0 : SV) (rswy0 : List (List Value)), v = (.tuple #[(sv wy0), (.bool y1)]) ∧ (.row (sv wy0) 47 6 rswy0.flatten) :: G = G' ∧ RowR aw K' rswy0 y0) := by
 refine aA Tryd.func15 rfl Tryd.ntmps15 Tryd.results15 rfl ?_
 unfold kD at H
 refine ac<|aa<|?_
 refine ae rfl (aB (cs := (Config.cells p0 vp0_capacities vp0_starts)) rfl rfl rfl (fun b117 => ?_))
 refine Ea Z<|Ea Z<|ab<|ac<|aa<|Em Z<|Em Z<|?_
 obtain ⟨x118, x119, x120, hx121, H⟩ := c8 H
 refine ae rfl (Ek Tryd.call28 Z (pu p1 vp1 p2 vp2 x118 x119 x120 hx121 _ _ hp1 hp2) ?_)
 rintro _ K127 _ hK128 ⟨b122, v123, b124, es125, b126, rfl, rfl, hs129, hs130⟩
 refine Ea Z<|ab<|ac<|aa<|Em Z<|Eq Z (aM rfl)<|EF 1 Z<|?_
 refine ae rfl (ag (vs := [(.bool true)]) (all' := [(sv v123), (.bool true), .nilFunc, (.map (some b124)), (sv ak)]) rfl rfl rfl rfl rfl (.there .here) rfl rfl rfl ?_)
 refine ab<|ac<|?_
 refine ao (fun env' K' G' => ∃ (t323 : Bool) (es324 : Array MapEntry) (ck325 : Nat) (m326 : ByteArray → Option Bool) (v328 : SV) (l329 : List Done) (rs331 : List (List Value)), [(8, (.pointer (some ((⟨b122, 0, none⟩ : Addr).add 0)))), (22, (.bool t323))] = env' ∧ (.blk b122 82 [(sv v123), (.bool true), .nilFunc, (.map (some b124)), (sv v328)]) :: (.obj b124 (.map es324 ck325)) :: (.row (sv v328) 47 6 rs331.flatten) :: G = G' ∧ m4 x118 t323 m326 l329 = some (y0, y1) ∧ MapR Ty.bool Value.string K' es324 m326 ∧ RowR aw K' rs331 l329) ?_ ?_
 ·skip
  obtain ⟨x333, hx334, H⟩ := bnd H
  obtain ⟨x339, hx340, H⟩ := bnd H
  obtain ⟨x351, x352, x353, hx354, H⟩ := c8 H
  refine aj [.blk b117 27 (Config.cells p0 vp0_capacities vp0_starts)] rfl (Inc.cons Mb2 Inc.nil)<|Jm 0 Z (by kernel_rfl)<|Jm 1 Z (by kernel_rfl)<|?_
  have hs368 := (hp1).mono hK128
  refine Jq 2 Z (by kernel_rfl) (aO (T := (Ty.sl aX)) hs368 rfl rfl)<|JL 4 3 (Config.cells p0 vp0_capacities vp0_starts) Z (by kernel_rfl) (Rb0 Z)<|?_
  refine bm 3 5 (by kernel_rfl) ?_ ?_
  ·skip
   refine id (Jy Z ?_)
   refine cO (T := Ty.i64) (r := [(.int .i64 0)]) rfl rfl rfl hx334 rfl rfl rfl rfl rfl rfl rfl rfl rfl rfl (fun v369 rs370 hR371 hz372 => ⟨(Inc.cons Mb3 Inc.nil), ?_⟩)
   refine ai 5 (by kernel_rfl) (Jy Z ?_)
   have hs373 := (hp0_capacities).mono hK128
   have hs374 := (hp0_starts).mono hK128
   refine Ek Tryd.call30 Z (lq p0 vp0_capacities vp0_starts x339 hx340 _ _ hs373 hs374) ?_
   rintro _ K376 _ hK377 ⟨v375, rfl, rfl, hs378⟩
   refine ⟨(Inc.cons Mb4 Inc.nil), ?_⟩
   refine ai 6 (by kernel_rfl) (Jy Z ?_)
   have hs382 := (hR371).mono hK377
   refine OpW.shift (Shift.settle (T := Ty.i64) (.there .here) hs382 rfl (fun K379 hK380 hs381 => Shift.done ?_))
   have hR383 : RowR aw K379 [] [] := RowR.nil
   refine OpW.shift (Shift.nilRow 47 6 (Shift.done ?_))
   refine OpW.shift (Pu3 (Shift.done ?_))
   refine OpW.shift (Pu4 (Shift.done ?_))
   have hs384 := ((hs129).mono hK377).mono hK380
   have hs385 := ((hs130).mono hK377).mono hK380
   have hs386 := (hs378).mono hK380
   have hs387 := (((hT).mono hK128).mono hK377).mono hK380
   refine Ek Tryd.call29 Z (lp 100 b122 x118 v123 true x120 b124 es125 b126 ([] : List Done) ak ([] : List (List Value)) x333 v369 x339 v375 x351 x352 x353 hx354 _ _ hs384 hs385 hR383 hs381 hs386 hs387) ?_
   rintro _ K392 _ hK393 ⟨v388, rs389, es390, b391, rfl, rfl, hs394, hs395⟩
   refine ⟨(Inc.cons Mb5 Inc.nil), ?_⟩
   refine Jq 7 Z (by kernel_rfl) (aS rfl)<|au (by kernel_rfl)<|Pu1<|Pu2<|Pu2<|Re3<|Re3<|Re3<|Shift.done<|?_
   exact ⟨_, by exact ⟨rfl, rfl, trivial⟩, (!(x351)), es390, b391, x353, v388, x352, rs389, rfl, rfl, H, hs395, hs394⟩
  ·skip
   refine id (Jy Z ?_)
   have hs396 := (hp0_capacities).mono hK128
   have hs397 := (hp0_starts).mono hK128
   refine Ek Tryd.call30 Z (lq p0 vp0_capacities vp0_starts x339 hx340 _ _ hs396 hs397) ?_
   rintro _ K399 _ hK400 ⟨v398, rfl, rfl, hs401⟩
   refine ⟨(Inc.cons Mb3 Inc.nil), ?_⟩
   refine ai 3 (by kernel_rfl) (Jy Z ?_)
   refine cO (T := Ty.i64) (r := [(.int .i64 0)]) rfl rfl rfl hx334 rfl rfl rfl rfl rfl rfl rfl rfl rfl rfl (fun v402 rs403 hR404 hz405 => ⟨(Inc.cons Mb4 Inc.nil), ?_⟩)
   refine ai 6 (by kernel_rfl) (Jy Z ?_)
   refine OpW.shift (Shift.settle (T := Ty.i64) .here hR404 rfl (fun K406 hK407 hs408 => Shift.done ?_))
   have hR409 : RowR aw K406 [] [] := RowR.nil
   refine OpW.shift (Shift.nilRow 47 6 (Shift.done ?_))
   refine OpW.shift (Pu3 (Shift.done ?_))
   refine OpW.shift (Pu4 (Shift.done ?_))
   have hs410 := ((hs129).mono hK400).mono hK407
   have hs411 := ((hs130).mono hK400).mono hK407
   have hs412 := (hs401).mono hK407
   have hs413 := (((hT).mono hK128).mono hK400).mono hK407
   refine Ek Tryd.call29 Z (lp 100 b122 x118 v123 true x120 b124 es125 b126 ([] : List Done) ak ([] : List (List Value)) x333 v402 x339 v398 x351 x352 x353 hx354 _ _ hs410 hs411 hR409 hs408 hs412 hs413) ?_
   rintro _ K418 _ hK419 ⟨v414, rs415, es416, b417, rfl, rfl, hs420, hs421⟩
   refine ⟨(Inc.cons Mb5 Inc.nil), ?_⟩
   refine Jq 7 Z (by kernel_rfl) (aS rfl)<|au (by kernel_rfl)<|Pu1<|Pu2<|Pu2<|Re3<|Re3<|Re3<|Shift.done<|?_
   exact ⟨_, by exact ⟨rfl, rfl, trivial⟩, (!(x351)), es416, b417, x353, v414, x352, rs415, rfl, rfl, H, hs421, hs420⟩
 rintro _ K422 _ hK423 ⟨t323, es324, ck325, m326, v328, l329, rs331, rfl, rfl, H, hM327, hR330⟩
 unfold m4 at H
 refine ah rfl ?_ ?_
 ·intro h424
  have H := ift h424 H
  refine ac<|aa<|Ea Z<|Ea Z<|ab<|an<|?_
  obtain ⟨ey0, ey1⟩ := bo H
  subst y0 y1
  refine ⟨(by first | exact .inl rfl | exact .inr rfl), [(sv ak), (.bool false)], ⟨(sv ak), _, rfl, rfl, ⟨(.bool false), _, rfl, rfl, rfl⟩⟩, ?_⟩
  have hR425 : RowR aw K422 [] [] := RowR.nil
  refine Shift.nilRow 47 6<|Re1<|Re1<|Re1<|Shift.done<|?_
  exact ⟨ak, ([] : List (List Value)), rfl, rfl, hR425⟩
 ·intro h424
  have H := ap (btf h424) H
  refine am<|ac<|aa<|Em Z<|Eq Z (aM rfl)<|EF 4 Z<|El (sv v328) Z (Rb0 Z)<|Ea Z<|Ea Z<|ab<|?_
  refine an ?_
  obtain ⟨ey0, ey1⟩ := bo H
  subst y0 y1
  refine ⟨(by first | exact .inl rfl | exact .inr rfl), [(sv v328), (.bool true)], ⟨(sv v328), _, rfl, rfl, ⟨(.bool true), _, rfl, rfl, rfl⟩⟩, ?_⟩
  refine Pu2<|Re1<|Re1<|Shift.done<|?_
  exact ⟨v328, rs331, rfl, rfl, hR330⟩

set_option maxHeartbeats 1000000 in
theorem lQ (p0 : Config) (vp0_capacities : SV) (vp0_starts : SV) (p1 : List (List Op)) (vp1 : SV) (p2 : List Event) (vp2 : SV) (y0 : Bool) (H : kk p0 p1 p2 = some y0) (K : Kp) (G : List Ent) (hp0_capacities : Slr Ty.i64 K (sv vp0_capacities) p0.capacities) (hp0_starts : Slr Ty.u64 K (sv vp0_starts) p0.starts) (hp1 : Slr (Ty.sl aX) K (sv vp1) p1) (hp2 : Slr aJ K (sv vp2) p2) (hT : dK K) :
  Fc Tryd.prog 9 #[(.agg (Config.cells p0 vp0_capacities vp0_starts).toArray), (sv vp1), (sv vp2)] K (G) (fun v K' G' => v = (.bool y0) ∧ G = G') := by
 refine aA Tryd.func9 rfl Tryd.ntmps9 Tryd.results9 rfl ?_
 unfold kk at H
 refine ac<|aa<|?_
 refine ae rfl (aB (cs := (Config.cells p0 vp0_capacities vp0_starts)) rfl rfl rfl (fun b10 => ?_))
 refine Ea Z<|ab<|ac<|aa<|EL 3 (Config.cells p0 vp0_capacities vp0_starts) Z (Rb0 Z)<|Em Z<|Em Z<|?_
 obtain ⟨x11, x12, hx13, H⟩ := bD H
 refine ae rfl (Ek Tryd.call15 Z (lO p0 vp0_capacities vp0_starts p1 vp1 p2 vp2 x11 x12 hx13 _ _ hp0_capacities hp0_starts hp1 hp2 hT) ?_)
 rintro _ K16 _ hK17 ⟨v14, rs15, rfl, rfl, hs18⟩
 refine Em Z<|Ex Z<|Ex Z<|Ea Z<|Ea Z<|ab<|ac<|aa<|Em Z<|Ea Z<|?_
 refine ab<|an<|?_
 obtain ey0 := aV H
 subst y0
 refine ⟨(by first | exact .inl rfl | exact .inr rfl), [(.bool x12)], ⟨(.bool x12), _, rfl, rfl, rfl⟩, ?_⟩
 refine Re0<|Re0<|Shift.done<|?_
 exact ⟨rfl, rfl⟩

set_option maxHeartbeats 1000000 in
theorem oA (p0 : List Chan) (vp0 : SV) (p1 : List (List Op)) (vp1 : SV) (p2 : List Done) (vp2 : SV) (y0 : List Chan) (y1 : Bool) (H : gG p0 p1 p2 = some (y0, y1)) (K : Kp) (G : List Ent) (hp0 : Slr aq K (sv vp0) p0) (hp1 : Slr (Ty.sl aX) K (sv vp1) p1) (hp2 : Slr aw K (sv vp2) p2) :
  Fc Tryd.prog 11 #[(sv vp0), (sv vp1), (sv vp2)] K (G) (fun v K' G' => ∃ (wy0 : SV), v = (.tuple #[(sv wy0), (.bool y1)]) ∧ G = G' ∧ Slr aq K' (sv wy0) y0) := by
 refine aA Tryd.func11 rfl Tryd.ntmps11 Tryd.results11 rfl ?_
 unfold gG at H
 refine ac<|aa<|Ea Z<|Ea Z<|ab<|ac<|aa<|?_
 refine ae rfl (iH Ty.i64 (Value.int .i64) rfl (fun b356 es357 ck358 hM359 => ?_))
 refine Ea Z<|ab<|ac<|aa<|Ea Z<|ab<|?_
 refine ao (fun env' K' G' => ∃ (v477 : SV) (l478 : List Op), [(0, (sv vp0)), (2, (sv vp2)), (9, (sv v477))] = env' ∧ (.tok 43 7 [(sv v477)]) :: G = G' ∧ gA p0 p2 l478 = some (y0, y1) ∧ Slr aX K' (sv v477) l478) ?_ ?_
 ·skip
  refine ac<|aa<|Em Z<|Eq Z (aO (T := aw) hp2 rfl rfl)<|Em Z<|ab<|av<|?_
  refine aN (fun n597 env' K' G' => ∃ (es589 : Array MapEntry) (ck590 : Nat) (m591 : Int → Option Int) (v593 : SV) (l594 : List Op) (i596 : Int), [(0, (sv vp0)), (1, (sv vp1)), (2, (sv vp2)), (8, (.map (some b356))), (9, (sv v593)), (17, (sv vp2)), (18, (.int .i64 (p2.length : Int))), (19, (.int .i64 i596))] = env' ∧ (.obj b356 (.map es589 ck590)) :: (.tok 43 7 [(sv v593)]) :: G = G' ∧ lp3 (jN p0 p1 p2) n597 m591 l594 i596 = some (y0, y1) ∧ MapR Ty.i64 (Value.int .i64) K' es589 m591 ∧ Slr aX K' (sv v593) l594) BIG ?_ ?_
  ·skip
   refine Shift.nilTok1 43 7<|Pu1<|Shift.done<|?_
   exact ⟨_, by exact ⟨rfl, rfl, rfl, rfl, rfl, rfl, rfl, rfl, trivial⟩, es357, ck358, (dR Int Int), ak, ([] : List Op), 0, rfl, rfl, H, hM359, (Slr.nil aX _)⟩
  rintro n597 _ K598 _ hK599 ⟨es589, ck590, m591, v593, l594, i596, rfl, rfl, H, hM592, hs595⟩
  obtain ⟨m600, k601, rfl, hkk602, H⟩ := jD H
  unfold jN at H
  refine ac<|aa<|Ec Z<|ab<|ac<|?_
  refine ah rfl ?_ ?_
  ·intro h604
   have h604 := ax (h604)
   have H := ift h604 H
   refine am<|ac<|av<|ac<|aa<|?_
   obtain ⟨x652, hx653, H⟩ := bnd H
   have hs654 := (hp2).mono hK599
   obtain ⟨r655, hr656, hk657⟩ := Slr.at hs654 hx653
   obtain rfl := hr656
   refine Eq Z (aY (T := aw) hs654 hx653 rfl rfl rfl rfl rfl)<|EL 6 (Done.cells x652) Z (Rdc.k hk657 rfl)<|?_
   refine ae rfl (ar (cs := (Done.cells (Done.mk 0 (Result.mk 0 0 0 false 0)))) rfl rfl rfl rfl (fun b658 => ?_))
   refine ae rfl (ag (vs := (Done.cells x652)) (all' := (Done.cells x652)) rfl rfl rfl rfl rfl .here rfl rfl rfl ?_)
   refine ab<|ac<|aa<|Em Z<|EF 0 Z<|El (.int .i64 x652.thread) Z (Rb0 Z)<|Eq Z (p8 (kv := (Value.int .i64)) (k := x652.thread) (KeyK.int rfl) hM592 Mb1 rfl rfl rfl rfl rfl)<|Ea Z<|ab<|ac<|?_
   refine ao (fun env' K' G' => ∃ (t681 : Bool), [(0, (sv vp0)), (1, (sv vp1)), (2, (sv vp2)), (8, (.map (some b356))), (9, (sv v593)), (11, (.pointer (some ((⟨b658, 0, none⟩ : Addr).add 0)))), (12, (.int .i64 (cc m591 x652.thread 0))), (17, (sv vp2)), (18, (.int .i64 (p2.length : Int))), (19, (.int .i64 i596)), (46, (.bool t681))] = env' ∧ K598 = K' ∧ (.blk b658 47 (Done.cells x652)) :: (.obj b356 (.map es589 ck590)) :: (.tok 43 7 [(sv v593)]) :: G = G' ∧ eM p0 p1 p2 l594 m591 x652 i596 k601 t681 = some (y0, y1)) ?_ ?_
   ·skip
    refine aa<|EF 0 Z<|El (.int .i64 x652.thread) Z (Rb0 Z)<|Ec Z<|Em Z<|?_
    refine Ee Z ?_ ?_
    ·intro h682
     have h682 := ax (h682)
     have H := ift h682 H
     refine Ez Z<|Ez Z<|Ez Z<|Ez Z<|Ez Z<|Et Z<|Em Z<|Ez Z<|Ez Z<|Ez Z<|?_
     refine Ez Z<|Ez Z<|Ez Z<|Ez Z<|Ez Z<|Et Z<|ab<|Pu2<|Pu2<|Pu2<|?_
     exact Shift.done ⟨_, by exact ⟨rfl, rfl, rfl, rfl, rfl, rfl, rfl, rfl, rfl, rfl, rfl, trivial⟩, true, rfl, rfl, rfl, H⟩
    ·intro h682
     have h682 := ay (h682)
     have H := ap h682 H
     refine VF 0 Z<|Vl (.int .i64 x652.thread) Z (Rb0 Z)<|Vm Z<|?_
     have hs683 := (hp1).mono hK599
     refine Vq Z (aO (T := (Ty.sl aX)) hs683 rfl rfl)<|Vc Z<|Ef Z<|Em Z<|?_
     refine Ee Z ?_ ?_
     ·intro h684
      have h684 := ax (h684)
      have H := ift h684 H
      refine Ez Z<|Ez Z<|Ez Z<|Ez Z<|Ez Z<|Ez Z<|Ez Z<|Ez Z<|Et Z<|ab<|?_
      refine Pu2<|Pu2<|Pu2<|Shift.done<|?_
      exact ⟨_, by exact ⟨rfl, rfl, rfl, rfl, rfl, rfl, rfl, rfl, rfl, rfl, rfl, trivial⟩, true, rfl, rfl, rfl, H⟩
     ·intro h684
      have h684 := ay (h684)
      have H := ap h684 H
      refine Vm Z<|Vm Z<|VF 0 Z<|Vl (.int .i64 x652.thread) Z (Rb0 Z)<|?_
      obtain ⟨x685, hx686, H⟩ := bnd H
      obtain ⟨r687, hr688, hk689⟩ := Slr.at hs683 hx686
      obtain ⟨v690, rfl, hs691⟩ := hr688
      refine Vq Z (aY (T := (Ty.sl aX)) hs683 hx686 rfl rfl rfl rfl rfl)<|Vl (sv v690) Z (Rdc.k hk689 rfl)<|Vq Z (aO (T := aX) hs691 rfl rfl)<|Vc Z<|Ef Z<|ab<|Pu2<|Pu2<|Pu2<|Shift.done<|?_
      exact ⟨_, by exact ⟨rfl, rfl, rfl, rfl, rfl, rfl, rfl, rfl, rfl, rfl, rfl, trivial⟩, (dcd ((cc m591 x652.thread 0) ≥ (x685.length : Int))), rfl, rfl, rfl, H⟩
   rintro _ _ _ - ⟨t681, rfl, rfl, rfl, H⟩
   unfold eM at H
   refine ah rfl ?_ ?_
   ·intro h692
    have H := ift h692 H
    refine ac<|aa<|Ea Z<|Ea Z<|ab<|an<|?_
    obtain ⟨ey0, ey1⟩ := bo H
    subst y0 y1
    refine ⟨(by first | exact .inl rfl | exact .inr rfl), [(sv ak), (.bool false)], ⟨(sv ak), _, rfl, rfl, ⟨(.bool false), _, rfl, rfl, rfl⟩⟩, ?_⟩
    refine Re0<|Re0<|Re0<|Shift.done<|?_
    exact ⟨ak, rfl, rfl, (Slr.nil aq _)⟩
   ·intro h692
    have H := ap (btf h692) H
    refine am<|ac<|aa<|Em Z<|EF 0 Z<|El (.int .i64 x652.thread) Z (Rb0 Z)<|Em Z<|Er (wI ((cc m591 x652.thread 0) + 1)) Z<|?_
    refine ae rfl (lw (T := Ty.i64) (kv := (Value.int .i64)) (k := x652.thread) (x1 := (wI ((cc m591 x652.thread 0) + 1))) (KeyK.int rfl) hM592 Mb1 rfl rfl rfl rfl rfl (fun es693 ck694 hM695 => ⟨_, (.there .here), ?_⟩))
    refine ab<|aa<|Em Z<|Em Z<|EF 0 Z<|El (.int .i64 x652.thread) Z (Rb0 Z)<|?_
    obtain ⟨x696, hx697, H⟩ := bnd H
    have hs698 := (hp1).mono hK599
    obtain ⟨r699, hr700, hk701⟩ := Slr.at hs698 hx697
    obtain ⟨v702, rfl, hs703⟩ := hr700
    refine Eq Z (aY (T := (Ty.sl aX)) hs698 hx697 rfl rfl rfl rfl rfl)<|El (sv v702) Z (Rdc.k hk701 rfl)<|Em Z<|?_
    obtain ⟨x704, hx705, H⟩ := bnd H
    obtain ⟨r706, hr707, hk708⟩ := Slr.at hs703 hx705
    obtain ⟨v709, v710, rfl, hs711, hs712⟩ := hr707
    refine Eq Z (aY (T := aX) hs703 hx705 rfl rfl rfl rfl rfl)<|EL 7 (Op.cells x704 v709 v710) Z (Rdc.k hk708 rfl)<|?_
    have hR714 : RowR aX K598 [(Op.cells x704 v709 v710)] [x704] := RowR.cons ⟨v709, v710, rfl, hs711, hs712⟩ (RowR.nil)
    refine ae rfl (aR (T := aX) (rows := [(Op.cells x704 v709 v710)]) (l := [x704]) rfl rfl rfl hR714 rfl rfl rfl rfl rfl rfl rfl rfl (fun v713 => ?_))
    obtain ⟨x715, hx716, H⟩ := bnd H
    refine ae rfl (aG (T := aX) (bytes := 88) (q := 0) rfl rfl rfl hs595 Mb3 rfl (SrcT.row Mb0 hR714 rfl) hx716 rfl rfl rfl rfl rfl rfl rfl rfl (fun v717 K718 hK719 hs720 => ⟨_, (.there (.there (.there .here))), ?_⟩))
    refine Ow.shift (Re0 (Shift.done ?_))
    refine Ea Z<|ab<|aa<|Er (wI (i596 + 1)) Z<|Em Z<|ab<|Pu2<|Pu2<|Re2<|?_
    have hs721 := (hM695).mono hK719
    exact Shift.done ⟨_, by exact ⟨rfl, rfl, rfl, rfl, rfl, rfl, rfl, rfl, trivial⟩, _, Nat.lt_succ_self _, es693, ck694, (upd m591 x652.thread (wI ((cc m591 x652.thread 0) + 1))), v717, x715, (wI (i596 + 1)), rfl, rfl, (hkk602 ▸ H), hs721, hs720⟩
  ·intro h604
   have h604 := ay (h604)
   have H := ap h604 H
   refine aP<|Pu1<|Re1<|Shift.done<|?_
   exact ⟨_, by exact ⟨rfl, rfl, rfl, trivial⟩, v593, l594, rfl, rfl, H, hs595⟩
 rintro _ K722 _ hK723 ⟨v477, l478, rfl, rfl, H, hs479⟩
 unfold gA at H
 refine ao (fun env' K' G' => ∃ (v938 : SV) (l939 : List Chan), [(0, (sv v938))] = env' ∧ G = G' ∧ jx l939 = some (y0, y1) ∧ Slr aq K' (sv v938) l939) ?_ ?_
 ·skip
  refine ac<|aa<|Ea Z<|ab<|av<|?_
  refine aN (fun n1155 env' K' G' => ∃ (v1151 : SV) (l1152 : List Chan) (i1154 : Int), [(0, (sv v1151)), (2, (sv vp2)), (9, (sv v477)), (13, (.int .i64 i1154))] = env' ∧ (.tok 43 7 [(sv v477)]) :: G = G' ∧ lp2 (g8 p2 l478) n1155 l1152 i1154 = some (y0, y1) ∧ Slr aq K' (sv v1151) l1152) BIG ?_ ?_
  ·skip
   have hs1156 := (hp0).mono hK723
   exact Shift.done ⟨_, by exact ⟨rfl, rfl, rfl, rfl, trivial⟩, vp0, p0, 0, rfl, rfl, H, hs1156⟩
  rintro n1155 _ K1157 _ hK1158 ⟨v1151, l1152, i1154, rfl, rfl, H, hs1153⟩
  obtain ⟨m1159, k1160, rfl, hkk1161, H⟩ := dl H
  unfold g8 at H
  refine ac<|ac<|aa<|Em Z<|Em Z<|?_
  have hs1164 := ((hp2).mono hK723).mono hK1158
  refine Eq Z (aO (T := aw) hs1164 rfl rfl)<|Ec Z<|ab<|?_
  refine ah rfl ?_ ?_
  ·intro h1165
   have h1165 := ax (h1165)
   have H := ift h1165 H
   refine am<|ac<|av<|ac<|ac<|?_
   obtain ⟨x1302, hx1303, H⟩ := bnd H
   obtain ⟨x1312, hx1313, H⟩ := bnd H
   obtain ⟨x1317, x1318, hx1319, H⟩ := bD H
   refine aj [.tok 43 7 [(sv v477)]] rfl (Inc.cons Mb0 Inc.nil)<|Jm 0 Z (by kernel_rfl)<|Jm 1 Z (by kernel_rfl)<|Jm 2 Z (by kernel_rfl)<|?_
   have hs1324 := (hs479).mono hK1158
   obtain ⟨r1325, hr1326, hk1327⟩ := Slr.at hs1324 hx1303
   obtain ⟨v1328, v1329, rfl, hs1330, hs1331⟩ := hr1326
   refine Jq 3 Z (by kernel_rfl) (aY (T := aX) hs1324 hx1303 rfl rfl rfl rfl rfl)<|JL 4 7 (Op.cells x1302 v1328 v1329) Z (by kernel_rfl) (Rdc.k hk1327 rfl)<|Jm 5 Z (by kernel_rfl)<|Jm 6 Z (by kernel_rfl)<|?_
   obtain ⟨r1332, hr1333, hk1334⟩ := Slr.at hs1164 hx1313
   obtain rfl := hr1333
   refine Jq 7 Z (by kernel_rfl) (aY (T := aw) hs1164 hx1313 rfl rfl rfl rfl rfl)<|JF 8 1 Z (by kernel_rfl)<|JL 9 5 (Result.cells x1312.result) Z (by kernel_rfl) (Rdc.k hk1334 rfl)<|?_
   refine ai 10 (by kernel_rfl) (Jy Z ?_)
   refine Ek Tryd.call23 Z (jS l1152 v1151 x1302 v1328 v1329 x1312.result x1317 x1318 hx1319 _ _ hs1153 hs1330 hs1331) ?_
   rintro _ K1336 _ hK1337 ⟨v1335, rfl, rfl, hs1338⟩
   refine ⟨(Inc.cons Mb0 Inc.nil), ?_⟩
   refine Jm 11 Z (by kernel_rfl)<|Jx 12 Z (by kernel_rfl)<|Jx 13 Z (by kernel_rfl)<|Ja 14 Z (by kernel_rfl)<|Ja 15 Z (by kernel_rfl)<|au (by kernel_rfl)<|ac<|aa<|Em Z<|ab<|?_
   refine ah rfl ?_ ?_
   ·intro h1339
    have H := ift h1339 H
    refine ac<|aa<|Em Z<|Ea Z<|ab<|aP<|aa<|Em Z<|Er (wI (i1154 + 1)) Z<|Ea Z<|?_
    refine ab<|Shift.done<|?_
    exact ⟨_, by exact ⟨rfl, rfl, rfl, rfl, trivial⟩, _, Nat.lt_succ_self _, v1335, x1317, (wI (i1154 + 1)), rfl, rfl, (hkk1161 ▸ H), hs1338⟩
   ·intro h1339
    have H := ap (btf h1339) H
    refine am<|ac<|?_
    refine ao (fun env' K' G' => ∃ (t1458 : Bool), [(0, (sv v1151)), (2, (sv vp2)), (9, (sv v477)), (13, (.int .i64 i1154)), (115, (.bool t1458))] = env' ∧ K1336 = K' ∧ (.tok 43 7 [(sv v477)]) :: G = G' ∧ iL l1152 p2 l478 i1154 k1160 t1458 = some (y0, y1)) ?_ ?_
    ·skip
     rcases bk (dcd ((wI (i1154 + 1)) ≥ (p2.length : Int))) with hb_ | hb_ <;> revert hb_
     ·intro h1460
      have h1460 := ax (h1460)
      have H := ift h1460 H
      refine aj [.tok 43 7 [(sv v477)]] rfl (Inc.cons Mb0 Inc.nil)<|Jm 0 Z (by kernel_rfl)<|Jr 1 (wI (i1154 + 1)) Z (by kernel_rfl)<|Jm 2 Z (by kernel_rfl)<|?_
      have hs1461 := (hs1164).mono hK1337
      refine Jq 3 Z (by kernel_rfl) (aO (T := aw) hs1461 rfl rfl)<|Jc 4 Z (by kernel_rfl)<|Jm 5 Z (by kernel_rfl)<|Aw.known (d := 91) rfl (bp h1460)<|Jz 6 Z (by kernel_rfl)<|Jz 7 Z (by kernel_rfl)<|Jz 8 Z (by kernel_rfl)<|Jz 9 Z (by kernel_rfl)<|Jz 10 Z (by kernel_rfl)<|Jz 11 Z (by kernel_rfl)<|?_
      refine Jz 12 Z (by kernel_rfl)<|Jz 13 Z (by kernel_rfl)<|Jz 14 Z (by kernel_rfl)<|Jz 15 Z (by kernel_rfl)<|Jz 16 Z (by kernel_rfl)<|Jz 17 Z (by kernel_rfl)<|Jz 18 Z (by kernel_rfl)<|Jz 19 Z (by kernel_rfl)<|Jz 20 Z (by kernel_rfl)<|Jz 21 Z (by kernel_rfl)<|?_
      refine Jz 22 Z (by kernel_rfl)<|Jz 23 Z (by kernel_rfl)<|Jz 24 Z (by kernel_rfl)<|Jz 25 Z (by kernel_rfl)<|Jz 26 Z (by kernel_rfl)<|Jz 27 Z (by kernel_rfl)<|Jz 28 Z (by kernel_rfl)<|Jt 29 Z (by kernel_rfl)<|au (by kernel_rfl)<|Shift.done<|?_
      exact ⟨_, by exact ⟨rfl, rfl, rfl, rfl, rfl, trivial⟩, true, rfl, rfl, rfl, H⟩
     ·intro h1460
      have h1460 := ay (h1460)
      have H := ap h1460 H
      obtain ⟨x1462, hx1463, H⟩ := bnd H
      obtain ⟨x1472, hx1473, H⟩ := bnd H
      obtain ⟨x1477, hx1478, H⟩ := bnd H
      obtain ⟨x1486, hx1487, H⟩ := bnd H
      obtain ⟨x1491, hx1492, H⟩ := bnd H
      refine aj [.tok 43 7 [(sv v477)]] rfl (Inc.cons Mb0 Inc.nil)<|Jm 0 Z (by kernel_rfl)<|Jr 1 (wI (i1154 + 1)) Z (by kernel_rfl)<|Jm 2 Z (by kernel_rfl)<|?_
      have hs1494 := (hs1164).mono hK1337
      refine Jq 3 Z (by kernel_rfl) (aO (T := aw) hs1494 rfl rfl)<|Jc 4 Z (by kernel_rfl)<|Jm 5 Z (by kernel_rfl)<|Aw.known (d := 91) rfl (bu h1460)<|Bm 6 Z (by kernel_rfl)<|Bm 7 Z (by kernel_rfl)<|Bm 8 Z (by kernel_rfl)<|?_
      have hs1495 := (hs1324).mono hK1337
      obtain ⟨r1496, hr1497, hk1498⟩ := Slr.at hs1495 hx1463
      obtain ⟨v1499, v1500, rfl, hs1501, hs1502⟩ := hr1497
      refine Bq 9 Z (by kernel_rfl) (aY (T := aX) hs1495 hx1463 rfl rfl rfl rfl rfl)<|BL 10 7 (Op.cells x1462 v1499 v1500) Z (by kernel_rfl) (Rdc.k hk1498 rfl)<|Bm 11 Z (by kernel_rfl)<|Bm 12 Z (by kernel_rfl)<|?_
      obtain ⟨r1503, hr1504, hk1505⟩ := Slr.at hs1494 hx1473
      obtain rfl := hr1504
      refine Bq 13 Z (by kernel_rfl) (aY (T := aw) hs1494 hx1473 rfl rfl rfl rfl rfl)<|BF 14 1 Z (by kernel_rfl)<|BL 15 5 (Result.cells x1472.result) Z (by kernel_rfl) (Rdc.k hk1505 rfl)<|Bm 16 Z (by kernel_rfl)<|Bm 17 Z (by kernel_rfl)<|Br 18 (wI (i1154 + 1)) Z (by kernel_rfl)<|?_
      obtain ⟨r1506, hr1507, hk1508⟩ := Slr.at hs1495 hx1478
      obtain ⟨v1509, v1510, rfl, hs1511, hs1512⟩ := hr1507
      refine Bq 19 Z (by kernel_rfl) (aY (T := aX) hs1495 hx1478 rfl rfl rfl rfl rfl)<|BL 20 7 (Op.cells x1477 v1509 v1510) Z (by kernel_rfl) (Rdc.k hk1508 rfl)<|Bm 21 Z (by kernel_rfl)<|Bm 22 Z (by kernel_rfl)<|Br 23 (wI (i1154 + 1)) Z (by kernel_rfl)<|?_
      obtain ⟨r1513, hr1514, hk1515⟩ := Slr.at hs1494 hx1487
      obtain rfl := hr1514
      refine Bq 24 Z (by kernel_rfl) (aY (T := aw) hs1494 hx1487 rfl rfl rfl rfl rfl)<|BF 25 1 Z (by kernel_rfl)<|BL 26 5 (Result.cells x1486.result) Z (by kernel_rfl) (Rdc.k hk1515 rfl)<|?_
      refine ai 27 (by kernel_rfl) (cD rfl rfl rfl rfl rfl ?_)
      have hs1516 := (hs1153).mono hK1337
      refine Ek Tryd.call24 Z (nN l1152 v1151 x1462 v1499 v1500 x1472.result x1477 v1509 v1510 x1486.result x1491 hx1492 _ _ hs1516 hs1501 hs1502 hs1511 hs1512) ?_
      rintro _ _ _ - ⟨rfl, rfl, rfl⟩
      refine ⟨(Inc.cons Mb0 Inc.nil), ?_⟩
      refine Bq 28 Z (by kernel_rfl) (aS rfl)<|Jf 29 Z (by kernel_rfl)<|au (by kernel_rfl)<|Shift.done<|?_
      exact ⟨_, by exact ⟨rfl, rfl, rfl, rfl, rfl, trivial⟩, (!(x1491)), rfl, rfl, rfl, H⟩
    rintro _ _ _ - ⟨t1458, rfl, rfl, rfl, H⟩
    unfold iL at H
    refine ah rfl ?_ ?_
    ·intro h1517
     have H := ift h1517 H
     refine ac<|aa<|Ea Z<|Ea Z<|ab<|an<|?_
     obtain ⟨ey0, ey1⟩ := bo H
     subst y0 y1
     refine ⟨(by first | exact .inl rfl | exact .inr rfl), [(sv ak), (.bool false)], ⟨(sv ak), _, rfl, rfl, ⟨(.bool false), _, rfl, rfl, rfl⟩⟩, ?_⟩
     refine Re0<|Shift.done<|?_
     exact ⟨ak, rfl, rfl, (Slr.nil aq _)⟩
    ·intro h1517
     have H := ap (btf h1517) H
     refine am<|aa<|Em Z<|Er (wI (i1154 + 1)) Z<|Ea Z<|ab<|aa<|Em Z<|Er (wI ((wI (i1154 + 1)) + 1)) Z<|Ea Z<|?_
     refine ab ?_
     have hs1518 := (hs1153).mono hK1337
     exact Shift.done ⟨_, by exact ⟨rfl, rfl, rfl, rfl, trivial⟩, _, Nat.lt_succ_self _, v1151, l1152, (wI ((wI (i1154 + 1)) + 1)), rfl, rfl, (hkk1161 ▸ H), hs1518⟩
  ·intro h1165
   have h1165 := ay (h1165)
   have H := ap h1165 H
   refine aP<|Re0<|Shift.done<|?_
   exact ⟨_, by exact ⟨rfl, trivial⟩, v1151, l1152, rfl, rfl, H, hs1153⟩
 rintro _ K1519 _ hK1520 ⟨v938, l939, rfl, rfl, H, hs940⟩
 unfold jx at H
 refine ac<|aa<|Em Z<|Ea Z<|Ea Z<|ab<|an<|?_
 obtain ⟨ey0, ey1⟩ := bo H
 subst y0 y1
 refine ⟨(by first | exact .inl rfl | exact .inr rfl), [(sv v938), (.bool true)], ⟨(sv v938), _, rfl, rfl, ⟨(.bool true), _, rfl, rfl, rfl⟩⟩, ?_⟩
 exact Shift.done ⟨v938, rfl, rfl, hs940⟩



end Go.Hx

namespace Go.Hx
open Go Go.Proofs
set_option linter.unusedSimpArgs false
set_option linter.unusedVariables false
set_option maxRecDepth 10000
set_option maxHeartbeats 1000000 in
theorem oD  (y0 : Bool) (H : kX = some y0) (K : Kp) (G : List Ent) (hT : dK K) :
  Fc Tryd.prog 6 #[] K (G) (fun v K' G' => v = (.bool y0) ∧ G = G') := by
 refine aA Tryd.func6 rfl Tryd.ntmps6 Tryd.results6 rfl ?_
 unfold kX at H
 refine ac<|aa<|Ea Z<|ab<|ac<|aa<|?_
 have hR80 : RowR Ty.i64 K [[(.int .i64 1)]] [1] := RowR.cons rfl (RowR.nil)
 refine ae rfl (aR (T := Ty.i64) (rows := [[(.int .i64 1)]]) (l := [1]) rfl rfl rfl hR80 rfl rfl rfl rfl rfl rfl rfl rfl (fun v79 => ?_))
 have hR82 : RowR Ty.u64 K [[(.int .u64 0)]] [0] := RowR.cons rfl (RowR.nil)
 refine ae rfl (aR (T := Ty.u64) (rows := [[(.int .u64 0)]]) (l := [0]) rfl rfl rfl hR82 rfl rfl rfl rfl rfl rfl rfl rfl (fun v81 => ?_))
 refine Ow.shift (Shift.settle (T := Ty.i64) (.there .here) hR80 rfl (fun K83 hK84 hs85 => Shift.done ?_))
 have hs89 := (hR82).mono hK84
 refine Ow.shift (Shift.settle (T := Ty.u64) .here hs89 rfl (fun K86 hK87 hs88 => Shift.done ?_))
 refine Eq Z (az (cs := (Config.cells (Config.mk [1] [0] 2) v79 v81)) rfl rfl rfl rfl rfl rfl) ?_
 refine ae rfl (ar (cs := (Config.cells (Config.mk [] [] 0) ak ak)) rfl rfl rfl rfl (fun b90 => ?_))
 refine ae rfl (ag (vs := (Config.cells (Config.mk [1] [0] 2) v79 v81)) (all' := (Config.cells (Config.mk [1] [0] 2) v79 v81)) rfl rfl rfl rfl rfl .here rfl rfl rfl ?_)
 refine ab<|ac<|aa<|Eq Z (az (cs := (Op.cells (Op.mk 1 0 0 5 0 [] []) ak ak)) rfl rfl rfl rfl rfl rfl)<|?_
 have hR92 : RowR aX K86 [(Op.cells (Op.mk 1 0 0 5 0 [] []) ak ak)] [(Op.mk 1 0 0 5 0 [] [])] := RowR.cons ⟨ak, ak, rfl, (Slr.nil aF _), (Slr.nil Ty.i64 _)⟩ (RowR.nil)
 refine ae rfl (aR (T := aX) (rows := [(Op.cells (Op.mk 1 0 0 5 0 [] []) ak ak)]) (l := [(Op.mk 1 0 0 5 0 [] [])]) rfl rfl rfl hR92 rfl rfl rfl rfl rfl rfl rfl rfl (fun v91 => ?_))
 refine Eq Z (az (cs := (Op.cells (Op.mk 2 0 0 0 0 [] []) ak ak)) rfl rfl rfl rfl rfl rfl) ?_
 have hR94 : RowR aX K86 [(Op.cells (Op.mk 2 0 0 0 0 [] []) ak ak)] [(Op.mk 2 0 0 0 0 [] [])] := RowR.cons ⟨ak, ak, rfl, (Slr.nil aF _), (Slr.nil Ty.i64 _)⟩ (RowR.nil)
 refine ae rfl (aR (T := aX) (rows := [(Op.cells (Op.mk 2 0 0 0 0 [] []) ak ak)]) (l := [(Op.mk 2 0 0 0 0 [] [])]) rfl rfl rfl hR94 rfl rfl rfl rfl rfl rfl rfl rfl (fun v93 => ?_))
 refine Ow.shift (Shift.settle (T := aX) (.there .here) hR92 rfl (fun K95 hK96 hs97 => Shift.done ?_))
 have hs101 := (hR94).mono hK96
 refine Ow.shift (Shift.settle (T := aX) .here hs101 rfl (fun K98 hK99 hs100 => Shift.done ?_))
 have hs104 := (hs97).mono hK99
 have hR103 : RowR (Ty.sl aX) K98 [[(sv v91)], [(sv v93)]] [[(Op.mk 1 0 0 5 0 [] [])], [(Op.mk 2 0 0 0 0 [] [])]] := RowR.cons ⟨v91, rfl, hs104⟩ (RowR.cons ⟨v93, rfl, hs100⟩ (RowR.nil))
 refine ae rfl (aR (T := (Ty.sl aX)) (rows := [[(sv v91)], [(sv v93)]]) (l := [[(Op.mk 1 0 0 5 0 [] [])], [(Op.mk 2 0 0 0 0 [] [])]]) rfl rfl rfl hR103 rfl rfl rfl rfl rfl rfl rfl rfl (fun v102 => ?_))
 refine Ea Z<|ab<|ac<|aa<|Eq Z (az (cs := (Result.cells (Result.mk 2 (-1) 5 true 0))) rfl rfl rfl rfl rfl rfl)<|?_
 refine ae rfl (ar (cs := (Result.cells (Result.mk 0 0 0 false 0))) rfl rfl rfl rfl (fun b105 => ?_))
 refine ae rfl (ag (vs := (Result.cells (Result.mk 2 (-1) 5 true 0))) (all' := (Result.cells (Result.mk 2 (-1) 5 true 0))) rfl rfl rfl rfl rfl .here rfl rfl rfl ?_)
 refine ab<|ac<|aa<|Eq Z (az (cs := (Event.cells (Event.mk 1 0 false (Result.mk 0 0 0 false 0)))) rfl rfl rfl rfl rfl rfl)<|EL 5 (Result.cells (Result.mk 2 (-1) 5 true 0)) Z (Rb0 Z)<|Eq Z (az (cs := (Event.cells (Event.mk 1 0 true (Result.mk 2 (-1) 5 true 0)))) rfl rfl rfl rfl rfl rfl)<|Eq Z (az (cs := (Event.cells (Event.mk 0 0 false (Result.mk 0 0 0 false 0)))) rfl rfl rfl rfl rfl rfl)<|?_
 have hR107 : RowR aJ K98 [(Event.cells (Event.mk 1 0 false (Result.mk 0 0 0 false 0))), (Event.cells (Event.mk 1 0 true (Result.mk 2 (-1) 5 true 0))), (Event.cells (Event.mk 0 0 false (Result.mk 0 0 0 false 0)))] [(Event.mk 1 0 false (Result.mk 0 0 0 false 0)), (Event.mk 1 0 true (Result.mk 2 (-1) 5 true 0)), (Event.mk 0 0 false (Result.mk 0 0 0 false 0))] := RowR.cons rfl (RowR.cons rfl (RowR.cons rfl (RowR.nil)))
 refine ae rfl (aR (T := aJ) (rows := [(Event.cells (Event.mk 1 0 false (Result.mk 0 0 0 false 0))), (Event.cells (Event.mk 1 0 true (Result.mk 2 (-1) 5 true 0))), (Event.cells (Event.mk 0 0 false (Result.mk 0 0 0 false 0)))]) (l := [(Event.mk 1 0 false (Result.mk 0 0 0 false 0)), (Event.mk 1 0 true (Result.mk 2 (-1) 5 true 0)), (Event.mk 0 0 false (Result.mk 0 0 0 false 0))]) rfl rfl rfl hR107 rfl rfl rfl rfl rfl rfl rfl rfl (fun v106 => ?_))
 refine Ea Z<|ab<|ac<|aa<|Eq Z (az (cs := (Event.cells (Event.mk 0 0 false (Result.mk 0 0 0 false 0)))) rfl rfl rfl rfl rfl rfl)<|Eq Z (az (cs := (Event.cells (Event.mk 1 0 false (Result.mk 0 0 0 false 0)))) rfl rfl rfl rfl rfl rfl)<|EL 5 (Result.cells (Result.mk 2 (-1) 5 true 0)) Z (Rb1 Z)<|Eq Z (az (cs := (Event.cells (Event.mk 1 0 true (Result.mk 2 (-1) 5 true 0)))) rfl rfl rfl rfl rfl rfl)<|?_
 have hR109 : RowR aJ K98 [(Event.cells (Event.mk 0 0 false (Result.mk 0 0 0 false 0))), (Event.cells (Event.mk 1 0 false (Result.mk 0 0 0 false 0))), (Event.cells (Event.mk 1 0 true (Result.mk 2 (-1) 5 true 0)))] [(Event.mk 0 0 false (Result.mk 0 0 0 false 0)), (Event.mk 1 0 false (Result.mk 0 0 0 false 0)), (Event.mk 1 0 true (Result.mk 2 (-1) 5 true 0))] := RowR.cons rfl (RowR.cons rfl (RowR.cons rfl (RowR.nil)))
 refine ae rfl (aR (T := aJ) (rows := [(Event.cells (Event.mk 0 0 false (Result.mk 0 0 0 false 0))), (Event.cells (Event.mk 1 0 false (Result.mk 0 0 0 false 0))), (Event.cells (Event.mk 1 0 true (Result.mk 2 (-1) 5 true 0)))]) (l := [(Event.mk 0 0 false (Result.mk 0 0 0 false 0)), (Event.mk 1 0 false (Result.mk 0 0 0 false 0)), (Event.mk 1 0 true (Result.mk 2 (-1) 5 true 0))]) rfl rfl rfl hR109 rfl rfl rfl rfl rfl rfl rfl rfl (fun v108 => ?_))
 refine Ea Z<|ab<|ac<|aa<|EL 3 (Config.cells (Config.mk [1] [0] 2) v79 v81) Z (Rb6 Z)<|Em Z<|Em Z<|?_
 refine Ow.shift (Shift.settle (T := (Ty.sl aX)) (.there (.there (.there .here))) hR103 rfl (fun K110 hK111 hs112 => Shift.done ?_))
 have hs116 := (hR109).mono hK111
 refine Ow.shift (Shift.settle (T := aJ) .here hs116 rfl (fun K113 hK114 hs115 => Shift.done ?_))
 obtain ⟨x117, x118, hx119, H⟩ := bD H
 have hs120 := (((((hs85).mono hK87).mono hK96).mono hK99).mono hK111).mono hK114
 have hs121 := ((((hs88).mono hK96).mono hK99).mono hK111).mono hK114
 have hs122 := (hs112).mono hK114
 have hs123 := ((((((hT).mono hK84).mono hK87).mono hK96).mono hK99).mono hK111).mono hK114
 refine ae rfl (Ek Tryd.call15 Z (lO (Config.mk [1] [0] 2) v79 v81 [[(Op.mk 1 0 0 5 0 [] [])], [(Op.mk 2 0 0 0 0 [] [])]] v102 [(Event.mk 0 0 false (Result.mk 0 0 0 false 0)), (Event.mk 1 0 false (Result.mk 0 0 0 false 0)), (Event.mk 1 0 true (Result.mk 2 (-1) 5 true 0))] v108 x117 x118 hx119 _ _ hs120 hs121 hs122 hs115 hs123) ?_)
 rintro _ K126 _ hK127 ⟨v124, rs125, rfl, rfl, hs128⟩
 refine Em Z<|Ex Z<|Ex Z<|Ea Z<|Ea Z<|ab<|?_
 refine ao (fun env' K' G' => ∃ (t154 : Bool), [(0, (.bool t154))] = env' ∧ G = G' ∧ iU t154 = some y0) ?_ ?_
 ·skip
  refine aa<|EL 3 (Config.cells (Config.mk [1] [0] 2) v79 v81) Z (Rb7 Z)<|Em Z<|Em Z<|?_
  have hs158 := (((hR107).mono hK111).mono hK114).mono hK127
  refine Ow.shift (Shift.settle (T := aJ) (.there (.there .here)) hs158 rfl (fun K155 hK156 hs157 => Shift.done ?_))
  obtain ⟨x159, hx160, H⟩ := bnd H
  have hs161 := ((hs120).mono hK127).mono hK156
  have hs162 := ((hs121).mono hK127).mono hK156
  have hs163 := ((hs122).mono hK127).mono hK156
  have hs164 := ((hs123).mono hK127).mono hK156
  refine ae rfl (Ek Tryd.call9 Z (lQ (Config.mk [1] [0] 2) v79 v81 [[(Op.mk 1 0 0 5 0 [] [])], [(Op.mk 2 0 0 0 0 [] [])]] v102 [(Event.mk 1 0 false (Result.mk 0 0 0 false 0)), (Event.mk 1 0 true (Result.mk 2 (-1) 5 true 0)), (Event.mk 0 0 false (Result.mk 0 0 0 false 0))] v106 x159 hx160 _ _ hs161 hs162 hs163 hs157 hs164) ?_)
  rintro _ K165 _ hK166 ⟨rfl, rfl⟩
  refine Eq Z (aS rfl)<|Em Z<|?_
  refine Ee Z ?_ ?_
  ·intro h167
   have h167 := bE (h167)
   have H := ap (btf h167) H
   refine VL 3 (Config.cells (Config.mk [1] [0] 2) v79 v81) Z (Rb7 Z)<|Vm Z<|Vm Z<|?_
   obtain ⟨x168, hx169, H⟩ := bnd H
   have hs170 := (hs161).mono hK166
   have hs171 := (hs162).mono hK166
   have hs172 := (hs163).mono hK166
   have hs173 := (((hs115).mono hK127).mono hK156).mono hK166
   have hs174 := (hs164).mono hK166
   refine br rfl rfl rfl rfl (Ek Tryd.call9 Z (lQ (Config.mk [1] [0] 2) v79 v81 [[(Op.mk 1 0 0 5 0 [] [])], [(Op.mk 2 0 0 0 0 [] [])]] v102 [(Event.mk 0 0 false (Result.mk 0 0 0 false 0)), (Event.mk 1 0 false (Result.mk 0 0 0 false 0)), (Event.mk 1 0 true (Result.mk 2 (-1) 5 true 0))] v108 x168 hx169 _ _ hs170 hs171 hs172 hs173 hs174) ?_)
   rintro _ K175 _ hK176 ⟨rfl, rfl⟩
   refine Et Z<|Em Z<|?_
   refine Ee Z ?_ ?_
   ·intro h177
    have H := ift h177 H
    refine Vm Z<|Et Z<|Em Z<|?_
    refine Ee Z ?_ ?_
    ·intro h178
     have H := ift h178 H
     refine Vm Z ?_
     have hs179 := (((hs128).mono hK156).mono hK166).mono hK176
     refine Vq Z (dI (T := aw) Mb0 hs179 rfl rfl rfl)<|Vc Z<|Et Z<|Ea Z<|ab<|Re0<|Re0<|Re0<|Re0<|Re0<|?_
     refine Re0<|Re0<|Re0<|Re0<|Re0<|Shift.done<|?_
     exact ⟨_, by exact ⟨rfl, trivial⟩, (dcd ((x117.length : Int) = 2)), rfl, rfl, H⟩
    ·intro h178
     have H := ap (btf h178) H
     refine Ez Z<|Ez Z<|Ez Z<|Ef Z<|Ea Z<|ab<|Re0<|Re0<|Re0<|Re0<|?_
     refine Re0<|Re0<|Re0<|Re0<|Re0<|Re0<|Shift.done<|?_
     exact ⟨_, by exact ⟨rfl, trivial⟩, false, rfl, rfl, H⟩
   ·intro h177
    have H := ap (btf h177) H
    refine Ez Z<|Ef Z<|Em Z<|Ez Z<|Ez Z<|Ez Z<|Ef Z<|Ea Z<|ab<|Re0<|?_
    refine Re0<|Re0<|Re0<|Re0<|Re0<|Re0<|Re0<|Re0<|Re0<|Shift.done<|?_
    exact ⟨_, by exact ⟨rfl, trivial⟩, false, rfl, rfl, H⟩
  ·intro h167
   have h167 := bB (h167)
   have H := ift h167 H
   refine Ez Z<|Ez Z<|Ez Z<|Ez Z<|Ef Z<|Em Z<|Ez Z<|Ef Z<|Em Z<|Ez Z<|?_
   refine Ez Z<|Ez Z<|Ef Z<|Ea Z<|ab<|Re0<|Re0<|Re0<|Re0<|Re0<|?_
   refine Re0<|Re0<|Re0<|Re0<|Re0<|Shift.done<|?_
   exact ⟨_, by exact ⟨rfl, trivial⟩, false, rfl, rfl, H⟩
 rintro _ K180 _ hK181 ⟨t154, rfl, rfl, H⟩
 unfold iU at H
 refine an ?_
 obtain ey0 := aV H
 subst y0
 refine ⟨(by first | exact .inl rfl | exact .inr rfl), [(.bool t154)], ⟨(.bool t154), _, rfl, rfl, rfl⟩, ?_⟩
 exact Shift.done ⟨rfl, rfl⟩



end Go.Hx

namespace Go.Hx
open Go Go.Proofs
set_option linter.unusedSimpArgs false
set_option linter.unusedVariables false
set_option maxRecDepth 10000
set_option maxHeartbeats 1000000 in
theorem oK (p0 : Int) (p1 : Int) (y0 : Int) (H : gV p0 p1 = some y0) (K : Kp) (G : List Ent)  :
  Fc Tryd.prog 8 #[(.int .i64 p0), (.int .i64 p1)] K (G) (fun v K' G' => v = (.int .i64 y0) ∧ K = K' ∧ G = G') := by
 refine aA Tryd.func8 rfl Tryd.ntmps8 Tryd.results8 rfl ?_
 unfold gV at H
 refine ac<|aa<|Ea Z<|ab<|ac<|aa<|Em Z<|Em Z<|?_
 obtain ⟨x4, hx5, H⟩ := bnd H
 refine Eq Z (pi hx5 rfl rfl)<|Ea Z<|ab<|ac<|ac<|aa<|Em Z<|Ec Z<|ab<|?_
 refine ah rfl ?_ ?_
 ·intro h7
  have h7 := ax (h7)
  have H := ift h7 H
  refine aa<|Em Z<|Em Z<|Er (wI (x4 + p1)) Z<|Ea Z<|ab<|ac<|aa<|Em Z<|Ea Z<|?_
  refine ab<|an<|?_
  obtain ey0 := aV H
  subst y0
  refine ⟨(by first | exact .inl rfl | exact .inr rfl), [(.int .i64 (wI (x4 + p1)))], ⟨(.int .i64 (wI (x4 + p1))), _, rfl, rfl, rfl⟩, ?_⟩
  exact Shift.done ⟨rfl, rfl, rfl⟩
 ·intro h7
  have h7 := ay (h7)
  have H := ap h7 H
  refine am<|ac<|aa<|Em Z<|Ea Z<|ab<|an<|?_
  obtain ey0 := aV H
  subst y0
  refine ⟨(by first | exact .inl rfl | exact .inr rfl), [(.int .i64 x4)], ⟨(.int .i64 x4), _, rfl, rfl, rfl⟩, ?_⟩
  exact Shift.done ⟨rfl, rfl, rfl⟩

set_option maxHeartbeats 1000000 in
theorem o6 (p0 : List Int) (vp0 : SV) (p1 : Int) (y0 : Draw_Codes) (H : gn p0 p1 = some y0) (K : Kp) (G : List Ent) (hp0 : Slr Ty.u8 K (sv vp0) p0) :
  Fc Tryd.prog 16 #[(sv vp0), (.int .i64 p1)] K (G) (fun v K' G' => ∃ (by0 : Nat) (wy0_list : SV), v = (.pointer (some ((⟨by0, 0, none⟩ : Addr).add 0))) ∧ K = K' ∧ (.blk by0 85 (Draw_Codes.cells y0 wy0_list)) :: G = G' ∧ Slr Ty.u8 K' (sv wy0_list) y0.list) := by
 refine aA Tryd.func16 rfl Tryd.ntmps16 Tryd.results16 rfl ?_
 unfold gn at H
 refine ac<|aa<|Ea Z<|ab<|?_
 refine ao (fun env' K' G' => ∃ (v13 : SV) (l14 : List Int), [(0, (sv v13))] = env' ∧ K = K' ∧ G = G' ∧ ks l14 = some y0 ∧ Slr Ty.u8 K' (sv v13) l14) ?_ ?_
 ·skip
  refine ac<|aa<|Em Z<|Eq Z (aO (T := Ty.u8) hp0 rfl rfl)<|Em Z<|Ec Z<|ab<|?_
  refine ah rfl ?_ ?_
  ·intro h16
   have h16 := ax (h16)
   have H := ift h16 H
   refine aa<|Em Z<|Em Z<|?_
   obtain ⟨x17, hx18, H⟩ := bnd H
   have hs19 := Slr.cut hp0 hx18
   refine Eq Z (kO (T := Ty.u8) hp0 hx18 rfl rfl rfl rfl)<|Ea Z<|ab<|Shift.done<|?_
   exact ⟨_, by exact ⟨rfl, trivial⟩, (cj vp0 1 0 p1.toNat), x17, rfl, rfl, rfl, H, hs19⟩
  ·intro h16
   have h16 := ay (h16)
   have H := ap h16 H
   refine am<|Shift.done<|?_
   exact ⟨_, by exact ⟨rfl, trivial⟩, vp0, p0, rfl, rfl, rfl, H, hp0⟩
 rintro _ _ _ - ⟨v13, l14, rfl, rfl, rfl, H, hs15⟩
 unfold ks at H
 refine ac<|aa<|Em Z<|Eq Z (az (cs := (Draw_Codes.cells (Draw_Codes.mk l14 0 0) v13)) rfl rfl rfl rfl rfl rfl)<|?_
 refine ae rfl (aB (cs := (Draw_Codes.cells (Draw_Codes.mk l14 0 0) v13)) rfl rfl rfl (fun b20 => ?_))
 refine Ea Z<|ab<|an<|?_
 obtain ey0 := aV H
 subst y0
 refine ⟨(by first | exact .inl rfl | exact .inr rfl), [(.pointer (some ((⟨b20, 0, none⟩ : Addr).add 0)))], ⟨(.pointer (some ((⟨b20, 0, none⟩ : Addr).add 0))), _, rfl, rfl, rfl⟩, ?_⟩
 exact Shift.done ⟨b20, v13, rfl, rfl, rfl, hs15⟩

set_option maxHeartbeats 1000000 in
theorem jz (bp0 : Nat) (p0 : Draw_Codes) (vp0_list : SV) (y0 : Bool) (H : ji p0 = some y0) (K : Kp) (G : List Ent) (hp0_list : Slr Ty.u8 K (sv vp0_list) p0.list) :
  Fc Tryd.prog 20 #[(.pointer (some ((⟨bp0, 0, none⟩ : Addr).add 0)))] K ((.blk bp0 85 (Draw_Codes.cells p0 vp0_list)) :: G) (fun v K' G' => v = (.bool y0) ∧ K = K' ∧ (.blk bp0 85 (Draw_Codes.cells p0 vp0_list)) :: G = G') := by
 refine aA Tryd.func20 rfl Tryd.ntmps20 Tryd.results20 rfl ?_
 unfold ji at H
 refine ac<|aa<|Ea Z<|ab<|ac<|aj [.blk bp0 85 (Draw_Codes.cells p0 vp0_list)] rfl (Inc.cons Mb0 Inc.nil)<|Jm 0 Z (by kernel_rfl)<|Jq 1 Z (by kernel_rfl) (aM rfl)<|JF 2 1 Z (by kernel_rfl)<|Jl 3 (.int .i64 p0.at_) Z (by kernel_rfl) (Rb0 Z)<|?_
 refine Jm 4 Z (by kernel_rfl)<|Jq 5 Z (by kernel_rfl) (aM rfl)<|JF 6 0 Z (by kernel_rfl)<|Jl 7 (sv vp0_list) Z (by kernel_rfl) (Rb0 Z)<|Jq 8 Z (by kernel_rfl) (aO (T := Ty.u8) hp0_list rfl rfl)<|Jc 9 Z (by kernel_rfl)<|Ja 10 Z (by kernel_rfl)<|au (by kernel_rfl)<|an<|?_
 obtain ey0 := aV H
 subst y0
 refine ⟨(by first | exact .inl rfl | exact .inr rfl), [(.bool (dcd (p0.at_ < (p0.list.length : Int))))], ⟨(.bool (dcd (p0.at_ < (p0.list.length : Int)))), _, rfl, rfl, rfl⟩, ?_⟩
 exact Shift.done ⟨rfl, rfl, rfl⟩

set_option maxHeartbeats 1000000 in
theorem ca (bp0 : Nat) (p0 : Draw_Codes) (vp0_list : SV) (p1 : Int) (y0 : Int) (z0_at_ : Int) (H : db p0 p1 = some (y0, z0_at_)) (K : Kp) (G : List Ent) (hp0_list : Slr Ty.u8 K (sv vp0_list) p0.list) :
  Fc Tryd.prog 21 #[(.pointer (some ((⟨bp0, 0, none⟩ : Addr).add 0))), (.int .i64 p1)] K ((.blk bp0 85 (Draw_Codes.cells p0 vp0_list)) :: G) (fun v K' G' => v = (.int .i64 y0) ∧ K = K' ∧ (.blk bp0 85 (Draw_Codes.cells (Draw_Codes.mk p0.list z0_at_ p0.value) vp0_list)) :: G = G') := by
 refine aA Tryd.func21 rfl Tryd.ntmps21 Tryd.results21 rfl ?_
 unfold db at H
 refine ac<|aa<|Ea Z<|ab<|ac<|ac<|aa<|Em Z<|?_
 obtain ⟨x17, hx18, H⟩ := bnd H
 refine ae rfl (Ek Tryd.call20 Z (jz bp0 p0 vp0_list x17 hx18 _ _ hp0_list) ?_)
 rintro _ _ _ - ⟨rfl, rfl, rfl⟩
 refine Eq Z (aS rfl)<|ab<|?_
 refine ah rfl ?_ ?_
 ·intro h19
  have h19 := bE (h19)
  have H := ap (btf h19) H
  refine ac<|aa<|Ea Z<|ab<|an<|?_
  obtain ⟨ey0, ez0_at_⟩ := bo H
  subst y0 z0_at_
  refine ⟨(by first | exact .inl rfl | exact .inr rfl), [(.int .i64 0)], ⟨(.int .i64 0), _, rfl, rfl, rfl⟩, ?_⟩
  exact Shift.done ⟨rfl, rfl, rfl⟩
 ·intro h19
  have h19 := bB (h19)
  have H := ift h19 H
  refine am<|ac<|aa<|Em Z<|Eq Z (aM rfl)<|EF 1 Z<|El (.int .i64 p0.at_) Z (Rb0 Z)<|Er (wI (p0.at_ + 1)) Z<|Eq Z (aM rfl)<|EF 1 Z<|?_
  refine ae rfl (ag (vs := [(.int .i64 (wI (p0.at_ + 1)))]) (all' := (Draw_Codes.cells (Draw_Codes.mk p0.list (wI (p0.at_ + 1)) p0.value) vp0_list)) rfl rfl rfl rfl rfl .here rfl rfl rfl ?_)
  refine ab<|ac<|?_
  obtain ⟨x20, hx21, H⟩ := bnd H
  obtain ⟨x25, hx26, H⟩ := bnd H
  refine aj [.blk bp0 85 (Draw_Codes.cells (Draw_Codes.mk p0.list (wI (p0.at_ + 1)) p0.value) vp0_list)] rfl (Inc.cons Mb0 Inc.nil)<|Jm 0 Z (by kernel_rfl)<|Jq 1 Z (by kernel_rfl) (aM rfl)<|JF 2 0 Z (by kernel_rfl)<|Jl 3 (sv vp0_list) Z (by kernel_rfl) (Rb0 Z)<|Jm 4 Z (by kernel_rfl)<|Jq 5 Z (by kernel_rfl) (aM rfl)<|JF 6 1 Z (by kernel_rfl)<|Jl 7 (.int .i64 (wI (p0.at_ + 1))) Z (by kernel_rfl) (Rb0 Z)<|Jr 8 (wI ((wI (p0.at_ + 1)) - 1)) Z (by kernel_rfl)<|?_
  obtain ⟨r27, hr28, hk29⟩ := Slr.at hp0_list hx21
  obtain rfl := hr28
  refine Jq 9 Z (by kernel_rfl) (aY (T := Ty.u8) hp0_list hx21 rfl rfl rfl rfl rfl)<|Jl 10 (.int .u8 x20) Z (by kernel_rfl) (Rdc.k hk29 rfl)<|Jq 11 Z (by kernel_rfl) (ey (c := wI x20) rfl rfl rfl rfl)<|Jm 12 Z (by kernel_rfl)<|Jq 13 Z (by kernel_rfl) (pi hx26 rfl rfl)<|Ja 14 Z (by kernel_rfl)<|au (by kernel_rfl)<|an<|?_
  obtain ⟨ey0, ez0_at_⟩ := bo H
  subst y0 z0_at_
  refine ⟨(by first | exact .inl rfl | exact .inr rfl), [(.int .i64 x25)], ⟨(.int .i64 x25), _, rfl, rfl, rfl⟩, ?_⟩
  exact Shift.done ⟨rfl, rfl, rfl⟩

set_option maxHeartbeats 1000000 in
theorem pC (bp0 : Nat) (p0 : Draw_Codes) (vp0_list : SV) (y0 : Config) (z0_at_ : Int) (z0_value : Int) (H : fN p0 = some (y0, z0_at_, z0_value)) (K : Kp) (G : List Ent) (hp0_list : Slr Ty.u8 K (sv vp0_list) p0.list) :
  Fc Tryd.prog 17 #[(.pointer (some ((⟨bp0, 0, none⟩ : Addr).add 0)))] K ((.blk bp0 85 (Draw_Codes.cells p0 vp0_list)) :: G) (fun v K' G' => ∃ (wy0_capacities : SV) (wy0_starts : SV), v = (.agg (Config.cells y0 wy0_capacities wy0_starts).toArray) ∧ (.blk bp0 85 (Draw_Codes.cells (Draw_Codes.mk p0.list z0_at_ z0_value) vp0_list)) :: (.tok 3 1 [(sv wy0_capacities)]) :: (.tok 34 1 [(sv wy0_starts)]) :: G = G' ∧ Slr Ty.i64 K' (sv wy0_capacities) y0.capacities ∧ Slr Ty.u64 K' (sv wy0_starts) y0.starts) := by
 refine aA Tryd.func17 rfl Tryd.ntmps17 Tryd.results17 rfl ?_
 unfold fN at H
 refine ac<|aa<|?_
 refine ae rfl (ar (cs := (Config.cells (Config.mk [] [] 0) ak ak)) rfl rfl rfl rfl (fun b279 => ?_))
 refine ab<|ac<|aa<|?_
 have hR281 : RowR Ty.i64 K [[(.int .i64 0)], [(.int .i64 1)], [(.int .i64 2)], [(.int .i64 0)], [(.int .i64 1)], [(.int .i64 3)]] [0, 1, 2, 0, 1, 3] := RowR.cons rfl (RowR.cons rfl (RowR.cons rfl (RowR.cons rfl (RowR.cons rfl (RowR.cons rfl (RowR.nil))))))
 refine ae rfl (aR (T := Ty.i64) (rows := [[(.int .i64 0)], [(.int .i64 1)], [(.int .i64 2)], [(.int .i64 0)], [(.int .i64 1)], [(.int .i64 3)]]) (l := [0, 1, 2, 0, 1, 3]) rfl rfl rfl hR281 rfl rfl rfl rfl rfl rfl rfl rfl (fun v280 => ?_))
 refine Ea Z<|ab<|ac<|aa<|?_
 have hR283 : RowR Ty.u64 K [[(.int .u64 0)], [(.int .u64 1)], [(.int .u64 9223372036854775807)], [(.int .u64 9223372036854775806)], [(.int .u64 4611686018427387904)], [(.int .u64 5)]] [0, 1, 9223372036854775807, 9223372036854775806, 4611686018427387904, 5] := RowR.cons rfl (RowR.cons rfl (RowR.cons rfl (RowR.cons rfl (RowR.cons rfl (RowR.cons rfl (RowR.nil))))))
 refine ae rfl (aR (T := Ty.u64) (rows := [[(.int .u64 0)], [(.int .u64 1)], [(.int .u64 9223372036854775807)], [(.int .u64 9223372036854775806)], [(.int .u64 4611686018427387904)], [(.int .u64 5)]]) (l := [0, 1, 9223372036854775807, 9223372036854775806, 4611686018427387904, 5]) rfl rfl rfl hR283 rfl rfl rfl rfl rfl rfl rfl rfl (fun v282 => ?_))
 refine Ea Z<|ab<|ac<|aa<|?_
 refine ae rfl (ar (cs := (Config.cells (Config.mk [] [] 0) ak ak)) rfl rfl rfl rfl (fun b284 => ?_))
 refine ab ?_
 refine ao (fun env' K' G' => ∃ (i531 : Int) (i532 : Int) (v533 : SV) (l534 : List Int) (v536 : SV) (l537 : List Int), [(0, (.pointer (some ((⟨bp0, 0, none⟩ : Addr).add 0)))), (2, (.pointer (some ((⟨b279, 0, none⟩ : Addr).add 0)))), (5, (.pointer (some ((⟨b284, 0, none⟩ : Addr).add 0))))] = env' ∧ (.blk bp0 85 (Draw_Codes.cells (Draw_Codes.mk p0.list i531 i532) vp0_list)) :: (.blk b284 27 (Config.cells (Config.mk l534 l537 0) v533 v536)) :: (.blk b279 27 (Config.cells (Config.mk [] [] 0) ak ak)) :: (.tok 3 1 [(sv v533)]) :: (.tok 34 1 [(sv v536)]) :: G = G' ∧ jP p0 i531 i532 l534 l537 = some (y0, z0_at_, z0_value) ∧ Slr Ty.i64 K' (sv v533) l534 ∧ Slr Ty.u64 K' (sv v536) l537) ?_ ?_
 ·skip
  refine ac<|aa<|Ea Z<|ab<|av<|?_
  refine aN (fun n785 env' K' G' => ∃ (i776 : Int) (i777 : Int) (i778 : Int) (v779 : SV) (l780 : List Int) (v782 : SV) (l783 : List Int), [(0, (.pointer (some ((⟨bp0, 0, none⟩ : Addr).add 0)))), (2, (.pointer (some ((⟨b279, 0, none⟩ : Addr).add 0)))), (3, (sv v280)), (4, (sv v282)), (5, (.pointer (some ((⟨b284, 0, none⟩ : Addr).add 0)))), (6, (.int .i64 i776))] = env' ∧ (.blk bp0 85 (Draw_Codes.cells (Draw_Codes.mk p0.list i777 i778) vp0_list)) :: (.blk b284 27 (Config.cells (Config.mk l780 l783 0) v779 v782)) :: (.blk b279 27 (Config.cells (Config.mk [] [] 0) ak ak)) :: (.tok 3 1 [(sv v779)]) :: (.tok 34 1 [(sv v782)]) :: (.row (sv v282) 34 1 [[(.int .u64 0)], [(.int .u64 1)], [(.int .u64 9223372036854775807)], [(.int .u64 9223372036854775806)], [(.int .u64 4611686018427387904)], [(.int .u64 5)]].flatten) :: (.row (sv v280) 3 1 [[(.int .i64 0)], [(.int .i64 1)], [(.int .i64 2)], [(.int .i64 0)], [(.int .i64 1)], [(.int .i64 3)]].flatten) :: G = G' ∧ lp5 (jR p0) n785 i776 i777 i778 l780 l783 = some (y0, z0_at_, z0_value) ∧ Slr Ty.i64 K' (sv v779) l780 ∧ Slr Ty.u64 K' (sv v782) l783) BIG ?_ ?_
  ·skip
   refine Shift.nilTok1 3 1<|Shift.nilTok1 34 1<|Pu4<|Pu4<|Pu2<|Pu3<|Pu5<|Pu5<|Pu6<|Shift.done<|?_
   exact ⟨_, by exact ⟨rfl, rfl, rfl, rfl, rfl, rfl, trivial⟩, 0, p0.at_, p0.value, ak, ([] : List Int), ak, ([] : List Int), rfl, rfl, H, (Slr.nil Ty.i64 _), (Slr.nil Ty.u64 _)⟩
  rintro n785 _ K786 _ hK787 ⟨i776, i777, i778, v779, l780, v782, l783, rfl, rfl, H, hs781, hs784⟩
  obtain ⟨m788, k789, rfl, hkk790, H⟩ := pU H
  unfold jR at H
  refine ac<|ac<|aa<|Em Z<|Em Z<|?_
  obtain ⟨x796, x797, hx798, H⟩ := bD H
  have hs799 := (hp0_list).mono hK787
  refine ae rfl (Ek Tryd.call21 Z (ca bp0 (Draw_Codes.mk p0.list i777 i778) vp0_list 3 x796 x797 hx798 _ _ hs799) ?_)
  rintro _ _ _ - ⟨rfl, rfl, rfl⟩
  refine Ec Z<|ab<|?_
  refine ah rfl ?_ ?_
  ·intro h800
   have h800 := ax (h800)
   have H := ift h800 H
   refine am ?_
   refine ao (fun env' K' G' => ∃ (i900 : Int) (i901 : Int) (v902 : SV) (l903 : List Int) (v905 : SV) (l906 : List Int), [(0, (.pointer (some ((⟨bp0, 0, none⟩ : Addr).add 0)))), (2, (.pointer (some ((⟨b279, 0, none⟩ : Addr).add 0)))), (3, (sv v280)), (4, (sv v282)), (5, (.pointer (some ((⟨b284, 0, none⟩ : Addr).add 0)))), (6, (.int .i64 i776))] = env' ∧ (.blk bp0 85 (Draw_Codes.cells (Draw_Codes.mk p0.list i900 i901) vp0_list)) :: (.blk b284 27 (Config.cells (Config.mk l903 l906 0) v902 v905)) :: (.blk b279 27 (Config.cells (Config.mk [] [] 0) ak ak)) :: (.tok 3 1 [(sv v902)]) :: (.tok 34 1 [(sv v905)]) :: (.row (sv v282) 34 1 [[(.int .u64 0)], [(.int .u64 1)], [(.int .u64 9223372036854775807)], [(.int .u64 9223372036854775806)], [(.int .u64 4611686018427387904)], [(.int .u64 5)]].flatten) :: (.row (sv v280) 3 1 [[(.int .i64 0)], [(.int .i64 1)], [(.int .i64 2)], [(.int .i64 0)], [(.int .i64 1)], [(.int .i64 3)]].flatten) :: G = G' ∧ kq i776 p0 k789 i900 i901 l903 l906 = some (y0, z0_at_, z0_value) ∧ Slr Ty.i64 K' (sv v902) l903 ∧ Slr Ty.u64 K' (sv v905) l906) ?_ ?_
   ·skip
    refine av ?_
    refine ao (fun env' K' G' => ∃ (i951 : Int) (v952 : SV) (l953 : List Int), [(0, (.pointer (some ((⟨bp0, 0, none⟩ : Addr).add 0)))), (2, (.pointer (some ((⟨b279, 0, none⟩ : Addr).add 0)))), (3, (sv v280)), (4, (sv v282)), (5, (.pointer (some ((⟨b284, 0, none⟩ : Addr).add 0)))), (6, (.int .i64 i776))] = env' ∧ (.blk bp0 85 (Draw_Codes.cells (Draw_Codes.mk p0.list i951 ((Draw_Codes.mk p0.list x797 ((Draw_Codes.mk p0.list i777 i778).value)).value)) vp0_list)) :: (.blk b284 27 (Config.cells (Config.mk l953 l783 0) v952 v782)) :: (.blk b279 27 (Config.cells (Config.mk [] [] 0) ak ak)) :: (.tok 3 1 [(sv v952)]) :: (.tok 34 1 [(sv v782)]) :: (.row (sv v282) 34 1 [[(.int .u64 0)], [(.int .u64 1)], [(.int .u64 9223372036854775807)], [(.int .u64 9223372036854775806)], [(.int .u64 4611686018427387904)], [(.int .u64 5)]].flatten) :: (.row (sv v280) 3 1 [[(.int .i64 0)], [(.int .i64 1)], [(.int .i64 2)], [(.int .i64 0)], [(.int .i64 1)], [(.int .i64 3)]].flatten) :: G = G' ∧ jF i776 p0 x797 i777 i778 l783 k789 i951 l953 = some (y0, z0_at_, z0_value) ∧ Slr Ty.i64 K' (sv v952) l953) ?_ ?_
    ·skip
     obtain ⟨x955, x956, hx957, H⟩ := bD H
     obtain ⟨x958, hx959, H⟩ := bnd H
     obtain ⟨x966, hx967, H⟩ := bnd H
     refine aj [.blk b279 27 (Config.cells (Config.mk [] [] 0) ak ak), .tok 34 1 [(sv v782)], .row (sv v282) 34 1 [[(.int .u64 0)], [(.int .u64 1)], [(.int .u64 9223372036854775807)], [(.int .u64 9223372036854775806)], [(.int .u64 4611686018427387904)], [(.int .u64 5)]].flatten, .row (sv v280) 3 1 [[(.int .i64 0)], [(.int .i64 1)], [(.int .i64 2)], [(.int .i64 0)], [(.int .i64 1)], [(.int .i64 3)]].flatten] rfl (Inc.cons Mb2 (Inc.cons Mb4 (Inc.cons Mb5 (Inc.cons Mb6 Inc.nil))))<|JF 0 0 Z (by kernel_rfl)<|Jm 2 Z (by kernel_rfl)<|Jm 3 Z (by kernel_rfl)<|?_
     refine bm 1 4 (by kernel_rfl) ?_ ?_
     ·skip
      refine id (Jyq Z (aU (v := (sv v779)) rfl rfl rfl (Rb1 Z)) ⟨(Inc.cons Mb2 (Inc.cons Mb4 (Inc.cons Mb5 (Inc.cons Mb6 Inc.nil)))), ?_⟩)
      refine ai 4 (by kernel_rfl) (Jy Z ?_)
      refine Ek Tryd.call21 Z (ca bp0 (Draw_Codes.mk p0.list x797 ((Draw_Codes.mk p0.list i777 i778).value)) vp0_list 6 x955 x956 hx957 _ _ hs799) ?_
      rintro _ _ _ - ⟨rfl, rfl, rfl⟩
      refine ⟨(Inc.cons Mb2 (Inc.cons Mb4 (Inc.cons Mb5 (Inc.cons Mb6 Inc.nil)))), ?_⟩
      have hs972 := (hR281).mono hK787
      obtain ⟨r973, hq974, hr975⟩ := RowR.at hs972 hx959
      obtain rfl := hr975
      refine Jq 5 Z (by kernel_rfl) (aZ (T := Ty.i64) Mb3 hs972 hq974 (aD hx959).1 rfl rfl rfl rfl rfl)<|Jl 6 (.int .i64 x958) Z (by kernel_rfl) (be (T := Ty.i64) Mb3 hs972 hq974 rfl rfl)<|?_
      refine ai 7 (by kernel_rfl) (Jy Z ?_)
      have hR977 : RowR Ty.i64 K786 [[(.int .i64 x958)]] [x958] := RowR.cons rfl (RowR.nil)
      refine aR (T := Ty.i64) (rows := [[(.int .i64 x958)]]) (l := [x958]) rfl rfl rfl hR977 rfl rfl rfl rfl rfl rfl rfl rfl (fun v976 => ⟨(Inc.cons Mb3 (Inc.cons Mb5 (Inc.cons Mb6 (Inc.cons Mb7 Inc.nil)))), ?_⟩)
      refine ai 8 (by kernel_rfl) (Jy Z ?_)
      refine aG (T := Ty.i64) (bytes := 8) (q := 0) rfl rfl rfl hs781 Mb4 rfl (SrcT.row Mb0 hR977 rfl) hx967 rfl rfl rfl rfl rfl rfl rfl rfl (fun v978 K979 hK980 hs981 => ⟨_, (.there (.there (.there (.there .here)))), ⟨(Inc.cons Mb3 (Inc.cons Mb5 (Inc.cons Mb6 (Inc.cons Mb7 Inc.nil)))), ?_⟩⟩)
      refine Aw.shift (Re0 (Shift.done ⟨(Inc.cons Mb2 (Inc.cons Mb4 (Inc.cons Mb5 (Inc.cons Mb6 Inc.nil)))), ?_⟩))
      refine JF 9 0 Z (by kernel_rfl) ?_
      refine ai 10 (by kernel_rfl) (Jy Z ?_)
      refine ag (vs := [(sv v978)]) (all' := (Config.cells (Config.mk x966 l783 0) v978 v782)) rfl rfl rfl rfl rfl (.there .here) rfl rfl rfl ⟨(Inc.cons Mb2 (Inc.cons Mb4 (Inc.cons Mb5 (Inc.cons Mb6 Inc.nil)))), ?_⟩
      refine au (by kernel_rfl)<|Pu6<|Pu6<|Pu6<|Pu6<|Pu6<|Pu6<|Pu6<|Shift.done<|?_
      exact ⟨_, by exact ⟨rfl, rfl, rfl, rfl, rfl, rfl, trivial⟩, x956, v978, x966, rfl, rfl, H, hs981⟩
     ·skip
      refine id (Jy Z ?_)
      refine Ek Tryd.call21 Z (ca bp0 (Draw_Codes.mk p0.list x797 ((Draw_Codes.mk p0.list i777 i778).value)) vp0_list 6 x955 x956 hx957 _ _ hs799) ?_
      rintro _ _ _ - ⟨rfl, rfl, rfl⟩
      refine ⟨(Inc.cons Mb2 (Inc.cons Mb4 (Inc.cons Mb5 (Inc.cons Mb6 Inc.nil)))), ?_⟩
      have hs982 := (hR281).mono hK787
      obtain ⟨r983, hq984, hr985⟩ := RowR.at hs982 hx959
      obtain rfl := hr985
      refine Jq 5 Z (by kernel_rfl) (aZ (T := Ty.i64) Mb3 hs982 hq984 (aD hx959).1 rfl rfl rfl rfl rfl)<|Jl 6 (.int .i64 x958) Z (by kernel_rfl) (be (T := Ty.i64) Mb3 hs982 hq984 rfl rfl)<|?_
      refine bm 1 7 (by kernel_rfl) ?_ ?_
      ·skip
       refine id (Jyq Z (aU (v := (sv v779)) rfl rfl rfl (Rb1 Z)) ⟨(Inc.cons Mb2 (Inc.cons Mb4 (Inc.cons Mb5 (Inc.cons Mb6 Inc.nil)))), ?_⟩)
       refine ai 7 (by kernel_rfl) (Jy Z ?_)
       have hR987 : RowR Ty.i64 K786 [[(.int .i64 x958)]] [x958] := RowR.cons rfl (RowR.nil)
       refine aR (T := Ty.i64) (rows := [[(.int .i64 x958)]]) (l := [x958]) rfl rfl rfl hR987 rfl rfl rfl rfl rfl rfl rfl rfl (fun v986 => ⟨(Inc.cons Mb3 (Inc.cons Mb5 (Inc.cons Mb6 (Inc.cons Mb7 Inc.nil)))), ?_⟩)
       refine ai 8 (by kernel_rfl) (Jy Z ?_)
       refine aG (T := Ty.i64) (bytes := 8) (q := 0) rfl rfl rfl hs781 Mb4 rfl (SrcT.row Mb0 hR987 rfl) hx967 rfl rfl rfl rfl rfl rfl rfl rfl (fun v988 K989 hK990 hs991 => ⟨_, (.there (.there (.there (.there .here)))), ⟨(Inc.cons Mb3 (Inc.cons Mb5 (Inc.cons Mb6 (Inc.cons Mb7 Inc.nil)))), ?_⟩⟩)
       refine Aw.shift (Re0 (Shift.done ⟨(Inc.cons Mb2 (Inc.cons Mb4 (Inc.cons Mb5 (Inc.cons Mb6 Inc.nil)))), ?_⟩))
       refine JF 9 0 Z (by kernel_rfl) ?_
       refine ai 10 (by kernel_rfl) (Jy Z ?_)
       refine ag (vs := [(sv v988)]) (all' := (Config.cells (Config.mk x966 l783 0) v988 v782)) rfl rfl rfl rfl rfl (.there .here) rfl rfl rfl ⟨(Inc.cons Mb2 (Inc.cons Mb4 (Inc.cons Mb5 (Inc.cons Mb6 Inc.nil)))), ?_⟩
       refine au (by kernel_rfl)<|Pu6<|Pu6<|Pu6<|Pu6<|Pu6<|Pu6<|Pu6<|Shift.done<|?_
       exact ⟨_, by exact ⟨rfl, rfl, rfl, rfl, rfl, rfl, trivial⟩, x956, v988, x966, rfl, rfl, H, hs991⟩
      ·skip
       refine id (Jy Z ?_)
       have hR993 : RowR Ty.i64 K786 [[(.int .i64 x958)]] [x958] := RowR.cons rfl (RowR.nil)
       refine aR (T := Ty.i64) (rows := [[(.int .i64 x958)]]) (l := [x958]) rfl rfl rfl hR993 rfl rfl rfl rfl rfl rfl rfl rfl (fun v992 => ⟨(Inc.cons Mb3 (Inc.cons Mb5 (Inc.cons Mb6 (Inc.cons Mb7 Inc.nil)))), ?_⟩)
       refine ai 1 (by kernel_rfl) (Jyq Z (aU (v := (sv v779)) rfl rfl rfl (Rb2 Z)) ⟨(Inc.cons Mb3 (Inc.cons Mb5 (Inc.cons Mb6 (Inc.cons Mb7 Inc.nil)))), ?_⟩)
       refine ai 8 (by kernel_rfl) (Jy Z ?_)
       refine aG (T := Ty.i64) (bytes := 8) (q := 0) rfl rfl rfl hs781 Mb4 rfl (SrcT.row Mb0 hR993 rfl) hx967 rfl rfl rfl rfl rfl rfl rfl rfl (fun v994 K995 hK996 hs997 => ⟨_, (.there (.there (.there (.there .here)))), ⟨(Inc.cons Mb3 (Inc.cons Mb5 (Inc.cons Mb6 (Inc.cons Mb7 Inc.nil)))), ?_⟩⟩)
       refine Aw.shift (Re0 (Shift.done ⟨(Inc.cons Mb2 (Inc.cons Mb4 (Inc.cons Mb5 (Inc.cons Mb6 Inc.nil)))), ?_⟩))
       refine JF 9 0 Z (by kernel_rfl) ?_
       refine ai 10 (by kernel_rfl) (Jy Z ?_)
       refine ag (vs := [(sv v994)]) (all' := (Config.cells (Config.mk x966 l783 0) v994 v782)) rfl rfl rfl rfl rfl (.there .here) rfl rfl rfl ⟨(Inc.cons Mb2 (Inc.cons Mb4 (Inc.cons Mb5 (Inc.cons Mb6 Inc.nil)))), ?_⟩
       refine au (by kernel_rfl)<|Pu6<|Pu6<|Pu6<|Pu6<|Pu6<|Pu6<|Pu6<|Shift.done<|?_
       exact ⟨_, by exact ⟨rfl, rfl, rfl, rfl, rfl, rfl, trivial⟩, x956, v994, x966, rfl, rfl, H, hs997⟩
    rintro _ K998 _ hK999 ⟨i951, v952, l953, rfl, rfl, H, hs954⟩
    unfold jF at H
    obtain ⟨x1000, x1001, hx1002, H⟩ := bD H
    obtain ⟨x1004, hx1005, H⟩ := bnd H
    obtain ⟨x1012, hx1013, H⟩ := bnd H
    refine aj [.blk b279 27 (Config.cells (Config.mk [] [] 0) ak ak), .tok 3 1 [(sv v952)], .row (sv v282) 34 1 [[(.int .u64 0)], [(.int .u64 1)], [(.int .u64 9223372036854775807)], [(.int .u64 9223372036854775806)], [(.int .u64 4611686018427387904)], [(.int .u64 5)]].flatten, .row (sv v280) 3 1 [[(.int .i64 0)], [(.int .i64 1)], [(.int .i64 2)], [(.int .i64 0)], [(.int .i64 1)], [(.int .i64 3)]].flatten] rfl (Inc.cons Mb2 (Inc.cons Mb3 (Inc.cons Mb5 (Inc.cons Mb6 Inc.nil))))<|JF 0 1 Z (by kernel_rfl)<|Jm 2 Z (by kernel_rfl)<|Jm 3 Z (by kernel_rfl)<|?_
    refine bm 1 4 (by kernel_rfl) ?_ ?_
    ·skip
     refine id (Jyq Z (aU (v := (sv v782)) rfl rfl rfl (Rb1 Z)) ⟨(Inc.cons Mb2 (Inc.cons Mb3 (Inc.cons Mb5 (Inc.cons Mb6 Inc.nil)))), ?_⟩)
     refine ai 4 (by kernel_rfl) (Jy Z ?_)
     have hs1019 := (hs799).mono hK999
     refine Ek Tryd.call21 Z (ca bp0 (Draw_Codes.mk p0.list i951 ((Draw_Codes.mk p0.list x797 ((Draw_Codes.mk p0.list i777 i778).value)).value)) vp0_list 6 x1000 x1001 hx1002 _ _ hs1019) ?_
     rintro _ _ _ - ⟨rfl, rfl, rfl⟩
     refine ⟨(Inc.cons Mb2 (Inc.cons Mb3 (Inc.cons Mb5 (Inc.cons Mb6 Inc.nil)))), ?_⟩
     have hs1020 := ((hR283).mono hK787).mono hK999
     obtain ⟨r1021, hq1022, hr1023⟩ := RowR.at hs1020 hx1005
     obtain rfl := hr1023
     refine Jq 5 Z (by kernel_rfl) (aZ (T := Ty.u64) Mb2 hs1020 hq1022 (aD hx1005).1 rfl rfl rfl rfl rfl)<|Jl 6 (.int .u64 x1004) Z (by kernel_rfl) (be (T := Ty.u64) Mb2 hs1020 hq1022 rfl rfl)<|?_
     refine ai 7 (by kernel_rfl) (Jy Z ?_)
     have hR1025 : RowR Ty.u64 K998 [[(.int .u64 x1004)]] [x1004] := RowR.cons rfl (RowR.nil)
     refine aR (T := Ty.u64) (rows := [[(.int .u64 x1004)]]) (l := [x1004]) rfl rfl rfl hR1025 rfl rfl rfl rfl rfl rfl rfl rfl (fun v1024 => ⟨(Inc.cons Mb3 (Inc.cons Mb4 (Inc.cons Mb6 (Inc.cons Mb7 Inc.nil)))), ?_⟩)
     refine ai 8 (by kernel_rfl) (Jy Z ?_)
     have hs1030 := (hs784).mono hK999
     refine aG (T := Ty.u64) (bytes := 8) (q := 0) rfl rfl rfl hs1030 Mb5 rfl (SrcT.row Mb0 hR1025 rfl) hx1013 rfl rfl rfl rfl rfl rfl rfl rfl (fun v1026 K1027 hK1028 hs1029 => ⟨_, (.there (.there (.there (.there (.there .here))))), ⟨(Inc.cons Mb3 (Inc.cons Mb4 (Inc.cons Mb6 (Inc.cons Mb7 Inc.nil)))), ?_⟩⟩)
     refine Aw.shift (Re0 (Shift.done ⟨(Inc.cons Mb2 (Inc.cons Mb3 (Inc.cons Mb5 (Inc.cons Mb6 Inc.nil)))), ?_⟩))
     refine JF 9 1 Z (by kernel_rfl) ?_
     refine ai 10 (by kernel_rfl) (Jy Z ?_)
     refine ag (vs := [(sv v1026)]) (all' := (Config.cells (Config.mk l953 x1012 0) v952 v1026)) rfl rfl rfl rfl rfl (.there .here) rfl rfl rfl ⟨(Inc.cons Mb2 (Inc.cons Mb3 (Inc.cons Mb5 (Inc.cons Mb6 Inc.nil)))), ?_⟩
     refine au (by kernel_rfl)<|Pu6<|Pu6<|Pu6<|Pu6<|Pu6<|Pu6<|Pu6<|?_
     have hs1031 := (hs954).mono hK1028
     exact Shift.done ⟨_, by exact ⟨rfl, rfl, rfl, rfl, rfl, rfl, trivial⟩, x1001, ((Draw_Codes.mk p0.list i951 ((Draw_Codes.mk p0.list x797 ((Draw_Codes.mk p0.list i777 i778).value)).value)).value), v952, l953, v1026, x1012, rfl, rfl, H, hs1031, hs1029⟩
    ·skip
     refine id (Jy Z ?_)
     have hs1032 := (hs799).mono hK999
     refine Ek Tryd.call21 Z (ca bp0 (Draw_Codes.mk p0.list i951 ((Draw_Codes.mk p0.list x797 ((Draw_Codes.mk p0.list i777 i778).value)).value)) vp0_list 6 x1000 x1001 hx1002 _ _ hs1032) ?_
     rintro _ _ _ - ⟨rfl, rfl, rfl⟩
     refine ⟨(Inc.cons Mb2 (Inc.cons Mb3 (Inc.cons Mb5 (Inc.cons Mb6 Inc.nil)))), ?_⟩
     have hs1033 := ((hR283).mono hK787).mono hK999
     obtain ⟨r1034, hq1035, hr1036⟩ := RowR.at hs1033 hx1005
     obtain rfl := hr1036
     refine Jq 5 Z (by kernel_rfl) (aZ (T := Ty.u64) Mb2 hs1033 hq1035 (aD hx1005).1 rfl rfl rfl rfl rfl)<|Jl 6 (.int .u64 x1004) Z (by kernel_rfl) (be (T := Ty.u64) Mb2 hs1033 hq1035 rfl rfl)<|?_
     refine bm 1 7 (by kernel_rfl) ?_ ?_
     ·skip
      refine id (Jyq Z (aU (v := (sv v782)) rfl rfl rfl (Rb1 Z)) ⟨(Inc.cons Mb2 (Inc.cons Mb3 (Inc.cons Mb5 (Inc.cons Mb6 Inc.nil)))), ?_⟩)
      refine ai 7 (by kernel_rfl) (Jy Z ?_)
      have hR1038 : RowR Ty.u64 K998 [[(.int .u64 x1004)]] [x1004] := RowR.cons rfl (RowR.nil)
      refine aR (T := Ty.u64) (rows := [[(.int .u64 x1004)]]) (l := [x1004]) rfl rfl rfl hR1038 rfl rfl rfl rfl rfl rfl rfl rfl (fun v1037 => ⟨(Inc.cons Mb3 (Inc.cons Mb4 (Inc.cons Mb6 (Inc.cons Mb7 Inc.nil)))), ?_⟩)
      refine ai 8 (by kernel_rfl) (Jy Z ?_)
      have hs1043 := (hs784).mono hK999
      refine aG (T := Ty.u64) (bytes := 8) (q := 0) rfl rfl rfl hs1043 Mb5 rfl (SrcT.row Mb0 hR1038 rfl) hx1013 rfl rfl rfl rfl rfl rfl rfl rfl (fun v1039 K1040 hK1041 hs1042 => ⟨_, (.there (.there (.there (.there (.there .here))))), ⟨(Inc.cons Mb3 (Inc.cons Mb4 (Inc.cons Mb6 (Inc.cons Mb7 Inc.nil)))), ?_⟩⟩)
      refine Aw.shift (Re0 (Shift.done ⟨(Inc.cons Mb2 (Inc.cons Mb3 (Inc.cons Mb5 (Inc.cons Mb6 Inc.nil)))), ?_⟩))
      refine JF 9 1 Z (by kernel_rfl) ?_
      refine ai 10 (by kernel_rfl) (Jy Z ?_)
      refine ag (vs := [(sv v1039)]) (all' := (Config.cells (Config.mk l953 x1012 0) v952 v1039)) rfl rfl rfl rfl rfl (.there .here) rfl rfl rfl ⟨(Inc.cons Mb2 (Inc.cons Mb3 (Inc.cons Mb5 (Inc.cons Mb6 Inc.nil)))), ?_⟩
      refine au (by kernel_rfl)<|Pu6<|Pu6<|Pu6<|Pu6<|Pu6<|Pu6<|Pu6<|?_
      have hs1044 := (hs954).mono hK1041
      exact Shift.done ⟨_, by exact ⟨rfl, rfl, rfl, rfl, rfl, rfl, trivial⟩, x1001, ((Draw_Codes.mk p0.list i951 ((Draw_Codes.mk p0.list x797 ((Draw_Codes.mk p0.list i777 i778).value)).value)).value), v952, l953, v1039, x1012, rfl, rfl, H, hs1044, hs1042⟩
     ·skip
      refine id (Jy Z ?_)
      have hR1046 : RowR Ty.u64 K998 [[(.int .u64 x1004)]] [x1004] := RowR.cons rfl (RowR.nil)
      refine aR (T := Ty.u64) (rows := [[(.int .u64 x1004)]]) (l := [x1004]) rfl rfl rfl hR1046 rfl rfl rfl rfl rfl rfl rfl rfl (fun v1045 => ⟨(Inc.cons Mb3 (Inc.cons Mb4 (Inc.cons Mb6 (Inc.cons Mb7 Inc.nil)))), ?_⟩)
      refine ai 1 (by kernel_rfl) (Jyq Z (aU (v := (sv v782)) rfl rfl rfl (Rb2 Z)) ⟨(Inc.cons Mb3 (Inc.cons Mb4 (Inc.cons Mb6 (Inc.cons Mb7 Inc.nil)))), ?_⟩)
      refine ai 8 (by kernel_rfl) (Jy Z ?_)
      have hs1051 := (hs784).mono hK999
      refine aG (T := Ty.u64) (bytes := 8) (q := 0) rfl rfl rfl hs1051 Mb5 rfl (SrcT.row Mb0 hR1046 rfl) hx1013 rfl rfl rfl rfl rfl rfl rfl rfl (fun v1047 K1048 hK1049 hs1050 => ⟨_, (.there (.there (.there (.there (.there .here))))), ⟨(Inc.cons Mb3 (Inc.cons Mb4 (Inc.cons Mb6 (Inc.cons Mb7 Inc.nil)))), ?_⟩⟩)
      refine Aw.shift (Re0 (Shift.done ⟨(Inc.cons Mb2 (Inc.cons Mb3 (Inc.cons Mb5 (Inc.cons Mb6 Inc.nil)))), ?_⟩))
      refine JF 9 1 Z (by kernel_rfl) ?_
      refine ai 10 (by kernel_rfl) (Jy Z ?_)
      refine ag (vs := [(sv v1047)]) (all' := (Config.cells (Config.mk l953 x1012 0) v952 v1047)) rfl rfl rfl rfl rfl (.there .here) rfl rfl rfl ⟨(Inc.cons Mb2 (Inc.cons Mb3 (Inc.cons Mb5 (Inc.cons Mb6 Inc.nil)))), ?_⟩
      refine au (by kernel_rfl)<|Pu6<|Pu6<|Pu6<|Pu6<|Pu6<|Pu6<|Pu6<|?_
      have hs1052 := (hs954).mono hK1049
      exact Shift.done ⟨_, by exact ⟨rfl, rfl, rfl, rfl, rfl, rfl, trivial⟩, x1001, ((Draw_Codes.mk p0.list i951 ((Draw_Codes.mk p0.list x797 ((Draw_Codes.mk p0.list i777 i778).value)).value)).value), v952, l953, v1047, x1012, rfl, rfl, H, hs1052, hs1050⟩
   rintro _ K1053 _ hK1054 ⟨i900, i901, v902, l903, v905, l906, rfl, rfl, H, hs904, hs907⟩
   unfold kq at H
   refine aa<|Em Z<|Er (wI (i776 + 1)) Z<|Ea Z<|ab<|Pu6<|Pu6<|Pu6<|Pu6<|Pu6<|?_
   refine Pu6<|Pu6<|Shift.done<|?_
   exact ⟨_, by exact ⟨rfl, rfl, rfl, rfl, rfl, rfl, trivial⟩, _, Nat.lt_succ_self _, (wI (i776 + 1)), i900, i901, v902, l903, v905, l906, rfl, rfl, (hkk790 ▸ H), hs904, hs907⟩
  ·intro h800
   have h800 := ay (h800)
   have H := ap h800 H
   refine aP<|Pu4<|Pu4<|Pu4<|Pu4<|Pu4<|Re5<|Re5<|Shift.done<|?_
   exact ⟨_, by exact ⟨rfl, rfl, rfl, trivial⟩, x797, ((Draw_Codes.mk p0.list i777 i778).value), v779, l780, v782, l783, rfl, rfl, H, hs781, hs784⟩
 rintro _ K1055 _ hK1056 ⟨i531, i532, v533, l534, v536, l537, rfl, rfl, H, hs535, hs538⟩
 unfold jP at H
 refine ac<|aa<|Em Z<|?_
 obtain ⟨x1057, x1058, hx1059, H⟩ := bD H
 have hs1060 := (hp0_list).mono hK1056
 refine ae rfl (Ek Tryd.call21 Z (ca bp0 (Draw_Codes.mk p0.list i531 i532) vp0_list 3 x1057 x1058 hx1059 _ _ hs1060) ?_)
 rintro _ _ _ - ⟨rfl, rfl, rfl⟩
 refine Er (wI (2 + x1057)) Z<|EF 2 Z<|?_
 refine ae rfl (ag (vs := [(.int .i64 (wI (2 + x1057)))]) (all' := (Config.cells (Config.mk l534 l537 (wI (2 + x1057))) v533 v536)) rfl rfl rfl rfl rfl (.there .here) rfl rfl rfl ?_)
 refine ab<|ac<|aa<|EL 3 (Config.cells (Config.mk l534 l537 (wI (2 + x1057))) v533 v536) Z (Rb1 Z)<|?_
 refine ae rfl (ag (vs := (Config.cells (Config.mk l534 l537 (wI (2 + x1057))) v533 v536)) (all' := (Config.cells (Config.mk l534 l537 (wI (2 + x1057))) v533 v536)) rfl rfl rfl rfl rfl (.there (.there .here)) rfl rfl rfl ?_)
 refine ab<|an<|?_
 obtain ⟨ey0, ez0_at_, ez0_value⟩ := cx H
 subst y0 z0_at_ z0_value
 refine ⟨(by first | exact .inl rfl | exact .inr rfl), [(.agg (Config.cells (Config.mk l534 l537 (wI (2 + x1057))) v533 v536).toArray)], ⟨(.agg (Config.cells (Config.mk l534 l537 (wI (2 + x1057))) v533 v536).toArray), _, rfl, ⟨_, 3, (Config.cells (Config.mk l534 l537 (wI (2 + x1057))) v533 v536), rfl, rfl, rfl, rfl, ⟨rfl, Rb2 Z⟩, rfl⟩, rfl⟩, ?_⟩
 refine Pu4<|Pu4<|Pu2<|Re3<|Re3<|Shift.done<|?_
 exact ⟨v533, v536, rfl, rfl, hs535, hs538⟩

set_option maxHeartbeats 1000000 in
theorem cW (bp0 : Nat) (p0 : Draw_Codes) (vp0_list : SV) (p1 : Config) (vp1_capacities : SV) (vp1_starts : SV) (y0 : Int) (z0_at_ : Int) (z0_value : Int) (H : dG p0 p1 = some (y0, z0_at_, z0_value)) (K : Kp) (G : List Ent) (hp0_list : Slr Ty.u8 K (sv vp0_list) p0.list) (hp1_capacities : Slr Ty.i64 K (sv vp1_capacities) p1.capacities) (hp1_starts : Slr Ty.u64 K (sv vp1_starts) p1.starts) :
  Fc Tryd.prog 58 #[(.pointer (some ((⟨bp0, 0, none⟩ : Addr).add 0))), (.agg (Config.cells p1 vp1_capacities vp1_starts).toArray)] K ((.blk bp0 85 (Draw_Codes.cells p0 vp0_list)) :: G) (fun v K' G' => v = (.int .i64 y0) ∧ K = K' ∧ (.blk bp0 85 (Draw_Codes.cells (Draw_Codes.mk p0.list z0_at_ z0_value) vp0_list)) :: G = G') := by
 refine aA Tryd.func58 rfl Tryd.ntmps58 Tryd.results58 rfl ?_
 unfold dG at H
 refine ac<|aa<|?_
 refine ae rfl (aB (cs := (Config.cells p1 vp1_capacities vp1_starts)) rfl rfl rfl (fun b13 => ?_))
 refine Ea Z<|ab<|ac<|ac<|aa<|Em Z<|?_
 obtain ⟨x21, x22, hx23, H⟩ := bD H
 refine Ow.shift (Pu1 (Shift.done ?_))
 refine ae rfl (Ek Tryd.call21 Z (ca bp0 p0 vp0_list 16 x21 x22 hx23 _ _ hp0_list) ?_)
 rintro _ _ _ - ⟨rfl, rfl, rfl⟩
 refine Ec Z<|ab<|?_
 refine ah rfl ?_ ?_
 ·intro h24
  have h24 := ax (h24)
  have H := ift h24 H
  refine ac<|aa<|Em Z<|?_
  obtain ⟨x25, x26, hx27, H⟩ := bD H
  refine ae rfl (Ek Tryd.call21 Z (ca bp0 (Draw_Codes.mk p0.list x22 p0.value) vp0_list 9 x25 x26 hx27 _ _ hp0_list) ?_)
  rintro _ _ _ - ⟨rfl, rfl, rfl⟩
  refine Er (wI (x25 - 1)) Z<|Ea Z<|ab<|an<|?_
  obtain ⟨ey0, ez0_at_, ez0_value⟩ := cx H
  subst y0 z0_at_ z0_value
  refine ⟨(by first | exact .inl rfl | exact .inr rfl), [(.int .i64 (wI (x25 - 1)))], ⟨(.int .i64 (wI (x25 - 1))), _, rfl, rfl, rfl⟩, ?_⟩
  refine Re1<|Shift.done<|?_
  exact ⟨rfl, rfl, rfl⟩
 ·intro h24
  have h24 := ay (h24)
  have H := ap h24 H
  refine am<|ac<|ac<|aa<|EF 0 Z<|El (sv vp1_capacities) Z (Rb1 Z)<|Eq Z (aO (T := Ty.i64) hp1_capacities rfl rfl)<|Ec Z<|ab<|?_
  refine ah rfl ?_ ?_
  ·intro h29
   have h29 := ax (h29)
   have H := ift h29 H
   refine ac<|aa<|Ea Z<|ab<|an<|?_
   obtain ⟨ey0, ez0_at_, ez0_value⟩ := cx H
   subst y0 z0_at_ z0_value
   refine ⟨(by first | exact .inl rfl | exact .inr rfl), [(.int .i64 (-1))], ⟨(.int .i64 (-1)), _, rfl, rfl, rfl⟩, ?_⟩
   refine Re1<|Shift.done<|?_
   exact ⟨rfl, rfl, rfl⟩
  ·intro h29
   have h29 := ay (h29)
   have H := ap h29 H
   refine am<|ac<|aa<|Em Z<|EF 0 Z<|El (sv vp1_capacities) Z (Rb1 Z)<|Eq Z (aO (T := Ty.i64) hp1_capacities rfl rfl)<|?_
   obtain ⟨x30, x31, hx32, H⟩ := bD H
   refine ae rfl (Ek Tryd.call21 Z (ca bp0 (Draw_Codes.mk p0.list x22 p0.value) vp0_list (p1.capacities.length : Int) x30 x31 hx32 _ _ hp0_list) ?_)
   rintro _ _ _ - ⟨rfl, rfl, rfl⟩
   refine Ea Z<|ab<|an<|?_
   obtain ⟨ey0, ez0_at_, ez0_value⟩ := cx H
   subst y0 z0_at_ z0_value
   refine ⟨(by first | exact .inl rfl | exact .inr rfl), [(.int .i64 x30)], ⟨(.int .i64 x30), _, rfl, rfl, rfl⟩, ?_⟩
   refine Re1<|Shift.done<|?_
   exact ⟨rfl, rfl, rfl⟩

set_option maxHeartbeats 1000000 in
theorem lh (bp0 : Nat) (p0 : Draw_Codes) (vp0_list : SV) (y0 : Int) (z0_value : Int) (H : gt p0 = some (y0, z0_value)) (K : Kp) (G : List Ent) (hp0_list : Slr Ty.u8 K (sv vp0_list) p0.list) :
  Fc Tryd.prog 59 #[(.pointer (some ((⟨bp0, 0, none⟩ : Addr).add 0)))] K ((.blk bp0 85 (Draw_Codes.cells p0 vp0_list)) :: G) (fun v K' G' => v = (.int .u64 y0) ∧ K = K' ∧ (.blk bp0 85 (Draw_Codes.cells (Draw_Codes.mk p0.list p0.at_ z0_value) vp0_list)) :: G = G') := by
 refine aA Tryd.func59 rfl Tryd.ntmps59 Tryd.results59 rfl ?_
 unfold gt at H
 refine ac<|aa<|Ea Z<|ab<|ac<|aa<|Em Z<|Eq Z (aM rfl)<|EF 2 Z<|El (.int .u64 p0.value) Z (Rb0 Z)<|?_
 refine Er (wU (p0.value + 1)) Z<|Eq Z (aM rfl)<|EF 2 Z<|?_
 refine ae rfl (ag (vs := [(.int .u64 (wU (p0.value + 1)))]) (all' := (Draw_Codes.cells (Draw_Codes.mk p0.list p0.at_ (wU (p0.value + 1))) vp0_list)) rfl rfl rfl rfl rfl .here rfl rfl rfl ?_)
 refine ab<|ac<|aa<|Em Z<|Eq Z (aM rfl)<|EF 2 Z<|El (.int .u64 (wU (p0.value + 1))) Z (Rb0 Z)<|Ea Z<|ab<|an<|?_
 obtain ⟨ey0, ez0_value⟩ := bo H
 subst y0 z0_value
 refine ⟨(by first | exact .inl rfl | exact .inr rfl), [(.int .u64 (wU (p0.value + 1)))], ⟨(.int .u64 (wU (p0.value + 1))), _, rfl, rfl, rfl⟩, ?_⟩
 exact Shift.done ⟨rfl, rfl, rfl⟩

set_option maxHeartbeats 1000000 in
theorem jA (bp0 : Nat) (p0 : Draw_Codes) (vp0_list : SV) (p1 : Op) (vp1_cases : SV) (vp1_draws : SV) (y0 : Op) (z0_at_ : Int) (z0_value : Int) (H : eN p0 p1 = some (y0, z0_at_, z0_value)) (K : Kp) (G : List Ent) (hp0_list : Slr Ty.u8 K (sv vp0_list) p0.list) (hp1_cases : Slr aF K (sv vp1_cases) p1.cases) (hp1_draws : Slr Ty.i64 K (sv vp1_draws) p1.draws) :
  Fc Tryd.prog 57 #[(.pointer (some ((⟨bp0, 0, none⟩ : Addr).add 0))), (.agg (Op.cells p1 vp1_cases vp1_draws).toArray)] K ((.blk bp0 85 (Draw_Codes.cells p0 vp0_list)) :: G) (fun v K' G' => ∃ (wy0_cases : SV) (wy0_draws : SV), v = (.agg (Op.cells y0 wy0_cases wy0_draws).toArray) ∧ K = K' ∧ (.blk bp0 85 (Draw_Codes.cells (Draw_Codes.mk p0.list z0_at_ z0_value) vp0_list)) :: G = G' ∧ Slr aF K' (sv wy0_cases) y0.cases ∧ Slr Ty.i64 K' (sv wy0_draws) y0.draws) := by
 refine aA Tryd.func57 rfl Tryd.ntmps57 Tryd.results57 rfl ?_
 unfold eN at H
 refine ac<|aa<|?_
 refine ae rfl (aB (cs := (Op.cells p1 vp1_cases vp1_draws)) rfl rfl rfl (fun b32 => ?_))
 refine ae rfl (ar (cs := (Op.cells (Op.mk 0 0 0 0 0 [] []) ak ak)) rfl rfl rfl rfl (fun b33 => ?_))
 refine ab ?_
 refine ao (fun env' K' G' => ∃ (i54 : Int) (i55 : Int) (i56 : Int) (i57 : Int) (i58 : Int) (i59 : Int) (i60 : Int) (i61 : Int) (i62 : Int), [(3, (.pointer (some ((⟨b32, 0, none⟩ : Addr).add 0)))), (4, (.pointer (some ((⟨b33, 0, none⟩ : Addr).add 0))))] = env' ∧ K = K' ∧ (.blk bp0 85 (Draw_Codes.cells (Draw_Codes.mk p0.list i54 i55) vp0_list)) :: (.blk b33 43 (Op.cells (Op.mk i56 i56 i56 i57 i56 [] []) ak ak)) :: (.blk b32 43 (Op.cells (Op.mk i58 i59 i60 i61 i62 p1.cases p1.draws) vp1_cases vp1_draws)) :: G = G' ∧ eK p0 p1 i54 i55 i56 i57 i58 i59 i60 i61 i62 = some (y0, z0_at_, z0_value)) ?_ ?_
 ·skip
  refine ac<|aa<|Em Z<|?_
  obtain ⟨x63, x64, hx65, H⟩ := bD H
  refine Ow.shift (Pu2 (Shift.done ?_))
  refine ae rfl (Ek Tryd.call21 Z (ca bp0 p0 vp0_list 8 x63 x64 hx65 _ _ hp0_list) ?_)
  rintro _ _ _ - ⟨rfl, rfl, rfl⟩
  refine ab<|av<|?_
  refine ao (fun env' K' G' => ∃ (t67 : Bool), [(0, (.pointer (some ((⟨bp0, 0, none⟩ : Addr).add 0)))), (3, (.pointer (some ((⟨b32, 0, none⟩ : Addr).add 0)))), (4, (.pointer (some ((⟨b33, 0, none⟩ : Addr).add 0)))), (6, (.int .i64 x63)), (7, (.bool t67))] = env' ∧ K = K' ∧ (.blk bp0 85 (Draw_Codes.cells (Draw_Codes.mk p0.list x64 p0.value) vp0_list)) :: (.blk b33 43 (Op.cells (Op.mk 0 0 0 0 0 [] []) ak ak)) :: (.blk b32 43 (Op.cells p1 vp1_cases vp1_draws)) :: G = G' ∧ iP x63 p0 x64 p1 t67 = some (y0, z0_at_, z0_value)) ?_ ?_
  ·skip
   refine ac<|aa<|Ec Z<|Ea Z<|ab<|?_
   refine ah rfl ?_ ?_
   ·intro h68
    have h68 := ax (h68)
    have H := ift h68 H
    refine am<|Pu2<|Pu2<|Pu2<|Shift.done<|?_
    exact ⟨_, by exact ⟨rfl, rfl, rfl, rfl, rfl, trivial⟩, (dcd (x63 = 5)), rfl, rfl, rfl, H⟩
   ·intro h68
    have h68 := ay (h68)
    have H := ap h68 H
    refine aa<|Ec Z<|Ea Z<|ab<|Pu2<|Pu2<|Pu2<|Shift.done<|?_
    exact ⟨_, by exact ⟨rfl, rfl, rfl, rfl, rfl, trivial⟩, (dcd (x63 = 6)), rfl, rfl, rfl, H⟩
  rintro _ _ _ - ⟨t67, rfl, rfl, rfl, H⟩
  unfold iP at H
  refine ah rfl ?_ ?_
  ·intro h69
   have H := ift h69 H
   refine aa<|EF 1 Z<|?_
   refine ae rfl (ag (vs := [(.int .i64 1)]) (all' := (Op.cells (Op.mk p1.kind 1 p1.channel p1.value p1.deadline p1.cases p1.draws) vp1_cases vp1_draws)) rfl rfl rfl rfl rfl (.there (.there .here)) rfl rfl rfl ?_)
   refine ab<|Pu2<|Pu2<|Pu2<|Shift.done<|?_
   exact ⟨_, by exact ⟨rfl, rfl, trivial⟩, x64, p0.value, 0, 0, p1.kind, 1, p1.channel, p1.value, p1.deadline, rfl, rfl, rfl, H⟩
  ·intro h69
   have H := ap (btf h69) H
   refine ac<|aa<|Ec Z<|Ea Z<|ab<|?_
   refine ah rfl ?_ ?_
   ·intro h70
    have h70 := ax (h70)
    have H := ift h70 H
    refine aa<|Em Z<|?_
    obtain ⟨x71, x72, hx73, H⟩ := bD H
    refine ae rfl (Ek Tryd.call21 Z (ca bp0 (Draw_Codes.mk p0.list x64 p0.value) vp0_list 5 x71 x72 hx73 _ _ hp0_list) ?_)
    rintro _ _ _ - ⟨rfl, rfl, rfl⟩
    refine EF 1 Z ?_
    refine ae rfl (ag (vs := [(.int .i64 2)]) (all' := (Op.cells (Op.mk p1.kind 2 p1.channel p1.value p1.deadline p1.cases p1.draws) vp1_cases vp1_draws)) rfl rfl rfl rfl rfl (.there (.there .here)) rfl rfl rfl ?_)
    refine EF 4 Z ?_
    refine ae rfl (ag (vs := [(.int .i64 x71)]) (all' := (Op.cells (Op.mk p1.kind 2 p1.channel p1.value x71 p1.cases p1.draws) vp1_cases vp1_draws)) rfl rfl rfl rfl rfl (.there (.there .here)) rfl rfl rfl ?_)
    refine ab<|Pu2<|Pu2<|Pu2<|Shift.done<|?_
    exact ⟨_, by exact ⟨rfl, rfl, trivial⟩, x72, ((Draw_Codes.mk p0.list x64 p0.value).value), 0, 0, p1.kind, 2, p1.channel, p1.value, x71, rfl, rfl, rfl, H⟩
   ·intro h70
    have h70 := ay (h70)
    have H := ap h70 H
    refine am<|Pu2<|Pu2<|Pu2<|Shift.done<|?_
    exact ⟨_, by exact ⟨rfl, rfl, trivial⟩, x64, p0.value, 0, 0, p1.kind, p1.mode, p1.channel, p1.value, p1.deadline, rfl, rfl, rfl, H⟩
 rintro _ _ _ - ⟨i54, i55, i56, i57, i58, i59, i60, i61, i62, rfl, rfl, rfl, H⟩
 unfold eK at H
 refine ac<|aa<|EL 7 (Op.cells (Op.mk i58 i59 i60 i61 i62 p1.cases p1.draws) vp1_cases vp1_draws) Z (Rb2 Z)<|?_
 refine ae rfl (ag (vs := (Op.cells (Op.mk i58 i59 i60 i61 i62 p1.cases p1.draws) vp1_cases vp1_draws)) (all' := (Op.cells (Op.mk i58 i59 i60 i61 i62 p1.cases p1.draws) vp1_cases vp1_draws)) rfl rfl rfl rfl rfl (.there .here) rfl rfl rfl ?_)
 refine ab<|an<|?_
 obtain ⟨ey0, ez0_at_, ez0_value⟩ := cx H
 subst y0 z0_at_ z0_value
 refine ⟨(by first | exact .inl rfl | exact .inr rfl), [(.agg (Op.cells (Op.mk i58 i59 i60 i61 i62 p1.cases p1.draws) vp1_cases vp1_draws).toArray)], ⟨(.agg (Op.cells (Op.mk i58 i59 i60 i61 i62 p1.cases p1.draws) vp1_cases vp1_draws).toArray), _, rfl, ⟨_, 7, (Op.cells (Op.mk i58 i59 i60 i61 i62 p1.cases p1.draws) vp1_cases vp1_draws), rfl, rfl, rfl, rfl, ⟨rfl, Rb1 Z⟩, rfl⟩, rfl⟩, ?_⟩
 refine Re1<|Re1<|Shift.done<|?_
 exact ⟨vp1_cases, vp1_draws, rfl, rfl, rfl, hp1_cases, hp1_draws⟩

set_option maxHeartbeats 1000000 in
theorem pG (bp0 : Nat) (p0 : Draw_Codes) (vp0_list : SV) (p1 : Config) (vp1_capacities : SV) (vp1_starts : SV) (p2 : Int) (y0 : Op) (z0_at_ : Int) (z0_value : Int) (H : gF p0 p1 p2 = some (y0, z0_at_, z0_value)) (K : Kp) (G : List Ent) (hp0_list : Slr Ty.u8 K (sv vp0_list) p0.list) (hp1_capacities : Slr Ty.i64 K (sv vp1_capacities) p1.capacities) (hp1_starts : Slr Ty.u64 K (sv vp1_starts) p1.starts) :
  Fc Tryd.prog 60 #[(.pointer (some ((⟨bp0, 0, none⟩ : Addr).add 0))), (.agg (Config.cells p1 vp1_capacities vp1_starts).toArray), (.int .i64 p2)] K ((.blk bp0 85 (Draw_Codes.cells p0 vp0_list)) :: G) (fun v K' G' => ∃ (wy0_cases : SV) (wy0_draws : SV), v = (.agg (Op.cells y0 wy0_cases wy0_draws).toArray) ∧ (.blk bp0 85 (Draw_Codes.cells (Draw_Codes.mk p0.list z0_at_ z0_value) vp0_list)) :: G = G' ∧ Slr aF K' (sv wy0_cases) y0.cases ∧ Slr Ty.i64 K' (sv wy0_draws) y0.draws) := by
 refine aA Tryd.func60 rfl Tryd.ntmps60 Tryd.results60 rfl ?_
 unfold gF at H
 refine ac<|aa<|?_
 refine ae rfl (aB (cs := (Config.cells p1 vp1_capacities vp1_starts)) rfl rfl rfl (fun b241 => ?_))
 refine ae rfl (ar (cs := (Op.cells (Op.mk 0 0 0 0 0 [] []) ak ak)) rfl rfl rfl rfl (fun b242 => ?_))
 refine ab<|ac<|aa<|Eq Z (az (cs := (Op.cells (Op.mk 4 0 0 0 0 [] []) ak ak)) rfl rfl rfl rfl rfl rfl)<|?_
 refine ae rfl (ar (cs := (Op.cells (Op.mk 0 0 0 0 0 [] []) ak ak)) rfl rfl rfl rfl (fun b243 => ?_))
 refine ae rfl (ag (vs := (Op.cells (Op.mk 4 0 0 0 0 [] []) ak ak)) (all' := (Op.cells (Op.mk 4 0 0 0 0 [] []) ak ak)) rfl rfl rfl rfl rfl .here rfl rfl rfl ?_)
 refine ab ?_
 refine ao (fun env' K' G' => ∃ (i442 : Int) (i443 : Int) (v444 : SV) (l445 : List Case) (v447 : SV) (l448 : List Int), [(0, (.pointer (some ((⟨bp0, 0, none⟩ : Addr).add 0)))), (6, (.pointer (some ((⟨b242, 0, none⟩ : Addr).add 0)))), (7, (.pointer (some ((⟨b243, 0, none⟩ : Addr).add 0))))] = env' ∧ (.blk bp0 85 (Draw_Codes.cells (Draw_Codes.mk p0.list i442 i443) vp0_list)) :: (.blk b243 43 (Op.cells (Op.mk 4 0 0 0 0 l445 l448) v444 v447)) :: (.blk b242 43 (Op.cells (Op.mk 0 0 0 0 0 [] []) ak ak)) :: (.tok 92 3 [(sv v444)]) :: (.tok 3 1 [(sv v447)]) :: G = G' ∧ hE p0 i442 i443 l445 l448 = some (y0, z0_at_, z0_value) ∧ Slr aF K' (sv v444) l445 ∧ Slr Ty.i64 K' (sv v447) l448) ?_ ?_
 ·skip
  refine ac<|aa<|Ea Z<|ab<|av<|?_
  refine aN (fun n648 env' K' G' => ∃ (i639 : Int) (i640 : Int) (i641 : Int) (v642 : SV) (l643 : List Case) (v645 : SV) (l646 : List Int), [(0, (.pointer (some ((⟨bp0, 0, none⟩ : Addr).add 0)))), (2, (.int .i64 p2)), (4, (.pointer (some ((⟨b241, 0, none⟩ : Addr).add 0)))), (6, (.pointer (some ((⟨b242, 0, none⟩ : Addr).add 0)))), (7, (.pointer (some ((⟨b243, 0, none⟩ : Addr).add 0)))), (8, (.int .i64 i639))] = env' ∧ (.blk bp0 85 (Draw_Codes.cells (Draw_Codes.mk p0.list i640 i641) vp0_list)) :: (.blk b243 43 (Op.cells (Op.mk 4 0 0 0 0 l643 l646) v642 v645)) :: (.blk b242 43 (Op.cells (Op.mk 0 0 0 0 0 [] []) ak ak)) :: (.blk b241 27 (Config.cells p1 vp1_capacities vp1_starts)) :: (.tok 92 3 [(sv v642)]) :: (.tok 3 1 [(sv v645)]) :: G = G' ∧ lp5 (gP p2 p0 p1) n648 i639 i640 i641 l643 l646 = some (y0, z0_at_, z0_value) ∧ Slr aF K' (sv v642) l643 ∧ Slr Ty.i64 K' (sv v645) l646) BIG ?_ ?_
  ·skip
   refine Shift.nilTok1 92 3<|Shift.nilTok1 3 1<|Pu1<|Pu4<|Pu4<|Pu4<|Pu5<|Shift.done<|?_
   exact ⟨_, by exact ⟨rfl, rfl, rfl, rfl, rfl, rfl, trivial⟩, 0, p0.at_, p0.value, ak, ([] : List Case), ak, ([] : List Int), rfl, rfl, H, (Slr.nil aF _), (Slr.nil Ty.i64 _)⟩
  rintro n648 _ K649 _ hK650 ⟨i639, i640, i641, v642, l643, v645, l646, rfl, rfl, H, hs644, hs647⟩
  obtain ⟨m651, k652, rfl, hkk653, H⟩ := pU H
  unfold gP at H
  refine ac<|ac<|aa<|Em Z<|Em Z<|Em Z<|Er (wI (p2 + 1)) Z<|?_
  obtain ⟨x659, x660, hx661, H⟩ := bD H
  have hs662 := (hp0_list).mono hK650
  refine ae rfl (Ek Tryd.call21 Z (ca bp0 (Draw_Codes.mk p0.list i640 i641) vp0_list (wI (p2 + 1)) x659 x660 hx661 _ _ hs662) ?_)
  rintro _ _ _ - ⟨rfl, rfl, rfl⟩
  refine Ec Z<|ab<|?_
  refine ah rfl ?_ ?_
  ·intro h663
   have h663 := ax (h663)
   have H := ift h663 H
   refine am ?_
   refine ao (fun env' K' G' => ∃ (i739 : Int) (i740 : Int) (v741 : SV) (l742 : List Case) (v744 : SV) (l745 : List Int), [(0, (.pointer (some ((⟨bp0, 0, none⟩ : Addr).add 0)))), (2, (.int .i64 p2)), (4, (.pointer (some ((⟨b241, 0, none⟩ : Addr).add 0)))), (6, (.pointer (some ((⟨b242, 0, none⟩ : Addr).add 0)))), (7, (.pointer (some ((⟨b243, 0, none⟩ : Addr).add 0)))), (8, (.int .i64 i639))] = env' ∧ (.blk bp0 85 (Draw_Codes.cells (Draw_Codes.mk p0.list i739 i740) vp0_list)) :: (.blk b243 43 (Op.cells (Op.mk 4 0 0 0 0 l742 l745) v741 v744)) :: (.blk b242 43 (Op.cells (Op.mk 0 0 0 0 0 [] []) ak ak)) :: (.blk b241 27 (Config.cells p1 vp1_capacities vp1_starts)) :: (.tok 92 3 [(sv v741)]) :: (.tok 3 1 [(sv v744)]) :: G = G' ∧ gh p2 i639 p0 p1 k652 i739 i740 l742 l745 = some (y0, z0_at_, z0_value) ∧ Slr aF K' (sv v741) l742 ∧ Slr Ty.i64 K' (sv v744) l745) ?_ ?_
   ·skip
    refine av ?_
    refine ao (fun env' K' G' => ∃ (b766 : Nat) (i767 : Int) (i768 : Int) (t769 : Bool) (i770 : Int), [(0, (.pointer (some ((⟨bp0, 0, none⟩ : Addr).add 0)))), (2, (.int .i64 p2)), (4, (.pointer (some ((⟨b241, 0, none⟩ : Addr).add 0)))), (6, (.pointer (some ((⟨b242, 0, none⟩ : Addr).add 0)))), (7, (.pointer (some ((⟨b243, 0, none⟩ : Addr).add 0)))), (8, (.int .i64 i639)), (9, (.pointer (some ((⟨b766, 0, none⟩ : Addr).add 0))))] = env' ∧ K649 = K' ∧ (.blk bp0 85 (Draw_Codes.cells (Draw_Codes.mk p0.list i767 i768) vp0_list)) :: (.blk b766 92 (Case.cells (Case.mk t769 i770 0))) :: (.blk b243 43 (Op.cells (Op.mk 4 0 0 0 0 l643 l646) v642 v645)) :: (.blk b242 43 (Op.cells (Op.mk 0 0 0 0 0 [] []) ak ak)) :: (.blk b241 27 (Config.cells p1 vp1_capacities vp1_starts)) :: (.tok 92 3 [(sv v642)]) :: (.tok 3 1 [(sv v645)]) :: G = G' ∧ gv p2 i639 p0 l643 l646 p1 k652 i767 i768 t769 i770 = some (y0, z0_at_, z0_value)) ?_ ?_
    ·skip
     obtain ⟨x771, x772, hx773, H⟩ := bD H
     obtain ⟨x774, x775, x776, hx777, H⟩ := c8 H
     refine aj [.blk b243 43 (Op.cells (Op.mk 4 0 0 0 0 l643 l646) v642 v645), .blk b242 43 (Op.cells (Op.mk 0 0 0 0 0 [] []) ak ak), .blk b241 27 (Config.cells p1 vp1_capacities vp1_starts), .tok 92 3 [(sv v642)], .tok 3 1 [(sv v645)]] rfl (Inc.cons Mb1 (Inc.cons Mb2 (Inc.cons Mb3 (Inc.cons Mb4 (Inc.cons Mb5 Inc.nil)))))<|Jm 0 Z (by kernel_rfl)<|Jm 3 Z (by kernel_rfl)<|JL 4 3 (Config.cells p1 vp1_capacities vp1_starts) Z (by kernel_rfl) (Rb2 Z)<|?_
     refine bm 1 7 (by kernel_rfl) ?_ ?_
     ·skip
      refine id (Jy Z ?_)
      refine Ek Tryd.call21 Z (ca bp0 (Draw_Codes.mk p0.list x660 ((Draw_Codes.mk p0.list i640 i641).value)) vp0_list 2 x771 x772 hx773 _ _ hs662) ?_
      rintro _ _ _ - ⟨rfl, rfl, rfl⟩
      refine ⟨(Inc.cons Mb1 (Inc.cons Mb2 (Inc.cons Mb3 (Inc.cons Mb4 (Inc.cons Mb5 Inc.nil))))), ?_⟩
      refine Jc 2 Z (by kernel_rfl) ?_
      refine bm 5 7 (by kernel_rfl) ?_ ?_
      ·skip
       refine id (Jy Z ?_)
       have hs781 := (hp1_capacities).mono hK650
       have hs782 := (hp1_starts).mono hK650
       refine Ek Tryd.call58 Z (cW bp0 (Draw_Codes.mk p0.list x772 ((Draw_Codes.mk p0.list x660 ((Draw_Codes.mk p0.list i640 i641).value)).value)) vp0_list p1 vp1_capacities vp1_starts x774 x775 x776 hx777 _ _ hs662 hs781 hs782) ?_
       rintro _ _ _ - ⟨rfl, rfl, rfl⟩
       refine ⟨(Inc.cons Mb1 (Inc.cons Mb2 (Inc.cons Mb3 (Inc.cons Mb4 (Inc.cons Mb5 Inc.nil))))), ?_⟩
       refine Jq 6 Z (by kernel_rfl) (az (cs := (Case.cells (Case.mk (dcd (x771 = 1)) x774 0))) rfl rfl rfl rfl rfl rfl) ?_
       refine ai 7 (by kernel_rfl) (Jy Z ?_)
       refine ar (cs := (Case.cells (Case.mk false 0 0))) rfl rfl rfl rfl (fun b783 => ⟨(Inc.cons Mb2 (Inc.cons Mb3 (Inc.cons Mb4 (Inc.cons Mb5 (Inc.cons Mb6 Inc.nil))))), ?_⟩)
       refine ai 8 (by kernel_rfl) (Jy Z ?_)
       refine ag (vs := (Case.cells (Case.mk (dcd (x771 = 1)) x774 0))) (all' := (Case.cells (Case.mk (dcd (x771 = 1)) x774 0))) rfl rfl rfl rfl rfl .here rfl rfl rfl ⟨(Inc.cons Mb2 (Inc.cons Mb3 (Inc.cons Mb4 (Inc.cons Mb5 (Inc.cons Mb6 Inc.nil))))), ?_⟩
       refine au (by kernel_rfl)<|Pu6<|Pu6<|Pu6<|Pu6<|Pu6<|Pu5<|Pu6<|Shift.done<|?_
       exact ⟨_, by exact ⟨rfl, rfl, rfl, rfl, rfl, rfl, rfl, trivial⟩, b783, x775, x776, (dcd (x771 = 1)), x774, rfl, rfl, rfl, H⟩
      ·skip
       refine id (Jy Z ?_)
       refine ar (cs := (Case.cells (Case.mk false 0 0))) rfl rfl rfl rfl (fun b784 => ⟨(Inc.cons Mb2 (Inc.cons Mb3 (Inc.cons Mb4 (Inc.cons Mb5 (Inc.cons Mb6 Inc.nil))))), ?_⟩)
       refine ai 5 (by kernel_rfl) (Jy Z ?_)
       refine OpW.shift (Pu1 (Shift.done ?_))
       have hs785 := (hp1_capacities).mono hK650
       have hs786 := (hp1_starts).mono hK650
       refine Ek Tryd.call58 Z (cW bp0 (Draw_Codes.mk p0.list x772 ((Draw_Codes.mk p0.list x660 ((Draw_Codes.mk p0.list i640 i641).value)).value)) vp0_list p1 vp1_capacities vp1_starts x774 x775 x776 hx777 _ _ hs662 hs785 hs786) ?_
       rintro _ _ _ - ⟨rfl, rfl, rfl⟩
       refine ⟨(Inc.cons Mb2 (Inc.cons Mb3 (Inc.cons Mb4 (Inc.cons Mb5 (Inc.cons Mb6 Inc.nil))))), ?_⟩
       refine Jq 6 Z (by kernel_rfl) (az (cs := (Case.cells (Case.mk (dcd (x771 = 1)) x774 0))) rfl rfl rfl rfl rfl rfl) ?_
       refine ai 8 (by kernel_rfl) (Jy Z ?_)
       refine ag (vs := (Case.cells (Case.mk (dcd (x771 = 1)) x774 0))) (all' := (Case.cells (Case.mk (dcd (x771 = 1)) x774 0))) rfl rfl rfl rfl rfl (.there .here) rfl rfl rfl ⟨(Inc.cons Mb2 (Inc.cons Mb3 (Inc.cons Mb4 (Inc.cons Mb5 (Inc.cons Mb6 Inc.nil))))), ?_⟩
       refine au (by kernel_rfl)<|Pu6<|Pu6<|Pu6<|Pu6<|Pu6<|Pu6<|Pu6<|Shift.done<|?_
       exact ⟨_, by exact ⟨rfl, rfl, rfl, rfl, rfl, rfl, rfl, trivial⟩, b784, x775, x776, (dcd (x771 = 1)), x774, rfl, rfl, rfl, H⟩
     ·skip
      refine id (Jy Z ?_)
      refine ar (cs := (Case.cells (Case.mk false 0 0))) rfl rfl rfl rfl (fun b787 => ⟨(Inc.cons Mb2 (Inc.cons Mb3 (Inc.cons Mb4 (Inc.cons Mb5 (Inc.cons Mb6 Inc.nil))))), ?_⟩)
      refine ai 1 (by kernel_rfl) (Jy Z ?_)
      refine OpW.shift (Pu1 (Shift.done ?_))
      refine Ek Tryd.call21 Z (ca bp0 (Draw_Codes.mk p0.list x660 ((Draw_Codes.mk p0.list i640 i641).value)) vp0_list 2 x771 x772 hx773 _ _ hs662) ?_
      rintro _ _ _ - ⟨rfl, rfl, rfl⟩
      refine ⟨(Inc.cons Mb2 (Inc.cons Mb3 (Inc.cons Mb4 (Inc.cons Mb5 (Inc.cons Mb6 Inc.nil))))), ?_⟩
      refine Jc 2 Z (by kernel_rfl) ?_
      refine ai 5 (by kernel_rfl) (Jy Z ?_)
      have hs788 := (hp1_capacities).mono hK650
      have hs789 := (hp1_starts).mono hK650
      refine Ek Tryd.call58 Z (cW bp0 (Draw_Codes.mk p0.list x772 ((Draw_Codes.mk p0.list x660 ((Draw_Codes.mk p0.list i640 i641).value)).value)) vp0_list p1 vp1_capacities vp1_starts x774 x775 x776 hx777 _ _ hs662 hs788 hs789) ?_
      rintro _ _ _ - ⟨rfl, rfl, rfl⟩
      refine ⟨(Inc.cons Mb2 (Inc.cons Mb3 (Inc.cons Mb4 (Inc.cons Mb5 (Inc.cons Mb6 Inc.nil))))), ?_⟩
      refine Jq 6 Z (by kernel_rfl) (az (cs := (Case.cells (Case.mk (dcd (x771 = 1)) x774 0))) rfl rfl rfl rfl rfl rfl) ?_
      refine ai 8 (by kernel_rfl) (Jy Z ?_)
      refine ag (vs := (Case.cells (Case.mk (dcd (x771 = 1)) x774 0))) (all' := (Case.cells (Case.mk (dcd (x771 = 1)) x774 0))) rfl rfl rfl rfl rfl (.there .here) rfl rfl rfl ⟨(Inc.cons Mb2 (Inc.cons Mb3 (Inc.cons Mb4 (Inc.cons Mb5 (Inc.cons Mb6 Inc.nil))))), ?_⟩
      refine au (by kernel_rfl)<|Pu6<|Pu6<|Pu6<|Pu6<|Pu6<|Pu6<|Pu6<|Shift.done<|?_
      exact ⟨_, by exact ⟨rfl, rfl, rfl, rfl, rfl, rfl, rfl, trivial⟩, b787, x775, x776, (dcd (x771 = 1)), x774, rfl, rfl, rfl, H⟩
    rintro _ _ _ - ⟨b766, i767, i768, t769, i770, rfl, rfl, rfl, H⟩
    unfold gv at H
    refine ao (fun env' K' G' => ∃ (i794 : Int) (i795 : Int) (i796 : Int), [(0, (.pointer (some ((⟨bp0, 0, none⟩ : Addr).add 0)))), (2, (.int .i64 p2)), (4, (.pointer (some ((⟨b241, 0, none⟩ : Addr).add 0)))), (6, (.pointer (some ((⟨b242, 0, none⟩ : Addr).add 0)))), (7, (.pointer (some ((⟨b243, 0, none⟩ : Addr).add 0)))), (8, (.int .i64 i639)), (9, (.pointer (some ((⟨b766, 0, none⟩ : Addr).add 0))))] = env' ∧ K649 = K' ∧ (.blk bp0 85 (Draw_Codes.cells (Draw_Codes.mk p0.list i794 i795) vp0_list)) :: (.blk b766 92 (Case.cells (Case.mk t769 i770 i796))) :: (.blk b243 43 (Op.cells (Op.mk 4 0 0 0 0 l643 l646) v642 v645)) :: (.blk b242 43 (Op.cells (Op.mk 0 0 0 0 0 [] []) ak ak)) :: (.blk b241 27 (Config.cells p1 vp1_capacities vp1_starts)) :: (.tok 92 3 [(sv v642)]) :: (.tok 3 1 [(sv v645)]) :: G = G' ∧ eR p2 i639 p0 t769 i770 l643 l646 p1 k652 i794 i795 i796 = some (y0, z0_at_, z0_value)) ?_ ?_
    ·skip
     refine ac<|aa<|EF 0 Z<|El (.bool t769) Z (Rb1 Z)<|ab<|?_
     refine ah rfl ?_ ?_
     ·intro h797
      have H := ift h797 H
      refine aa<|Em Z<|?_
      obtain ⟨x798, x799, hx800, H⟩ := bD H
      refine ae rfl (Ek Tryd.call59 Z (lh bp0 (Draw_Codes.mk p0.list i767 i768) vp0_list x798 x799 hx800 _ _ hs662) ?_)
      rintro _ _ _ - ⟨rfl, rfl, rfl⟩
      refine EF 2 Z ?_
      refine ae rfl (ag (vs := [(.int .u64 x798)]) (all' := (Case.cells (Case.mk t769 i770 x798))) rfl rfl rfl rfl rfl (.there .here) rfl rfl rfl ?_)
      refine ab<|Pu6<|Pu6<|Pu6<|Pu6<|Pu6<|Pu6<|Pu6<|Shift.done<|?_
      exact ⟨_, by exact ⟨rfl, rfl, rfl, rfl, rfl, rfl, rfl, trivial⟩, ((Draw_Codes.mk p0.list i767 i768).at_), x799, x798, rfl, rfl, rfl, H⟩
     ·intro h797
      have H := ap (btf h797) H
      refine am<|Pu6<|Pu6<|Pu6<|Pu6<|Pu6<|Pu6<|Pu6<|Shift.done<|?_
      exact ⟨_, by exact ⟨rfl, rfl, rfl, rfl, rfl, rfl, rfl, trivial⟩, i767, i768, 0, rfl, rfl, rfl, H⟩
    rintro _ _ _ - ⟨i794, i795, i796, rfl, rfl, rfl, H⟩
    unfold eR at H
    refine ac<|aa<|EF 5 Z<|El (sv v642) Z (Rb2 Z)<|EL 3 (Case.cells (Case.mk t769 i770 i796)) Z (Rb1 Z)<|?_
    have hR802 : RowR aF K649 [(Case.cells (Case.mk t769 i770 i796))] [(Case.mk t769 i770 i796)] := RowR.cons rfl (RowR.nil)
    refine ae rfl (aR (T := aF) (rows := [(Case.cells (Case.mk t769 i770 i796))]) (l := [(Case.mk t769 i770 i796)]) rfl rfl rfl hR802 rfl rfl rfl rfl rfl rfl rfl rfl (fun v801 => ?_))
    obtain ⟨x803, hx804, H⟩ := bnd H
    refine ae rfl (aG (T := aF) (bytes := 24) (q := 0) rfl rfl rfl hs644 Mb6 rfl (SrcT.row Mb0 hR802 rfl) hx804 rfl rfl rfl rfl rfl rfl rfl rfl (fun v805 K806 hK807 hs808 => ⟨_, (.there (.there (.there (.there (.there (.there .here)))))), ?_⟩))
    refine Ow.shift (Re0 (Shift.done ?_))
    refine EF 5 Z ?_
    refine ae rfl (ag (vs := [(sv v805)]) (all' := (Op.cells (Op.mk 4 0 0 0 0 x803 l646) v805 v645)) rfl rfl rfl rfl rfl (.there (.there .here)) rfl rfl rfl ?_)
    refine ab ?_
    obtain ⟨x809, x810, hx811, H⟩ := bD H
    obtain ⟨x815, hx816, H⟩ := bnd H
    refine aj [.blk b766 92 (Case.cells (Case.mk t769 i770 i796)), .blk b242 43 (Op.cells (Op.mk 0 0 0 0 0 [] []) ak ak), .blk b241 27 (Config.cells p1 vp1_capacities vp1_starts), .tok 92 3 [(sv v805)]] rfl (Inc.cons Mb1 (Inc.cons Mb3 (Inc.cons Mb4 (Inc.cons Mb5 Inc.nil))))<|JF 0 6 Z (by kernel_rfl)<|Jm 2 Z (by kernel_rfl)<|Jm 3 Z (by kernel_rfl)<|Jr 4 (wI (i639 + 1)) Z (by kernel_rfl)<|?_
    refine bm 1 5 (by kernel_rfl) ?_ ?_
    ·skip
     refine id (Jyq Z (aU (v := (sv v645)) rfl rfl rfl (Rb2 Z)) ⟨(Inc.cons Mb1 (Inc.cons Mb3 (Inc.cons Mb4 (Inc.cons Mb5 Inc.nil)))), ?_⟩)
     refine ai 5 (by kernel_rfl) (Jy Z ?_)
     have hs822 := (hs662).mono hK807
     refine Ek Tryd.call21 Z (ca bp0 (Draw_Codes.mk p0.list i794 i795) vp0_list (wI (i639 + 1)) x809 x810 hx811 _ _ hs822) ?_
     rintro _ _ _ - ⟨rfl, rfl, rfl⟩
     refine ⟨(Inc.cons Mb1 (Inc.cons Mb3 (Inc.cons Mb4 (Inc.cons Mb5 Inc.nil)))), ?_⟩
     refine ai 6 (by kernel_rfl) (Jy Z ?_)
     have hR824 : RowR Ty.i64 K806 [[(.int .i64 x809)]] [x809] := RowR.cons rfl (RowR.nil)
     refine aR (T := Ty.i64) (rows := [[(.int .i64 x809)]]) (l := [x809]) rfl rfl rfl hR824 rfl rfl rfl rfl rfl rfl rfl rfl (fun v823 => ⟨(Inc.cons Mb2 (Inc.cons Mb4 (Inc.cons Mb5 (Inc.cons Mb6 Inc.nil)))), ?_⟩)
     refine ai 7 (by kernel_rfl) (Jy Z ?_)
     have hs829 := (hs647).mono hK807
     refine aG (T := Ty.i64) (bytes := 8) (q := 0) rfl rfl rfl hs829 Mb7 rfl (SrcT.row Mb0 hR824 rfl) hx816 rfl rfl rfl rfl rfl rfl rfl rfl (fun v825 K826 hK827 hs828 => ⟨_, (.there (.there (.there (.there (.there (.there (.there .here))))))), ⟨(Inc.cons Mb2 (Inc.cons Mb4 (Inc.cons Mb5 (Inc.cons Mb6 Inc.nil)))), ?_⟩⟩)
     refine Aw.shift (Re0 (Shift.done ⟨(Inc.cons Mb1 (Inc.cons Mb3 (Inc.cons Mb4 (Inc.cons Mb5 Inc.nil)))), ?_⟩))
     refine JF 8 6 Z (by kernel_rfl) ?_
     refine ai 9 (by kernel_rfl) (Jy Z ?_)
     refine ag (vs := [(sv v825)]) (all' := (Op.cells (Op.mk 4 0 0 0 0 x803 x815) v805 v825)) rfl rfl rfl rfl rfl (.there (.there .here)) rfl rfl rfl ⟨(Inc.cons Mb1 (Inc.cons Mb3 (Inc.cons Mb4 (Inc.cons Mb5 Inc.nil)))), ?_⟩
     refine au (by kernel_rfl)<|Pu6<|Pu6<|Pu6<|Pu6<|Pu6<|Pu5<|Re6<|?_
     have hs830 := (hs808).mono hK827
     exact Shift.done ⟨_, by exact ⟨rfl, rfl, rfl, rfl, rfl, rfl, trivial⟩, x810, ((Draw_Codes.mk p0.list i794 i795).value), v805, x803, v825, x815, rfl, rfl, H, hs830, hs828⟩
    ·skip
     refine id (Jy Z ?_)
     have hs831 := (hs662).mono hK807
     refine Ek Tryd.call21 Z (ca bp0 (Draw_Codes.mk p0.list i794 i795) vp0_list (wI (i639 + 1)) x809 x810 hx811 _ _ hs831) ?_
     rintro _ _ _ - ⟨rfl, rfl, rfl⟩
     refine ⟨(Inc.cons Mb1 (Inc.cons Mb3 (Inc.cons Mb4 (Inc.cons Mb5 Inc.nil)))), ?_⟩
     refine bm 1 6 (by kernel_rfl) ?_ ?_
     ·skip
      refine id (Jyq Z (aU (v := (sv v645)) rfl rfl rfl (Rb2 Z)) ⟨(Inc.cons Mb1 (Inc.cons Mb3 (Inc.cons Mb4 (Inc.cons Mb5 Inc.nil)))), ?_⟩)
      refine ai 6 (by kernel_rfl) (Jy Z ?_)
      have hR833 : RowR Ty.i64 K806 [[(.int .i64 x809)]] [x809] := RowR.cons rfl (RowR.nil)
      refine aR (T := Ty.i64) (rows := [[(.int .i64 x809)]]) (l := [x809]) rfl rfl rfl hR833 rfl rfl rfl rfl rfl rfl rfl rfl (fun v832 => ⟨(Inc.cons Mb2 (Inc.cons Mb4 (Inc.cons Mb5 (Inc.cons Mb6 Inc.nil)))), ?_⟩)
      refine ai 7 (by kernel_rfl) (Jy Z ?_)
      have hs838 := (hs647).mono hK807
      refine aG (T := Ty.i64) (bytes := 8) (q := 0) rfl rfl rfl hs838 Mb7 rfl (SrcT.row Mb0 hR833 rfl) hx816 rfl rfl rfl rfl rfl rfl rfl rfl (fun v834 K835 hK836 hs837 => ⟨_, (.there (.there (.there (.there (.there (.there (.there .here))))))), ⟨(Inc.cons Mb2 (Inc.cons Mb4 (Inc.cons Mb5 (Inc.cons Mb6 Inc.nil)))), ?_⟩⟩)
      refine Aw.shift (Re0 (Shift.done ⟨(Inc.cons Mb1 (Inc.cons Mb3 (Inc.cons Mb4 (Inc.cons Mb5 Inc.nil)))), ?_⟩))
      refine JF 8 6 Z (by kernel_rfl) ?_
      refine ai 9 (by kernel_rfl) (Jy Z ?_)
      refine ag (vs := [(sv v834)]) (all' := (Op.cells (Op.mk 4 0 0 0 0 x803 x815) v805 v834)) rfl rfl rfl rfl rfl (.there (.there .here)) rfl rfl rfl ⟨(Inc.cons Mb1 (Inc.cons Mb3 (Inc.cons Mb4 (Inc.cons Mb5 Inc.nil)))), ?_⟩
      refine au (by kernel_rfl)<|Pu6<|Pu6<|Pu6<|Pu6<|Pu6<|Pu5<|Re6<|?_
      have hs839 := (hs808).mono hK836
      exact Shift.done ⟨_, by exact ⟨rfl, rfl, rfl, rfl, rfl, rfl, trivial⟩, x810, ((Draw_Codes.mk p0.list i794 i795).value), v805, x803, v834, x815, rfl, rfl, H, hs839, hs837⟩
     ·skip
      refine id (Jy Z ?_)
      have hR841 : RowR Ty.i64 K806 [[(.int .i64 x809)]] [x809] := RowR.cons rfl (RowR.nil)
      refine aR (T := Ty.i64) (rows := [[(.int .i64 x809)]]) (l := [x809]) rfl rfl rfl hR841 rfl rfl rfl rfl rfl rfl rfl rfl (fun v840 => ⟨(Inc.cons Mb2 (Inc.cons Mb4 (Inc.cons Mb5 (Inc.cons Mb6 Inc.nil)))), ?_⟩)
      refine ai 1 (by kernel_rfl) (Jyq Z (aU (v := (sv v645)) rfl rfl rfl (Rb3 Z)) ⟨(Inc.cons Mb2 (Inc.cons Mb4 (Inc.cons Mb5 (Inc.cons Mb6 Inc.nil)))), ?_⟩)
      refine ai 7 (by kernel_rfl) (Jy Z ?_)
      have hs846 := (hs647).mono hK807
      refine aG (T := Ty.i64) (bytes := 8) (q := 0) rfl rfl rfl hs846 Mb7 rfl (SrcT.row Mb0 hR841 rfl) hx816 rfl rfl rfl rfl rfl rfl rfl rfl (fun v842 K843 hK844 hs845 => ⟨_, (.there (.there (.there (.there (.there (.there (.there .here))))))), ⟨(Inc.cons Mb2 (Inc.cons Mb4 (Inc.cons Mb5 (Inc.cons Mb6 Inc.nil)))), ?_⟩⟩)
      refine Aw.shift (Re0 (Shift.done ⟨(Inc.cons Mb1 (Inc.cons Mb3 (Inc.cons Mb4 (Inc.cons Mb5 Inc.nil)))), ?_⟩))
      refine JF 8 6 Z (by kernel_rfl) ?_
      refine ai 9 (by kernel_rfl) (Jy Z ?_)
      refine ag (vs := [(sv v842)]) (all' := (Op.cells (Op.mk 4 0 0 0 0 x803 x815) v805 v842)) rfl rfl rfl rfl rfl (.there (.there .here)) rfl rfl rfl ⟨(Inc.cons Mb1 (Inc.cons Mb3 (Inc.cons Mb4 (Inc.cons Mb5 Inc.nil)))), ?_⟩
      refine au (by kernel_rfl)<|Pu6<|Pu6<|Pu6<|Pu6<|Pu6<|Pu5<|Re6<|?_
      have hs847 := (hs808).mono hK844
      exact Shift.done ⟨_, by exact ⟨rfl, rfl, rfl, rfl, rfl, rfl, trivial⟩, x810, ((Draw_Codes.mk p0.list i794 i795).value), v805, x803, v842, x815, rfl, rfl, H, hs847, hs845⟩
   rintro _ K848 _ hK849 ⟨i739, i740, v741, l742, v744, l745, rfl, rfl, H, hs743, hs746⟩
   unfold gh at H
   refine aa<|Em Z<|Er (wI (i639 + 1)) Z<|Ea Z<|ab<|Pu5<|Pu5<|Pu5<|Pu5<|Pu5<|?_
   refine Pu5<|Shift.done<|?_
   exact ⟨_, by exact ⟨rfl, rfl, rfl, rfl, rfl, rfl, trivial⟩, _, Nat.lt_succ_self _, (wI (i639 + 1)), i739, i740, v741, l742, v744, l745, rfl, rfl, (hkk653 ▸ H), hs743, hs746⟩
  ·intro h663
   have h663 := ay (h663)
   have H := ap h663 H
   refine aP<|Pu5<|Pu5<|Pu4<|Pu4<|Pu4<|Re5<|Shift.done<|?_
   exact ⟨_, by exact ⟨rfl, rfl, rfl, trivial⟩, x660, ((Draw_Codes.mk p0.list i640 i641).value), v642, l643, v645, l646, rfl, rfl, H, hs644, hs647⟩
 rintro _ K850 _ hK851 ⟨i442, i443, v444, l445, v447, l448, rfl, rfl, H, hs446, hs449⟩
 unfold hE at H
 refine ac<|aa<|Em Z<|EL 7 (Op.cells (Op.mk 4 0 0 0 0 l445 l448) v444 v447) Z (Rb1 Z)<|?_
 obtain ⟨x852, x853, x854, hx855, H⟩ := c8 H
 have hs856 := (hp0_list).mono hK851
 refine ae rfl (Ek Tryd.call57 Z (jA bp0 (Draw_Codes.mk p0.list i442 i443) vp0_list (Op.mk 4 0 0 0 0 l445 l448) v444 v447 x852 x853 x854 hx855 _ _ hs856 hs446 hs449) ?_)
 rintro _ _ _ - ⟨v857, v858, rfl, rfl, rfl, hs859, hs860⟩
 refine ae rfl (ag (vs := (Op.cells x852 v857 v858)) (all' := (Op.cells x852 v857 v858)) rfl rfl rfl rfl rfl (.there (.there .here)) rfl rfl rfl ?_)
 refine ab<|an<|?_
 obtain ⟨ey0, ez0_at_, ez0_value⟩ := cx H
 subst y0 z0_at_ z0_value
 refine ⟨(by first | exact .inl rfl | exact .inr rfl), [(.agg (Op.cells x852 v857 v858).toArray)], ⟨(.agg (Op.cells x852 v857 v858).toArray), _, rfl, ⟨_, 7, (Op.cells x852 v857 v858), rfl, rfl, rfl, rfl, ⟨rfl, Rb2 Z⟩, rfl⟩, rfl⟩, ?_⟩
 refine Re1<|Re1<|Re1<|Re1<|Shift.done<|?_
 exact ⟨v857, v858, rfl, rfl, hs859, hs860⟩



end Go.Hx
