
import Derived.Test.YtphoeijgpmlbpaaDoorXEM
import Derived.Test.YtphoeijgpmlbpaaDoorXEWDraw
namespace Go.Hx
open Go Go.Proofs
set_option linter.unusedSimpArgs false
set_option linter.unusedVariables false
set_option maxRecDepth 10000
set_option maxHeartbeats 1000000 in
theorem na (bp0 : Nat) (p0 : Draw_Codes) (vp0_list : SV) (p1 : Config) (vp1_capacities : SV) (vp1_starts : SV) (y0 : Op) (z0_at_ : Int) (z0_value : Int) (H : jF p0 p1 = some (y0, z0_at_, z0_value)) (K : Kp) (G : List Ent) (hp0_list : Slr Ty.u8 K (sv vp0_list) p0.list) (hp1_capacities : Slr Ty.i64 K (sv vp1_capacities) p1.capacities) (hp1_starts : Slr Ty.u64 K (sv vp1_starts) p1.starts) :
  Fc Tryd.prog 31 #[(.pointer (some ((⟨bp0, 0, none⟩ : Addr).add 0))), (.agg (Config.cells p1 vp1_capacities vp1_starts).toArray)] K ((.blk bp0 85 (Draw_Codes.cells p0 vp0_list)) :: G) (fun v K' G' => ∃ (wy0_cases : SV) (wy0_draws : SV), v = (.agg (Op.cells y0 wy0_cases wy0_draws).toArray) ∧ (.blk bp0 85 (Draw_Codes.cells (Draw_Codes.mk p0.list z0_at_ z0_value) vp0_list)) :: G = G' ∧ Slr aK K' (sv wy0_cases) y0.cases ∧ Slr Ty.i64 K' (sv wy0_draws) y0.draws) := by
 refine aE Tryd.func31 rfl Tryd.ntmps31 Tryd.results31 rfl ?_
 unfold jF at H
 refine ac<|aa<|?_
 refine ae rfl (aI (cs := (Config.cells p1 vp1_capacities vp1_starts)) rfl rfl rfl (fun b60 => ?_))
 refine ae rfl (an (cs := (Op.cells (Op.mk 0 0 0 0 0 [] []) aj aj)) rfl rfl rfl rfl (fun b61 => ?_))
 refine ab<|ac<|ac<|aa<|Em Z<|?_
 obtain ⟨x115, x116, hx117, H⟩ := cb H
 refine Ow.shift (Pu2 (Shift.done ?_))
 refine ae rfl (Ek Tryd.call21 Z (cc bp0 p0 vp0_list 20 x115 x116 hx117 _ _ hp0_list) ?_)
 rintro _ _ _ - ⟨rfl, rfl, rfl⟩
 refine Ea Z<|ab<|au<|ac<|aa<|Em Z<|Ec Z<|Ea Z<|ab<|?_
 refine ai rfl ?_ ?_
 ·intro h118
  have h118 := aD (h118)
  have H := ift h118 H
  refine ac<|aa<|Em Z<|Em Z<|EL 3 (Config.cells p1 vp1_capacities vp1_starts) Z (Rb2 Z)<|?_
  obtain ⟨x119, x120, x121, hx122, H⟩ := dN H
  refine ae rfl (Ek Tryd.call58 Z (dz bp0 (Draw_Codes.mk p0.list x116 p0.value) vp0_list p1 vp1_capacities vp1_starts x119 x120 x121 hx122 _ _ hp0_list hp1_capacities hp1_starts) ?_)
  rintro _ _ _ - ⟨rfl, rfl, rfl⟩
  refine Em Z ?_
  obtain ⟨x123, x124, hx125, H⟩ := cb H
  refine ae rfl (Ek Tryd.call59 Z (oa bp0 (Draw_Codes.mk p0.list x120 x121) vp0_list x123 x124 hx125 _ _ hp0_list) ?_)
  rintro _ _ _ - ⟨rfl, rfl, rfl⟩
  refine Eq Z (ao (cs := (Op.cells (Op.mk 1 0 x119 x123 0 [] []) aj aj)) rfl rfl rfl rfl rfl rfl) ?_
  obtain ⟨x126, x127, x128, hx129, H⟩ := dN H
  refine ae rfl (Ek Tryd.call57 Z (m7 bp0 (Draw_Codes.mk p0.list ((Draw_Codes.mk p0.list x120 x121).at_) x124) vp0_list (Op.mk 1 0 x119 x123 0 [] []) aj aj x126 x127 x128 hx129 _ _ hp0_list (Slr.nil aK _) (Slr.nil Ty.i64 _)) ?_)
  rintro _ _ _ - ⟨v130, v131, rfl, rfl, rfl, hs132, hs133⟩
  refine ae rfl (ag (vs := (Op.cells x126 v130 v131)) (all' := (Op.cells x126 v130 v131)) rfl rfl rfl rfl rfl (.there .here) rfl rfl rfl ?_)
  refine ab<|am<|?_
  obtain ⟨ey0, ez0_at_, ez0_value⟩ := cJ H
  subst y0 z0_at_ z0_value
  refine ⟨(by first | exact .inl rfl | exact .inr rfl), [(.agg (Op.cells x126 v130 v131).toArray)], ⟨(.agg (Op.cells x126 v130 v131).toArray), _, rfl, ⟨_, 7, (Op.cells x126 v130 v131), rfl, rfl, rfl, rfl, ⟨rfl, Rb1 Z⟩, rfl⟩, rfl⟩, ?_⟩
  refine Re1<|Re1<|Shift.done<|?_
  exact ⟨v130, v131, rfl, rfl, hs132, hs133⟩
 ·intro h118
  have h118 := aC (h118)
  have H := av h118 H
  refine ac<|aa<|Em Z<|Ec Z<|Ea Z<|ab<|?_
  refine ai rfl ?_ ?_
  ·intro h134
   have h134 := aD (h134)
   have H := ift h134 H
   refine ac<|aa<|Em Z<|Em Z<|EL 3 (Config.cells p1 vp1_capacities vp1_starts) Z (Rb2 Z)<|?_
   obtain ⟨x135, x136, x137, hx138, H⟩ := dN H
   refine ae rfl (Ek Tryd.call58 Z (dz bp0 (Draw_Codes.mk p0.list x116 p0.value) vp0_list p1 vp1_capacities vp1_starts x135 x136 x137 hx138 _ _ hp0_list hp1_capacities hp1_starts) ?_)
   rintro _ _ _ - ⟨rfl, rfl, rfl⟩
   refine Eq Z (ao (cs := (Op.cells (Op.mk 2 0 x135 0 0 [] []) aj aj)) rfl rfl rfl rfl rfl rfl) ?_
   obtain ⟨x139, x140, x141, hx142, H⟩ := dN H
   refine ae rfl (Ek Tryd.call57 Z (m7 bp0 (Draw_Codes.mk p0.list x136 x137) vp0_list (Op.mk 2 0 x135 0 0 [] []) aj aj x139 x140 x141 hx142 _ _ hp0_list (Slr.nil aK _) (Slr.nil Ty.i64 _)) ?_)
   rintro _ _ _ - ⟨v143, v144, rfl, rfl, rfl, hs145, hs146⟩
   refine ae rfl (ag (vs := (Op.cells x139 v143 v144)) (all' := (Op.cells x139 v143 v144)) rfl rfl rfl rfl rfl (.there .here) rfl rfl rfl ?_)
   refine ab<|am<|?_
   obtain ⟨ey0, ez0_at_, ez0_value⟩ := cJ H
   subst y0 z0_at_ z0_value
   refine ⟨(by first | exact .inl rfl | exact .inr rfl), [(.agg (Op.cells x139 v143 v144).toArray)], ⟨(.agg (Op.cells x139 v143 v144).toArray), _, rfl, ⟨_, 7, (Op.cells x139 v143 v144), rfl, rfl, rfl, rfl, ⟨rfl, Rb1 Z⟩, rfl⟩, rfl⟩, ?_⟩
   refine Re1<|Re1<|Shift.done<|?_
   exact ⟨v143, v144, rfl, rfl, hs145, hs146⟩
  ·intro h134
   have h134 := aC (h134)
   have H := av h134 H
   refine ac<|aa<|Em Z<|Ec Z<|Ea Z<|ab<|?_
   refine ai rfl ?_ ?_
   ·intro h147
    have h147 := aD (h147)
    have H := ift h147 H
    refine ac<|aa<|Em Z<|EL 3 (Config.cells p1 vp1_capacities vp1_starts) Z (Rb2 Z)<|?_
    obtain ⟨x148, x149, x150, hx151, H⟩ := dN H
    refine ae rfl (Ek Tryd.call60 Z (tl bp0 (Draw_Codes.mk p0.list x116 p0.value) vp0_list p1 vp1_capacities vp1_starts 4 x148 x149 x150 hx151 _ _ hp0_list hp1_capacities hp1_starts) ?_)
    rintro _ K154 _ hK155 ⟨v152, v153, rfl, rfl, hs156, hs157⟩
    refine ae rfl (ag (vs := (Op.cells x148 v152 v153)) (all' := (Op.cells x148 v152 v153)) rfl rfl rfl rfl rfl (.there .here) rfl rfl rfl ?_)
    refine ab<|am<|?_
    obtain ⟨ey0, ez0_at_, ez0_value⟩ := cJ H
    subst y0 z0_at_ z0_value
    refine ⟨(by first | exact .inl rfl | exact .inr rfl), [(.agg (Op.cells x148 v152 v153).toArray)], ⟨(.agg (Op.cells x148 v152 v153).toArray), _, rfl, ⟨_, 7, (Op.cells x148 v152 v153), rfl, rfl, rfl, rfl, ⟨rfl, Rb1 Z⟩, rfl⟩, rfl⟩, ?_⟩
    refine Re1<|Re1<|Shift.done<|?_
    exact ⟨v152, v153, rfl, rfl, hs156, hs157⟩
   ·intro h147
    have h147 := aC (h147)
    have H := av h147 H
    refine ac<|aa<|Em Z<|Ec Z<|Ea Z<|ab<|?_
    refine ai rfl ?_ ?_
    ·intro h158
     have h158 := aD (h158)
     have H := ift h158 H
     refine ac<|aa<|Em Z<|EL 3 (Config.cells p1 vp1_capacities vp1_starts) Z (Rb2 Z)<|?_
     obtain ⟨x159, x160, x161, hx162, H⟩ := dN H
     refine ae rfl (Ek Tryd.call58 Z (dz bp0 (Draw_Codes.mk p0.list x116 p0.value) vp0_list p1 vp1_capacities vp1_starts x159 x160 x161 hx162 _ _ hp0_list hp1_capacities hp1_starts) ?_)
     rintro _ _ _ - ⟨rfl, rfl, rfl⟩
     refine Eq Z (ao (cs := (Op.cells (Op.mk 3 0 x159 0 0 [] []) aj aj)) rfl rfl rfl rfl rfl rfl) ?_
     refine ae rfl (ag (vs := (Op.cells (Op.mk 3 0 x159 0 0 [] []) aj aj)) (all' := (Op.cells (Op.mk 3 0 x159 0 0 [] []) aj aj)) rfl rfl rfl rfl rfl (.there .here) rfl rfl rfl ?_)
     refine ab<|am<|?_
     obtain ⟨ey0, ez0_at_, ez0_value⟩ := cJ H
     subst y0 z0_at_ z0_value
     refine ⟨(by first | exact .inl rfl | exact .inr rfl), [(.agg (Op.cells (Op.mk 3 0 x159 0 0 [] []) aj aj).toArray)], ⟨(.agg (Op.cells (Op.mk 3 0 x159 0 0 [] []) aj aj).toArray), _, rfl, ⟨_, 7, (Op.cells (Op.mk 3 0 x159 0 0 [] []) aj aj), rfl, rfl, rfl, rfl, ⟨rfl, Rb1 Z⟩, rfl⟩, rfl⟩, ?_⟩
     refine Re1<|Re1<|Shift.done<|?_
     exact ⟨aj, aj, rfl, rfl, (Slr.nil aK _), (Slr.nil Ty.i64 _)⟩
    ·intro h158
     have h158 := aC (h158)
     have H := av h158 H
     refine ac<|aa<|Em Z<|Ec Z<|Ea Z<|ab<|?_
     refine ai rfl ?_ ?_
     ·intro h163
      have h163 := aD (h163)
      have H := ift h163 H
      refine ac<|aa<|Em Z<|EL 3 (Config.cells p1 vp1_capacities vp1_starts) Z (Rb2 Z)<|?_
      obtain ⟨x164, x165, x166, hx167, H⟩ := dN H
      refine ae rfl (Ek Tryd.call58 Z (dz bp0 (Draw_Codes.mk p0.list x116 p0.value) vp0_list p1 vp1_capacities vp1_starts x164 x165 x166 hx167 _ _ hp0_list hp1_capacities hp1_starts) ?_)
      rintro _ _ _ - ⟨rfl, rfl, rfl⟩
      refine Eq Z (ao (cs := (Op.cells (Op.mk 5 0 x164 0 0 [] []) aj aj)) rfl rfl rfl rfl rfl rfl) ?_
      refine ae rfl (ag (vs := (Op.cells (Op.mk 5 0 x164 0 0 [] []) aj aj)) (all' := (Op.cells (Op.mk 5 0 x164 0 0 [] []) aj aj)) rfl rfl rfl rfl rfl (.there .here) rfl rfl rfl ?_)
      refine ab<|am<|?_
      obtain ⟨ey0, ez0_at_, ez0_value⟩ := cJ H
      subst y0 z0_at_ z0_value
      refine ⟨(by first | exact .inl rfl | exact .inr rfl), [(.agg (Op.cells (Op.mk 5 0 x164 0 0 [] []) aj aj).toArray)], ⟨(.agg (Op.cells (Op.mk 5 0 x164 0 0 [] []) aj aj).toArray), _, rfl, ⟨_, 7, (Op.cells (Op.mk 5 0 x164 0 0 [] []) aj aj), rfl, rfl, rfl, rfl, ⟨rfl, Rb1 Z⟩, rfl⟩, rfl⟩, ?_⟩
      refine Re1<|Re1<|Shift.done<|?_
      exact ⟨aj, aj, rfl, rfl, (Slr.nil aK _), (Slr.nil Ty.i64 _)⟩
     ·intro h163
      have h163 := aC (h163)
      have H := av h163 H
      refine ak<|ac<|aa<|Em Z<|EL 3 (Config.cells p1 vp1_capacities vp1_starts) Z (Rb2 Z)<|?_
      obtain ⟨x168, x169, x170, hx171, H⟩ := dN H
      refine ae rfl (Ek Tryd.call58 Z (dz bp0 (Draw_Codes.mk p0.list x116 p0.value) vp0_list p1 vp1_capacities vp1_starts x168 x169 x170 hx171 _ _ hp0_list hp1_capacities hp1_starts) ?_)
      rintro _ _ _ - ⟨rfl, rfl, rfl⟩
      refine Eq Z (ao (cs := (Op.cells (Op.mk 6 0 x168 0 0 [] []) aj aj)) rfl rfl rfl rfl rfl rfl) ?_
      refine ae rfl (ag (vs := (Op.cells (Op.mk 6 0 x168 0 0 [] []) aj aj)) (all' := (Op.cells (Op.mk 6 0 x168 0 0 [] []) aj aj)) rfl rfl rfl rfl rfl (.there .here) rfl rfl rfl ?_)
      refine ab<|am<|?_
      obtain ⟨ey0, ez0_at_, ez0_value⟩ := cJ H
      subst y0 z0_at_ z0_value
      refine ⟨(by first | exact .inl rfl | exact .inr rfl), [(.agg (Op.cells (Op.mk 6 0 x168 0 0 [] []) aj aj).toArray)], ⟨(.agg (Op.cells (Op.mk 6 0 x168 0 0 [] []) aj aj).toArray), _, rfl, ⟨_, 7, (Op.cells (Op.mk 6 0 x168 0 0 [] []) aj aj), rfl, rfl, rfl, rfl, ⟨rfl, Rb1 Z⟩, rfl⟩, rfl⟩, ?_⟩
      refine Re1<|Re1<|Shift.done<|?_
      exact ⟨aj, aj, rfl, rfl, (Slr.nil aK _), (Slr.nil Ty.i64 _)⟩

set_option maxHeartbeats 1000000 in
theorem tm (bp0 : Nat) (p0 : Draw_Codes) (vp0_list : SV) (p1 : Config) (vp1_capacities : SV) (vp1_starts : SV) (p2 : Int) (y0 : List (List Op)) (z0_at_ : Int) (z0_value : Int) (H : jG p0 p1 p2 = some (y0, z0_at_, z0_value)) (K : Kp) (G : List Ent) (hp0_list : Slr Ty.u8 K (sv vp0_list) p0.list) (hp1_capacities : Slr Ty.i64 K (sv vp1_capacities) p1.capacities) (hp1_starts : Slr Ty.u64 K (sv vp1_starts) p1.starts) :
  Fc Tryd.prog 18 #[(.pointer (some ((⟨bp0, 0, none⟩ : Addr).add 0))), (.agg (Config.cells p1 vp1_capacities vp1_starts).toArray), (.int .i64 p2)] K ((.blk bp0 85 (Draw_Codes.cells p0 vp0_list)) :: G) (fun v K' G' => ∃ (wy0 : SV) (rswy0 : List (List Value)), v = (sv wy0) ∧ (.blk bp0 85 (Draw_Codes.cells (Draw_Codes.mk p0.list z0_at_ z0_value) vp0_list)) :: (.row (sv wy0) 39 1 rswy0.flatten) :: G = G' ∧ RowR (Ty.sl bp) K' rswy0 y0) := by
 refine aE Tryd.func18 rfl Tryd.ntmps18 Tryd.results18 rfl ?_
 unfold jG at H
 refine ac<|aa<|?_
 refine ae rfl (aI (cs := (Config.cells p1 vp1_capacities vp1_starts)) rfl rfl rfl (fun b434 => ?_))
 refine Ea Z<|ab<|ac<|aa<|EF 2 Z<|El (.int .i64 p1.threads) Z (Rb0 Z)<|?_
 obtain ⟨x435, hx436, H⟩ := bnd H
 refine ae rfl (dF (T := (Ty.sl bp)) (r := [(sv aj)]) rfl rfl rfl hx436 rfl rfl rfl rfl rfl rfl rfl rfl rfl ⟨aj, rfl, (Slr.nil bp _)⟩ (fun v437 rs438 hR439 hz440 => ?_))
 obtain ⟨vs441, hvsvs441, rfl⟩ : ∃ vs : List Value, vs = List.replicate p1.threads.toNat (sv aj) ∧ rs438 = vs.map one := ⟨_, rfl, by rw [hz440]; exact dA.symm⟩
 refine Ow.shift (Shift.nilTokV hvsvs441 43 7  (Shift.done ?_))
 refine Ea Z<|ab<|?_
 refine ap (fun env' K' G' => ∃ (l854 : List (List Op)) (vs856 : List Value) (i857 : Int) (i858 : Int), [(7, (sv v437))] = env' ∧ (.blk bp0 85 (Draw_Codes.cells (Draw_Codes.mk p0.list i857 i858) vp0_list)) :: (.row (sv v437) 39 1 (vs856.map one).flatten) :: (.tok 43 7 vs856) :: G = G' ∧ iY p0 l854 i857 i858 = some (y0, z0_at_, z0_value) ∧ RowR (Ty.sl bp) K' (vs856.map one) l854) ?_ ?_
 ·skip
  refine ac<|aa<|Ea Z<|ab<|au<|?_
  refine aT (fun n1271 env' K' G' => ∃ (l1265 : List (List Op)) (vs1267 : List Value) (i1268 : Int) (i1269 : Int) (i1270 : Int), [(0, (.pointer (some ((⟨bp0, 0, none⟩ : Addr).add 0)))), (2, (.int .i64 p2)), (4, (.pointer (some ((⟨b434, 0, none⟩ : Addr).add 0)))), (7, (sv v437)), (8, (.int .i64 i1268))] = env' ∧ (.blk bp0 85 (Draw_Codes.cells (Draw_Codes.mk p0.list i1269 i1270) vp0_list)) :: (.blk b434 27 (Config.cells p1 vp1_capacities vp1_starts)) :: (.row (sv v437) 39 1 (vs1267.map one).flatten) :: (.tok 43 7 vs1267) :: G = G' ∧ lp4 (i6 p2 p0 p1) n1271 l1265 i1268 i1269 i1270 = some (y0, z0_at_, z0_value) ∧ RowR (Ty.sl bp) K' (vs1267.map one) l1265) BIG ?_ ?_
  ·skip
   refine Pu1<|Pu2<|Pu3<|Shift.done<|?_
   exact ⟨_, by exact ⟨rfl, rfl, rfl, rfl, rfl, trivial⟩, x435, vs441, 0, p0.at_, p0.value, rfl, rfl, H, hR439⟩
  rintro n1271 _ K1272 _ hK1273 ⟨l1265, vs1267, i1268, i1269, i1270, rfl, rfl, H, hR1266⟩
  obtain ⟨m1274, k1275, rfl, hkk1276, H⟩ := lps4 H
  unfold i6 at H
  refine ac ?_
  refine ap (fun env' K' G' => ∃ (t1289 : Bool) (i1290 : Int) (i1291 : Int), [(0, (.pointer (some ((⟨bp0, 0, none⟩ : Addr).add 0)))), (2, (.int .i64 p2)), (4, (.pointer (some ((⟨b434, 0, none⟩ : Addr).add 0)))), (7, (sv v437)), (8, (.int .i64 i1268)), (19, (.bool t1289))] = env' ∧ K1272 = K' ∧ (.blk bp0 85 (Draw_Codes.cells (Draw_Codes.mk p0.list i1290 i1291) vp0_list)) :: (.blk b434 27 (Config.cells p1 vp1_capacities vp1_starts)) :: (.row (sv v437) 39 1 (vs1267.map one).flatten) :: (.tok 43 7 vs1267) :: G = G' ∧ gA p2 l1265 i1268 p0 p1 k1275 t1289 i1290 i1291 = some (y0, z0_at_, z0_value)) ?_ ?_
  ·skip
   refine aa<|Em Z<|Em Z<|Ec Z<|Em Z<|?_
   refine Ee Z ?_ ?_
   ·intro h1292
    have h1292 := aD (h1292)
    have H := ift h1292 H
    refine Vm Z ?_
    obtain ⟨x1293, hx1294, H⟩ := bnd H
    have hs1295 := (hp0_list).mono hK1273
    refine ct rfl rfl rfl rfl (Ek Tryd.call20 Z (nb bp0 (Draw_Codes.mk p0.list i1269 i1270) vp0_list x1293 hx1294 _ _ hs1295) ?_)
    rintro _ _ _ - ⟨rfl, rfl, rfl⟩
    refine Et Z<|ab<|Pu3<|Pu3<|Pu3<|Pu3<|Shift.done<|?_
    exact ⟨_, by exact ⟨rfl, rfl, rfl, rfl, rfl, rfl, trivial⟩, x1293, ((Draw_Codes.mk p0.list i1269 i1270).at_), ((Draw_Codes.mk p0.list i1269 i1270).value), rfl, rfl, rfl, H⟩
   ·intro h1292
    have h1292 := aC (h1292)
    have H := av h1292 H
    refine Ez Z<|Ez Z<|Ef Z<|ab<|Pu3<|Pu3<|Pu3<|Pu3<|Shift.done<|?_
    exact ⟨_, by exact ⟨rfl, rfl, rfl, rfl, rfl, rfl, trivial⟩, false, i1269, i1270, rfl, rfl, rfl, H⟩
  rintro _ _ _ - ⟨t1289, i1290, i1291, rfl, rfl, rfl, H⟩
  unfold gA at H
  refine ai rfl ?_ ?_
  ·intro h1296
   have H := ift h1296 H
   refine ak ?_
   refine ap (fun env' K' G' => ∃ (l1480 : List (List Op)) (vs1482 : List Value) (i1483 : Int) (i1484 : Int), [(0, (.pointer (some ((⟨bp0, 0, none⟩ : Addr).add 0)))), (2, (.int .i64 p2)), (4, (.pointer (some ((⟨b434, 0, none⟩ : Addr).add 0)))), (7, (sv v437)), (8, (.int .i64 i1268))] = env' ∧ (.blk bp0 85 (Draw_Codes.cells (Draw_Codes.mk p0.list i1483 i1484) vp0_list)) :: (.blk b434 27 (Config.cells p1 vp1_capacities vp1_starts)) :: (.row (sv v437) 39 1 (vs1482.map one).flatten) :: (.tok 43 7 vs1482) :: G = G' ∧ iZ p2 i1268 p0 p1 k1275 l1480 i1483 i1484 = some (y0, z0_at_, z0_value) ∧ RowR (Ty.sl bp) K' (vs1482.map one) l1480) ?_ ?_
   ·skip
    refine au<|ac<|aa<|Em Z<|EF 2 Z<|El (.int .i64 p1.threads) Z (Rb1 Z)<|?_
    obtain ⟨x1485, x1486, hx1487, H⟩ := cb H
    have hs1488 := (hp0_list).mono hK1273
    refine ae rfl (Ek Tryd.call21 Z (cc bp0 (Draw_Codes.mk p0.list i1290 i1291) vp0_list p1.threads x1485 x1486 hx1487 _ _ hs1488) ?_)
    rintro _ _ _ - ⟨rfl, rfl, rfl⟩
    refine Ea Z<|ab<|?_
    obtain ⟨x1489, hx1490, H⟩ := bnd H
    obtain ⟨x1497, x1498, x1499, hx1500, H⟩ := dN H
    obtain ⟨x1511, hx1512, H⟩ := bnd H
    obtain ⟨x1518, hx1519, H⟩ := bnd H
    refine ar [.blk b434 27 (Config.cells p1 vp1_capacities vp1_starts)] rfl (Inc.cons Mb1 Inc.nil)<|Jm 0 Z (by kernel_rfl)<|Jm 1 Z (by kernel_rfl)<|Jm 2 Z (by kernel_rfl)<|Jm 3 Z (by kernel_rfl)<|Jm 6 Z (by kernel_rfl)<|JL 7 3 (Config.cells p1 vp1_capacities vp1_starts) Z (by kernel_rfl) (Rb0 Z)<|?_
    refine br 4 8 (by kernel_rfl) ?_ ?_
    ·skip
     obtain ⟨r1529, hq1530, hr1531⟩ := RowR.at hR1266 hx1490
     obtain ⟨v1532, rfl, hs1533⟩ := hr1531
     have hv1534 := cd hq1530
     refine id (Jyq Z (bu (T := (Ty.sl bp)) Mb2 hR1266 hq1530 (az hx1490).1 rfl rfl rfl rfl rfl) ⟨(Inc.cons Mb1 Inc.nil), ?_⟩)
     refine br 5 8 (by kernel_rfl) ?_ ?_
     ·skip
      refine id (Jyq Z (aW (v := (sv v1532)) rfl rfl rfl (bB (T := (Ty.sl bp)) Mb2 hR1266 hq1530 rfl rfl)) ⟨(Inc.cons Mb1 Inc.nil), ?_⟩)
      refine ah 8 (by kernel_rfl) (Jy Z ?_)
      have hs1535 := (hp1_capacities).mono hK1273
      have hs1536 := (hp1_starts).mono hK1273
      refine Ek Tryd.call31 Z (na bp0 (Draw_Codes.mk p0.list x1486 ((Draw_Codes.mk p0.list i1290 i1291).value)) vp0_list p1 vp1_capacities vp1_starts x1497 x1498 x1499 hx1500 _ _ hs1488 hs1535 hs1536) ?_
      rintro _ K1539 _ hK1540 ⟨v1537, v1538, rfl, rfl, hs1541, hs1542⟩
      refine ⟨(Inc.cons Mb1 Inc.nil), ?_⟩
      refine ah 9 (by kernel_rfl) (Jy Z ?_)
      have hR1544 : RowR bp K1539 [(Op.cells x1497 v1537 v1538)] [x1497] := RowR.cons ⟨v1537, v1538, rfl, hs1541, hs1542⟩ (RowR.nil)
      refine aS (T := bp) (rows := [(Op.cells x1497 v1537 v1538)]) (l := [x1497]) rfl rfl rfl hR1544 rfl rfl rfl rfl rfl rfl rfl rfl (fun v1543 => ⟨(Inc.cons Mb2 Inc.nil), ?_⟩)
      refine ah 10 (by kernel_rfl) (Jy Z ?_)
      have hs1549 := (hs1533).mono hK1540
      refine aL (T := bp) (bytes := 88) (q := x1485.toNat) rfl rfl rfl hs1549 Mb4 hv1534 (SrcT.row Mb0 hR1544 rfl) hx1512 rfl rfl rfl rfl rfl rfl rfl rfl (fun v1545 K1546 hK1547 hs1548 => ⟨_, (.there (.there (.there (.there .here)))), ⟨(Inc.cons Mb2 Inc.nil), ?_⟩⟩)
      refine Aw.shift (Re0 (Shift.done ⟨(Inc.cons Mb1 Inc.nil), ?_⟩))
      have hs1550 := ((hR1266).mono hK1540).mono hK1547
      obtain ⟨r1551, hq1552, hr1553⟩ := RowR.at hs1550 hx1519
      obtain ⟨v1554, rfl, hs1555⟩ := hr1553
      have hv1556 := cd hq1552
      refine ah 11 (by kernel_rfl) (Jyq Z (bu (T := (Ty.sl bp)) Mb2 hs1550 hq1552 (az hx1519).1 rfl rfl rfl rfl rfl) ⟨(Inc.cons Mb1 Inc.nil), ?_⟩)
      refine ah 12 (by kernel_rfl) (Jy Z ?_)
      refine bA (T := (Ty.sl bp)) (vs := [(sv v1545)]) (r' := [(sv v1545)]) (l' := (aG l1265 x1485 x1511)) rfl rfl rfl rfl rfl (.there (.there .here)) hs1550 hq1552 rfl rfl rfl (RowR.set x1485 hs1550 ⟨v1545, rfl, hs1548⟩) (fun hR1557 => ⟨(Inc.cons Mb1 Inc.nil), ?_⟩)
      have hse := bM vs1267 x1485.toNat (sv v1545)
      rw [hse] at hR1557 ⊢
      clear hse
      have hE1558 := cP hq1552 (v := (sv v1545))
      refine ay (by kernel_rfl)<|Pu3<|Pu3<|Pu3<|Pu3<|Shift.done<|?_
      exact ⟨_, by exact ⟨rfl, rfl, rfl, rfl, rfl, trivial⟩, (aG l1265 x1485 x1511), (vs1267.set x1485.toNat (sv v1545)), x1498, x1499, rfl, rfl, H, hR1557⟩
     ·skip
      refine id (Jy Z ?_)
      have hs1559 := (hp1_capacities).mono hK1273
      have hs1560 := (hp1_starts).mono hK1273
      refine Ek Tryd.call31 Z (na bp0 (Draw_Codes.mk p0.list x1486 ((Draw_Codes.mk p0.list i1290 i1291).value)) vp0_list p1 vp1_capacities vp1_starts x1497 x1498 x1499 hx1500 _ _ hs1488 hs1559 hs1560) ?_
      rintro _ K1563 _ hK1564 ⟨v1561, v1562, rfl, rfl, hs1565, hs1566⟩
      refine ⟨(Inc.cons Mb1 Inc.nil), ?_⟩
      refine br 5 9 (by kernel_rfl) ?_ ?_
      ·skip
       have hs1567 := (hR1266).mono hK1564
       refine id (Jyq Z (aW (v := (sv v1532)) rfl rfl rfl (bB (T := (Ty.sl bp)) Mb2 hs1567 hq1530 rfl rfl)) ⟨(Inc.cons Mb1 Inc.nil), ?_⟩)
       refine ah 9 (by kernel_rfl) (Jy Z ?_)
       have hR1569 : RowR bp K1563 [(Op.cells x1497 v1561 v1562)] [x1497] := RowR.cons ⟨v1561, v1562, rfl, hs1565, hs1566⟩ (RowR.nil)
       refine aS (T := bp) (rows := [(Op.cells x1497 v1561 v1562)]) (l := [x1497]) rfl rfl rfl hR1569 rfl rfl rfl rfl rfl rfl rfl rfl (fun v1568 => ⟨(Inc.cons Mb2 Inc.nil), ?_⟩)
       refine ah 10 (by kernel_rfl) (Jy Z ?_)
       have hs1574 := (hs1533).mono hK1564
       refine aL (T := bp) (bytes := 88) (q := x1485.toNat) rfl rfl rfl hs1574 Mb4 hv1534 (SrcT.row Mb0 hR1569 rfl) hx1512 rfl rfl rfl rfl rfl rfl rfl rfl (fun v1570 K1571 hK1572 hs1573 => ⟨_, (.there (.there (.there (.there .here)))), ⟨(Inc.cons Mb2 Inc.nil), ?_⟩⟩)
       refine Aw.shift (Re0 (Shift.done ⟨(Inc.cons Mb1 Inc.nil), ?_⟩))
       have hs1575 := (hs1567).mono hK1572
       obtain ⟨r1576, hq1577, hr1578⟩ := RowR.at hs1575 hx1519
       obtain ⟨v1579, rfl, hs1580⟩ := hr1578
       have hv1581 := cd hq1577
       refine ah 11 (by kernel_rfl) (Jyq Z (bu (T := (Ty.sl bp)) Mb2 hs1575 hq1577 (az hx1519).1 rfl rfl rfl rfl rfl) ⟨(Inc.cons Mb1 Inc.nil), ?_⟩)
       refine ah 12 (by kernel_rfl) (Jy Z ?_)
       refine bA (T := (Ty.sl bp)) (vs := [(sv v1570)]) (r' := [(sv v1570)]) (l' := (aG l1265 x1485 x1511)) rfl rfl rfl rfl rfl (.there (.there .here)) hs1575 hq1577 rfl rfl rfl (RowR.set x1485 hs1575 ⟨v1570, rfl, hs1573⟩) (fun hR1582 => ⟨(Inc.cons Mb1 Inc.nil), ?_⟩)
       have hse := bM vs1267 x1485.toNat (sv v1570)
       rw [hse] at hR1582 ⊢
       clear hse
       have hE1583 := cP hq1577 (v := (sv v1570))
       refine ay (by kernel_rfl)<|Pu3<|Pu3<|Pu3<|Pu3<|Shift.done<|?_
       exact ⟨_, by exact ⟨rfl, rfl, rfl, rfl, rfl, trivial⟩, (aG l1265 x1485 x1511), (vs1267.set x1485.toNat (sv v1570)), x1498, x1499, rfl, rfl, H, hR1582⟩
      ·skip
       refine id (Jy Z ?_)
       have hR1585 : RowR bp K1563 [(Op.cells x1497 v1561 v1562)] [x1497] := RowR.cons ⟨v1561, v1562, rfl, hs1565, hs1566⟩ (RowR.nil)
       refine aS (T := bp) (rows := [(Op.cells x1497 v1561 v1562)]) (l := [x1497]) rfl rfl rfl hR1585 rfl rfl rfl rfl rfl rfl rfl rfl (fun v1584 => ⟨(Inc.cons Mb2 Inc.nil), ?_⟩)
       have hs1586 := (hR1266).mono hK1564
       refine ah 5 (by kernel_rfl) (Jyq Z (aW (v := (sv v1532)) rfl rfl rfl (bB (T := (Ty.sl bp)) Mb3 hs1586 hq1530 rfl rfl)) ⟨(Inc.cons Mb2 Inc.nil), ?_⟩)
       refine ah 10 (by kernel_rfl) (Jy Z ?_)
       have hs1591 := (hs1533).mono hK1564
       refine aL (T := bp) (bytes := 88) (q := x1485.toNat) rfl rfl rfl hs1591 Mb4 hv1534 (SrcT.row Mb0 hR1585 rfl) hx1512 rfl rfl rfl rfl rfl rfl rfl rfl (fun v1587 K1588 hK1589 hs1590 => ⟨_, (.there (.there (.there (.there .here)))), ⟨(Inc.cons Mb2 Inc.nil), ?_⟩⟩)
       refine Aw.shift (Re0 (Shift.done ⟨(Inc.cons Mb1 Inc.nil), ?_⟩))
       have hs1592 := (hs1586).mono hK1589
       obtain ⟨r1593, hq1594, hr1595⟩ := RowR.at hs1592 hx1519
       obtain ⟨v1596, rfl, hs1597⟩ := hr1595
       have hv1598 := cd hq1594
       refine ah 11 (by kernel_rfl) (Jyq Z (bu (T := (Ty.sl bp)) Mb2 hs1592 hq1594 (az hx1519).1 rfl rfl rfl rfl rfl) ⟨(Inc.cons Mb1 Inc.nil), ?_⟩)
       refine ah 12 (by kernel_rfl) (Jy Z ?_)
       refine bA (T := (Ty.sl bp)) (vs := [(sv v1587)]) (r' := [(sv v1587)]) (l' := (aG l1265 x1485 x1511)) rfl rfl rfl rfl rfl (.there (.there .here)) hs1592 hq1594 rfl rfl rfl (RowR.set x1485 hs1592 ⟨v1587, rfl, hs1590⟩) (fun hR1599 => ⟨(Inc.cons Mb1 Inc.nil), ?_⟩)
       have hse := bM vs1267 x1485.toNat (sv v1587)
       rw [hse] at hR1599 ⊢
       clear hse
       have hE1600 := cP hq1594 (v := (sv v1587))
       refine ay (by kernel_rfl)<|Pu3<|Pu3<|Pu3<|Pu3<|Shift.done<|?_
       exact ⟨_, by exact ⟨rfl, rfl, rfl, rfl, rfl, trivial⟩, (aG l1265 x1485 x1511), (vs1267.set x1485.toNat (sv v1587)), x1498, x1499, rfl, rfl, H, hR1599⟩
    ·skip
     refine id (Jy Z ?_)
     have hs1601 := (hp1_capacities).mono hK1273
     have hs1602 := (hp1_starts).mono hK1273
     refine Ek Tryd.call31 Z (na bp0 (Draw_Codes.mk p0.list x1486 ((Draw_Codes.mk p0.list i1290 i1291).value)) vp0_list p1 vp1_capacities vp1_starts x1497 x1498 x1499 hx1500 _ _ hs1488 hs1601 hs1602) ?_
     rintro _ K1605 _ hK1606 ⟨v1603, v1604, rfl, rfl, hs1607, hs1608⟩
     refine ⟨(Inc.cons Mb1 Inc.nil), ?_⟩
     refine br 4 9 (by kernel_rfl) ?_ ?_
     ·skip
      have hs1609 := (hR1266).mono hK1606
      obtain ⟨r1610, hq1611, hr1612⟩ := RowR.at hs1609 hx1490
      obtain ⟨v1613, rfl, hs1614⟩ := hr1612
      have hv1615 := cd hq1611
      refine id (Jyq Z (bu (T := (Ty.sl bp)) Mb2 hs1609 hq1611 (az hx1490).1 rfl rfl rfl rfl rfl) ⟨(Inc.cons Mb1 Inc.nil), ?_⟩)
      refine br 5 9 (by kernel_rfl) ?_ ?_
      ·skip
       refine id (Jyq Z (aW (v := (sv v1613)) rfl rfl rfl (bB (T := (Ty.sl bp)) Mb2 hs1609 hq1611 rfl rfl)) ⟨(Inc.cons Mb1 Inc.nil), ?_⟩)
       refine ah 9 (by kernel_rfl) (Jy Z ?_)
       have hR1617 : RowR bp K1605 [(Op.cells x1497 v1603 v1604)] [x1497] := RowR.cons ⟨v1603, v1604, rfl, hs1607, hs1608⟩ (RowR.nil)
       refine aS (T := bp) (rows := [(Op.cells x1497 v1603 v1604)]) (l := [x1497]) rfl rfl rfl hR1617 rfl rfl rfl rfl rfl rfl rfl rfl (fun v1616 => ⟨(Inc.cons Mb2 Inc.nil), ?_⟩)
       refine ah 10 (by kernel_rfl) (Jy Z ?_)
       refine aL (T := bp) (bytes := 88) (q := x1485.toNat) rfl rfl rfl hs1614 Mb4 hv1615 (SrcT.row Mb0 hR1617 rfl) hx1512 rfl rfl rfl rfl rfl rfl rfl rfl (fun v1618 K1619 hK1620 hs1621 => ⟨_, (.there (.there (.there (.there .here)))), ⟨(Inc.cons Mb2 Inc.nil), ?_⟩⟩)
       refine Aw.shift (Re0 (Shift.done ⟨(Inc.cons Mb1 Inc.nil), ?_⟩))
       have hs1622 := (hs1609).mono hK1620
       obtain ⟨r1623, hq1624, hr1625⟩ := RowR.at hs1622 hx1519
       obtain ⟨v1626, rfl, hs1627⟩ := hr1625
       have hv1628 := cd hq1624
       refine ah 11 (by kernel_rfl) (Jyq Z (bu (T := (Ty.sl bp)) Mb2 hs1622 hq1624 (az hx1519).1 rfl rfl rfl rfl rfl) ⟨(Inc.cons Mb1 Inc.nil), ?_⟩)
       refine ah 12 (by kernel_rfl) (Jy Z ?_)
       refine bA (T := (Ty.sl bp)) (vs := [(sv v1618)]) (r' := [(sv v1618)]) (l' := (aG l1265 x1485 x1511)) rfl rfl rfl rfl rfl (.there (.there .here)) hs1622 hq1624 rfl rfl rfl (RowR.set x1485 hs1622 ⟨v1618, rfl, hs1621⟩) (fun hR1629 => ⟨(Inc.cons Mb1 Inc.nil), ?_⟩)
       have hse := bM vs1267 x1485.toNat (sv v1618)
       rw [hse] at hR1629 ⊢
       clear hse
       have hE1630 := cP hq1624 (v := (sv v1618))
       refine ay (by kernel_rfl)<|Pu3<|Pu3<|Pu3<|Pu3<|Shift.done<|?_
       exact ⟨_, by exact ⟨rfl, rfl, rfl, rfl, rfl, trivial⟩, (aG l1265 x1485 x1511), (vs1267.set x1485.toNat (sv v1618)), x1498, x1499, rfl, rfl, H, hR1629⟩
      ·skip
       refine id (Jy Z ?_)
       have hR1632 : RowR bp K1605 [(Op.cells x1497 v1603 v1604)] [x1497] := RowR.cons ⟨v1603, v1604, rfl, hs1607, hs1608⟩ (RowR.nil)
       refine aS (T := bp) (rows := [(Op.cells x1497 v1603 v1604)]) (l := [x1497]) rfl rfl rfl hR1632 rfl rfl rfl rfl rfl rfl rfl rfl (fun v1631 => ⟨(Inc.cons Mb2 Inc.nil), ?_⟩)
       refine ah 5 (by kernel_rfl) (Jyq Z (aW (v := (sv v1613)) rfl rfl rfl (bB (T := (Ty.sl bp)) Mb3 hs1609 hq1611 rfl rfl)) ⟨(Inc.cons Mb2 Inc.nil), ?_⟩)
       refine ah 10 (by kernel_rfl) (Jy Z ?_)
       refine aL (T := bp) (bytes := 88) (q := x1485.toNat) rfl rfl rfl hs1614 Mb4 hv1615 (SrcT.row Mb0 hR1632 rfl) hx1512 rfl rfl rfl rfl rfl rfl rfl rfl (fun v1633 K1634 hK1635 hs1636 => ⟨_, (.there (.there (.there (.there .here)))), ⟨(Inc.cons Mb2 Inc.nil), ?_⟩⟩)
       refine Aw.shift (Re0 (Shift.done ⟨(Inc.cons Mb1 Inc.nil), ?_⟩))
       have hs1637 := (hs1609).mono hK1635
       obtain ⟨r1638, hq1639, hr1640⟩ := RowR.at hs1637 hx1519
       obtain ⟨v1641, rfl, hs1642⟩ := hr1640
       have hv1643 := cd hq1639
       refine ah 11 (by kernel_rfl) (Jyq Z (bu (T := (Ty.sl bp)) Mb2 hs1637 hq1639 (az hx1519).1 rfl rfl rfl rfl rfl) ⟨(Inc.cons Mb1 Inc.nil), ?_⟩)
       refine ah 12 (by kernel_rfl) (Jy Z ?_)
       refine bA (T := (Ty.sl bp)) (vs := [(sv v1633)]) (r' := [(sv v1633)]) (l' := (aG l1265 x1485 x1511)) rfl rfl rfl rfl rfl (.there (.there .here)) hs1637 hq1639 rfl rfl rfl (RowR.set x1485 hs1637 ⟨v1633, rfl, hs1636⟩) (fun hR1644 => ⟨(Inc.cons Mb1 Inc.nil), ?_⟩)
       have hse := bM vs1267 x1485.toNat (sv v1633)
       rw [hse] at hR1644 ⊢
       clear hse
       have hE1645 := cP hq1639 (v := (sv v1633))
       refine ay (by kernel_rfl)<|Pu3<|Pu3<|Pu3<|Pu3<|Shift.done<|?_
       exact ⟨_, by exact ⟨rfl, rfl, rfl, rfl, rfl, trivial⟩, (aG l1265 x1485 x1511), (vs1267.set x1485.toNat (sv v1633)), x1498, x1499, rfl, rfl, H, hR1644⟩
     ·skip
      refine id (Jy Z ?_)
      have hR1647 : RowR bp K1605 [(Op.cells x1497 v1603 v1604)] [x1497] := RowR.cons ⟨v1603, v1604, rfl, hs1607, hs1608⟩ (RowR.nil)
      refine aS (T := bp) (rows := [(Op.cells x1497 v1603 v1604)]) (l := [x1497]) rfl rfl rfl hR1647 rfl rfl rfl rfl rfl rfl rfl rfl (fun v1646 => ⟨(Inc.cons Mb2 Inc.nil), ?_⟩)
      have hs1648 := (hR1266).mono hK1606
      obtain ⟨r1649, hq1650, hr1651⟩ := RowR.at hs1648 hx1490
      obtain ⟨v1652, rfl, hs1653⟩ := hr1651
      have hv1654 := cd hq1650
      refine ah 4 (by kernel_rfl) (Jyq Z (bu (T := (Ty.sl bp)) Mb3 hs1648 hq1650 (az hx1490).1 rfl rfl rfl rfl rfl) ⟨(Inc.cons Mb2 Inc.nil), ?_⟩)
      refine ah 5 (by kernel_rfl) (Jyq Z (aW (v := (sv v1652)) rfl rfl rfl (bB (T := (Ty.sl bp)) Mb3 hs1648 hq1650 rfl rfl)) ⟨(Inc.cons Mb2 Inc.nil), ?_⟩)
      refine ah 10 (by kernel_rfl) (Jy Z ?_)
      refine aL (T := bp) (bytes := 88) (q := x1485.toNat) rfl rfl rfl hs1653 Mb4 hv1654 (SrcT.row Mb0 hR1647 rfl) hx1512 rfl rfl rfl rfl rfl rfl rfl rfl (fun v1655 K1656 hK1657 hs1658 => ⟨_, (.there (.there (.there (.there .here)))), ⟨(Inc.cons Mb2 Inc.nil), ?_⟩⟩)
      refine Aw.shift (Re0 (Shift.done ⟨(Inc.cons Mb1 Inc.nil), ?_⟩))
      have hs1659 := (hs1648).mono hK1657
      obtain ⟨r1660, hq1661, hr1662⟩ := RowR.at hs1659 hx1519
      obtain ⟨v1663, rfl, hs1664⟩ := hr1662
      have hv1665 := cd hq1661
      refine ah 11 (by kernel_rfl) (Jyq Z (bu (T := (Ty.sl bp)) Mb2 hs1659 hq1661 (az hx1519).1 rfl rfl rfl rfl rfl) ⟨(Inc.cons Mb1 Inc.nil), ?_⟩)
      refine ah 12 (by kernel_rfl) (Jy Z ?_)
      refine bA (T := (Ty.sl bp)) (vs := [(sv v1655)]) (r' := [(sv v1655)]) (l' := (aG l1265 x1485 x1511)) rfl rfl rfl rfl rfl (.there (.there .here)) hs1659 hq1661 rfl rfl rfl (RowR.set x1485 hs1659 ⟨v1655, rfl, hs1658⟩) (fun hR1666 => ⟨(Inc.cons Mb1 Inc.nil), ?_⟩)
      have hse := bM vs1267 x1485.toNat (sv v1655)
      rw [hse] at hR1666 ⊢
      clear hse
      have hE1667 := cP hq1661 (v := (sv v1655))
      refine ay (by kernel_rfl)<|Pu3<|Pu3<|Pu3<|Pu3<|Shift.done<|?_
      exact ⟨_, by exact ⟨rfl, rfl, rfl, rfl, rfl, trivial⟩, (aG l1265 x1485 x1511), (vs1267.set x1485.toNat (sv v1655)), x1498, x1499, rfl, rfl, H, hR1666⟩
   rintro _ K1668 _ hK1669 ⟨l1480, vs1482, i1483, i1484, rfl, rfl, H, hR1481⟩
   unfold iZ at H
   refine aa<|Em Z<|Er (wI (i1268 + 1)) Z<|Ea Z<|ab<|Pu3<|Pu3<|Pu3<|Pu3<|Shift.done<|?_
   exact ⟨_, by exact ⟨rfl, rfl, rfl, rfl, rfl, trivial⟩, _, Nat.lt_succ_self _, l1480, vs1482, (wI (i1268 + 1)), i1483, i1484, rfl, rfl, (hkk1276 ▸ H), hR1481⟩
  ·intro h1296
   have H := av (btf h1296) H
   refine aX<|Pu3<|Pu3<|Pu2<|Re3<|Shift.done<|?_
   exact ⟨_, by exact ⟨rfl, trivial⟩, l1265, vs1267, i1290, i1291, rfl, rfl, H, hR1266⟩
 rintro _ K1670 _ hK1671 ⟨l854, vs856, i857, i858, rfl, rfl, H, hR855⟩
 unfold iY at H
 refine ac<|aa<|Em Z<|Ea Z<|ab<|am<|?_
 obtain ⟨ey0, ez0_at_, ez0_value⟩ := cJ H
 subst y0 z0_at_ z0_value
 refine ⟨(by first | exact .inl rfl | exact .inr rfl), [(sv v437)], ⟨(sv v437), _, rfl, rfl, rfl⟩, ?_⟩
 refine Pu1<|Pu1<|Re2<|Shift.done<|?_
 exact ⟨v437, (vs856.map one), rfl, rfl, hR855⟩



end Go.Hx

namespace Go.Hx
open Go Go.Proofs
set_option linter.unusedSimpArgs false
set_option linter.unusedVariables false
set_option maxRecDepth 10000
set_option maxHeartbeats 1000000 in
theorem tn (p0 : Config) (vp0_capacities : SV) (vp0_starts : SV) (y0 : List Chan) (H : nE p0 = some y0) (K : Kp) (G : List Ent) (hp0_capacities : Slr Ty.i64 K (sv vp0_capacities) p0.capacities) (hp0_starts : Slr Ty.u64 K (sv vp0_starts) p0.starts) :
  Fc Tryd.prog 12 #[(.agg (Config.cells p0 vp0_capacities vp0_starts).toArray)] K (G) (fun v K' G' => ∃ (wy0 : SV) (rswy0 : List (List Value)), v = (sv wy0) ∧ (.row (sv wy0) 74 3 rswy0.flatten) :: (.tok 34 1 (col 1 rswy0)) :: G = G' ∧ RowR aB K' rswy0 y0) := by
 refine aE Tryd.func12 rfl Tryd.ntmps12 Tryd.results12 rfl ?_
 unfold nE at H
 refine ac<|aa<|?_
 refine ae rfl (aI (cs := (Config.cells p0 vp0_capacities vp0_starts)) rfl rfl rfl (fun b53 => ?_))
 refine Ea Z<|ab<|ac<|aa<|Ea Z<|ab<|?_
 refine ap (fun env' K' G' => ∃ (v99 : SV) (l100 : List Chan) (rs102 : List (List Value)), [(3, (sv v99))] = env' ∧ (.row (sv v99) 74 3 rs102.flatten) :: (.tok 34 1 (col 1 rs102)) :: G = G' ∧ oU l100 = some y0 ∧ RowR aB K' rs102 l100) ?_ ?_
 ·skip
  refine ac<|aa<|Ea Z<|ab<|au<|?_
  refine aT (fun n148 env' K' G' => ∃ (v143 : SV) (l144 : List Chan) (rs146 : List (List Value)) (i147 : Int), [(1, (.pointer (some ((⟨b53, 0, none⟩ : Addr).add 0)))), (3, (sv v143)), (4, (.int .i64 i147))] = env' ∧ K = K' ∧ (.blk b53 27 (Config.cells p0 vp0_capacities vp0_starts)) :: (.row (sv v143) 74 3 rs146.flatten) :: (.tok 34 1 (col 1 rs146)) :: G = G' ∧ lp2 (pB p0) n148 l144 i147 = some y0 ∧ RowR aB K' rs146 l144) BIG ?_ ?_
  ·skip
   have hR149 : RowR aB K [] [] := RowR.nil
   refine Shift.nilRow 74 3<|Shift.tok0 34 1 1<|Pu1<|Pu2<|Shift.done<|?_
   exact ⟨_, by exact ⟨rfl, rfl, rfl, trivial⟩, aj, ([] : List Chan), ([] : List (List Value)), 0, rfl, rfl, rfl, H, hR149⟩
  rintro n148 _ _ _ - ⟨v143, l144, rs146, i147, rfl, rfl, rfl, H, hR145⟩
  obtain ⟨m150, k151, rfl, hkk152, H⟩ := f0 H
  unfold pB at H
  refine ac<|ac<|aa<|Em Z<|EF 0 Z<|El (sv vp0_capacities) Z (Rb0 Z)<|Eq Z (bg (T := Ty.i64) hp0_capacities rfl rfl)<|Ec Z<|ab<|?_
  refine ai rfl ?_ ?_
  ·intro h154
   have h154 := aD (h154)
   have H := ift h154 H
   refine ak<|ac<|au<|aa<|Em Z<|EF 0 Z<|El (sv vp0_capacities) Z (Rb0 Z)<|Em Z<|?_
   obtain ⟨x168, hx169, H⟩ := bnd H
   obtain ⟨r170, hr171, hk172⟩ := Slr.at hp0_capacities hx169
   obtain rfl := hr171
   refine Eq Z (bE (T := Ty.i64) hp0_capacities hx169 rfl rfl rfl rfl rfl)<|El (.int .i64 x168) Z (Rdc.k hk172 rfl)<|Eq Z (ao (cs := (Chan.cells (Chan.mk x168 [] false) aj)) rfl rfl rfl rfl rfl rfl)<|?_
   have hR174 : RowR aB K [(Chan.cells (Chan.mk x168 [] false) aj)] [(Chan.mk x168 [] false)] := RowR.cons ⟨aj, rfl, (Slr.nil Ty.u64 _)⟩ (RowR.nil)
   refine ae rfl (aS (T := aB) (rows := [(Chan.cells (Chan.mk x168 [] false) aj)]) (l := [(Chan.mk x168 [] false)]) rfl rfl rfl hR174 rfl rfl rfl rfl rfl rfl rfl rfl (fun v173 => ?_))
   obtain ⟨x175, hx176, H⟩ := bnd H
   refine ae rfl (qB (T := aB) (bytes := 40) rfl rfl rfl Mb2 hR145 Mb0 hR174 hx176 rfl rfl rfl rfl rfl rfl rfl rfl (fun v177 rs178 hrs180 hR179 => ⟨_, (.there (.there .here)), ?_⟩))
   refine Ow.shift (Shift.tokNil (.there (.there (.there .here))) (Shift.done ?_))
   have hse := tB (k := 1) (rows := rs146) (r := (Chan.cells (Chan.mk x168 [] false) aj)) (v := (sv aj)) rfl
   rw [show (Value.slice none 0 0) = (sv aj) from rfl, hse, ← hrs180]
   clear hse
   refine Ow.shift (Re0 (Shift.done ?_))
   refine Ea Z<|ab<|aa<|Em Z<|Er (wI (i147 + 1)) Z<|Ea Z<|ab<|Pu2<|Pu2<|Pu2<|?_
   exact Shift.done ⟨_, by exact ⟨rfl, rfl, rfl, trivial⟩, _, Nat.lt_succ_self _, v177, x175, rs178, (wI (i147 + 1)), rfl, rfl, rfl, (hkk152 ▸ H), hR179⟩
  ·intro h154
   have h154 := aC (h154)
   have H := av h154 H
   refine aX<|Pu2<|Pu2<|Re2<|Shift.done<|?_
   exact ⟨_, by exact ⟨rfl, trivial⟩, v143, l144, rs146, rfl, rfl, H, hR145⟩
 rintro _ K181 _ hK182 ⟨v99, l100, rs102, rfl, rfl, H, hR101⟩
 unfold oU at H
 refine ac<|aa<|Em Z<|Ea Z<|ab<|am<|?_
 obtain ey0 := bi H
 subst y0
 refine ⟨(by first | exact .inl rfl | exact .inr rfl), [(sv v99)], ⟨(sv v99), _, rfl, rfl, rfl⟩, ?_⟩
 refine Pu1<|Pu1<|Shift.done<|?_
 exact ⟨v99, rs102, rfl, rfl, hR101⟩

set_option maxHeartbeats 1000000 in
theorem ue (p0 : List Chan) (vp0 : SV) (p1 : Int) (y0 : Bool) (H : s5 p0 p1 = some y0) (K : Kp) (G : List Ent) (hp0 : Slr aB K (sv vp0) p0) :
  Fc Tryd.prog 76 #[(sv vp0), (.int .i64 p1)] K (G) (fun v K' G' => v = (.bool y0) ∧ K = K' ∧ G = G') := by
 refine aE Tryd.func76 rfl Tryd.ntmps76 Tryd.results76 rfl ?_
 unfold s5 at H
 refine ac<|aa<|Ea Z<|ab<|ac<|aa<|Em Z<|Ec Z<|Em Z<|?_
 refine Ee Z ?_ ?_
 ·intro h3
  have h3 := aD (h3)
  have H := ift h3 H
  refine Vm Z<|Vm Z<|Vq Z (bg (T := aB) hp0 rfl rfl)<|Vc Z<|Et Z<|Ea Z<|ab<|am<|?_
  obtain ey0 := bi H
  subst y0
  refine ⟨(by first | exact .inl rfl | exact .inr rfl), [(.bool (dcd (p1 < (p0.length : Int))))], ⟨(.bool (dcd (p1 < (p0.length : Int)))), _, rfl, rfl, rfl⟩, ?_⟩
  exact Shift.done ⟨rfl, rfl, rfl⟩
 ·intro h3
  have h3 := aC (h3)
  have H := av h3 H
  refine Ez Z<|Ez Z<|Ez Z<|Ez Z<|Ef Z<|Ea Z<|ab<|am<|?_
  obtain ey0 := bi H
  subst y0
  refine ⟨(by first | exact .inl rfl | exact .inr rfl), [(.bool false)], ⟨(.bool false), _, rfl, rfl, rfl⟩, ?_⟩
  exact Shift.done ⟨rfl, rfl, rfl⟩

set_option maxHeartbeats 1000000 in
theorem tj (p0 : List Chan) (vp0 : SV) (p1 : Case) (y0 : Bool) (H : nD p0 p1 = some y0) (K : Kp) (G : List Ent) (hp0 : Slr aB K (sv vp0) p0) :
  Fc Tryd.prog 67 #[(sv vp0), (.agg (Case.cells p1).toArray)] K (G) (fun v K' G' => v = (.bool y0) ∧ K = K' ∧ G = G') := by
 refine aE Tryd.func67 rfl Tryd.ntmps67 Tryd.results67 rfl ?_
 unfold nD at H
 refine ac<|aa<|?_
 refine ae rfl (aI (cs := (Case.cells p1)) rfl rfl rfl (fun b16 => ?_))
 refine Ea Z<|ab<|ac<|ac<|aa<|Em Z<|EF 1 Z<|El (.int .i64 p1.channel) Z (Rb0 Z)<|?_
 obtain ⟨x20, hx21, H⟩ := bnd H
 refine ae rfl (Ek Tryd.call76 Z (ue p0 vp0 p1.channel x20 hx21 _ _ hp0) ?_)
 rintro _ _ _ - ⟨rfl, rfl, rfl⟩
 refine Eq Z (bC rfl)<|ab<|?_
 refine ai rfl ?_ ?_
 ·intro h22
  have h22 := dw (h22)
  have H := av (btf h22) H
  refine ac<|aa<|Ea Z<|ab<|am<|?_
  obtain ey0 := bi H
  subst y0
  refine ⟨(by first | exact .inl rfl | exact .inr rfl), [(.bool false)], ⟨(.bool false), _, rfl, rfl, rfl⟩, ?_⟩
  refine Re0<|Shift.done<|?_
  exact ⟨rfl, rfl, rfl⟩
 ·intro h22
  have h22 := du (h22)
  have H := ift h22 H
  refine ak<|ac<|aa<|Em Z<|EF 1 Z<|El (.int .i64 p1.channel) Z (Rb0 Z)<|?_
  obtain ⟨x23, hx24, H⟩ := bnd H
  obtain ⟨r25, hr26, hk27⟩ := Slr.at hp0 hx24
  obtain ⟨v28, rfl, hs29⟩ := hr26
  refine Eq Z (bE (T := aB) hp0 hx24 rfl rfl rfl rfl rfl)<|EL 3 (Chan.cells x23 v28) Z (Rdc.k hk27 rfl)<|?_
  refine ae rfl (an (cs := (Chan.cells (Chan.mk 0 [] false) aj)) rfl rfl rfl rfl (fun b30 => ?_))
  refine ae rfl (ag (vs := (Chan.cells x23 v28)) (all' := (Chan.cells x23 v28)) rfl rfl rfl rfl rfl .here rfl rfl rfl ?_)
  refine ab<|ac<|ac<|aa<|EF 0 Z<|El (.bool p1.send) Z (Rb1 Z)<|ab<|?_
  refine ai rfl ?_ ?_
  ·intro h33
   have H := ift h33 H
   refine ac<|aa<|EF 2 Z<|El (.bool x23.closed) Z (Rb0 Z)<|Em Z<|?_
   refine Ee Z ?_ ?_
   ·intro h35
    have H := ift h35 H
    refine Ez Z<|Ez Z<|Ez Z<|Ez Z<|Ez Z<|Ez Z<|Et Z<|Ea Z<|ab<|am<|?_
    obtain ey0 := bi H
    subst y0
    refine ⟨(by first | exact .inl rfl | exact .inr rfl), [(.bool true)], ⟨(.bool true), _, rfl, rfl, rfl⟩, ?_⟩
    refine Re0<|Re0<|Shift.done<|?_
    exact ⟨rfl, rfl, rfl⟩
   ·intro h35
    have H := av (btf h35) H
    refine VF 1 Z<|Vl (sv v28) Z (Rb0 Z)<|Vq Z (bg (T := Ty.u64) hs29 rfl rfl)<|VF 0 Z<|Vl (.int .i64 x23.capacity) Z (Rb0 Z)<|Vc Z<|Ef Z<|Ea Z<|ab<|am<|?_
    obtain ey0 := bi H
    subst y0
    refine ⟨(by first | exact .inl rfl | exact .inr rfl), [(.bool (dcd ((x23.buffer.length : Int) < x23.capacity)))], ⟨(.bool (dcd ((x23.buffer.length : Int) < x23.capacity))), _, rfl, rfl, rfl⟩, ?_⟩
    refine Re0<|Re0<|Shift.done<|?_
    exact ⟨rfl, rfl, rfl⟩
  ·intro h33
   have H := av (btf h33) H
   refine ak<|ac<|aa<|EF 2 Z<|El (.bool x23.closed) Z (Rb0 Z)<|Em Z<|?_
   refine Ee Z ?_ ?_
   ·intro h37
    have H := ift h37 H
    refine Ez Z<|Ez Z<|Ez Z<|Ez Z<|Et Z<|Ea Z<|ab<|am<|?_
    obtain ey0 := bi H
    subst y0
    refine ⟨(by first | exact .inl rfl | exact .inr rfl), [(.bool true)], ⟨(.bool true), _, rfl, rfl, rfl⟩, ?_⟩
    refine Re0<|Re0<|Shift.done<|?_
    exact ⟨rfl, rfl, rfl⟩
   ·intro h37
    have H := av (btf h37) H
    refine VF 1 Z<|Vl (sv v28) Z (Rb0 Z)<|Vq Z (bg (T := Ty.u64) hs29 rfl rfl)<|Vc Z<|Ef Z<|Ea Z<|ab<|am<|?_
    obtain ey0 := bi H
    subst y0
    refine ⟨(by first | exact .inl rfl | exact .inr rfl), [(.bool (dcd ((x23.buffer.length : Int) > 0)))], ⟨(.bool (dcd ((x23.buffer.length : Int) > 0))), _, rfl, rfl, rfl⟩, ?_⟩
    refine Re0<|Re0<|Shift.done<|?_
    exact ⟨rfl, rfl, rfl⟩



end Go.Hx

namespace Go.Hx
open Go Go.Proofs
set_option linter.unusedSimpArgs false
set_option linter.unusedVariables false
set_option maxRecDepth 10000
set_option maxHeartbeats 1000000 in
theorem r0 (p0 : Config) (vp0_capacities : SV) (vp0_starts : SV) (y0 : Desk) (H : i7 p0 = some y0) (K : Kp) (G : List Ent) (hp0_capacities : Slr Ty.i64 K (sv vp0_capacities) p0.capacities) (hp0_starts : Slr Ty.u64 K (sv vp0_starts) p0.starts) :
  Fc Tryd.prog 19 #[(.agg (Config.cells p0 vp0_capacities vp0_starts).toArray)] K (G) (fun v K' G' => ∃ (wy0_chans : SV) (wy0_waiting : SV), v = (.agg (Desk.cells y0 wy0_chans wy0_waiting).toArray) ∧ (.tok 74 3 [(sv wy0_chans)]) :: G = G' ∧ Slr aB K' (sv wy0_chans) y0.chans ∧ Slr aA K' (sv wy0_waiting) y0.waiting) := by
 refine aE Tryd.func19 rfl Tryd.ntmps19 Tryd.results19 rfl ?_
 unfold i7 at H
 refine ac<|aa<|?_
 refine ae rfl (aI (cs := (Config.cells p0 vp0_capacities vp0_starts)) rfl rfl rfl (fun b13 => ?_))
 refine ae rfl (an (cs := (Desk.cells (Desk.mk [] [] 0) aj aj)) rfl rfl rfl rfl (fun b14 => ?_))
 refine ab<|ac<|aa<|EL 3 (Config.cells p0 vp0_capacities vp0_starts) Z (Rb1 Z)<|?_
 obtain ⟨x15, hx16, H⟩ := bnd H
 refine ae rfl (Ek Tryd.call12 Z (tn p0 vp0_capacities vp0_starts x15 hx16 _ _ hp0_capacities hp0_starts) ?_)
 rintro _ K19 _ hK20 ⟨v17, rs18, rfl, rfl, hs21⟩
 refine Ow.shift (Shift.settle (T := aB) .here hs21 rfl (fun K22 hK23 hs24 => Shift.done ?_))
 refine Eq Z (ao (cs := (Desk.cells (Desk.mk x15 [] 0) v17 aj)) rfl rfl rfl rfl rfl rfl) ?_
 refine ae rfl (ag (vs := (Desk.cells (Desk.mk x15 [] 0) v17 aj)) (all' := (Desk.cells (Desk.mk x15 [] 0) v17 aj)) rfl rfl rfl rfl rfl (.there (.there .here)) rfl rfl rfl ?_)
 refine ab<|am<|?_
 obtain ey0 := bi H
 subst y0
 refine ⟨(by first | exact .inl rfl | exact .inr rfl), [(.agg (Desk.cells (Desk.mk x15 [] 0) v17 aj).toArray)], ⟨(.agg (Desk.cells (Desk.mk x15 [] 0) v17 aj).toArray), _, rfl, ⟨_, 3, (Desk.cells (Desk.mk x15 [] 0) v17 aj), rfl, rfl, rfl, rfl, ⟨rfl, Rb2 Z⟩, rfl⟩, rfl⟩, ?_⟩
 refine Re1<|Re1<|Re1<|Shift.done<|?_
 exact ⟨v17, aj, rfl, rfl, hs24, (Slr.nil aA _)⟩

set_option maxHeartbeats 1000000 in
theorem fM (p0 : Desk) (vp0_chans : SV) (vp0_waiting : SV) (p1 : Int) (p2 : Chan) (vp2_buffer : SV) (y0 : Desk) (H : gB p0 p1 p2 = some y0) (K : Kp) (G : List Ent) (hp0_chans : Slr aB K (sv vp0_chans) p0.chans) (hp0_waiting : Slr aA K (sv vp0_waiting) p0.waiting) (hp2_buffer : Slr Ty.u64 K (sv vp2_buffer) p2.buffer) :
  Fc Tryd.prog 61 #[(.agg (Desk.cells p0 vp0_chans vp0_waiting).toArray), (.int .i64 p1), (.agg (Chan.cells p2 vp2_buffer).toArray)] K (G) (fun v K' G' => ∃ (wy0_chans : SV) (rswy0_chans : List (List Value)) (wy0_waiting : SV), v = (.agg (Desk.cells y0 wy0_chans wy0_waiting).toArray) ∧ K = K' ∧ (.row (sv wy0_chans) 74 3 rswy0_chans.flatten) :: G = G' ∧ RowR aB K' rswy0_chans y0.chans ∧ Slr aA K' (sv wy0_waiting) y0.waiting) := by
 refine aE Tryd.func61 rfl Tryd.ntmps61 Tryd.results61 rfl ?_
 unfold gB at H
 refine ac<|aa<|?_
 refine ae rfl (aI (cs := (Desk.cells p0 vp0_chans vp0_waiting)) rfl rfl rfl (fun b19 => ?_))
 refine ae rfl (aI (cs := (Chan.cells p2 vp2_buffer)) rfl rfl rfl (fun b20 => ?_))
 refine ae rfl (an (cs := (Desk.cells (Desk.mk [] [] 0) aj aj)) rfl rfl rfl rfl (fun b21 => ?_))
 refine ab<|ac<|aa<|EF 0 Z<|El (sv vp0_chans) Z (Rb2 Z)<|?_
 have hR22 : RowR aB K [] [] := RowR.nil
 refine Ow.shift (Shift.nilRow 74 3 (Shift.done ?_))
 obtain ⟨x23, hx24, H⟩ := bnd H
 refine ae rfl (bO (T := aB) (bytes := 40) rfl rfl rfl Mb0 hR22 (SrcT.sl hp0_chans) hx24 rfl rfl rfl rfl rfl rfl rfl rfl (fun v25 rs26 hR27 => ⟨_, .here, ?_⟩))
 refine EF 0 Z ?_
 refine ae rfl (ag (vs := [(sv v25)]) (all' := (Desk.cells (Desk.mk x23 p0.waiting p0.tick) v25 vp0_waiting)) rfl rfl rfl rfl rfl (.there (.there (.there .here))) rfl rfl rfl ?_)
 refine ab<|ac<|aa<|EF 0 Z<|El (sv v25) Z (Rb3 Z)<|Em Z<|EL 3 (Chan.cells p2 vp2_buffer) Z (Rb2 Z)<|?_
 obtain ⟨x28, hx29, H⟩ := bnd H
 obtain ⟨r30, hq31, hr32⟩ := RowR.at hR27 hx29
 obtain ⟨v33, rfl, hs34⟩ := hr32
 refine Eq Z (bu (T := aB) Mb0 hR27 hq31 (az hx29).1 rfl rfl rfl rfl rfl) ?_
 refine ae rfl (bA (T := aB) (vs := (Chan.cells p2 vp2_buffer)) (r' := (Chan.cells p2 vp2_buffer)) (l' := (aG x23 p1 p2)) rfl rfl rfl rfl rfl .here hR27 hq31 rfl rfl rfl (RowR.set p1 hR27 ⟨vp2_buffer, rfl, hp2_buffer⟩) (fun hR35 => ?_))
 have hE36 := cO hq31 (v := (Chan.cells p2 vp2_buffer))
 refine ab<|ac<|aa<|EL 3 (Desk.cells (Desk.mk (aG x23 p1 p2) p0.waiting p0.tick) v25 vp0_waiting) Z (Rb3 Z)<|?_
 refine ae rfl (ag (vs := (Desk.cells (Desk.mk (aG x23 p1 p2) p0.waiting p0.tick) v25 vp0_waiting)) (all' := (Desk.cells (Desk.mk (aG x23 p1 p2) p0.waiting p0.tick) v25 vp0_waiting)) rfl rfl rfl rfl rfl (.there .here) rfl rfl rfl ?_)
 refine ab<|am<|?_
 obtain ey0 := bi H
 subst y0
 refine ⟨(by first | exact .inl rfl | exact .inr rfl), [(.agg (Desk.cells (Desk.mk (aG x23 p1 p2) p0.waiting p0.tick) v25 vp0_waiting).toArray)], ⟨(.agg (Desk.cells (Desk.mk (aG x23 p1 p2) p0.waiting p0.tick) v25 vp0_waiting).toArray), _, rfl, ⟨_, 3, (Desk.cells (Desk.mk (aG x23 p1 p2) p0.waiting p0.tick) v25 vp0_waiting), rfl, rfl, rfl, rfl, ⟨rfl, Rb1 Z⟩, rfl⟩, rfl⟩, ?_⟩
 refine Re1<|Re1<|Re1<|Shift.done<|?_
 exact ⟨v25, (rs26.set p1.toNat (Chan.cells p2 vp2_buffer)), vp0_waiting, rfl, rfl, rfl, hR35, hp0_waiting⟩



end Go.Hx

namespace Go.Hx
open Go Go.Proofs
set_option linter.unusedSimpArgs false
set_option linter.unusedVariables false
set_option maxRecDepth 10000
set_option maxHeartbeats 1000000 in
theorem tp (p0 : Op) (vp0_cases : SV) (vp0_draws : SV) (y0 : Case) (y1 : Bool) (H : pA p0 = some (y0, y1)) (K : Kp) (G : List Ent) (hp0_cases : Slr aK K (sv vp0_cases) p0.cases) (hp0_draws : Slr Ty.i64 K (sv vp0_draws) p0.draws) :
  Fc Tryd.prog 69 #[(.agg (Op.cells p0 vp0_cases vp0_draws).toArray)] K (G) (fun v K' G' => v = (.tuple #[(.agg (Case.cells y0).toArray), (.bool y1)]) ∧ K = K' ∧ G = G') := by
 refine aE Tryd.func69 rfl Tryd.ntmps69 Tryd.results69 rfl ?_
 unfold pA at H
 refine ac<|aa<|?_
 refine ae rfl (aI (cs := (Op.cells p0 vp0_cases vp0_draws)) rfl rfl rfl (fun b13 => ?_))
 refine ae rfl (an (cs := (Case.cells (Case.mk false 0 0))) rfl rfl rfl rfl (fun b14 => ?_))
 refine Ea Z<|ab<|ac<|?_
 refine ap (fun env' K' G' => ∃ (t26 : Bool) (i27 : Int) (i28 : Int) (i29 : Int) (i30 : Int) (i31 : Int) (i32 : Int) (i33 : Int), [(1, (.pointer (some ((⟨b13, 0, none⟩ : Addr).add 0)))), (2, (.pointer (some ((⟨b14, 0, none⟩ : Addr).add 0)))), (11, (.bool t26))] = env' ∧ K = K' ∧ (.blk b14 92 (Case.cells (Case.mk false i27 i28))) :: (.blk b13 43 (Op.cells (Op.mk i29 i30 i31 i32 i33 p0.cases p0.draws) vp0_cases vp0_draws)) :: G = G' ∧ nF p0 t26 i27 i28 i29 i30 i31 i32 i33 = some (y0, y1)) ?_ ?_
 ·skip
  refine aa<|EF 0 Z<|El (.int .i64 p0.kind) Z (Rb1 Z)<|Ec Z<|Em Z<|?_
  refine Ee Z ?_ ?_
  ·intro h34
   have h34 := aC (dw (h34))
   have H := av h34 H
   refine VF 0 Z<|Vl (.int .i64 p0.kind) Z (Rb1 Z)<|Vc Z<|Et Z<|ab<|Pu1<|Pu1<|Shift.done<|?_
   exact ⟨_, by exact ⟨rfl, rfl, rfl, trivial⟩, (!(dcd (p0.kind = 2))), 0, 0, p0.kind, p0.mode, p0.channel, p0.value, p0.deadline, rfl, rfl, rfl, H⟩
  ·intro h34
   have h34 := aD (du (h34))
   have H := ift h34 H
   refine Ez Z<|Ez Z<|Ez Z<|Ef Z<|ab<|Pu1<|Pu1<|Shift.done<|?_
   exact ⟨_, by exact ⟨rfl, rfl, rfl, trivial⟩, false, 0, 0, p0.kind, p0.mode, p0.channel, p0.value, p0.deadline, rfl, rfl, rfl, H⟩
 rintro _ _ _ - ⟨t26, i27, i28, i29, i30, i31, i32, i33, rfl, rfl, rfl, H⟩
 unfold nF at H
 refine ai rfl ?_ ?_
 ·intro h35
  have H := ift h35 H
  refine ac<|aa<|Eq Z (ao (cs := (Case.cells (Case.mk false 0 0))) rfl rfl rfl rfl rfl rfl)<|?_
  refine ae rfl (ag (vs := (Case.cells (Case.mk false 0 0))) (all' := (Case.cells (Case.mk false 0 0))) rfl rfl rfl rfl rfl .here rfl rfl rfl ?_)
  refine Ea Z<|ab<|am<|?_
  obtain ⟨ey0, ey1⟩ := cg H
  subst y0 y1
  refine ⟨(by first | exact .inl rfl | exact .inr rfl), [(.agg (Case.cells (Case.mk false 0 0)).toArray), (.bool false)], ⟨(.agg (Case.cells (Case.mk false 0 0)).toArray), _, rfl, ⟨_, 3, (Case.cells (Case.mk false 0 0)), rfl, rfl, rfl, rfl, ⟨rfl, Rb0 Z⟩, rfl⟩, ⟨(.bool false), _, rfl, rfl, rfl⟩⟩, ?_⟩
  refine Re0<|Re0<|Shift.done<|?_
  exact ⟨rfl, rfl, rfl⟩
 ·intro h35
  have H := av (btf h35) H
  refine ak<|ac<|aa<|EF 0 Z<|El (.int .i64 i29) Z (Rb1 Z)<|Ec Z<|EF 2 Z<|El (.int .i64 i31) Z (Rb1 Z)<|EF 3 Z<|El (.int .u64 i32) Z (Rb1 Z)<|?_
  refine Eq Z (ao (cs := (Case.cells (Case.mk (dcd (i29 = 1)) i31 i32))) rfl rfl rfl rfl rfl rfl) ?_
  refine ae rfl (ag (vs := (Case.cells (Case.mk (dcd (i29 = 1)) i31 i32))) (all' := (Case.cells (Case.mk (dcd (i29 = 1)) i31 i32))) rfl rfl rfl rfl rfl .here rfl rfl rfl ?_)
  refine Ea Z<|ab<|am<|?_
  obtain ⟨ey0, ey1⟩ := cg H
  subst y0 y1
  refine ⟨(by first | exact .inl rfl | exact .inr rfl), [(.agg (Case.cells (Case.mk (dcd (i29 = 1)) i31 i32)).toArray), (.bool true)], ⟨(.agg (Case.cells (Case.mk (dcd (i29 = 1)) i31 i32)).toArray), _, rfl, ⟨_, 3, (Case.cells (Case.mk (dcd (i29 = 1)) i31 i32)), rfl, rfl, rfl, rfl, ⟨rfl, Rb0 Z⟩, rfl⟩, ⟨(.bool true), _, rfl, rfl, rfl⟩⟩, ?_⟩
  refine Re0<|Re0<|Shift.done<|?_
  exact ⟨rfl, rfl, rfl⟩

set_option maxHeartbeats 1000000 in
theorem jZ (p0 : Op) (vp0_cases : SV) (vp0_draws : SV) (y0 : List Case) (H : nG p0 = some y0) (K : Kp) (G : List Ent) (hp0_cases : Slr aK K (sv vp0_cases) p0.cases) (hp0_draws : Slr Ty.i64 K (sv vp0_draws) p0.draws) :
  Fc Tryd.prog 35 #[(.agg (Op.cells p0 vp0_cases vp0_draws).toArray)] K (G) (fun v K' G' => ∃ (wy0 : SV), v = (sv wy0) ∧ G = G' ∧ Slr aK K' (sv wy0) y0) := by
 refine aE Tryd.func35 rfl Tryd.ntmps35 Tryd.results35 rfl ?_
 unfold nG at H
 refine ac<|aa<|?_
 refine ae rfl (aI (cs := (Op.cells p0 vp0_cases vp0_draws)) rfl rfl rfl (fun b10 => ?_))
 refine Ea Z<|ab<|ac<|ac<|aa<|EF 0 Z<|El (.int .i64 p0.kind) Z (Rb0 Z)<|Ec Z<|ab<|?_
 refine ai rfl ?_ ?_
 ·intro h12
  have h12 := aD (h12)
  have H := ift h12 H
  refine ac<|aa<|EF 5 Z<|El (sv vp0_cases) Z (Rb0 Z)<|Ea Z<|ab<|am<|?_
  obtain ey0 := bi H
  subst y0
  refine ⟨(by first | exact .inl rfl | exact .inr rfl), [(sv vp0_cases)], ⟨(sv vp0_cases), _, rfl, rfl, rfl⟩, ?_⟩
  refine Re0<|Shift.done<|?_
  exact ⟨vp0_cases, rfl, rfl, hp0_cases⟩
 ·intro h12
  have h12 := aC (h12)
  have H := av h12 H
  refine ak<|ac<|ac<|aa<|EL 7 (Op.cells p0 vp0_cases vp0_draws) Z (Rb0 Z)<|?_
  obtain ⟨x20, x21, hx22, H⟩ := cb H
  refine ae rfl (Ek Tryd.call69 Z (tp p0 vp0_cases vp0_draws x20 x21 hx22 _ _ hp0_cases hp0_draws) ?_)
  rintro _ _ _ - ⟨rfl, rfl, rfl⟩
  refine Em Z<|Ex Z<|Ex Z<|?_
  refine ae rfl (an (cs := (Case.cells (Case.mk false 0 0))) rfl rfl rfl rfl (fun b23 => ?_))
  refine ae rfl (ag (vs := (Case.cells x20)) (all' := (Case.cells x20)) rfl rfl rfl rfl rfl .here rfl rfl rfl ?_)
  refine Ea Z<|ab<|ac<|aa<|Em Z<|ab<|?_
  refine ai rfl ?_ ?_
  ·intro h24
   have H := ift h24 H
   refine ac<|aa<|EL 3 (Case.cells x20) Z (Rb0 Z)<|?_
   have hR26 : RowR aK K [(Case.cells x20)] [x20] := RowR.cons rfl (RowR.nil)
   refine ae rfl (aS (T := aK) (rows := [(Case.cells x20)]) (l := [x20]) rfl rfl rfl hR26 rfl rfl rfl rfl rfl rfl rfl rfl (fun v25 => ?_))
   refine Ea Z<|ab<|am<|?_
   obtain ey0 := bi H
   subst y0
   refine ⟨(by first | exact .inl rfl | exact .inr rfl), [(sv v25)], ⟨(sv v25), _, rfl, rfl, rfl⟩, ?_⟩
   refine Shift.settle (T := aK) .here hR26 rfl ?_
   intro K27 hK28 hs29
   refine Re0<|Re0<|Re0<|Shift.done<|?_
   exact ⟨v25, rfl, rfl, hs29⟩
  ·intro h24
   have H := av (btf h24) H
   refine ak<|ac<|aa<|Ea Z<|ab<|am<|?_
   obtain ey0 := bi H
   subst y0
   refine ⟨(by first | exact .inl rfl | exact .inr rfl), [(sv aj)], ⟨(sv aj), _, rfl, rfl, rfl⟩, ?_⟩
   refine Re0<|Re0<|Shift.done<|?_
   exact ⟨aj, rfl, rfl, (Slr.nil aK _)⟩



end Go.Hx

namespace Go.Hx
open Go Go.Proofs
set_option linter.unusedSimpArgs false
set_option linter.unusedVariables false
set_option maxRecDepth 10000
set_option maxHeartbeats 1000000 in
theorem hU (p0 : Op) (vp0_cases : SV) (vp0_draws : SV) (p1 : Int) (p2 : Bool) (y0 : Int) (H : gC p0 p1 p2 = some y0) (K : Kp) (G : List Ent) (hp0_cases : Slr aK K (sv vp0_cases) p0.cases) (hp0_draws : Slr Ty.i64 K (sv vp0_draws) p0.draws) :
  Fc Tryd.prog 62 #[(.agg (Op.cells p0 vp0_cases vp0_draws).toArray), (.int .i64 p1), (.bool p2)] K (G) (fun v K' G' => v = (.int .i64 y0) ∧ G = G') := by
 refine aE Tryd.func62 rfl Tryd.ntmps62 Tryd.results62 rfl ?_
 unfold gC at H
 refine ac<|aa<|?_
 refine ae rfl (aI (cs := (Op.cells p0 vp0_cases vp0_draws)) rfl rfl rfl (fun b52 => ?_))
 refine Ea Z<|ab<|ac<|aa<|EL 7 (Op.cells p0 vp0_cases vp0_draws) Z (Rb0 Z)<|?_
 obtain ⟨x53, hx54, H⟩ := bnd H
 refine ae rfl (Ek Tryd.call35 Z (jZ p0 vp0_cases vp0_draws x53 hx54 _ _ hp0_cases hp0_draws) ?_)
 rintro _ K56 _ hK57 ⟨v55, rfl, rfl, hs58⟩
 refine Ea Z<|ab<|?_
 refine ap (fun env' K' G' => [] = env' ∧ G = G' ∧ o0 = some y0) ?_ ?_
 ·skip
  refine ac<|aa<|Ea Z<|ab<|au<|?_
  refine aT (fun n131 env' K' G' => ∃ (i130 : Int), [(1, (.int .i64 p1)), (2, (.bool p2)), (7, (sv v55)), (8, (.int .i64 i130))] = env' ∧ K56 = K' ∧ G = G' ∧ lp1 (ja p1 p2 x53) n131 i130 = some y0) BIG ?_ ?_
  ·skip
   refine Re0<|Shift.done<|?_
   exact ⟨_, by exact ⟨rfl, rfl, rfl, rfl, trivial⟩, 0, rfl, rfl, rfl, H⟩
  rintro n131 _ _ _ - ⟨i130, rfl, rfl, rfl, H⟩
  obtain ⟨m132, k133, rfl, hkk134, H⟩ := qW H
  unfold ja at H
  refine ac<|ac<|aa<|Em Z<|Em Z<|Eq Z (bg (T := aK) hs58 rfl rfl)<|Ec Z<|ab<|?_
  refine ai rfl ?_ ?_
  ·intro h136
   have h136 := aD (h136)
   have H := ift h136 H
   refine ak<|ac<|au<|?_
   refine ap (fun env' K' G' => ∃ (t161 : Bool), [(1, (.int .i64 p1)), (2, (.bool p2)), (7, (sv v55)), (8, (.int .i64 i130)), (32, (.bool t161))] = env' ∧ K56 = K' ∧ G = G' ∧ i8 p1 p2 x53 i130 k133 t161 = some y0) ?_ ?_
   ·skip
    refine aa<|Em Z<|Em Z<|?_
    obtain ⟨x162, hx163, H⟩ := bnd H
    obtain ⟨r164, hr165, hk166⟩ := Slr.at hs58 hx163
    obtain rfl := hr165
    refine Eq Z (bE (T := aK) hs58 hx163 rfl rfl rfl rfl rfl)<|EF 1 Z<|El (.int .i64 x162.channel) Z (Rdc.k hk166 rfl)<|Em Z<|Ec Z<|Em Z<|?_
    refine Ee Z ?_ ?_
    ·intro h167
     have h167 := aD (h167)
     have H := ift h167 H
     refine Vm Z<|Vm Z<|?_
     obtain ⟨x168, hx169, H⟩ := bnd H
     obtain ⟨r170, hr171, hk172⟩ := Slr.at hs58 hx169
     obtain rfl := hr171
     refine Vq Z (bE (T := aK) hs58 hx169 rfl rfl rfl rfl rfl)<|VF 0 Z<|Vl (.bool x168.send) Z (Rdc.k hk172 rfl)<|Vm Z<|Vq Z (rB rfl rfl rfl)<|Et Z<|ab<|Shift.done<|?_
     exact ⟨_, by exact ⟨rfl, rfl, rfl, rfl, rfl, trivial⟩, (x168.send == p2), rfl, rfl, rfl, H⟩
    ·intro h167
     have h167 := aC (h167)
     have H := av h167 H
     refine Ez Z<|Ez Z<|Ez Z<|Ez Z<|Ez Z<|Ez Z<|Ez Z<|Ef Z<|ab<|Shift.done<|?_
     exact ⟨_, by exact ⟨rfl, rfl, rfl, rfl, rfl, trivial⟩, false, rfl, rfl, rfl, H⟩
   rintro _ _ _ - ⟨t161, rfl, rfl, rfl, H⟩
   unfold i8 at H
   refine ai rfl ?_ ?_
   ·intro h173
    have H := ift h173 H
    refine ac<|aa<|Em Z<|Ea Z<|ab<|am<|?_
    obtain ey0 := bi H
    subst y0
    refine ⟨(by first | exact .inl rfl | exact .inr rfl), [(.int .i64 i130)], ⟨(.int .i64 i130), _, rfl, rfl, rfl⟩, ?_⟩
    exact Shift.done ⟨rfl, rfl⟩
   ·intro h173
    have H := av (btf h173) H
    refine ak<|aa<|Em Z<|Er (wI (i130 + 1)) Z<|Ea Z<|ab<|Shift.done<|?_
    exact ⟨_, by exact ⟨rfl, rfl, rfl, rfl, trivial⟩, _, Nat.lt_succ_self _, (wI (i130 + 1)), rfl, rfl, rfl, (hkk134 ▸ H)⟩
  ·intro h136
   have h136 := aC (h136)
   have H := av h136 H
   refine aX<|Shift.done<|?_
   exact ⟨[], trivial, rfl, rfl, H⟩
 rintro _ K174 _ hK175 ⟨rfl, rfl, H⟩
 unfold o0 at H
 refine ac<|aa<|Ea Z<|ab<|am<|?_
 obtain ey0 := bi H
 subst y0
 refine ⟨(by first | exact .inl rfl | exact .inr rfl), [(.int .i64 (-1))], ⟨(.int .i64 (-1)), _, rfl, rfl, rfl⟩, ?_⟩
 exact Shift.done ⟨rfl, rfl⟩

set_option maxHeartbeats 1000000 in
theorem fN (p0 : Op) (vp0_cases : SV) (vp0_draws : SV) (p1 : Int) (y0 : Int) (H : gG p0 p1 = some y0) (K : Kp) (G : List Ent) (hp0_cases : Slr aK K (sv vp0_cases) p0.cases) (hp0_draws : Slr Ty.i64 K (sv vp0_draws) p0.draws) :
  Fc Tryd.prog 63 #[(.agg (Op.cells p0 vp0_cases vp0_draws).toArray), (.int .i64 p1)] K (G) (fun v K' G' => v = (.int .i64 y0) ∧ K = K' ∧ G = G') := by
 refine aE Tryd.func63 rfl Tryd.ntmps63 Tryd.results63 rfl ?_
 unfold gG at H
 refine ac<|aa<|?_
 refine ae rfl (aI (cs := (Op.cells p0 vp0_cases vp0_draws)) rfl rfl rfl (fun b3 => ?_))
 refine Ea Z<|ab<|ac<|ac<|aa<|EF 0 Z<|El (.int .i64 p0.kind) Z (Rb0 Z)<|Ec Z<|ab<|?_
 refine ai rfl ?_ ?_
 ·intro h5
  have h5 := aD (h5)
  have H := ift h5 H
  refine ac<|aa<|Em Z<|Ea Z<|ab<|am<|?_
  obtain ey0 := bi H
  subst y0
  refine ⟨(by first | exact .inl rfl | exact .inr rfl), [(.int .i64 p1)], ⟨(.int .i64 p1), _, rfl, rfl, rfl⟩, ?_⟩
  refine Re0<|Shift.done<|?_
  exact ⟨rfl, rfl, rfl⟩
 ·intro h5
  have h5 := aC (h5)
  have H := av h5 H
  refine ak<|ac<|aa<|Ea Z<|ab<|am<|?_
  obtain ey0 := bi H
  subst y0
  refine ⟨(by first | exact .inl rfl | exact .inr rfl), [(.int .i64 (-1))], ⟨(.int .i64 (-1)), _, rfl, rfl, rfl⟩, ?_⟩
  refine Re0<|Shift.done<|?_
  exact ⟨rfl, rfl, rfl⟩

set_option maxHeartbeats 1000000 in
theorem m6 (p0 : Desk) (vp0_chans : SV) (vp0_waiting : SV) (p1 : Int) (y0 : Desk) (H : fC p0 p1 = some y0) (K : Kp) (G : List Ent) (hp0_chans : Slr aB K (sv vp0_chans) p0.chans) (hp0_waiting : Slr aA K (sv vp0_waiting) p0.waiting) :
  Fc Tryd.prog 64 #[(.agg (Desk.cells p0 vp0_chans vp0_waiting).toArray), (.int .i64 p1)] K (G) (fun v K' G' => ∃ (wy0_chans : SV) (wy0_waiting : SV), v = (.agg (Desk.cells y0 wy0_chans wy0_waiting).toArray) ∧ (.tok 96 8 [(sv wy0_waiting)]) :: G = G' ∧ Slr aB K' (sv wy0_chans) y0.chans ∧ Slr aA K' (sv wy0_waiting) y0.waiting) := by
 refine aE Tryd.func64 rfl Tryd.ntmps64 Tryd.results64 rfl ?_
 unfold fC at H
 refine ac<|aa<|?_
 refine ae rfl (aI (cs := (Desk.cells p0 vp0_chans vp0_waiting)) rfl rfl rfl (fun b60 => ?_))
 refine ae rfl (an (cs := (Desk.cells (Desk.mk [] [] 0) aj aj)) rfl rfl rfl rfl (fun b61 => ?_))
 refine ab ?_
 refine ap (fun env' K' G' => ∃ (v113 : SV) (l114 : List Waiter), [(2, (.pointer (some ((⟨b60, 0, none⟩ : Addr).add 0)))), (4, (.pointer (some ((⟨b61, 0, none⟩ : Addr).add 0))))] = env' ∧ (.blk b61 64 (Desk.cells (Desk.mk [] [] 0) aj aj)) :: (.blk b60 64 (Desk.cells (Desk.mk p0.chans l114 p0.tick) vp0_chans v113)) :: (.tok 96 8 [(sv v113)]) :: G = G' ∧ jb p0 l114 = some y0 ∧ Slr aA K' (sv v113) l114) ?_ ?_
 ·skip
  obtain ⟨x116, hx117, H⟩ := bnd H
  obtain ⟨x119, hx120, H⟩ := bnd H
  obtain ⟨x125, hx126, H⟩ := bnd H
  obtain ⟨x129, hx130, H⟩ := bnd H
  refine ar [.blk b61 64 (Desk.cells (Desk.mk [] [] 0) aj aj)] rfl (Inc.cons Mb0 Inc.nil)<|JF 0 1 Z (by kernel_rfl)<|Jm 2 Z (by kernel_rfl)<|JF 5 1 Z (by kernel_rfl)<|Jm 7 Z (by kernel_rfl)<|Jr 8 (wI (p1 + 1)) Z (by kernel_rfl)<|?_
  refine br 1 6 (by kernel_rfl) ?_ ?_
  ·skip
   refine id (Jyq Z (aW (v := (sv vp0_waiting)) rfl rfl rfl (Rb1 Z)) ⟨(Inc.cons Mb0 Inc.nil), ?_⟩)
   have hs135 := Slr.cut hp0_waiting hx117
   refine Jq 3 Z (by kernel_rfl) (eY (T := aA) hp0_waiting hx117 rfl rfl rfl rfl) ?_
   refine br 4 6 (by kernel_rfl) ?_ ?_
   ·skip
    refine id (Jy Z ?_)
    refine OpW.shift (Shift.nilTok1 96 8 (Shift.done ?_))
    refine aL (T := aA) (bytes := 96) (q := 0) rfl rfl rfl (Slr.nil aA _) Mb0 rfl (SrcT.sl hs135) hx120 rfl rfl rfl rfl rfl rfl rfl rfl (fun v136 K137 hK138 hs139 => ⟨_, .here, ⟨(Inc.cons Mb1 Inc.nil), ?_⟩⟩)
    refine ah 6 (by kernel_rfl) (Jyq Z (aW (v := (sv vp0_waiting)) rfl rfl rfl (Rb2 Z)) ⟨(Inc.cons Mb1 Inc.nil), ?_⟩)
    have hs140 := Slr.cutL hp0_waiting hx126
    refine Jq 9 Z (by kernel_rfl) (eZ (T := aA) hp0_waiting hx126 rfl rfl rfl rfl rfl) ?_
    refine ah 10 (by kernel_rfl) (Jy Z ?_)
    have hs141 := (hs140).mono hK138
    refine aL (T := aA) (bytes := 96) (q := 0) rfl rfl rfl hs139 Mb0 rfl (SrcT.sl hs141) hx130 rfl rfl rfl rfl rfl rfl rfl rfl (fun v142 K143 hK144 hs145 => ⟨_, .here, ⟨(Inc.cons Mb1 Inc.nil), ?_⟩⟩)
    refine JF 11 1 Z (by kernel_rfl) ?_
    refine ah 12 (by kernel_rfl) (Jy Z ?_)
    refine ag (vs := [(sv v142)]) (all' := (Desk.cells (Desk.mk p0.chans x129 p0.tick) vp0_chans v142)) rfl rfl rfl rfl rfl (.there (.there .here)) rfl rfl rfl ⟨(Inc.cons Mb1 Inc.nil), ?_⟩
    refine ay (by kernel_rfl)<|Pu2<|Pu2<|Shift.done<|?_
    exact ⟨_, by exact ⟨rfl, rfl, trivial⟩, v142, x129, rfl, rfl, H, hs145⟩
   ·skip
    refine id (Jyq Z (aW (v := (sv vp0_waiting)) rfl rfl rfl (Rb1 Z)) ⟨(Inc.cons Mb0 Inc.nil), ?_⟩)
    have hs146 := Slr.cutL hp0_waiting hx126
    refine Jq 9 Z (by kernel_rfl) (eZ (T := aA) hp0_waiting hx126 rfl rfl rfl rfl rfl) ?_
    refine ah 4 (by kernel_rfl) (Jy Z ?_)
    refine OpW.shift (Shift.nilTok1 96 8 (Shift.done ?_))
    refine aL (T := aA) (bytes := 96) (q := 0) rfl rfl rfl (Slr.nil aA _) Mb0 rfl (SrcT.sl hs135) hx120 rfl rfl rfl rfl rfl rfl rfl rfl (fun v147 K148 hK149 hs150 => ⟨_, .here, ⟨(Inc.cons Mb1 Inc.nil), ?_⟩⟩)
    refine ah 10 (by kernel_rfl) (Jy Z ?_)
    have hs151 := (hs146).mono hK149
    refine aL (T := aA) (bytes := 96) (q := 0) rfl rfl rfl hs150 Mb0 rfl (SrcT.sl hs151) hx130 rfl rfl rfl rfl rfl rfl rfl rfl (fun v152 K153 hK154 hs155 => ⟨_, .here, ⟨(Inc.cons Mb1 Inc.nil), ?_⟩⟩)
    refine JF 11 1 Z (by kernel_rfl) ?_
    refine ah 12 (by kernel_rfl) (Jy Z ?_)
    refine ag (vs := [(sv v152)]) (all' := (Desk.cells (Desk.mk p0.chans x129 p0.tick) vp0_chans v152)) rfl rfl rfl rfl rfl (.there (.there .here)) rfl rfl rfl ⟨(Inc.cons Mb1 Inc.nil), ?_⟩
    refine ay (by kernel_rfl)<|Pu2<|Pu2<|Shift.done<|?_
    exact ⟨_, by exact ⟨rfl, rfl, trivial⟩, v152, x129, rfl, rfl, H, hs155⟩
  ·skip
   refine id (Jyq Z (aW (v := (sv vp0_waiting)) rfl rfl rfl (Rb1 Z)) ⟨(Inc.cons Mb0 Inc.nil), ?_⟩)
   have hs156 := Slr.cutL hp0_waiting hx126
   refine Jq 9 Z (by kernel_rfl) (eZ (T := aA) hp0_waiting hx126 rfl rfl rfl rfl rfl) ?_
   refine ah 1 (by kernel_rfl) (Jyq Z (aW (v := (sv vp0_waiting)) rfl rfl rfl (Rb1 Z)) ⟨(Inc.cons Mb0 Inc.nil), ?_⟩)
   have hs157 := Slr.cut hp0_waiting hx117
   refine Jq 3 Z (by kernel_rfl) (eY (T := aA) hp0_waiting hx117 rfl rfl rfl rfl) ?_
   refine ah 4 (by kernel_rfl) (Jy Z ?_)
   refine OpW.shift (Shift.nilTok1 96 8 (Shift.done ?_))
   refine aL (T := aA) (bytes := 96) (q := 0) rfl rfl rfl (Slr.nil aA _) Mb0 rfl (SrcT.sl hs157) hx120 rfl rfl rfl rfl rfl rfl rfl rfl (fun v158 K159 hK160 hs161 => ⟨_, .here, ⟨(Inc.cons Mb1 Inc.nil), ?_⟩⟩)
   refine ah 10 (by kernel_rfl) (Jy Z ?_)
   have hs162 := (hs156).mono hK160
   refine aL (T := aA) (bytes := 96) (q := 0) rfl rfl rfl hs161 Mb0 rfl (SrcT.sl hs162) hx130 rfl rfl rfl rfl rfl rfl rfl rfl (fun v163 K164 hK165 hs166 => ⟨_, .here, ⟨(Inc.cons Mb1 Inc.nil), ?_⟩⟩)
   refine JF 11 1 Z (by kernel_rfl) ?_
   refine ah 12 (by kernel_rfl) (Jy Z ?_)
   refine ag (vs := [(sv v163)]) (all' := (Desk.cells (Desk.mk p0.chans x129 p0.tick) vp0_chans v163)) rfl rfl rfl rfl rfl (.there (.there .here)) rfl rfl rfl ⟨(Inc.cons Mb1 Inc.nil), ?_⟩
   refine ay (by kernel_rfl)<|Pu2<|Pu2<|Shift.done<|?_
   exact ⟨_, by exact ⟨rfl, rfl, trivial⟩, v163, x129, rfl, rfl, H, hs166⟩
 rintro _ K167 _ hK168 ⟨v113, l114, rfl, rfl, H, hs115⟩
 unfold jb at H
 refine ac<|aa<|EL 3 (Desk.cells (Desk.mk p0.chans l114 p0.tick) vp0_chans v113) Z (Rb1 Z)<|?_
 refine ae rfl (ag (vs := (Desk.cells (Desk.mk p0.chans l114 p0.tick) vp0_chans v113)) (all' := (Desk.cells (Desk.mk p0.chans l114 p0.tick) vp0_chans v113)) rfl rfl rfl rfl rfl .here rfl rfl rfl ?_)
 refine ab<|am<|?_
 obtain ey0 := bi H
 subst y0
 refine ⟨(by first | exact .inl rfl | exact .inr rfl), [(.agg (Desk.cells (Desk.mk p0.chans l114 p0.tick) vp0_chans v113).toArray)], ⟨(.agg (Desk.cells (Desk.mk p0.chans l114 p0.tick) vp0_chans v113).toArray), _, rfl, ⟨_, 3, (Desk.cells (Desk.mk p0.chans l114 p0.tick) vp0_chans v113), rfl, rfl, rfl, rfl, ⟨rfl, Rb0 Z⟩, rfl⟩, rfl⟩, ?_⟩
 refine Pu2<|Re1<|Re1<|?_
 have hs169 := (hp0_chans).mono hK168
 exact Shift.done ⟨vp0_chans, v113, rfl, rfl, hs169, hs115⟩

set_option maxHeartbeats 1000000 in
theorem hX (p0 : List Done) (vp0 : SV) (p1 : Int) (p2 : Result) (y0 : List Done) (H : jH p0 p1 p2 = some y0) (K : Kp) (G : List Ent) (hp0 : Slr aw K (sv vp0) p0) :
  Fc Tryd.prog 65 #[(sv vp0), (.int .i64 p1), (.agg (Result.cells p2).toArray)] K (G) (fun v K' G' => ∃ (wy0 : SV), v = (sv wy0) ∧ (.tok 47 6 [(sv wy0)]) :: G = G' ∧ Slr aw K' (sv wy0) y0) := by
 refine aE Tryd.func65 rfl Tryd.ntmps65 Tryd.results65 rfl ?_
 unfold jH at H
 refine ac<|aa<|?_
 refine ae rfl (aI (cs := (Result.cells p2)) rfl rfl rfl (fun b97 => ?_))
 refine Ea Z<|ab<|ac<|aa<|Em Z<|Eq Z (bg (T := aw) hp0 rfl rfl)<|Ea Z<|ab<|?_
 refine ap (fun env' K' G' => ∃ (i122 : Int), [(0, (sv vp0)), (1, (.int .i64 p1)), (5, (.pointer (some ((⟨b97, 0, none⟩ : Addr).add 0)))), (7, (.int .i64 i122))] = env' ∧ (.blk b97 36 (Result.cells p2)) :: G = G' ∧ jc p0 p1 p2 i122 = some y0) ?_ ?_
 ·skip
  refine au ?_
  refine aT (fun n147 env' K' G' => ∃ (i146 : Int), [(0, (sv vp0)), (1, (.int .i64 p1)), (5, (.pointer (some ((⟨b97, 0, none⟩ : Addr).add 0)))), (7, (.int .i64 i146))] = env' ∧ K = K' ∧ (.blk b97 36 (Result.cells p2)) :: G = G' ∧ lp1 (mN p0 p1 p2) n147 i146 = some y0) BIG ?_ ?_
  ·skip
   exact Shift.done ⟨_, by exact ⟨rfl, rfl, rfl, rfl, trivial⟩, (p0.length : Int), rfl, rfl, rfl, H⟩
  rintro n147 _ _ _ - ⟨i146, rfl, rfl, rfl, H⟩
  obtain ⟨m148, k149, rfl, hkk150, H⟩ := qW H
  unfold mN at H
  refine ac ?_
  refine ap (fun env' K' G' => ∃ (t165 : Bool), [(0, (sv vp0)), (1, (.int .i64 p1)), (5, (.pointer (some ((⟨b97, 0, none⟩ : Addr).add 0)))), (7, (.int .i64 i146)), (22, (.bool t165))] = env' ∧ K = K' ∧ (.blk b97 36 (Result.cells p2)) :: G = G' ∧ jd p0 p1 i146 p2 k149 t165 = some y0) ?_ ?_
  ·skip
   refine aa<|Em Z<|Ec Z<|Em Z<|?_
   refine Ee Z ?_ ?_
   ·intro h166
    have h166 := aD (h166)
    have H := ift h166 H
    refine Vm Z<|Vm Z<|Vr (wI (i146 - 1)) Z<|?_
    obtain ⟨x167, hx168, H⟩ := bnd H
    obtain ⟨r169, hr170, hk171⟩ := Slr.at hp0 hx168
    obtain rfl := hr170
    refine Vq Z (bE (T := aw) hp0 hx168 rfl rfl rfl rfl rfl)<|VF 0 Z<|Vl (.int .i64 x167.thread) Z (Rdc.k hk171 rfl)<|Vm Z<|Vc Z<|Et Z<|ab<|Shift.done<|?_
    exact ⟨_, by exact ⟨rfl, rfl, rfl, rfl, rfl, trivial⟩, (dcd (x167.thread > p1)), rfl, rfl, rfl, H⟩
   ·intro h166
    have h166 := aC (h166)
    have H := av h166 H
    refine Ez Z<|Ez Z<|Ez Z<|Ez Z<|Ez Z<|Ez Z<|Ez Z<|Ez Z<|Ef Z<|ab<|?_
    exact Shift.done ⟨_, by exact ⟨rfl, rfl, rfl, rfl, rfl, trivial⟩, false, rfl, rfl, rfl, H⟩
  rintro _ _ _ - ⟨t165, rfl, rfl, rfl, H⟩
  unfold jd at H
  refine ai rfl ?_ ?_
  ·intro h172
   have H := ift h172 H
   refine ak<|au<|aa<|Em Z<|Er (wI (i146 - 1)) Z<|Ea Z<|ab<|Shift.done<|?_
   exact ⟨_, by exact ⟨rfl, rfl, rfl, rfl, trivial⟩, _, Nat.lt_succ_self _, (wI (i146 - 1)), rfl, rfl, rfl, (hkk150 ▸ H)⟩
  ·intro h172
   have H := av (btf h172) H
   refine aX<|Shift.done<|?_
   exact ⟨_, by exact ⟨rfl, rfl, rfl, rfl, trivial⟩, i146, rfl, rfl, H⟩
 rintro _ K173 _ hK174 ⟨i122, rfl, rfl, H⟩
 unfold jc at H
 refine ac<|aa<|Em Z<|Em Z<|?_
 obtain ⟨x175, hx176, H⟩ := bnd H
 have hs177 := (hp0).mono hK174
 have hs178 := Slr.cut hs177 hx176
 refine Eq Z (eY (T := aw) hs177 hx176 rfl rfl rfl rfl) ?_
 refine Ow.shift (Shift.nilTok1 47 6 (Shift.done ?_))
 obtain ⟨x179, hx180, H⟩ := bnd H
 refine ae rfl (aL (T := aw) (bytes := 48) (q := 0) rfl rfl rfl (Slr.nil aw _) Mb0 rfl (SrcT.sl hs178) hx180 rfl rfl rfl rfl rfl rfl rfl rfl (fun v181 K182 hK183 hs184 => ⟨_, .here, ?_⟩))
 refine Ea Z<|ab<|ac<|?_
 obtain ⟨x218, hx219, H⟩ := bnd H
 obtain ⟨x224, hx225, H⟩ := bnd H
 obtain ⟨x228, hx229, H⟩ := bnd H
 refine ar [.blk b97 36 (Result.cells p2)] rfl (Inc.cons Mb1 Inc.nil)<|Jm 0 Z (by kernel_rfl)<|Jm 1 Z (by kernel_rfl)<|JL 2 5 (Result.cells p2) Z (by kernel_rfl) (Rb0 Z)<|Jq 3 Z (by kernel_rfl) (ao (cs := (Done.cells (Done.mk p1 p2))) rfl rfl rfl rfl rfl rfl)<|Jm 6 Z (by kernel_rfl)<|Jm 7 Z (by kernel_rfl)<|?_
 have hs234 := (hs177).mono hK183
 have hs235 := Slr.cutL hs234 hx225
 refine Jq 8 Z (by kernel_rfl) (eZ (T := aw) hs234 hx225 rfl rfl rfl rfl rfl) ?_
 refine ah 4 (by kernel_rfl) (Jy Z ?_)
 have hR237 : RowR aw K182 [(Done.cells (Done.mk p1 p2))] [(Done.mk p1 p2)] := RowR.cons rfl (RowR.nil)
 refine aS (T := aw) (rows := [(Done.cells (Done.mk p1 p2))]) (l := [(Done.mk p1 p2)]) rfl rfl rfl hR237 rfl rfl rfl rfl rfl rfl rfl rfl (fun v236 => ⟨(Inc.cons Mb2 Inc.nil), ?_⟩)
 refine ah 5 (by kernel_rfl) (Jy Z ?_)
 refine aL (T := aw) (bytes := 48) (q := 0) rfl rfl rfl hs184 Mb1 rfl (SrcT.row Mb0 hR237 rfl) hx219 rfl rfl rfl rfl rfl rfl rfl rfl (fun v238 K239 hK240 hs241 => ⟨_, (.there .here), ⟨(Inc.cons Mb2 Inc.nil), ?_⟩⟩)
 refine Aw.shift (Re0 (Shift.done ⟨(Inc.cons Mb1 Inc.nil), ?_⟩))
 refine ah 9 (by kernel_rfl) (Jy Z ?_)
 have hs242 := (hs235).mono hK240
 refine aL (T := aw) (bytes := 48) (q := 0) rfl rfl rfl hs241 Mb0 rfl (SrcT.sl hs242) hx229 rfl rfl rfl rfl rfl rfl rfl rfl (fun v243 K244 hK245 hs246 => ⟨_, .here, ⟨(Inc.cons Mb1 Inc.nil), ?_⟩⟩)
 refine Ja 10 Z (by kernel_rfl)<|ay (by kernel_rfl)<|am<|?_
 obtain ey0 := bi H
 subst y0
 refine ⟨(by first | exact .inl rfl | exact .inr rfl), [(sv v243)], ⟨(sv v243), _, rfl, rfl, rfl⟩, ?_⟩
 refine Re1<|Shift.done<|?_
 exact ⟨v243, rfl, rfl, hs246⟩

set_option maxHeartbeats 1000000 in
theorem r3 (p0 : Desk) (vp0_chans : SV) (vp0_waiting : SV) (p1 : Int) (p2 : Op) (vp2_cases : SV) (vp2_draws : SV) (y0 : Desk) (y1 : List Done) (H : jf p0 p1 p2 = some (y0, y1)) (K : Kp) (G : List Ent) (hp0_chans : Slr aB K (sv vp0_chans) p0.chans) (hp0_waiting : Slr aA K (sv vp0_waiting) p0.waiting) (hp2_cases : Slr aK K (sv vp2_cases) p2.cases) (hp2_draws : Slr Ty.i64 K (sv vp2_draws) p2.draws) :
  Fc Tryd.prog 32 #[(.agg (Desk.cells p0 vp0_chans vp0_waiting).toArray), (.int .i64 p1), (.agg (Op.cells p2 vp2_cases vp2_draws).toArray)] K (G) (fun v K' G' => ∃ (wy0_chans : SV) (wy0_waiting : SV) (wy1 : SV), v = (.tuple #[(.agg (Desk.cells y0 wy0_chans wy0_waiting).toArray), (sv wy1)]) ∧ (.tok 47 6 [(sv wy1)]) :: G = G' ∧ Slr aB K' (sv wy0_chans) y0.chans ∧ Slr aA K' (sv wy0_waiting) y0.waiting ∧ Slr aw K' (sv wy1) y1) := by
 refine aE Tryd.func32 rfl Tryd.ntmps32 Tryd.results32 rfl ?_
 unfold jf at H
 refine ac<|aa<|?_
 refine ae rfl (aI (cs := (Desk.cells p0 vp0_chans vp0_waiting)) rfl rfl rfl (fun b321 => ?_))
 refine ae rfl (aI (cs := (Op.cells p2 vp2_cases vp2_draws)) rfl rfl rfl (fun b322 => ?_))
 refine ae rfl (an (cs := (Desk.cells (Desk.mk [] [] 0) aj aj)) rfl rfl rfl rfl (fun b323 => ?_))
 refine Ea Z<|ab<|ac<|?_
 refine ap (fun env' K' G' => ∃ (t346 : Bool), [(1, (.int .i64 p1)), (3, (.pointer (some ((⟨b321, 0, none⟩ : Addr).add 0)))), (5, (.pointer (some ((⟨b322, 0, none⟩ : Addr).add 0)))), (6, (.pointer (some ((⟨b323, 0, none⟩ : Addr).add 0)))), (34, (.bool t346))] = env' ∧ K = K' ∧ (.blk b323 64 (Desk.cells (Desk.mk [] [] 0) aj aj)) :: (.blk b322 43 (Op.cells p2 vp2_cases vp2_draws)) :: (.blk b321 64 (Desk.cells p0 vp0_chans vp0_waiting)) :: G = G' ∧ lp p1 p2 p0 t346 = some (y0, y1)) ?_ ?_
 ·skip
  refine aa<|EF 2 Z<|El (.int .i64 p2.channel) Z (Rb1 Z)<|Ec Z<|Em Z<|?_
  refine Ee Z ?_ ?_
  ·intro h347
   have h347 := aD (h347)
   have H := ift h347 H
   refine Ez Z<|Ez Z<|Ez Z<|Ez Z<|Ez Z<|Ez Z<|Et Z<|Em Z<|Ez Z<|Ez Z<|?_
   refine Ez Z<|Ez Z<|Ez Z<|Ez Z<|Ez Z<|Et Z<|ab<|Pu2<|Pu2<|Pu2<|?_
   exact Shift.done ⟨_, by exact ⟨rfl, rfl, rfl, rfl, rfl, trivial⟩, true, rfl, rfl, rfl, H⟩
  ·intro h347
   have h347 := aC (h347)
   have H := av h347 H
   refine VF 2 Z<|Vl (.int .i64 p2.channel) Z (Rb1 Z)<|VF 0 Z<|Vl (sv vp0_chans) Z (Rb2 Z)<|Vq Z (bg (T := aB) hp0_chans rfl rfl)<|Vc Z<|Ef Z<|Em Z<|?_
   refine Ee Z ?_ ?_
   ·intro h348
    have h348 := aD (h348)
    have H := ift h348 H
    refine Ez Z<|Ez Z<|Ez Z<|Ez Z<|Ez Z<|Ez Z<|Ez Z<|Et Z<|ab<|Pu2<|?_
    refine Pu2<|Pu2<|Shift.done<|?_
    exact ⟨_, by exact ⟨rfl, rfl, rfl, rfl, rfl, trivial⟩, true, rfl, rfl, rfl, H⟩
   ·intro h348
    have h348 := aC (h348)
    have H := av h348 H
    refine VF 0 Z<|Vl (sv vp0_chans) Z (Rb2 Z)<|VF 2 Z<|Vl (.int .i64 p2.channel) Z (Rb1 Z)<|?_
    obtain ⟨x349, hx350, H⟩ := bnd H
    obtain ⟨r351, hr352, hk353⟩ := Slr.at hp0_chans hx350
    obtain ⟨v354, rfl, hs355⟩ := hr352
    refine Vq Z (bE (T := aB) hp0_chans hx350 rfl rfl rfl rfl rfl)<|VF 2 Z<|Vl (.bool x349.closed) Z (Rdc.k hk353 rfl)<|Ef Z<|ab<|Pu2<|Pu2<|Pu2<|Shift.done<|?_
    exact ⟨_, by exact ⟨rfl, rfl, rfl, rfl, rfl, trivial⟩, x349.closed, rfl, rfl, rfl, H⟩
 rintro _ _ _ - ⟨t346, rfl, rfl, rfl, H⟩
 unfold lp at H
 refine ai rfl ?_ ?_
 ·intro h356
  have H := ift h356 H
  refine ac<|aa<|EL 3 (Desk.cells p0 vp0_chans vp0_waiting) Z (Rb2 Z)<|Em Z<|Eq Z (ao (cs := (Result.cells (Result.mk 5 (-1) 0 false 0))) rfl rfl rfl rfl rfl rfl)<|Eq Z (ao (cs := (Done.cells (Done.mk p1 (Result.mk 5 (-1) 0 false 0)))) rfl rfl rfl rfl rfl rfl)<|?_
  have hR358 : RowR aw K [(Done.cells (Done.mk p1 (Result.mk 5 (-1) 0 false 0)))] [(Done.mk p1 (Result.mk 5 (-1) 0 false 0))] := RowR.cons rfl (RowR.nil)
  refine ae rfl (aS (T := aw) (rows := [(Done.cells (Done.mk p1 (Result.mk 5 (-1) 0 false 0)))]) (l := [(Done.mk p1 (Result.mk 5 (-1) 0 false 0))]) rfl rfl rfl hR358 rfl rfl rfl rfl rfl rfl rfl rfl (fun v357 => ?_))
  refine ae rfl (ag (vs := (Desk.cells p0 vp0_chans vp0_waiting)) (all' := (Desk.cells p0 vp0_chans vp0_waiting)) rfl rfl rfl rfl rfl (.there .here) rfl rfl rfl ?_)
  refine Ea Z<|ab<|am<|?_
  obtain ⟨ey0, ey1⟩ := cg H
  subst y0 y1
  refine ⟨(by first | exact .inl rfl | exact .inr rfl), [(.agg (Desk.cells p0 vp0_chans vp0_waiting).toArray), (sv v357)], ⟨(.agg (Desk.cells p0 vp0_chans vp0_waiting).toArray), _, rfl, ⟨_, 3, (Desk.cells p0 vp0_chans vp0_waiting), rfl, rfl, rfl, rfl, ⟨rfl, Rb1 Z⟩, rfl⟩, ⟨(sv v357), _, rfl, rfl, rfl⟩⟩, ?_⟩
  refine Shift.settle (T := aw) .here hR358 rfl ?_
  intro K359 hK360 hs361
  refine Re1<|Re1<|Re1<|?_
  have hs362 := (hp0_chans).mono hK360
  have hs363 := (hp0_waiting).mono hK360
  exact Shift.done ⟨vp0_chans, vp0_waiting, v357, rfl, rfl, hs362, hs363, hs361⟩
 ·intro h356
  have H := av (btf h356) H
  refine ak<|ac<|aa<|EF 0 Z<|El (sv vp0_chans) Z (Rb2 Z)<|EF 2 Z<|El (.int .i64 p2.channel) Z (Rb1 Z)<|?_
  obtain ⟨x364, hx365, H⟩ := bnd H
  obtain ⟨r366, hr367, hk368⟩ := Slr.at hp0_chans hx365
  obtain ⟨v369, rfl, hs370⟩ := hr367
  refine Eq Z (bE (T := aB) hp0_chans hx365 rfl rfl rfl rfl rfl)<|EL 3 (Chan.cells x364 v369) Z (Rdc.k hk368 rfl)<|?_
  refine ae rfl (an (cs := (Chan.cells (Chan.mk 0 [] false) aj)) rfl rfl rfl rfl (fun b371 => ?_))
  refine ae rfl (ag (vs := (Chan.cells x364 v369)) (all' := (Chan.cells x364 v369)) rfl rfl rfl rfl rfl .here rfl rfl rfl ?_)
  refine ab<|ac<|aa<|EF 2 Z<|?_
  refine ae rfl (ag (vs := [(.bool true)]) (all' := (Chan.cells (Chan.mk x364.capacity x364.buffer true) v369)) rfl rfl rfl rfl rfl .here rfl rfl rfl ?_)
  refine ab<|ac<|aa<|EL 3 (Desk.cells p0 vp0_chans vp0_waiting) Z (Rb3 Z)<|EF 2 Z<|El (.int .i64 p2.channel) Z (Rb2 Z)<|EL 3 (Chan.cells (Chan.mk x364.capacity x364.buffer true) v369) Z (Rb0 Z)<|?_
  obtain ⟨x372, hx373, H⟩ := bnd H
  refine ae rfl (Ek Tryd.call61 Z (fM p0 vp0_chans vp0_waiting p2.channel (Chan.mk x364.capacity x364.buffer true) v369 x372 hx373 _ _ hp0_chans hp0_waiting hs370) ?_)
  rintro _ _ _ - ⟨v374, rs375, v376, rfl, rfl, rfl, hs377, hs378⟩
  refine ae rfl (ag (vs := (Desk.cells x372 v374 v376)) (all' := (Desk.cells x372 v374 v376)) rfl rfl rfl rfl rfl (.there (.there (.there (.there .here)))) rfl rfl rfl ?_)
  refine ab<|ac<|aa<|Em Z<|Eq Z (ao (cs := (Result.cells (Result.mk 6 (-1) 0 false 0))) rfl rfl rfl rfl rfl rfl)<|Eq Z (ao (cs := (Done.cells (Done.mk p1 (Result.mk 6 (-1) 0 false 0)))) rfl rfl rfl rfl rfl rfl)<|?_
  have hR380 : RowR aw K [(Done.cells (Done.mk p1 (Result.mk 6 (-1) 0 false 0)))] [(Done.mk p1 (Result.mk 6 (-1) 0 false 0))] := RowR.cons rfl (RowR.nil)
  refine ae rfl (aS (T := aw) (rows := [(Done.cells (Done.mk p1 (Result.mk 6 (-1) 0 false 0)))]) (l := [(Done.mk p1 (Result.mk 6 (-1) 0 false 0))]) rfl rfl rfl hR380 rfl rfl rfl rfl rfl rfl rfl rfl (fun v379 => ?_))
  refine Ea Z<|ab<|?_
  refine ap (fun env' K' G' => ∃ (v648 : SV) (l649 : List Done) (v651 : SV) (l652 : List Chan) (v654 : SV) (l655 : List Waiter) (i657 : Int), [(3, (.pointer (some ((⟨b321, 0, none⟩ : Addr).add 0)))), (6, (.pointer (some ((⟨b323, 0, none⟩ : Addr).add 0)))), (9, (sv v648))] = env' ∧ (.blk b323 64 (Desk.cells (Desk.mk [] [] 0) aj aj)) :: (.blk b321 64 (Desk.cells (Desk.mk l652 l655 i657) v651 v654)) :: (.tok 47 6 [(sv v648)]) :: G = G' ∧ je l649 l652 l655 i657 = some (y0, y1) ∧ Slr aw K' (sv v648) l649 ∧ Slr aB K' (sv v651) l652 ∧ Slr aA K' (sv v654) l655) ?_ ?_
  ·skip
   refine ac<|aa<|Ea Z<|ab<|au<|?_
   refine aT (fun n925 env' K' G' => ∃ (v914 : SV) (l915 : List Done) (i917 : Int) (v918 : SV) (l919 : List Chan) (v921 : SV) (l922 : List Waiter) (i924 : Int), [(3, (.pointer (some ((⟨b321, 0, none⟩ : Addr).add 0)))), (5, (.pointer (some ((⟨b322, 0, none⟩ : Addr).add 0)))), (6, (.pointer (some ((⟨b323, 0, none⟩ : Addr).add 0)))), (9, (sv v914)), (10, (.int .i64 i917))] = env' ∧ (.blk b323 64 (Desk.cells (Desk.mk [] [] 0) aj aj)) :: (.blk b322 43 (Op.cells p2 vp2_cases vp2_draws)) :: (.blk b321 64 (Desk.cells (Desk.mk l919 l922 i924) v918 v921)) :: (.tok 47 6 [(sv v914)]) :: G = G' ∧ lp5 (jI p2) n925 l915 i917 l919 l922 i924 = some (y0, y1) ∧ Slr aw K' (sv v914) l915 ∧ Slr aB K' (sv v918) l919 ∧ Slr aA K' (sv v921) l922) BIG ?_ ?_
   ·skip
    refine Shift.settle (T := aw) .here hR380 rfl ?_
    intro K926 hK927 hs928
    have hs932 := (hs377).mono hK927
    refine Shift.settle (T := aB) (.there .here) hs932 rfl ?_
    intro K929 hK930 hs931
    refine Pu5<|Pu5<|Pu5<|Re4<|Re4<|?_
    have hs933 := (hs928).mono hK930
    have hs934 := ((hs378).mono hK927).mono hK930
    exact Shift.done ⟨_, by exact ⟨rfl, rfl, rfl, rfl, rfl, trivial⟩, v379, [(Done.mk p1 (Result.mk 6 (-1) 0 false 0))], 0, v374, x372.chans, v376, x372.waiting, x372.tick, rfl, rfl, H, hs933, hs931, hs934⟩
   rintro n925 _ K935 _ hK936 ⟨v914, l915, i917, v918, l919, v921, l922, i924, rfl, rfl, H, hs916, hs920, hs923⟩
   obtain ⟨m937, k938, rfl, hkk939, H⟩ := tD H
   unfold jI at H
   refine ac<|ac<|aa<|Em Z<|Ec Z<|ab<|?_
   refine ai rfl ?_ ?_
   ·intro h941
    have h941 := aD (h941)
    have H := ift h941 H
    refine ak ?_
    refine ap (fun env' K' G' => ∃ (v1049 : SV) (l1050 : List Done) (v1052 : SV) (l1053 : List Chan) (v1055 : SV) (l1056 : List Waiter) (i1058 : Int), [(3, (.pointer (some ((⟨b321, 0, none⟩ : Addr).add 0)))), (5, (.pointer (some ((⟨b322, 0, none⟩ : Addr).add 0)))), (6, (.pointer (some ((⟨b323, 0, none⟩ : Addr).add 0)))), (9, (sv v1049)), (10, (.int .i64 i917))] = env' ∧ (.blk b323 64 (Desk.cells (Desk.mk [] [] 0) aj aj)) :: (.blk b322 43 (Op.cells p2 vp2_cases vp2_draws)) :: (.blk b321 64 (Desk.cells (Desk.mk l1053 l1056 i1058) v1052 v1055)) :: (.tok 47 6 [(sv v1049)]) :: G = G' ∧ mO i917 p2 k938 l1050 l1053 l1056 i1058 = some (y0, y1) ∧ Slr aw K' (sv v1049) l1050 ∧ Slr aB K' (sv v1052) l1053 ∧ Slr aA K' (sv v1055) l1056) ?_ ?_
    ·skip
     refine au<|ac<|aa<|Ea Z<|ab<|au<|?_
     refine aT (fun n1166 env' K' G' => ∃ (v1155 : SV) (l1156 : List Done) (i1158 : Int) (v1159 : SV) (l1160 : List Chan) (v1162 : SV) (l1163 : List Waiter) (i1165 : Int), [(3, (.pointer (some ((⟨b321, 0, none⟩ : Addr).add 0)))), (5, (.pointer (some ((⟨b322, 0, none⟩ : Addr).add 0)))), (6, (.pointer (some ((⟨b323, 0, none⟩ : Addr).add 0)))), (9, (sv v1155)), (10, (.int .i64 i917)), (11, (.int .i64 i1158))] = env' ∧ (.blk b323 64 (Desk.cells (Desk.mk [] [] 0) aj aj)) :: (.blk b322 43 (Op.cells p2 vp2_cases vp2_draws)) :: (.blk b321 64 (Desk.cells (Desk.mk l1160 l1163 i1165) v1159 v1162)) :: (.tok 47 6 [(sv v1155)]) :: G = G' ∧ lp5 (ln i917 p2 k938) n1166 l1156 i1158 l1160 l1163 i1165 = some (y0, y1) ∧ Slr aw K' (sv v1155) l1156 ∧ Slr aB K' (sv v1159) l1160 ∧ Slr aA K' (sv v1162) l1163) BIG ?_ ?_
     ·skip
      refine Pu3<|Pu3<|Pu3<|Pu3<|Shift.done<|?_
      exact ⟨_, by exact ⟨rfl, rfl, rfl, rfl, rfl, rfl, trivial⟩, v914, l915, 0, v918, l919, v921, l922, i924, rfl, rfl, H, hs916, hs920, hs923⟩
     rintro n1166 _ K1167 _ hK1168 ⟨v1155, l1156, i1158, v1159, l1160, v1162, l1163, i1165, rfl, rfl, H, hs1157, hs1161, hs1164⟩
     obtain ⟨m1169, k1170, rfl, hkk1171, H⟩ := tD H
     unfold ln at H
     refine ac<|ac<|aa<|Em Z<|EF 1 Z<|El (sv v1162) Z (Rb2 Z)<|Eq Z (bg (T := aA) hs1164 rfl rfl)<|Ec Z<|ab<|?_
     refine ai rfl ?_ ?_
     ·intro h1173
      have h1173 := aD (h1173)
      have H := ift h1173 H
      refine ak<|au<|ac<|aa<|EF 1 Z<|El (sv v1162) Z (Rb2 Z)<|Em Z<|?_
      obtain ⟨x1174, hx1175, H⟩ := bnd H
      obtain ⟨r1176, hr1177, hk1178⟩ := Slr.at hs1164 hx1175
      obtain ⟨v1179, v1180, rfl, hs1181, hs1182⟩ := hr1177
      refine Eq Z (bE (T := aA) hs1164 hx1175 rfl rfl rfl rfl rfl)<|EL 8 (Waiter.cells x1174 v1179 v1180) Z (Rdc.k hk1178 rfl)<|?_
      refine ae rfl (an (cs := (Waiter.cells (Waiter.mk 0 (Op.mk 0 0 0 0 0 [] [])) aj aj)) rfl rfl rfl rfl (fun b1183 => ?_))
      refine ae rfl (ag (vs := (Waiter.cells x1174 v1179 v1180)) (all' := (Waiter.cells x1174 v1179 v1180)) rfl rfl rfl rfl rfl .here rfl rfl rfl ?_)
      refine ab<|ac<|aa<|EF 1 Z<|EL 7 (Op.cells x1174.op v1179 v1180) Z (Rb0 Z)<|EF 2 Z<|El (.int .i64 p2.channel) Z (Rb2 Z)<|Em Z<|Ec Z<|?_
      obtain ⟨x1184, hx1185, H⟩ := bnd H
      refine ae rfl (Ek Tryd.call62 Z (hU x1174.op v1179 v1180 p2.channel (dcd (i917 = 1)) x1184 hx1185 _ _ hs1181 hs1182) ?_)
      rintro _ K1186 _ hK1187 ⟨rfl, rfl⟩
      refine Ea Z<|ab<|ac<|ac<|aa<|Em Z<|Ec Z<|ab<|?_
      refine ai rfl ?_ ?_
      ·intro h1189
       have h1189 := aD (h1189)
       have H := ift h1189 H
       refine ac<|aa<|Em Z<|Er (wI (i1158 + 1)) Z<|Ea Z<|ab<|aX<|Pu4<|Pu4<|Pu4<|?_
       refine Pu4<|Re4<|?_
       have hs1190 := (hs1157).mono hK1187
       have hs1191 := (hs1161).mono hK1187
       have hs1192 := (hs1164).mono hK1187
       exact Shift.done ⟨_, by exact ⟨rfl, rfl, rfl, rfl, rfl, rfl, trivial⟩, _, Nat.lt_succ_self _, v1155, l1156, (wI (i1158 + 1)), v1159, l1160, v1162, l1163, i1165, rfl, rfl, (hkk1171 ▸ H), hs1190, hs1191, hs1192⟩
      ·intro h1189
       have h1189 := aC (h1189)
       have H := av h1189 H
       refine ak<|ac<|aa<|EF 1 Z<|EL 7 (Op.cells x1174.op v1179 v1180) Z (Rb0 Z)<|Em Z<|?_
       obtain ⟨x1193, hx1194, H⟩ := bnd H
       have hs1195 := (hs1181).mono hK1187
       have hs1196 := (hs1182).mono hK1187
       refine ae rfl (Ek Tryd.call63 Z (fN x1174.op v1179 v1180 x1184 x1193 hx1194 _ _ hs1195 hs1196) ?_)
       rintro _ _ _ - ⟨rfl, rfl, rfl⟩
       refine Eq Z (ao (cs := (Result.cells (Result.mk 2 x1193 0 false 0))) rfl rfl rfl rfl rfl rfl) ?_
       refine ae rfl (an (cs := (Result.cells (Result.mk 0 0 0 false 0))) rfl rfl rfl rfl (fun b1197 => ?_))
       refine ae rfl (ag (vs := (Result.cells (Result.mk 2 x1193 0 false 0))) (all' := (Result.cells (Result.mk 2 x1193 0 false 0))) rfl rfl rfl rfl rfl .here rfl rfl rfl ?_)
       refine ab ?_
       refine ap (fun env' K' G' => ∃ (i1199 : Int), [(3, (.pointer (some ((⟨b321, 0, none⟩ : Addr).add 0)))), (5, (.pointer (some ((⟨b322, 0, none⟩ : Addr).add 0)))), (6, (.pointer (some ((⟨b323, 0, none⟩ : Addr).add 0)))), (9, (sv v1155)), (10, (.int .i64 i917)), (11, (.int .i64 i1158)), (12, (.pointer (some ((⟨b1183, 0, none⟩ : Addr).add 0)))), (14, (.pointer (some ((⟨b1197, 0, none⟩ : Addr).add 0))))] = env' ∧ K1186 = K' ∧ (.blk b1197 36 (Result.cells (Result.mk i1199 x1193 0 false 0))) :: (.blk b1183 96 (Waiter.cells x1174 v1179 v1180)) :: (.blk b323 64 (Desk.cells (Desk.mk [] [] 0) aj aj)) :: (.blk b322 43 (Op.cells p2 vp2_cases vp2_draws)) :: (.blk b321 64 (Desk.cells (Desk.mk l1160 l1163 i1165) v1159 v1162)) :: (.tok 47 6 [(sv v1155)]) :: G = G' ∧ lm l1156 i917 i1158 x1193 x1174 p2 l1160 l1163 i1165 k938 k1170 i1199 = some (y0, y1)) ?_ ?_
       ·skip
        refine ac<|aa<|Em Z<|Ec Z<|ab<|?_
        refine ai rfl ?_ ?_
        ·intro h1200
         have h1200 := aD (h1200)
         have H := ift h1200 H
         refine aa<|EF 0 Z<|?_
         refine ae rfl (ag (vs := [(.int .i64 5)]) (all' := (Result.cells (Result.mk 5 x1193 0 false 0))) rfl rfl rfl rfl rfl .here rfl rfl rfl ?_)
         refine ab<|Pu5<|Pu5<|Pu5<|Pu5<|Pu5<|Pu5<|Shift.done<|?_
         exact ⟨_, by exact ⟨rfl, rfl, rfl, rfl, rfl, rfl, rfl, rfl, trivial⟩, 5, rfl, rfl, rfl, H⟩
        ·intro h1200
         have h1200 := aC (h1200)
         have H := av h1200 H
         refine ak<|Pu5<|Pu5<|Pu5<|Pu5<|Pu5<|Pu5<|Shift.done<|?_
         exact ⟨_, by exact ⟨rfl, rfl, rfl, rfl, rfl, rfl, rfl, rfl, trivial⟩, 2, rfl, rfl, rfl, H⟩
       rintro _ _ _ - ⟨i1199, rfl, rfl, rfl, H⟩
       unfold lm at H
       refine ac<|aa<|EL 3 (Desk.cells (Desk.mk l1160 l1163 i1165) v1159 v1162) Z (Rb4 Z)<|Em Z<|?_
       obtain ⟨x1201, hx1202, H⟩ := bnd H
       have hs1203 := (hs1161).mono hK1187
       have hs1204 := (hs1164).mono hK1187
       refine ae rfl (Ek Tryd.call64 Z (m6 (Desk.mk l1160 l1163 i1165) v1159 v1162 i1158 x1201 hx1202 _ _ hs1203 hs1204) ?_)
       rintro _ K1207 _ hK1208 ⟨v1205, v1206, rfl, rfl, hs1209, hs1210⟩
       refine ae rfl (ag (vs := (Desk.cells x1201 v1205 v1206)) (all' := (Desk.cells x1201 v1205 v1206)) rfl rfl rfl rfl rfl (.there (.there (.there (.there (.there .here))))) rfl rfl rfl ?_)
       refine ab<|aa<|Em Z<|EF 0 Z<|El (.int .i64 x1174.thread) Z (Rb2 Z)<|EL 5 (Result.cells (Result.mk i1199 x1193 0 false 0)) Z (Rb1 Z)<|?_
       obtain ⟨x1211, hx1212, H⟩ := bnd H
       have hs1213 := ((hs1157).mono hK1187).mono hK1208
       refine ae rfl (Ek Tryd.call65 Z (hX l1156 v1155 x1174.thread (Result.mk i1199 x1193 0 false 0) x1211 hx1212 _ _ hs1213) ?_)
       rintro _ K1215 _ hK1216 ⟨v1214, rfl, rfl, hs1217⟩
       refine Ea Z<|ab<|Pu6<|Pu6<|Pu6<|Re4<|Re4<|Re4<|Re4<|?_
       have hs1218 := (hs1209).mono hK1216
       have hs1219 := (hs1210).mono hK1216
       exact Shift.done ⟨_, by exact ⟨rfl, rfl, rfl, rfl, rfl, rfl, trivial⟩, _, Nat.lt_succ_self _, v1214, x1211, i1158, v1205, x1201.chans, v1206, x1201.waiting, x1201.tick, rfl, rfl, (hkk1171 ▸ H), hs1217, hs1218, hs1219⟩
     ·intro h1173
      have h1173 := aC (h1173)
      have H := av h1173 H
      refine aX<|Pu3<|Pu3<|Pu3<|Pu3<|Shift.done<|?_
      exact ⟨_, by exact ⟨rfl, rfl, rfl, rfl, rfl, trivial⟩, v1155, l1156, v1159, l1160, v1162, l1163, i1165, rfl, rfl, H, hs1157, hs1161, hs1164⟩
    rintro _ K1220 _ hK1221 ⟨v1049, l1050, v1052, l1053, v1055, l1056, i1058, rfl, rfl, H, hs1051, hs1054, hs1057⟩
    unfold mO at H
    refine aa<|Em Z<|Er (wI (i917 + 1)) Z<|Ea Z<|ab<|Pu3<|Pu3<|Pu3<|Pu3<|Shift.done<|?_
    exact ⟨_, by exact ⟨rfl, rfl, rfl, rfl, rfl, trivial⟩, _, Nat.lt_succ_self _, v1049, l1050, (wI (i917 + 1)), v1052, l1053, v1055, l1056, i1058, rfl, rfl, (hkk939 ▸ H), hs1051, hs1054, hs1057⟩
   ·intro h941
    have h941 := aC (h941)
    have H := av h941 H
    refine aX<|Pu3<|Pu3<|Pu2<|Re3<|Shift.done<|?_
    exact ⟨_, by exact ⟨rfl, rfl, rfl, trivial⟩, v914, l915, v918, l919, v921, l922, i924, rfl, rfl, H, hs916, hs920, hs923⟩
  rintro _ K1222 _ hK1223 ⟨v648, l649, v651, l652, v654, l655, i657, rfl, rfl, H, hs650, hs653, hs656⟩
  unfold je at H
  refine ac<|aa<|EL 3 (Desk.cells (Desk.mk l652 l655 i657) v651 v654) Z (Rb1 Z)<|Em Z<|?_
  refine ae rfl (ag (vs := (Desk.cells (Desk.mk l652 l655 i657) v651 v654)) (all' := (Desk.cells (Desk.mk l652 l655 i657) v651 v654)) rfl rfl rfl rfl rfl .here rfl rfl rfl ?_)
  refine Ea Z<|ab<|am<|?_
  obtain ⟨ey0, ey1⟩ := cg H
  subst y0 y1
  refine ⟨(by first | exact .inl rfl | exact .inr rfl), [(.agg (Desk.cells (Desk.mk l652 l655 i657) v651 v654).toArray), (sv v648)], ⟨(.agg (Desk.cells (Desk.mk l652 l655 i657) v651 v654).toArray), _, rfl, ⟨_, 3, (Desk.cells (Desk.mk l652 l655 i657) v651 v654), rfl, rfl, rfl, rfl, ⟨rfl, Rb0 Z⟩, rfl⟩, ⟨(sv v648), _, rfl, rfl, rfl⟩⟩, ?_⟩
  refine Pu2<|Re1<|Re1<|Shift.done<|?_
  exact ⟨v651, v654, v648, rfl, rfl, hs653, hs656, hs650⟩

set_option maxHeartbeats 1000000 in
theorem pR (p0 : Desk) (vp0_chans : SV) (vp0_waiting : SV) (p1 : Int) (p2 : Case) (y0 : Int) (H : lr p0 p1 p2 = some y0) (K : Kp) (G : List Ent) (hp0_chans : Slr aB K (sv vp0_chans) p0.chans) (hp0_waiting : Slr aA K (sv vp0_waiting) p0.waiting) :
  Fc Tryd.prog 68 #[(.agg (Desk.cells p0 vp0_chans vp0_waiting).toArray), (.int .i64 p1), (.agg (Case.cells p2).toArray)] K (G) (fun v K' G' => v = (.int .i64 y0) ∧ G = G') := by
 refine aE Tryd.func68 rfl Tryd.ntmps68 Tryd.results68 rfl ?_
 unfold lr at H
 refine ac<|aa<|?_
 refine ae rfl (aI (cs := (Desk.cells p0 vp0_chans vp0_waiting)) rfl rfl rfl (fun b135 => ?_))
 refine ae rfl (aI (cs := (Case.cells p2)) rfl rfl rfl (fun b136 => ?_))
 refine Ea Z<|ab<|ac<|?_
 refine ap (fun env' K' G' => ∃ (t141 : Bool), [(1, (.int .i64 p1)), (3, (.pointer (some ((⟨b135, 0, none⟩ : Addr).add 0)))), (5, (.pointer (some ((⟨b136, 0, none⟩ : Addr).add 0)))), (18, (.bool t141))] = env' ∧ K = K' ∧ (.blk b136 92 (Case.cells p2)) :: (.blk b135 64 (Desk.cells p0 vp0_chans vp0_waiting)) :: G = G' ∧ jo p1 p2 p0 t141 = some y0) ?_ ?_
 ·skip
  refine aa<|EF 1 Z<|El (.int .i64 p2.channel) Z (Rb0 Z)<|Ec Z<|Em Z<|?_
  refine Ee Z ?_ ?_
  ·intro h142
   have h142 := aD (h142)
   have H := ift h142 H
   refine Ez Z<|Ez Z<|Ez Z<|Ez Z<|Ez Z<|Ez Z<|Et Z<|ab<|Pu1<|Pu1<|?_
   exact Shift.done ⟨_, by exact ⟨rfl, rfl, rfl, rfl, trivial⟩, true, rfl, rfl, rfl, H⟩
  ·intro h142
   have h142 := aC (h142)
   have H := av h142 H
   refine VF 1 Z<|Vl (.int .i64 p2.channel) Z (Rb0 Z)<|VF 0 Z<|Vl (sv vp0_chans) Z (Rb1 Z)<|Vq Z (bg (T := aB) hp0_chans rfl rfl)<|Vc Z<|Ef Z<|ab<|Pu1<|Pu1<|?_
   exact Shift.done ⟨_, by exact ⟨rfl, rfl, rfl, rfl, trivial⟩, (dcd (p2.channel ≥ (p0.chans.length : Int))), rfl, rfl, rfl, H⟩
 rintro _ _ _ - ⟨t141, rfl, rfl, rfl, H⟩
 unfold jo at H
 refine ai rfl ?_ ?_
 ·intro h143
  have H := ift h143 H
  refine ac<|aa<|Ea Z<|ab<|am<|?_
  obtain ey0 := bi H
  subst y0
  refine ⟨(by first | exact .inl rfl | exact .inr rfl), [(.int .i64 (-1))], ⟨(.int .i64 (-1)), _, rfl, rfl, rfl⟩, ?_⟩
  refine Re0<|Re0<|Shift.done<|?_
  exact ⟨rfl, rfl⟩
 ·intro h143
  have H := av (btf h143) H
  refine ak ?_
  refine ap (fun env' K' G' => [] = env' ∧ G = G' ∧ o5 = some y0) ?_ ?_
  ·skip
   refine ac<|aa<|Ea Z<|ab<|au<|?_
   refine aT (fun n364 env' K' G' => ∃ (i363 : Int), [(1, (.int .i64 p1)), (3, (.pointer (some ((⟨b135, 0, none⟩ : Addr).add 0)))), (5, (.pointer (some ((⟨b136, 0, none⟩ : Addr).add 0)))), (7, (.int .i64 i363))] = env' ∧ (.blk b136 92 (Case.cells p2)) :: (.blk b135 64 (Desk.cells p0 vp0_chans vp0_waiting)) :: G = G' ∧ lp1 (jn p1 p2 p0) n364 i363 = some y0) BIG ?_ ?_
   ·skip
    refine Pu1<|Pu1<|Shift.done<|?_
    exact ⟨_, by exact ⟨rfl, rfl, rfl, rfl, trivial⟩, 0, rfl, rfl, H⟩
   rintro n364 _ K365 _ hK366 ⟨i363, rfl, rfl, H⟩
   obtain ⟨m367, k368, rfl, hkk369, H⟩ := qW H
   unfold jn at H
   refine ac<|ac<|aa<|Em Z<|EF 1 Z<|El (sv vp0_waiting) Z (Rb1 Z)<|?_
   have hs372 := (hp0_waiting).mono hK366
   refine Eq Z (bg (T := aA) hs372 rfl rfl)<|Ec Z<|ab<|?_
   refine ai rfl ?_ ?_
   ·intro h373
    have h373 := aD (h373)
    have H := ift h373 H
    refine ak<|ac<|au<|?_
    refine ap (fun env' K' G' => ∃ (t470 : Bool), [(1, (.int .i64 p1)), (3, (.pointer (some ((⟨b135, 0, none⟩ : Addr).add 0)))), (5, (.pointer (some ((⟨b136, 0, none⟩ : Addr).add 0)))), (7, (.int .i64 i363)), (48, (.bool t470))] = env' ∧ (.blk b136 92 (Case.cells p2)) :: (.blk b135 64 (Desk.cells p0 vp0_chans vp0_waiting)) :: G = G' ∧ jk p1 i363 p2 p0 k368 t470 = some y0) ?_ ?_
    ·skip
     obtain ⟨x471, hx472, H⟩ := bnd H
     rcases dy (!(dcd (x471.thread = p1))) with hb_ | hb_ <;> revert hb_
     ·intro h480
      have h480 := aC (dw (h480))
      have H := av h480 H
      obtain ⟨x481, hx482, H⟩ := bnd H
      obtain ⟨x490, hx491, H⟩ := bnd H
      refine ar [.blk b136 92 (Case.cells p2), .blk b135 64 (Desk.cells p0 vp0_chans vp0_waiting)] rfl (Inc.cons Mb0 (Inc.cons Mb1 Inc.nil))<|JF 0 1 Z (by kernel_rfl)<|Jl 1 (sv vp0_waiting) Z (by kernel_rfl) (Rb1 Z)<|Jm 2 Z (by kernel_rfl)<|?_
      obtain ⟨r494, hr495, hk496⟩ := Slr.at hs372 hx472
      obtain ⟨v497, v498, rfl, hs499, hs500⟩ := hr495
      refine Jq 3 Z (by kernel_rfl) (bE (T := aA) hs372 hx472 rfl rfl rfl rfl rfl)<|JF 4 0 Z (by kernel_rfl)<|Jl 5 (.int .i64 x471.thread) Z (by kernel_rfl) (Rdc.k hk496 rfl)<|Jm 6 Z (by kernel_rfl)<|Jc 7 Z (by kernel_rfl)<|Jm 8 Z (by kernel_rfl)<|Aw.known (d := 34) rfl (ox (hY h480))<|BF 9 1 Z (by kernel_rfl)<|Bl 10 (sv vp0_waiting) Z (by kernel_rfl) (Rb1 Z)<|Bm 11 Z (by kernel_rfl)<|?_
      obtain ⟨r501, hr502, hk503⟩ := Slr.at hs372 hx482
      obtain ⟨v504, v505, rfl, hs506, hs507⟩ := hr502
      refine Bq 12 Z (by kernel_rfl) (bE (T := aA) hs372 hx482 rfl rfl rfl rfl rfl)<|BF 13 1 Z (by kernel_rfl)<|BL 14 7 (Op.cells x481.op v504 v505) Z (by kernel_rfl) (Rdc.k hk503 rfl)<|BF 15 1 Z (by kernel_rfl)<|Bl 16 (.int .i64 p2.channel) Z (by kernel_rfl) (Rb0 Z)<|BF 17 0 Z (by kernel_rfl)<|Bl 18 (.bool p2.send) Z (by kernel_rfl) (Rb0 Z)<|Bq 19 Z (by kernel_rfl) (bC rfl)<|?_
      refine ah 20 (by kernel_rfl) (tX rfl rfl rfl rfl rfl ?_)
      refine Ek Tryd.call62 Z (hU x481.op v504 v505 p2.channel (!(p2.send)) x490 hx491 _ _ hs506 hs507) ?_
      rintro _ K508 _ hK509 ⟨rfl, rfl⟩
      refine ⟨(Inc.cons Mb0 (Inc.cons Mb1 Inc.nil)), ?_⟩
      refine Bc 21 Z (by kernel_rfl)<|Jt 22 Z (by kernel_rfl)<|ay (by kernel_rfl)<|Pu1<|Pu1<|Shift.done<|?_
      exact ⟨_, by exact ⟨rfl, rfl, rfl, rfl, rfl, trivial⟩, (dcd (x490 ≥ 0)), rfl, rfl, H⟩
     ·intro h480
      have h480 := aD (du (h480))
      have H := ift h480 H
      refine ar [.blk b136 92 (Case.cells p2), .blk b135 64 (Desk.cells p0 vp0_chans vp0_waiting)] rfl (Inc.cons Mb0 (Inc.cons Mb1 Inc.nil))<|JF 0 1 Z (by kernel_rfl)<|Jl 1 (sv vp0_waiting) Z (by kernel_rfl) (Rb1 Z)<|Jm 2 Z (by kernel_rfl)<|?_
      obtain ⟨r510, hr511, hk512⟩ := Slr.at hs372 hx472
      obtain ⟨v513, v514, rfl, hs515, hs516⟩ := hr511
      refine Jq 3 Z (by kernel_rfl) (bE (T := aA) hs372 hx472 rfl rfl rfl rfl rfl)<|JF 4 0 Z (by kernel_rfl)<|Jl 5 (.int .i64 x471.thread) Z (by kernel_rfl) (Rdc.k hk512 rfl)<|Jm 6 Z (by kernel_rfl)<|Jc 7 Z (by kernel_rfl)<|Jm 8 Z (by kernel_rfl)<|Aw.known (d := 34) rfl (sK (fR h480))<|Jz 9 Z (by kernel_rfl)<|Jz 10 Z (by kernel_rfl)<|Jz 11 Z (by kernel_rfl)<|?_
      refine Jz 12 Z (by kernel_rfl)<|Jz 13 Z (by kernel_rfl)<|Jz 14 Z (by kernel_rfl)<|Jz 15 Z (by kernel_rfl)<|Jz 16 Z (by kernel_rfl)<|Jz 17 Z (by kernel_rfl)<|Jz 18 Z (by kernel_rfl)<|Jz 19 Z (by kernel_rfl)<|Jz 20 Z (by kernel_rfl)<|Jz 21 Z (by kernel_rfl)<|?_
      refine Jf 22 Z (by kernel_rfl)<|ay (by kernel_rfl)<|Pu1<|Pu1<|Shift.done<|?_
      exact ⟨_, by exact ⟨rfl, rfl, rfl, rfl, rfl, trivial⟩, false, rfl, rfl, H⟩
    rintro _ K517 _ hK518 ⟨t470, rfl, rfl, H⟩
    unfold jk at H
    refine ai rfl ?_ ?_
    ·intro h519
     have H := ift h519 H
     refine ac<|aa<|Em Z<|Ea Z<|ab<|am<|?_
     obtain ey0 := bi H
     subst y0
     refine ⟨(by first | exact .inl rfl | exact .inr rfl), [(.int .i64 i363)], ⟨(.int .i64 i363), _, rfl, rfl, rfl⟩, ?_⟩
     refine Re0<|Re0<|Shift.done<|?_
     exact ⟨rfl, rfl⟩
    ·intro h519
     have H := av (btf h519) H
     refine ak<|aa<|Em Z<|Er (wI (i363 + 1)) Z<|Ea Z<|ab<|Pu1<|Pu1<|Shift.done<|?_
     exact ⟨_, by exact ⟨rfl, rfl, rfl, rfl, trivial⟩, _, Nat.lt_succ_self _, (wI (i363 + 1)), rfl, rfl, (hkk369 ▸ H)⟩
   ·intro h373
    have h373 := aC (h373)
    have H := av h373 H
    refine aX<|Re0<|Re0<|Shift.done<|?_
    exact ⟨[], trivial, rfl, rfl, H⟩
  rintro _ K520 _ hK521 ⟨rfl, rfl, H⟩
  unfold o5 at H
  refine ac<|aa<|Ea Z<|ab<|am<|?_
  obtain ey0 := bi H
  subst y0
  refine ⟨(by first | exact .inl rfl | exact .inr rfl), [(.int .i64 (-1))], ⟨(.int .i64 (-1)), _, rfl, rfl, rfl⟩, ?_⟩
  exact Shift.done ⟨rfl, rfl⟩

set_option maxHeartbeats 1000000 in
theorem pS (p0 : Desk) (vp0_chans : SV) (vp0_waiting : SV) (p1 : Int) (p2 : Case) (y0 : Bool) (H : lu p0 p1 p2 = some y0) (K : Kp) (G : List Ent) (hp0_chans : Slr aB K (sv vp0_chans) p0.chans) (hp0_waiting : Slr aA K (sv vp0_waiting) p0.waiting) :
  Fc Tryd.prog 34 #[(.agg (Desk.cells p0 vp0_chans vp0_waiting).toArray), (.int .i64 p1), (.agg (Case.cells p2).toArray)] K (G) (fun v K' G' => v = (.bool y0) ∧ G = G') := by
 refine aE Tryd.func34 rfl Tryd.ntmps34 Tryd.results34 rfl ?_
 unfold lu at H
 refine ac<|aa<|?_
 refine ae rfl (aI (cs := (Desk.cells p0 vp0_chans vp0_waiting)) rfl rfl rfl (fun b10 => ?_))
 refine ae rfl (aI (cs := (Case.cells p2)) rfl rfl rfl (fun b11 => ?_))
 refine Ea Z<|ab<|ac<|aa<|EF 0 Z<|El (sv vp0_chans) Z (Rb1 Z)<|EL 3 (Case.cells p2) Z (Rb0 Z)<|?_
 obtain ⟨x19, hx20, H⟩ := bnd H
 refine ae rfl (Ek Tryd.call67 Z (tj p0.chans vp0_chans p2 x19 hx20 _ _ hp0_chans) ?_)
 rintro _ _ _ - ⟨rfl, rfl, rfl⟩
 refine Em Z ?_
 refine Ee Z ?_ ?_
 ·intro h21
  have H := ift h21 H
  refine Ez Z<|Ez Z<|Ez Z<|Ez Z<|Ez Z<|Et Z<|Ea Z<|ab<|am<|?_
  obtain ey0 := bi H
  subst y0
  refine ⟨(by first | exact .inl rfl | exact .inr rfl), [(.bool true)], ⟨(.bool true), _, rfl, rfl, rfl⟩, ?_⟩
  refine Re0<|Re0<|Shift.done<|?_
  exact ⟨rfl, rfl⟩
 ·intro h21
  have H := av (btf h21) H
  refine VL 3 (Desk.cells p0 vp0_chans vp0_waiting) Z (Rb1 Z)<|Vm Z<|VL 3 (Case.cells p2) Z (Rb0 Z)<|?_
  obtain ⟨x22, hx23, H⟩ := bnd H
  refine ct rfl rfl rfl rfl (Ek Tryd.call68 Z (pR p0 vp0_chans vp0_waiting p1 p2 x22 hx23 _ _ hp0_chans hp0_waiting) ?_)
  rintro _ K24 _ hK25 ⟨rfl, rfl⟩
  refine Vc Z<|Ef Z<|Ea Z<|ab<|am<|?_
  obtain ey0 := bi H
  subst y0
  refine ⟨(by first | exact .inl rfl | exact .inr rfl), [(.bool (dcd (x22 ≥ 0)))], ⟨(.bool (dcd (x22 ≥ 0))), _, rfl, rfl, rfl⟩, ?_⟩
  refine Re0<|Re0<|Shift.done<|?_
  exact ⟨rfl, rfl⟩



end Go.Hx

namespace Go.Hx
open Go Go.Proofs
set_option linter.unusedSimpArgs false
set_option linter.unusedVariables false
set_option maxRecDepth 10000
set_option maxHeartbeats 1000000 in
theorem r4 (p0 : List Int) (vp0 : SV) (p1 : Int) (y0 : Int) (H : jg p0 p1 = some y0) (K : Kp) (G : List Ent) (hp0 : Slr Ty.i64 K (sv vp0) p0) :
  Fc Tryd.prog 92 #[(sv vp0), (.int .i64 p1)] K (G) (fun v K' G' => v = (.int .i64 y0) ∧ K = K' ∧ G = G') := by
 refine aE Tryd.func92 rfl Tryd.ntmps92 Tryd.results92 rfl ?_
 unfold jg at H
 refine ac<|aa<|Ea Z<|ab<|ac<|ac<|aa<|Em Z<|Em Z<|Eq Z (bg (T := Ty.i64) hp0 rfl rfl)<|?_
 refine Ec Z<|ab<|?_
 refine ai rfl ?_ ?_
 ·intro h11
  have h11 := aD (h11)
  have H := ift h11 H
  refine ac<|aa<|Ea Z<|ab<|am<|?_
  obtain ey0 := bi H
  subst y0
  refine ⟨(by first | exact .inl rfl | exact .inr rfl), [(.int .i64 0)], ⟨(.int .i64 0), _, rfl, rfl, rfl⟩, ?_⟩
  exact Shift.done ⟨rfl, rfl, rfl⟩
 ·intro h11
  have h11 := aC (h11)
  have H := av h11 H
  refine ak<|ac<|aa<|Em Z<|Em Z<|?_
  obtain ⟨x12, hx13, H⟩ := bnd H
  obtain ⟨r14, hr15, hk16⟩ := Slr.at hp0 hx13
  obtain rfl := hr15
  refine Eq Z (bE (T := Ty.i64) hp0 hx13 rfl rfl rfl rfl rfl)<|El (.int .i64 x12) Z (Rdc.k hk16 rfl)<|Em Z<|Er (wI (p1 + 1)) Z<|?_
  obtain ⟨x17, hx18, H⟩ := bnd H
  refine Eq Z (rA hx18 rfl rfl)<|Ea Z<|ab<|ac<|ac<|aa<|Em Z<|Ec Z<|ab<|?_
  refine ai rfl ?_ ?_
  ·intro h20
   have h20 := aD (h20)
   have H := ift h20 H
   refine aa<|Em Z<|Em Z<|Er (wI (p1 + 1)) Z<|Er (wI (x17 + (wI (p1 + 1)))) Z<|Ea Z<|ab<|ac<|aa<|Em Z<|?_
   refine Ea Z<|ab<|am<|?_
   obtain ey0 := bi H
   subst y0
   refine ⟨(by first | exact .inl rfl | exact .inr rfl), [(.int .i64 (wI (x17 + (wI (p1 + 1)))))], ⟨(.int .i64 (wI (x17 + (wI (p1 + 1))))), _, rfl, rfl, rfl⟩, ?_⟩
   exact Shift.done ⟨rfl, rfl, rfl⟩
  ·intro h20
   have h20 := aC (h20)
   have H := av h20 H
   refine ak<|ac<|aa<|Em Z<|Ea Z<|ab<|am<|?_
   obtain ey0 := bi H
   subst y0
   refine ⟨(by first | exact .inl rfl | exact .inr rfl), [(.int .i64 x17)], ⟨(.int .i64 x17), _, rfl, rfl, rfl⟩, ?_⟩
   exact Shift.done ⟨rfl, rfl, rfl⟩

set_option maxHeartbeats 1000000 in
theorem tq (p0 : Int) (p1 : List Int) (vp1 : SV) (y0 : List Int) (H : jJ p0 p1 = some y0) (K : Kp) (G : List Ent) (hp1 : Slr Ty.i64 K (sv vp1) p1) :
  Fc Tryd.prog 87 #[(.int .i64 p0), (sv vp1)] K (G) (fun v K' G' => ∃ (wy0 : SV) (rswy0 : List (List Value)), v = (sv wy0) ∧ (.row (sv wy0) 3 1 rswy0.flatten) :: G = G' ∧ RowR Ty.i64 K' rswy0 y0) := by
 refine aE Tryd.func87 rfl Tryd.ntmps87 Tryd.results87 rfl ?_
 unfold jJ at H
 refine ac<|aa<|Ea Z<|ab<|ac<|?_
 refine ap (fun env' K' G' => ∃ (t136 : Bool), [(0, (.int .i64 p0)), (1, (sv vp1)), (16, (.bool t136))] = env' ∧ K = K' ∧ G = G' ∧ lq p0 p1 t136 = some y0) ?_ ?_
 ·skip
  refine aa<|Em Z<|Ec Z<|Em Z<|?_
  refine Ee Z ?_ ?_
  ·intro h137
   have h137 := aD (h137)
   have H := ift h137 H
   refine Ez Z<|Ez Z<|Et Z<|ab<|Shift.done<|?_
   exact ⟨_, by exact ⟨rfl, rfl, rfl, trivial⟩, true, rfl, rfl, rfl, H⟩
  ·intro h137
   have h137 := aC (h137)
   have H := av h137 H
   refine Vm Z<|Vc Z<|Ef Z<|ab<|Shift.done<|?_
   exact ⟨_, by exact ⟨rfl, rfl, rfl, trivial⟩, (dcd (p0 > 20)), rfl, rfl, rfl, H⟩
 rintro _ _ _ - ⟨t136, rfl, rfl, rfl, H⟩
 unfold lq at H
 refine ai rfl ?_ ?_
 ·intro h138
  have H := ift h138 H
  refine ac<|aa<|Ea Z<|ab<|am<|?_
  obtain ey0 := bi H
  subst y0
  refine ⟨(by first | exact .inl rfl | exact .inr rfl), [(sv aj)], ⟨(sv aj), _, rfl, rfl, rfl⟩, ?_⟩
  have hR139 : RowR Ty.i64 K [] [] := RowR.nil
  refine Shift.nilRow 3 1<|Shift.done<|?_
  exact ⟨aj, ([] : List (List Value)), rfl, rfl, hR139⟩
 ·intro h138
  have H := av (btf h138) H
  refine ak<|ac<|aa<|Em Z<|?_
  obtain ⟨x140, hx141, H⟩ := bnd H
  refine ae rfl (dF (T := Ty.i64) (r := [(.int .i64 0)]) rfl rfl rfl hx141 rfl rfl rfl rfl rfl rfl rfl rfl rfl rfl (fun v142 rs143 hR144 hz145 => ?_))
  refine Ea Z<|ab<|?_
  refine ap (fun env' K' G' => ∃ (l175 : List Int) (rs177 : List (List Value)), [(0, (.int .i64 p0)), (1, (sv vp1)), (5, (sv v142))] = env' ∧ (.row (sv v142) 3 1 rs177.flatten) :: G = G' ∧ ji p0 p1 l175 = some y0 ∧ RowR Ty.i64 K' rs177 l175) ?_ ?_
  ·skip
   refine ac<|aa<|Ea Z<|ab<|au<|?_
   refine aT (fun n207 env' K' G' => ∃ (l203 : List Int) (rs205 : List (List Value)) (i206 : Int), [(0, (.int .i64 p0)), (1, (sv vp1)), (5, (sv v142)), (6, (.int .i64 i206))] = env' ∧ K = K' ∧ (.row (sv v142) 3 1 rs205.flatten) :: G = G' ∧ lp2 (jj p0 p1) n207 l203 i206 = some y0 ∧ RowR Ty.i64 K' rs205 l203) BIG ?_ ?_
   ·skip
    exact Shift.done ⟨_, by exact ⟨rfl, rfl, rfl, rfl, trivial⟩, x140, rs143, 0, rfl, rfl, rfl, H, hR144⟩
   rintro n207 _ _ _ - ⟨l203, rs205, i206, rfl, rfl, rfl, H, hR204⟩
   obtain ⟨m208, k209, rfl, hkk210, H⟩ := f0 H
   unfold jj at H
   refine ac<|ac<|aa<|Em Z<|Em Z<|Ec Z<|ab<|?_
   refine ai rfl ?_ ?_
   ·intro h212
    have h212 := aD (h212)
    have H := ift h212 H
    refine ak<|ac<|au<|aa<|Em Z<|Em Z<|Em Z<|?_
    obtain ⟨x220, hx221, H⟩ := bnd H
    obtain ⟨r222, hq223, hr224⟩ := RowR.at hR204 hx221
    obtain rfl := hr224
    refine Eq Z (bu (T := Ty.i64) Mb0 hR204 hq223 (az hx221).1 rfl rfl rfl rfl rfl) ?_
    refine ae rfl (bA (T := Ty.i64) (vs := [(.int .i64 i206)]) (r' := [(.int .i64 i206)]) (l' := (aG l203 i206 i206)) rfl rfl rfl rfl rfl .here hR204 hq223 rfl rfl rfl (RowR.set i206 hR204 rfl) (fun hR225 => ?_))
    have hE226 := cO hq223 (v := [(.int .i64 i206)])
    refine ab<|aa<|Em Z<|Er (wI (i206 + 1)) Z<|Ea Z<|ab<|Shift.done<|?_
    exact ⟨_, by exact ⟨rfl, rfl, rfl, rfl, trivial⟩, _, Nat.lt_succ_self _, (aG l203 i206 i206), (rs205.set i206.toNat [(.int .i64 i206)]), (wI (i206 + 1)), rfl, rfl, rfl, (hkk210 ▸ H), hR225⟩
   ·intro h212
    have h212 := aC (h212)
    have H := av h212 H
    refine aX<|Shift.done<|?_
    exact ⟨_, by exact ⟨rfl, rfl, rfl, trivial⟩, l203, rs205, rfl, rfl, H, hR204⟩
  rintro _ K227 _ hK228 ⟨l175, rs177, rfl, rfl, H, hR176⟩
  unfold ji at H
  refine ap (fun env' K' G' => ∃ (l311 : List Int) (rs313 : List (List Value)), [(5, (sv v142))] = env' ∧ (.row (sv v142) 3 1 rs313.flatten) :: G = G' ∧ o4 l311 = some y0 ∧ RowR Ty.i64 K' rs313 l311) ?_ ?_
  ·skip
   refine ac<|aa<|Em Z<|Er (wI (p0 - 1)) Z<|Ea Z<|ab<|au<|?_
   refine aT (fun n396 env' K' G' => ∃ (l392 : List Int) (rs394 : List (List Value)) (i395 : Int), [(1, (sv vp1)), (5, (sv v142)), (7, (.int .i64 i395))] = env' ∧ K227 = K' ∧ (.row (sv v142) 3 1 rs394.flatten) :: G = G' ∧ lp2 (jh p1) n396 l392 i395 = some y0 ∧ RowR Ty.i64 K' rs394 l392) BIG ?_ ?_
   ·skip
    exact Shift.done ⟨_, by exact ⟨rfl, rfl, rfl, trivial⟩, l175, rs177, (wI (p0 - 1)), rfl, rfl, rfl, H, hR176⟩
   rintro n396 _ _ _ - ⟨l392, rs394, i395, rfl, rfl, rfl, H, hR393⟩
   obtain ⟨m397, k398, rfl, hkk399, H⟩ := f0 H
   unfold jh at H
   refine ac<|ac<|aa<|Em Z<|Ec Z<|ab<|?_
   refine ai rfl ?_ ?_
   ·intro h401
    have h401 := aD (h401)
    have H := ift h401 H
    refine ak<|ac<|au<|ac<|aa<|Em Z<|Em Z<|?_
    obtain ⟨x435, hx436, H⟩ := bnd H
    have hs437 := (hp1).mono hK228
    refine ae rfl (Ek Tryd.call92 Z (r4 p1 vp1 i395 x435 hx436 _ _ hs437) ?_)
    rintro _ _ _ - ⟨rfl, rfl, rfl⟩
    refine Ea Z<|ab<|ac<|?_
    obtain ⟨x438, hx439, H⟩ := bnd H
    obtain ⟨x443, hx444, H⟩ := bnd H
    refine ar [.row (sv v142) 3 1 rs394.flatten] rfl (Inc.cons Mb0 Inc.nil)<|Jm 0 Z (by kernel_rfl)<|Jm 1 Z (by kernel_rfl)<|?_
    obtain ⟨r448, hq449, hr450⟩ := RowR.at hR393 hx439
    obtain rfl := hr450
    refine Jq 2 Z (by kernel_rfl) (bu (T := Ty.i64) Mb0 hR393 hq449 (az hx439).1 rfl rfl rfl rfl rfl)<|Jl 3 (.int .i64 x438) Z (by kernel_rfl) (bB (T := Ty.i64) Mb0 hR393 hq449 rfl rfl)<|Jm 4 Z (by kernel_rfl)<|Jm 5 Z (by kernel_rfl)<|?_
    obtain ⟨r451, hq452, hr453⟩ := RowR.at hR393 hx444
    obtain rfl := hr453
    refine Jq 6 Z (by kernel_rfl) (bu (T := Ty.i64) Mb0 hR393 hq452 (az hx444).1 rfl rfl rfl rfl rfl)<|Jl 7 (.int .i64 x443) Z (by kernel_rfl) (bB (T := Ty.i64) Mb0 hR393 hq452 rfl rfl)<|Ja 8 Z (by kernel_rfl)<|Ja 9 Z (by kernel_rfl)<|ay (by kernel_rfl)<|aa<|Em Z<|Em Z<|Em Z<|Em Z<|?_
    refine Em Z<|Em Z<|?_
    obtain ⟨x454, hx455, H⟩ := bnd H
    obtain ⟨r456, hq457, hr458⟩ := RowR.at hR393 hx455
    obtain rfl := hr458
    refine Eq Z (bu (T := Ty.i64) Mb0 hR393 hq457 (az hx455).1 rfl rfl rfl rfl rfl) ?_
    refine ae rfl (bA (T := Ty.i64) (vs := [(.int .i64 x443)]) (r' := [(.int .i64 x443)]) (l' := (aG l392 i395 x443)) rfl rfl rfl rfl rfl .here hR393 hq457 rfl rfl rfl (RowR.set i395 hR393 rfl) (fun hR459 => ?_))
    have hE460 := cO hq457 (v := [(.int .i64 x443)])
    obtain ⟨x461, hx462, H⟩ := bnd H
    obtain ⟨r463, hq464, hr465⟩ := RowR.at hR459 hx462
    obtain rfl := hr465
    refine Eq Z (bu (T := Ty.i64) Mb0 hR459 hq464 (az hx462).1 rfl rfl rfl rfl rfl) ?_
    refine ae rfl (bA (T := Ty.i64) (vs := [(.int .i64 x438)]) (r' := [(.int .i64 x438)]) (l' := (aG (aG l392 i395 x443) x435 x438)) rfl rfl rfl rfl rfl .here hR459 hq464 rfl rfl rfl (RowR.set x435 hR459 rfl) (fun hR466 => ?_))
    have hE467 := cO hq464 (v := [(.int .i64 x438)])
    refine ab<|aa<|Em Z<|Er (wI (i395 - 1)) Z<|Ea Z<|ab<|Shift.done<|?_
    exact ⟨_, by exact ⟨rfl, rfl, rfl, trivial⟩, _, Nat.lt_succ_self _, (aG (aG l392 i395 x443) x435 x438), ((rs394.set i395.toNat [(.int .i64 x443)]).set x435.toNat [(.int .i64 x438)]), (wI (i395 - 1)), rfl, rfl, rfl, (hkk399 ▸ H), hR466⟩
   ·intro h401
    have h401 := aC (h401)
    have H := av h401 H
    refine aX<|Shift.done<|?_
    exact ⟨_, by exact ⟨rfl, trivial⟩, l392, rs394, rfl, rfl, H, hR393⟩
  rintro _ K468 _ hK469 ⟨l311, rs313, rfl, rfl, H, hR312⟩
  unfold o4 at H
  refine ac<|aa<|Em Z<|Ea Z<|ab<|am<|?_
  obtain ey0 := bi H
  subst y0
  refine ⟨(by first | exact .inl rfl | exact .inr rfl), [(sv v142)], ⟨(sv v142), _, rfl, rfl, rfl⟩, ?_⟩
  exact Shift.done ⟨v142, rs313, rfl, rfl, hR312⟩



end Go.Hx

namespace Go.Hx
open Go Go.Proofs
set_option linter.unusedSimpArgs false
set_option linter.unusedVariables false
set_option maxRecDepth 10000
set_option maxHeartbeats 1000000 in
theorem tg (p0 : Op) (vp0_cases : SV) (vp0_draws : SV) (y0 : List Int) (H : fD p0 = some y0) (K : Kp) (G : List Ent) (hp0_cases : Slr aK K (sv vp0_cases) p0.cases) (hp0_draws : Slr Ty.i64 K (sv vp0_draws) p0.draws) :
  Fc Tryd.prog 66 #[(.agg (Op.cells p0 vp0_cases vp0_draws).toArray)] K (G) (fun v K' G' => ∃ (wy0 : SV) (rswy0 : List (List Value)), v = (sv wy0) ∧ (.row (sv wy0) 3 1 rswy0.flatten) :: G = G' ∧ RowR Ty.i64 K' rswy0 y0) := by
 refine aE Tryd.func66 rfl Tryd.ntmps66 Tryd.results66 rfl ?_
 unfold fD at H
 refine ac<|aa<|?_
 refine ae rfl (aI (cs := (Op.cells p0 vp0_cases vp0_draws)) rfl rfl rfl (fun b9 => ?_))
 refine Ea Z<|ab<|ac<|aa<|EF 5 Z<|El (sv vp0_cases) Z (Rb0 Z)<|Eq Z (bg (T := aK) hp0_cases rfl rfl)<|EF 6 Z<|El (sv vp0_draws) Z (Rb0 Z)<|?_
 obtain ⟨x10, hx11, H⟩ := bnd H
 refine ae rfl (Ek Tryd.call87 Z (tq (p0.cases.length : Int) p0.draws vp0_draws x10 hx11 _ _ hp0_draws) ?_)
 rintro _ K14 _ hK15 ⟨v12, rs13, rfl, rfl, hs16⟩
 refine Ea Z<|ab<|am<|?_
 obtain ey0 := bi H
 subst y0
 refine ⟨(by first | exact .inl rfl | exact .inr rfl), [(sv v12)], ⟨(sv v12), _, rfl, rfl, rfl⟩, ?_⟩
 refine Re1<|Shift.done<|?_
 exact ⟨v12, rs13, rfl, rfl, hs16⟩



end Go.Hx

namespace Go.Hx
open Go Go.Proofs
set_option linter.unusedSimpArgs false
set_option linter.unusedVariables false
set_option maxRecDepth 10000
set_option maxHeartbeats 1000000 in
theorem r5 (p0 : Desk) (vp0_chans : SV) (vp0_waiting : SV) (p1 : Int) (p2 : Op) (vp2_cases : SV) (vp2_draws : SV) (y0 : Int) (H : jq p0 p1 p2 = some y0) (K : Kp) (G : List Ent) (hp0_chans : Slr aB K (sv vp0_chans) p0.chans) (hp0_waiting : Slr aA K (sv vp0_waiting) p0.waiting) (hp2_cases : Slr aK K (sv vp2_cases) p2.cases) (hp2_draws : Slr Ty.i64 K (sv vp2_draws) p2.draws) :
  Fc Tryd.prog 33 #[(.agg (Desk.cells p0 vp0_chans vp0_waiting).toArray), (.int .i64 p1), (.agg (Op.cells p2 vp2_cases vp2_draws).toArray)] K (G) (fun v K' G' => v = (.int .i64 y0) ∧ G = G') := by
 refine aE Tryd.func33 rfl Tryd.ntmps33 Tryd.results33 rfl ?_
 unfold jq at H
 refine ac<|aa<|?_
 refine ae rfl (aI (cs := (Desk.cells p0 vp0_chans vp0_waiting)) rfl rfl rfl (fun b92 => ?_))
 refine ae rfl (aI (cs := (Op.cells p2 vp2_cases vp2_draws)) rfl rfl rfl (fun b93 => ?_))
 refine Ea Z<|ab<|ac<|aa<|EL 7 (Op.cells p2 vp2_cases vp2_draws) Z (Rb0 Z)<|?_
 obtain ⟨x94, hx95, H⟩ := bnd H
 refine ae rfl (Ek Tryd.call66 Z (tg p2 vp2_cases vp2_draws x94 hx95 _ _ hp2_cases hp2_draws) ?_)
 rintro _ K98 _ hK99 ⟨v96, rs97, rfl, rfl, hs100⟩
 refine Ea Z<|ab<|?_
 refine ap (fun env' K' G' => [] = env' ∧ G = G' ∧ o6 = some y0) ?_ ?_
 ·skip
  refine ac<|aa<|Ea Z<|ab<|au<|?_
  refine aT (fun n261 env' K' G' => ∃ (i260 : Int), [(1, (.int .i64 p1)), (3, (.pointer (some ((⟨b92, 0, none⟩ : Addr).add 0)))), (5, (.pointer (some ((⟨b93, 0, none⟩ : Addr).add 0)))), (7, (sv v96)), (8, (.int .i64 i260))] = env' ∧ (.blk b93 43 (Op.cells p2 vp2_cases vp2_draws)) :: (.blk b92 64 (Desk.cells p0 vp0_chans vp0_waiting)) :: (.row (sv v96) 3 1 rs97.flatten) :: G = G' ∧ lp1 (jp p1 x94 p2 p0) n261 i260 = some y0) BIG ?_ ?_
  ·skip
   refine Pu2<|Pu2<|Shift.done<|?_
   exact ⟨_, by exact ⟨rfl, rfl, rfl, rfl, rfl, trivial⟩, 0, rfl, rfl, H⟩
  rintro n261 _ K262 _ hK263 ⟨i260, rfl, rfl, H⟩
  obtain ⟨m264, k265, rfl, hkk266, H⟩ := qW H
  unfold jp at H
  refine ac<|ac<|aa<|Em Z<|Em Z<|?_
  have hs269 := (hs100).mono hK263
  refine Eq Z (pd (T := Ty.i64) Mb2 hs269 rfl rfl rfl)<|Ec Z<|ab<|?_
  refine ai rfl ?_ ?_
  ·intro h270
   have h270 := aD (h270)
   have H := ift h270 H
   refine ak<|ac<|au<|ac<|?_
   obtain ⟨x306, hx307, H⟩ := bnd H
   obtain ⟨x311, hx312, H⟩ := bnd H
   obtain ⟨x317, hx318, H⟩ := bnd H
   refine ar [.blk b93 43 (Op.cells p2 vp2_cases vp2_draws), .blk b92 64 (Desk.cells p0 vp0_chans vp0_waiting), .row (sv v96) 3 1 rs97.flatten] rfl (Inc.cons Mb0 (Inc.cons Mb1 (Inc.cons Mb2 Inc.nil)))<|JL 0 3 (Desk.cells p0 vp0_chans vp0_waiting) Z (by kernel_rfl) (Rb1 Z)<|Jm 1 Z (by kernel_rfl)<|JF 2 5 Z (by kernel_rfl)<|Jl 3 (sv vp2_cases) Z (by kernel_rfl) (Rb0 Z)<|Jm 4 Z (by kernel_rfl)<|Jm 5 Z (by kernel_rfl)<|?_
   obtain ⟨r323, hq324, hr325⟩ := RowR.at hs269 hx307
   obtain rfl := hr325
   refine Jq 6 Z (by kernel_rfl) (bu (T := Ty.i64) Mb2 hs269 hq324 (az hx307).1 rfl rfl rfl rfl rfl)<|Jl 7 (.int .i64 x306) Z (by kernel_rfl) (bB (T := Ty.i64) Mb2 hs269 hq324 rfl rfl)<|?_
   have hs326 := ((hp2_cases).mono hK99).mono hK263
   obtain ⟨r327, hr328, hk329⟩ := Slr.at hs326 hx312
   obtain rfl := hr328
   refine Jq 8 Z (by kernel_rfl) (bE (T := aK) hs326 hx312 rfl rfl rfl rfl rfl)<|JL 9 3 (Case.cells x311) Z (by kernel_rfl) (Rdc.k hk329 rfl)<|?_
   refine ah 10 (by kernel_rfl) (Jy Z ?_)
   have hs330 := ((hp0_chans).mono hK99).mono hK263
   have hs331 := ((hp0_waiting).mono hK99).mono hK263
   refine Ek Tryd.call34 Z (pS p0 vp0_chans vp0_waiting p1 x311 x317 hx318 _ _ hs330 hs331) ?_
   rintro _ K332 _ hK333 ⟨rfl, rfl⟩
   refine ⟨(Inc.cons Mb0 (Inc.cons Mb1 (Inc.cons Mb2 Inc.nil))), ?_⟩
   refine ay (by kernel_rfl) ?_
   refine ai rfl ?_ ?_
   ·intro h334
    have H := ift h334 H
    refine ac<|aa<|Em Z<|Em Z<|?_
    obtain ⟨x335, hx336, H⟩ := bnd H
    have hs337 := (hs269).mono hK333
    obtain ⟨r338, hq339, hr340⟩ := RowR.at hs337 hx336
    obtain rfl := hr340
    refine Eq Z (bu (T := Ty.i64) Mb2 hs337 hq339 (az hx336).1 rfl rfl rfl rfl rfl)<|El (.int .i64 x335) Z (bB (T := Ty.i64) Mb2 hs337 hq339 rfl rfl)<|Ea Z<|ab<|am<|?_
    obtain ey0 := bi H
    subst y0
    refine ⟨(by first | exact .inl rfl | exact .inr rfl), [(.int .i64 x335)], ⟨(.int .i64 x335), _, rfl, rfl, rfl⟩, ?_⟩
    refine Re0<|Re0<|Re0<|Shift.done<|?_
    exact ⟨rfl, rfl⟩
   ·intro h334
    have H := av (btf h334) H
    refine ak<|aa<|Em Z<|Er (wI (i260 + 1)) Z<|Ea Z<|ab<|Pu2<|Pu2<|Pu2<|Shift.done<|?_
    exact ⟨_, by exact ⟨rfl, rfl, rfl, rfl, rfl, trivial⟩, _, Nat.lt_succ_self _, (wI (i260 + 1)), rfl, rfl, (hkk266 ▸ H)⟩
  ·intro h270
   have h270 := aC (h270)
   have H := av h270 H
   refine aX<|Re0<|Re0<|Re0<|Shift.done<|?_
   exact ⟨[], trivial, rfl, rfl, H⟩
 rintro _ K341 _ hK342 ⟨rfl, rfl, H⟩
 unfold o6 at H
 refine ac<|aa<|Ea Z<|ab<|am<|?_
 obtain ey0 := bi H
 subst y0
 refine ⟨(by first | exact .inl rfl | exact .inr rfl), [(.int .i64 (-1))], ⟨(.int .i64 (-1)), _, rfl, rfl, rfl⟩, ?_⟩
 exact Shift.done ⟨rfl, rfl⟩

set_option maxHeartbeats 1000000 in
theorem ey (p0 : Desk) (vp0_chans : SV) (vp0_waiting : SV) (p1 : Int) (p2 : Op) (vp2_cases : SV) (vp2_draws : SV) (p3 : Int) (p4 : Case) (y0 : Desk) (y1 : List Done) (H : js p0 p1 p2 p3 p4 = some (y0, y1)) (K : Kp) (G : List Ent) (hp0_chans : Slr aB K (sv vp0_chans) p0.chans) (hp0_waiting : Slr aA K (sv vp0_waiting) p0.waiting) (hp2_cases : Slr aK K (sv vp2_cases) p2.cases) (hp2_draws : Slr Ty.i64 K (sv vp2_draws) p2.draws) :
  Fc Tryd.prog 36 #[(.agg (Desk.cells p0 vp0_chans vp0_waiting).toArray), (.int .i64 p1), (.agg (Op.cells p2 vp2_cases vp2_draws).toArray), (.int .i64 p3), (.agg (Case.cells p4).toArray)] K (G) (fun v K' G' => ∃ (wy0_chans : SV) (wy0_waiting : SV) (wy1 : SV), v = (.tuple #[(.agg (Desk.cells y0 wy0_chans wy0_waiting).toArray), (sv wy1)]) ∧ (.tok 47 6 [(sv wy1)]) :: G = G' ∧ Slr aB K' (sv wy0_chans) y0.chans ∧ Slr aA K' (sv wy0_waiting) y0.waiting ∧ Slr aw K' (sv wy1) y1) := by
 refine aE Tryd.func36 rfl Tryd.ntmps36 Tryd.results36 rfl ?_
 unfold js at H
 refine ac<|aa<|?_
 refine ae rfl (aI (cs := (Desk.cells p0 vp0_chans vp0_waiting)) rfl rfl rfl (fun b337 => ?_))
 refine ae rfl (aI (cs := (Op.cells p2 vp2_cases vp2_draws)) rfl rfl rfl (fun b338 => ?_))
 refine ae rfl (aI (cs := (Case.cells p4)) rfl rfl rfl (fun b339 => ?_))
 refine ae rfl (an (cs := (Desk.cells (Desk.mk [] [] 0) aj aj)) rfl rfl rfl rfl (fun b340 => ?_))
 refine Ea Z<|ab<|ac<|aa<|EF 0 Z<|El (sv vp0_chans) Z (Rb3 Z)<|EF 1 Z<|El (.int .i64 p4.channel) Z (Rb1 Z)<|?_
 obtain ⟨x341, hx342, H⟩ := bnd H
 obtain ⟨r343, hr344, hk345⟩ := Slr.at hp0_chans hx342
 obtain ⟨v346, rfl, hs347⟩ := hr344
 refine Eq Z (bE (T := aB) hp0_chans hx342 rfl rfl rfl rfl rfl)<|EL 3 (Chan.cells x341 v346) Z (Rdc.k hk345 rfl)<|?_
 refine ae rfl (an (cs := (Chan.cells (Chan.mk 0 [] false) aj)) rfl rfl rfl rfl (fun b348 => ?_))
 refine ae rfl (ag (vs := (Chan.cells x341 v346)) (all' := (Chan.cells x341 v346)) rfl rfl rfl rfl rfl .here rfl rfl rfl ?_)
 refine ab<|ac<|aa<|EL 7 (Op.cells p2 vp2_cases vp2_draws) Z (Rb3 Z)<|Em Z<|?_
 obtain ⟨x349, hx350, H⟩ := bnd H
 refine ae rfl (Ek Tryd.call63 Z (fN p2 vp2_cases vp2_draws p3 x349 hx350 _ _ hp2_cases hp2_draws) ?_)
 rintro _ _ _ - ⟨rfl, rfl, rfl⟩
 refine Ea Z<|ab<|ac<|aa<|EL 3 (Desk.cells p0 vp0_chans vp0_waiting) Z (Rb4 Z)<|Em Z<|EL 3 (Case.cells p4) Z (Rb2 Z)<|?_
 obtain ⟨x351, hx352, H⟩ := bnd H
 refine ae rfl (Ek Tryd.call68 Z (pR p0 vp0_chans vp0_waiting p1 p4 x351 hx352 _ _ hp0_chans hp0_waiting) ?_)
 rintro _ K353 _ hK354 ⟨rfl, rfl⟩
 refine Ea Z<|ab<|ac<|ac<|aa<|EF 0 Z<|El (.bool p4.send) Z (Rb2 Z)<|ab<|?_
 refine ai rfl ?_ ?_
 ·intro h487
  have H := ift h487 H
  refine ac<|ac<|aa<|EF 2 Z<|El (.bool x341.closed) Z (Rb0 Z)<|ab<|?_
  refine ai rfl ?_ ?_
  ·intro h491
   have H := ift h491 H
   refine ac<|aa<|EL 3 (Desk.cells p0 vp0_chans vp0_waiting) Z (Rb4 Z)<|Em Z<|Em Z<|Eq Z (ao (cs := (Result.cells (Result.mk 5 x349 0 false 0))) rfl rfl rfl rfl rfl rfl)<|Eq Z (ao (cs := (Done.cells (Done.mk p1 (Result.mk 5 x349 0 false 0)))) rfl rfl rfl rfl rfl rfl)<|?_
   have hR493 : RowR aw K353 [(Done.cells (Done.mk p1 (Result.mk 5 x349 0 false 0)))] [(Done.mk p1 (Result.mk 5 x349 0 false 0))] := RowR.cons rfl (RowR.nil)
   refine ae rfl (aS (T := aw) (rows := [(Done.cells (Done.mk p1 (Result.mk 5 x349 0 false 0)))]) (l := [(Done.mk p1 (Result.mk 5 x349 0 false 0))]) rfl rfl rfl hR493 rfl rfl rfl rfl rfl rfl rfl rfl (fun v492 => ?_))
   refine ae rfl (ag (vs := (Desk.cells p0 vp0_chans vp0_waiting)) (all' := (Desk.cells p0 vp0_chans vp0_waiting)) rfl rfl rfl rfl rfl (.there (.there .here)) rfl rfl rfl ?_)
   refine Ea Z<|ab<|am<|?_
   obtain ⟨ey0, ey1⟩ := cg H
   subst y0 y1
   refine ⟨(by first | exact .inl rfl | exact .inr rfl), [(.agg (Desk.cells p0 vp0_chans vp0_waiting).toArray), (sv v492)], ⟨(.agg (Desk.cells p0 vp0_chans vp0_waiting).toArray), _, rfl, ⟨_, 3, (Desk.cells p0 vp0_chans vp0_waiting), rfl, rfl, rfl, rfl, ⟨rfl, Rb2 Z⟩, rfl⟩, ⟨(sv v492), _, rfl, rfl, rfl⟩⟩, ?_⟩
   refine Shift.settle (T := aw) .here hR493 rfl ?_
   intro K494 hK495 hs496
   refine Re1<|Re1<|Re1<|Re1<|Re1<|?_
   have hs497 := ((hp0_chans).mono hK354).mono hK495
   have hs498 := ((hp0_waiting).mono hK354).mono hK495
   exact Shift.done ⟨vp0_chans, vp0_waiting, v492, rfl, rfl, hs497, hs498, hs496⟩
  ·intro h491
   have H := av (btf h491) H
   refine ak<|ac<|aa<|Em Z<|Em Z<|Eq Z (ao (cs := (Result.cells (Result.mk 1 x349 0 false 0))) rfl rfl rfl rfl rfl rfl)<|Eq Z (ao (cs := (Done.cells (Done.mk p1 (Result.mk 1 x349 0 false 0)))) rfl rfl rfl rfl rfl rfl)<|?_
   have hR500 : RowR aw K353 [(Done.cells (Done.mk p1 (Result.mk 1 x349 0 false 0)))] [(Done.mk p1 (Result.mk 1 x349 0 false 0))] := RowR.cons rfl (RowR.nil)
   refine ae rfl (aS (T := aw) (rows := [(Done.cells (Done.mk p1 (Result.mk 1 x349 0 false 0)))]) (l := [(Done.mk p1 (Result.mk 1 x349 0 false 0))]) rfl rfl rfl hR500 rfl rfl rfl rfl rfl rfl rfl rfl (fun v499 => ?_))
   refine Ea Z<|ab<|ac<|ac<|aa<|Em Z<|Ec Z<|ab<|?_
   refine ai rfl ?_ ?_
   ·intro h563
    have h563 := aD (h563)
    have H := ift h563 H
    refine ac<|aa<|EF 1 Z<|El (sv vp0_waiting) Z (Rb5 Z)<|Em Z<|?_
    obtain ⟨x564, hx565, H⟩ := bnd H
    have hs566 := (hp0_waiting).mono hK354
    obtain ⟨r567, hr568, hk569⟩ := Slr.at hs566 hx565
    obtain ⟨v570, v571, rfl, hs572, hs573⟩ := hr568
    refine Eq Z (bE (T := aA) hs566 hx565 rfl rfl rfl rfl rfl)<|EL 8 (Waiter.cells x564 v570 v571) Z (Rdc.k hk569 rfl)<|?_
    refine ae rfl (an (cs := (Waiter.cells (Waiter.mk 0 (Op.mk 0 0 0 0 0 [] [])) aj aj)) rfl rfl rfl rfl (fun b574 => ?_))
    refine ae rfl (ag (vs := (Waiter.cells x564 v570 v571)) (all' := (Waiter.cells x564 v570 v571)) rfl rfl rfl rfl rfl .here rfl rfl rfl ?_)
    refine ab<|ac<|?_
    obtain ⟨x625, hx626, H⟩ := bnd H
    obtain ⟨x634, hx635, H⟩ := bnd H
    obtain ⟨x640, hx641, H⟩ := bnd H
    obtain ⟨x648, hx649, H⟩ := bnd H
    refine ar [.blk b574 96 (Waiter.cells x564 v570 v571), .blk b348 74 (Chan.cells x341 v346), .blk b339 92 (Case.cells p4), .blk b338 43 (Op.cells p2 vp2_cases vp2_draws), .blk b337 64 (Desk.cells p0 vp0_chans vp0_waiting)] rfl (Inc.cons Mb0 (Inc.cons Mb2 (Inc.cons Mb4 (Inc.cons Mb5 (Inc.cons Mb6 Inc.nil)))))<|JL 0 3 (Desk.cells p0 vp0_chans vp0_waiting) Z (by kernel_rfl) (Rb4 Z)<|Jm 1 Z (by kernel_rfl)<|Jm 3 Z (by kernel_rfl)<|JF 4 0 Z (by kernel_rfl)<|Jl 5 (.int .i64 x564.thread) Z (by kernel_rfl) (Rb0 Z)<|JF 6 1 Z (by kernel_rfl)<|JL 7 7 (Op.cells x564.op v570 v571) Z (by kernel_rfl) (Rb0 Z)<|JF 8 1 Z (by kernel_rfl)<|JL 9 7 (Op.cells x564.op v570 v571) Z (by kernel_rfl) (Rb0 Z)<|?_
    refine JF 10 1 Z (by kernel_rfl)<|Jl 11 (.int .i64 p4.channel) Z (by kernel_rfl) (Rb2 Z)<|JF 14 2 Z (by kernel_rfl)<|Jl 15 (.int .u64 p4.value) Z (by kernel_rfl) (Rb2 Z)<|?_
    refine ah 2 (by kernel_rfl) (Jy Z ?_)
    have hs654 := (hp0_chans).mono hK354
    refine Ek Tryd.call64 Z (m6 p0 vp0_chans vp0_waiting x351 x625 hx626 _ _ hs654 hs566) ?_
    rintro _ K657 _ hK658 ⟨v655, v656, rfl, rfl, hs659, hs660⟩
    refine ⟨(Inc.cons Mb1 (Inc.cons Mb3 (Inc.cons Mb5 (Inc.cons Mb6 (Inc.cons Mb7 Inc.nil))))), ?_⟩
    refine ah 12 (by kernel_rfl) (Jy Z ?_)
    have hs661 := (hs572).mono hK658
    have hs662 := (hs573).mono hK658
    refine Ek Tryd.call62 Z (hU x564.op v570 v571 p4.channel false x634 hx635 _ _ hs661 hs662) ?_
    rintro _ K663 _ hK664 ⟨rfl, rfl⟩
    refine ⟨(Inc.cons Mb1 (Inc.cons Mb3 (Inc.cons Mb5 (Inc.cons Mb6 (Inc.cons Mb7 Inc.nil))))), ?_⟩
    refine ah 13 (by kernel_rfl) (Jy Z ?_)
    have hs665 := (hs661).mono hK664
    have hs666 := (hs662).mono hK664
    refine Ek Tryd.call63 Z (fN x564.op v570 v571 x634 x640 hx641 _ _ hs665 hs666) ?_
    rintro _ _ _ - ⟨rfl, rfl, rfl⟩
    refine ⟨(Inc.cons Mb1 (Inc.cons Mb3 (Inc.cons Mb5 (Inc.cons Mb6 (Inc.cons Mb7 Inc.nil))))), ?_⟩
    refine Jq 16 Z (by kernel_rfl) (ao (cs := (Result.cells (Result.mk 2 x640 p4.value true 0))) rfl rfl rfl rfl rfl rfl) ?_
    refine ah 17 (by kernel_rfl) (Jy Z ?_)
    have hs670 := ((hR500).mono hK658).mono hK664
    refine OpW.shift (Shift.settle (T := aw) (.there (.there .here)) hs670 rfl (fun K667 hK668 hs669 => Shift.done ?_))
    refine Ek Tryd.call65 Z (hX [(Done.mk p1 (Result.mk 1 x349 0 false 0))] v499 x564.thread (Result.mk 2 x640 p4.value true 0) x648 hx649 _ _ hs669) ?_
    rintro _ K672 _ hK673 ⟨v671, rfl, rfl, hs674⟩
    refine ⟨(Inc.cons Mb2 (Inc.cons Mb4 (Inc.cons Mb6 (Inc.cons Mb7 (Inc.cons Mb8 Inc.nil))))), ?_⟩
    refine ah 18 (by kernel_rfl) (Jy Z ?_)
    refine ag (vs := (Desk.cells x625 v655 v656)) (all' := (Desk.cells x625 v655 v656)) rfl rfl rfl rfl rfl (.there (.there (.there (.there (.there .here))))) rfl rfl rfl ⟨(Inc.cons Mb2 (Inc.cons Mb4 (Inc.cons Mb6 (Inc.cons Mb7 (Inc.cons Mb8 Inc.nil))))), ?_⟩
    refine Ja 19 Z (by kernel_rfl)<|ay (by kernel_rfl)<|am<|?_
    obtain ⟨ey0, ey1⟩ := cg H
    subst y0 y1
    refine ⟨(by first | exact .inl rfl | exact .inr rfl), [(.agg (Desk.cells x625 v655 v656).toArray), (sv v671)], ⟨(.agg (Desk.cells x625 v655 v656).toArray), _, rfl, ⟨_, 3, (Desk.cells x625 v655 v656), rfl, rfl, rfl, rfl, ⟨rfl, Rb5 Z⟩, rfl⟩, ⟨(sv v671), _, rfl, rfl, rfl⟩⟩, ?_⟩
    refine Re1<|Re1<|Re1<|Re1<|Re1<|Re1<|Re1<|Re1<|?_
    have hs675 := (((hs659).mono hK664).mono hK668).mono hK673
    have hs676 := (((hs660).mono hK664).mono hK668).mono hK673
    exact Shift.done ⟨v655, v656, v671, rfl, rfl, hs675, hs676, hs674⟩
   ·intro h563
    have h563 := aC (h563)
    have H := av h563 H
    refine ak ?_
    refine ap (fun env' K' G' => ∃ (v727 : SV) (l728 : List Int), [(5, (.pointer (some ((⟨b337, 0, none⟩ : Addr).add 0)))), (9, (.pointer (some ((⟨b339, 0, none⟩ : Addr).add 0)))), (10, (.pointer (some ((⟨b340, 0, none⟩ : Addr).add 0)))), (12, (.pointer (some ((⟨b348, 0, none⟩ : Addr).add 0)))), (15, (sv v499))] = env' ∧ (.blk b348 74 (Chan.cells (Chan.mk x341.capacity l728 x341.closed) v727)) :: (.blk b340 64 (Desk.cells (Desk.mk [] [] 0) aj aj)) :: (.blk b339 92 (Case.cells p4)) :: (.blk b337 64 (Desk.cells p0 vp0_chans vp0_waiting)) :: (.tok 34 1 [(sv v727)]) :: (.row (sv v499) 47 6 [(Done.cells (Done.mk p1 (Result.mk 1 x349 0 false 0)))].flatten) :: G = G' ∧ mP p1 x349 x341 p4 p0 l728 = some (y0, y1) ∧ Slr Ty.u64 K' (sv v727) l728) ?_ ?_
    ·skip
     obtain ⟨x730, hx731, H⟩ := bnd H
     obtain ⟨x739, hx740, H⟩ := bnd H
     refine ar [.row (sv v499) 47 6 [(Done.cells (Done.mk p1 (Result.mk 1 x349 0 false 0)))].flatten, .blk b340 64 (Desk.cells (Desk.mk [] [] 0) aj aj), .blk b339 92 (Case.cells p4), .blk b338 43 (Op.cells p2 vp2_cases vp2_draws), .blk b337 64 (Desk.cells p0 vp0_chans vp0_waiting)] rfl (Inc.cons Mb0 (Inc.cons Mb2 (Inc.cons Mb3 (Inc.cons Mb4 (Inc.cons Mb5 Inc.nil)))))<|JF 0 1 Z (by kernel_rfl)<|JF 3 2 Z (by kernel_rfl)<|Jl 4 (.int .u64 p4.value) Z (by kernel_rfl) (Rb2 Z)<|?_
     refine br 1 5 (by kernel_rfl) ?_ ?_
     ·skip
      refine id (Jyq Z (aW (v := (sv v346)) rfl rfl rfl (Rb1 Z)) ⟨(Inc.cons Mb0 (Inc.cons Mb2 (Inc.cons Mb3 (Inc.cons Mb4 (Inc.cons Mb5 Inc.nil))))), ?_⟩)
      refine br 2 5 (by kernel_rfl) ?_ ?_
      ·skip
       refine id (Jy Z ?_)
       refine OpW.shift (Shift.nilTok1 34 1 (Shift.done ?_))
       have hs745 := (hs347).mono hK354
       refine aL (T := Ty.u64) (bytes := 8) (q := 0) rfl rfl rfl (Slr.nil Ty.u64 _) Mb0 rfl (SrcT.sl hs745) hx731 rfl rfl rfl rfl rfl rfl rfl rfl (fun v746 K747 hK748 hs749 => ⟨_, .here, ⟨(Inc.cons Mb1 (Inc.cons Mb3 (Inc.cons Mb4 (Inc.cons Mb5 (Inc.cons Mb6 Inc.nil))))), ?_⟩⟩)
       refine ah 5 (by kernel_rfl) (Jy Z ?_)
       have hR751 : RowR Ty.u64 K747 [[(.int .u64 p4.value)]] [p4.value] := RowR.cons rfl (RowR.nil)
       refine aS (T := Ty.u64) (rows := [[(.int .u64 p4.value)]]) (l := [p4.value]) rfl rfl rfl hR751 rfl rfl rfl rfl rfl rfl rfl rfl (fun v750 => ⟨(Inc.cons Mb2 (Inc.cons Mb4 (Inc.cons Mb5 (Inc.cons Mb6 (Inc.cons Mb7 Inc.nil))))), ?_⟩)
       refine ah 6 (by kernel_rfl) (Jy Z ?_)
       refine aL (T := Ty.u64) (bytes := 8) (q := 0) rfl rfl rfl hs749 Mb1 rfl (SrcT.row Mb0 hR751 rfl) hx740 rfl rfl rfl rfl rfl rfl rfl rfl (fun v752 K753 hK754 hs755 => ⟨_, (.there .here), ⟨(Inc.cons Mb2 (Inc.cons Mb4 (Inc.cons Mb5 (Inc.cons Mb6 (Inc.cons Mb7 Inc.nil))))), ?_⟩⟩)
       refine Aw.shift (Re0 (Shift.done ⟨(Inc.cons Mb1 (Inc.cons Mb3 (Inc.cons Mb4 (Inc.cons Mb5 (Inc.cons Mb6 Inc.nil))))), ?_⟩))
       refine JF 7 1 Z (by kernel_rfl) ?_
       refine ah 8 (by kernel_rfl) (Jy Z ?_)
       refine ag (vs := [(sv v752)]) (all' := (Chan.cells (Chan.mk x341.capacity x739 x341.closed) v752)) rfl rfl rfl rfl rfl (.there (.there .here)) rfl rfl rfl ⟨(Inc.cons Mb1 (Inc.cons Mb3 (Inc.cons Mb4 (Inc.cons Mb5 (Inc.cons Mb6 Inc.nil))))), ?_⟩
       refine ay (by kernel_rfl)<|Pu1<|Pu1<|Pu6<|Pu5<|Pu5<|Pu5<|Re6<|Shift.done<|?_
       exact ⟨_, by exact ⟨rfl, rfl, rfl, rfl, rfl, trivial⟩, v752, x739, rfl, rfl, H, hs755⟩
      ·skip
       refine id (Jy Z ?_)
       have hR757 : RowR Ty.u64 K353 [[(.int .u64 p4.value)]] [p4.value] := RowR.cons rfl (RowR.nil)
       refine aS (T := Ty.u64) (rows := [[(.int .u64 p4.value)]]) (l := [p4.value]) rfl rfl rfl hR757 rfl rfl rfl rfl rfl rfl rfl rfl (fun v756 => ⟨(Inc.cons Mb1 (Inc.cons Mb3 (Inc.cons Mb4 (Inc.cons Mb5 (Inc.cons Mb6 Inc.nil))))), ?_⟩)
       refine ah 2 (by kernel_rfl) (Jy Z ?_)
       refine OpW.shift (Shift.nilTok1 34 1 (Shift.done ?_))
       have hs758 := (hs347).mono hK354
       refine aL (T := Ty.u64) (bytes := 8) (q := 0) rfl rfl rfl (Slr.nil Ty.u64 _) Mb0 rfl (SrcT.sl hs758) hx731 rfl rfl rfl rfl rfl rfl rfl rfl (fun v759 K760 hK761 hs762 => ⟨_, .here, ⟨(Inc.cons Mb2 (Inc.cons Mb4 (Inc.cons Mb5 (Inc.cons Mb6 (Inc.cons Mb7 Inc.nil))))), ?_⟩⟩)
       refine ah 6 (by kernel_rfl) (Jy Z ?_)
       have hs763 := (hR757).mono hK761
       refine aL (T := Ty.u64) (bytes := 8) (q := 0) rfl rfl rfl hs762 Mb0 rfl (SrcT.row Mb1 hs763 rfl) hx740 rfl rfl rfl rfl rfl rfl rfl rfl (fun v764 K765 hK766 hs767 => ⟨_, .here, ⟨(Inc.cons Mb2 (Inc.cons Mb4 (Inc.cons Mb5 (Inc.cons Mb6 (Inc.cons Mb7 Inc.nil))))), ?_⟩⟩)
       refine Aw.shift (Re1 (Shift.done ⟨(Inc.cons Mb1 (Inc.cons Mb3 (Inc.cons Mb4 (Inc.cons Mb5 (Inc.cons Mb6 Inc.nil))))), ?_⟩))
       refine JF 7 1 Z (by kernel_rfl) ?_
       refine ah 8 (by kernel_rfl) (Jy Z ?_)
       refine ag (vs := [(sv v764)]) (all' := (Chan.cells (Chan.mk x341.capacity x739 x341.closed) v764)) rfl rfl rfl rfl rfl (.there (.there .here)) rfl rfl rfl ⟨(Inc.cons Mb1 (Inc.cons Mb3 (Inc.cons Mb4 (Inc.cons Mb5 (Inc.cons Mb6 Inc.nil))))), ?_⟩
       refine ay (by kernel_rfl)<|Pu1<|Pu1<|Pu6<|Pu5<|Pu5<|Pu5<|Re6<|Shift.done<|?_
       exact ⟨_, by exact ⟨rfl, rfl, rfl, rfl, rfl, trivial⟩, v764, x739, rfl, rfl, H, hs767⟩
     ·skip
      refine id (Jy Z ?_)
      have hR769 : RowR Ty.u64 K353 [[(.int .u64 p4.value)]] [p4.value] := RowR.cons rfl (RowR.nil)
      refine aS (T := Ty.u64) (rows := [[(.int .u64 p4.value)]]) (l := [p4.value]) rfl rfl rfl hR769 rfl rfl rfl rfl rfl rfl rfl rfl (fun v768 => ⟨(Inc.cons Mb1 (Inc.cons Mb3 (Inc.cons Mb4 (Inc.cons Mb5 (Inc.cons Mb6 Inc.nil))))), ?_⟩)
      refine ah 1 (by kernel_rfl) (Jyq Z (aW (v := (sv v346)) rfl rfl rfl (Rb2 Z)) ⟨(Inc.cons Mb1 (Inc.cons Mb3 (Inc.cons Mb4 (Inc.cons Mb5 (Inc.cons Mb6 Inc.nil))))), ?_⟩)
      refine ah 2 (by kernel_rfl) (Jy Z ?_)
      refine OpW.shift (Shift.nilTok1 34 1 (Shift.done ?_))
      have hs770 := (hs347).mono hK354
      refine aL (T := Ty.u64) (bytes := 8) (q := 0) rfl rfl rfl (Slr.nil Ty.u64 _) Mb0 rfl (SrcT.sl hs770) hx731 rfl rfl rfl rfl rfl rfl rfl rfl (fun v771 K772 hK773 hs774 => ⟨_, .here, ⟨(Inc.cons Mb2 (Inc.cons Mb4 (Inc.cons Mb5 (Inc.cons Mb6 (Inc.cons Mb7 Inc.nil))))), ?_⟩⟩)
      refine ah 6 (by kernel_rfl) (Jy Z ?_)
      have hs775 := (hR769).mono hK773
      refine aL (T := Ty.u64) (bytes := 8) (q := 0) rfl rfl rfl hs774 Mb0 rfl (SrcT.row Mb1 hs775 rfl) hx740 rfl rfl rfl rfl rfl rfl rfl rfl (fun v776 K777 hK778 hs779 => ⟨_, .here, ⟨(Inc.cons Mb2 (Inc.cons Mb4 (Inc.cons Mb5 (Inc.cons Mb6 (Inc.cons Mb7 Inc.nil))))), ?_⟩⟩)
      refine Aw.shift (Re1 (Shift.done ⟨(Inc.cons Mb1 (Inc.cons Mb3 (Inc.cons Mb4 (Inc.cons Mb5 (Inc.cons Mb6 Inc.nil))))), ?_⟩))
      refine JF 7 1 Z (by kernel_rfl) ?_
      refine ah 8 (by kernel_rfl) (Jy Z ?_)
      refine ag (vs := [(sv v776)]) (all' := (Chan.cells (Chan.mk x341.capacity x739 x341.closed) v776)) rfl rfl rfl rfl rfl (.there (.there .here)) rfl rfl rfl ⟨(Inc.cons Mb1 (Inc.cons Mb3 (Inc.cons Mb4 (Inc.cons Mb5 (Inc.cons Mb6 Inc.nil))))), ?_⟩
      refine ay (by kernel_rfl)<|Pu1<|Pu1<|Pu6<|Pu5<|Pu5<|Pu5<|Re6<|Shift.done<|?_
      exact ⟨_, by exact ⟨rfl, rfl, rfl, rfl, rfl, trivial⟩, v776, x739, rfl, rfl, H, hs779⟩
    rintro _ K780 _ hK781 ⟨v727, l728, rfl, rfl, H, hs729⟩
    unfold mP at H
    refine ac<|aa<|EL 3 (Desk.cells p0 vp0_chans vp0_waiting) Z (Rb3 Z)<|EF 1 Z<|El (.int .i64 p4.channel) Z (Rb2 Z)<|EL 3 (Chan.cells (Chan.mk x341.capacity l728 x341.closed) v727) Z (Rb0 Z)<|?_
    obtain ⟨x782, hx783, H⟩ := bnd H
    have hs784 := ((hp0_chans).mono hK354).mono hK781
    have hs785 := ((hp0_waiting).mono hK354).mono hK781
    refine ae rfl (Ek Tryd.call61 Z (fM p0 vp0_chans vp0_waiting p4.channel (Chan.mk x341.capacity l728 x341.closed) v727 x782 hx783 _ _ hs784 hs785 hs729) ?_)
    rintro _ _ _ - ⟨v786, rs787, v788, rfl, rfl, rfl, hs789, hs790⟩
    refine Em Z ?_
    refine ae rfl (ag (vs := (Desk.cells x782 v786 v788)) (all' := (Desk.cells x782 v786 v788)) rfl rfl rfl rfl rfl (.there (.there .here)) rfl rfl rfl ?_)
    refine Ea Z<|ab<|am<|?_
    obtain ⟨ey0, ey1⟩ := cg H
    subst y0 y1
    refine ⟨(by first | exact .inl rfl | exact .inr rfl), [(.agg (Desk.cells x782 v786 v788).toArray), (sv v499)], ⟨(.agg (Desk.cells x782 v786 v788).toArray), _, rfl, ⟨_, 3, (Desk.cells x782 v786 v788), rfl, rfl, rfl, rfl, ⟨rfl, Rb2 Z⟩, rfl⟩, ⟨(sv v499), _, rfl, rfl, rfl⟩⟩, ?_⟩
    refine Shift.settle (T := aB) .here hs789 rfl ?_
    intro K791 hK792 hs793
    have hs797 := ((hR500).mono hK781).mono hK792
    refine Shift.settle (T := aw) (.there (.there (.there (.there (.there (.there .here)))))) hs797 rfl ?_
    intro K794 hK795 hs796
    refine Pu6<|Re1<|Re1<|Re1<|Re1<|Re1<|Re1<|?_
    have hs798 := (hs793).mono hK795
    have hs799 := ((hs790).mono hK792).mono hK795
    exact Shift.done ⟨v786, v788, v499, rfl, rfl, hs798, hs799, hs796⟩
 ·intro h487
  have H := av (btf h487) H
  refine ak<|ac<|aa<|Em Z<|Eq Z (ao (cs := (Result.cells (Result.mk 2 x349 0 false 0))) rfl rfl rfl rfl rfl rfl)<|?_
  refine ae rfl (an (cs := (Result.cells (Result.mk 0 0 0 false 0))) rfl rfl rfl rfl (fun b800 => ?_))
  refine ae rfl (ag (vs := (Result.cells (Result.mk 2 x349 0 false 0))) (all' := (Result.cells (Result.mk 2 x349 0 false 0))) rfl rfl rfl rfl rfl .here rfl rfl rfl ?_)
  refine ab ?_
  refine ap (fun env' K' G' => ∃ (i818 : Int) (t819 : Bool) (v820 : SV) (l821 : List Int), [(1, (.int .i64 p1)), (5, (.pointer (some ((⟨b337, 0, none⟩ : Addr).add 0)))), (9, (.pointer (some ((⟨b339, 0, none⟩ : Addr).add 0)))), (10, (.pointer (some ((⟨b340, 0, none⟩ : Addr).add 0)))), (12, (.pointer (some ((⟨b348, 0, none⟩ : Addr).add 0)))), (14, (.int .i64 x351)), (17, (.pointer (some ((⟨b800, 0, none⟩ : Addr).add 0))))] = env' ∧ K353 = K' ∧ (.blk b800 36 (Result.cells (Result.mk 2 x349 i818 t819 0))) :: (.blk b348 74 (Chan.cells (Chan.mk x341.capacity l821 x341.closed) v820)) :: (.blk b340 64 (Desk.cells (Desk.mk [] [] 0) aj aj)) :: (.blk b339 92 (Case.cells p4)) :: (.blk b337 64 (Desk.cells p0 vp0_chans vp0_waiting)) :: G = G' ∧ jK p1 x351 x349 x341 p4 p0 i818 t819 l821 = some (y0, y1) ∧ Slr Ty.u64 K' (sv v820) l821) ?_ ?_
  ·skip
   refine ac<|aa<|EF 1 Z<|El (sv v346) Z (Rb1 Z)<|?_
   have hs823 := (hs347).mono hK354
   refine Eq Z (bg (T := Ty.u64) hs823 rfl rfl)<|Ec Z<|ab<|?_
   refine ai rfl ?_ ?_
   ·intro h824
    have h824 := aD (h824)
    have H := ift h824 H
    refine ac<|aa<|EF 1 Z<|El (sv v346) Z (Rb1 Z)<|?_
    obtain ⟨x825, hx826, H⟩ := bnd H
    obtain ⟨r827, hr828, hk829⟩ := Slr.at hs823 hx826
    obtain rfl := hr828
    refine Eq Z (bE (T := Ty.u64) hs823 hx826 rfl rfl rfl rfl rfl)<|El (.int .u64 x825) Z (Rdc.k hk829 rfl)<|EF 2 Z<|?_
    refine ae rfl (ag (vs := [(.int .u64 x825)]) (all' := (Result.cells (Result.mk 2 x349 x825 false 0))) rfl rfl rfl rfl rfl .here rfl rfl rfl ?_)
    refine EF 3 Z ?_
    refine ae rfl (ag (vs := [(.bool true)]) (all' := (Result.cells (Result.mk 2 x349 x825 true 0))) rfl rfl rfl rfl rfl .here rfl rfl rfl ?_)
    refine ab<|aa<|EF 1 Z<|El (sv v346) Z (Rb1 Z)<|?_
    obtain ⟨x830, hx831, H⟩ := bnd H
    have hs832 := Slr.cutL hs823 hx831
    refine Eq Z (eZ (T := Ty.u64) hs823 hx831 rfl rfl rfl rfl rfl)<|EF 1 Z<|?_
    refine ae rfl (ag (vs := [(sv (cv v346 1 ((1 : Int).toNat) x341.buffer.length))]) (all' := (Chan.cells (Chan.mk x341.capacity x830 x341.closed) (cv v346 1 ((1 : Int).toNat) x341.buffer.length))) rfl rfl rfl rfl rfl (.there .here) rfl rfl rfl ?_)
    refine ab<|Pu5<|Pu4<|Pu4<|Pu4<|Pu4<|Re5<|Shift.done<|?_
    exact ⟨_, by exact ⟨rfl, rfl, rfl, rfl, rfl, rfl, rfl, trivial⟩, x825, true, (cv v346 1 ((1 : Int).toNat) x341.buffer.length), x830, rfl, rfl, rfl, H, hs832⟩
   ·intro h824
    have h824 := aC (h824)
    have H := av h824 H
    refine ac<|aa<|Em Z<|Ec Z<|ab<|?_
    refine ai rfl ?_ ?_
    ·intro h833
     have h833 := aD (h833)
     have H := ift h833 H
     refine ac<|ar [.blk b800 36 (Result.cells (Result.mk 2 x349 0 false 0)), .blk b348 74 (Chan.cells x341 v346), .blk b339 92 (Case.cells p4), .blk b338 43 (Op.cells p2 vp2_cases vp2_draws), .blk b337 64 (Desk.cells p0 vp0_chans vp0_waiting)] rfl (Inc.cons Mb0 (Inc.cons Mb1 (Inc.cons Mb3 (Inc.cons Mb4 (Inc.cons Mb5 Inc.nil)))))<|JL 0 3 (Desk.cells p0 vp0_chans vp0_waiting) Z (by kernel_rfl) (Rb4 Z)<|Jm 1 Z (by kernel_rfl)<|JL 2 5 (Result.cells (Result.mk 2 x349 0 false 0)) Z (by kernel_rfl) (Rb0 Z)<|Jq 3 Z (by kernel_rfl) (ao (cs := (Done.cells (Done.mk p1 (Result.mk 2 x349 0 false 0)))) rfl rfl rfl rfl rfl rfl)<|?_
     refine br 4 5 (by kernel_rfl) ?_ ?_
     ·skip
      refine id (Jy Z ?_)
      have hR843 : RowR aw K353 [(Done.cells (Done.mk p1 (Result.mk 2 x349 0 false 0)))] [(Done.mk p1 (Result.mk 2 x349 0 false 0))] := RowR.cons rfl (RowR.nil)
      refine aS (T := aw) (rows := [(Done.cells (Done.mk p1 (Result.mk 2 x349 0 false 0)))]) (l := [(Done.mk p1 (Result.mk 2 x349 0 false 0))]) rfl rfl rfl hR843 rfl rfl rfl rfl rfl rfl rfl rfl (fun v842 => ⟨(Inc.cons Mb1 (Inc.cons Mb2 (Inc.cons Mb4 (Inc.cons Mb5 (Inc.cons Mb6 Inc.nil))))), ?_⟩)
      refine ah 5 (by kernel_rfl) (Jy Z ?_)
      refine ag (vs := (Desk.cells p0 vp0_chans vp0_waiting)) (all' := (Desk.cells p0 vp0_chans vp0_waiting)) rfl rfl rfl rfl rfl (.there (.there (.there .here))) rfl rfl rfl ⟨(Inc.cons Mb1 (Inc.cons Mb2 (Inc.cons Mb4 (Inc.cons Mb5 (Inc.cons Mb6 Inc.nil))))), ?_⟩
      refine Ja 6 Z (by kernel_rfl)<|ay (by kernel_rfl)<|am<|?_
      obtain ⟨ey0, ey1⟩ := cg H
      subst y0 y1
      refine ⟨(by first | exact .inl rfl | exact .inr rfl), [(.agg (Desk.cells p0 vp0_chans vp0_waiting).toArray), (sv v842)], ⟨(.agg (Desk.cells p0 vp0_chans vp0_waiting).toArray), _, rfl, ⟨_, 3, (Desk.cells p0 vp0_chans vp0_waiting), rfl, rfl, rfl, rfl, ⟨rfl, Rb3 Z⟩, rfl⟩, ⟨(sv v842), _, rfl, rfl, rfl⟩⟩, ?_⟩
      refine Shift.settle (T := aw) .here hR843 rfl ?_
      intro K844 hK845 hs846
      refine Re1<|Re1<|Re1<|Re1<|Re1<|Re1<|?_
      have hs847 := ((hp0_chans).mono hK354).mono hK845
      have hs848 := ((hp0_waiting).mono hK354).mono hK845
      exact Shift.done ⟨vp0_chans, vp0_waiting, v842, rfl, rfl, hs847, hs848, hs846⟩
     ·skip
      refine id (Jy Z ?_)
      refine ag (vs := (Desk.cells p0 vp0_chans vp0_waiting)) (all' := (Desk.cells p0 vp0_chans vp0_waiting)) rfl rfl rfl rfl rfl (.there (.there .here)) rfl rfl rfl ⟨(Inc.cons Mb0 (Inc.cons Mb1 (Inc.cons Mb3 (Inc.cons Mb4 (Inc.cons Mb5 Inc.nil))))), ?_⟩
      refine ah 4 (by kernel_rfl) (Jy Z ?_)
      have hR850 : RowR aw K353 [(Done.cells (Done.mk p1 (Result.mk 2 x349 0 false 0)))] [(Done.mk p1 (Result.mk 2 x349 0 false 0))] := RowR.cons rfl (RowR.nil)
      refine aS (T := aw) (rows := [(Done.cells (Done.mk p1 (Result.mk 2 x349 0 false 0)))]) (l := [(Done.mk p1 (Result.mk 2 x349 0 false 0))]) rfl rfl rfl hR850 rfl rfl rfl rfl rfl rfl rfl rfl (fun v849 => ⟨(Inc.cons Mb1 (Inc.cons Mb2 (Inc.cons Mb4 (Inc.cons Mb5 (Inc.cons Mb6 Inc.nil))))), ?_⟩)
      refine Ja 6 Z (by kernel_rfl)<|ay (by kernel_rfl)<|am<|?_
      obtain ⟨ey0, ey1⟩ := cg H
      subst y0 y1
      refine ⟨(by first | exact .inl rfl | exact .inr rfl), [(.agg (Desk.cells p0 vp0_chans vp0_waiting).toArray), (sv v849)], ⟨(.agg (Desk.cells p0 vp0_chans vp0_waiting).toArray), _, rfl, ⟨_, 3, (Desk.cells p0 vp0_chans vp0_waiting), rfl, rfl, rfl, rfl, ⟨rfl, Rb3 Z⟩, rfl⟩, ⟨(sv v849), _, rfl, rfl, rfl⟩⟩, ?_⟩
      refine Shift.settle (T := aw) .here hR850 rfl ?_
      intro K851 hK852 hs853
      refine Re1<|Re1<|Re1<|Re1<|Re1<|Re1<|?_
      have hs854 := ((hp0_chans).mono hK354).mono hK852
      have hs855 := ((hp0_waiting).mono hK354).mono hK852
      exact Shift.done ⟨vp0_chans, vp0_waiting, v849, rfl, rfl, hs854, hs855, hs853⟩
    ·intro h833
     have h833 := aC (h833)
     have H := av h833 H
     refine ak<|Pu5<|Pu4<|Pu4<|Pu4<|Pu4<|Re5<|Shift.done<|?_
     exact ⟨_, by exact ⟨rfl, rfl, rfl, rfl, rfl, rfl, rfl, trivial⟩, 0, false, v346, x341.buffer, rfl, rfl, rfl, H, hs823⟩
  rintro _ _ _ - ⟨i818, t819, v820, l821, rfl, rfl, rfl, H, hs822⟩
  unfold jK at H
  refine ac<|ac<|aa<|Em Z<|Ec Z<|ab<|?_
  refine ai rfl ?_ ?_
  ·intro h899
   have h899 := aD (h899)
   have H := ift h899 H
   refine ap (fun env' K' G' => ∃ (v931 : SV) (rs933 : List (List Value)) (v934 : SV) (l935 : List Chan) (rs937 : List (List Value)) (v938 : SV) (l939 : List Waiter) (i941 : Int), [(10, (.pointer (some ((⟨b340, 0, none⟩ : Addr).add 0)))), (11, (sv v931))] = env' ∧ K353 = K' ∧ (.blk b340 64 (Desk.cells (Desk.mk l935 l939 i941) v934 v938)) :: (.row (sv v931) 47 6 rs933.flatten) :: (.row (sv v934) 74 3 rs937.flatten) :: G = G' ∧ o7 p1 x349 i818 t819 l935 l939 i941 = some (y0, y1) ∧ RowR aw K' rs933 [(Done.mk p1 (Result.mk 2 x349 i818 t819 0))] ∧ RowR aB K' rs937 l935 ∧ Slr aA K' (sv v938) l939) ?_ ?_
   ·skip
    obtain ⟨x942, hx943, H⟩ := bnd H
    refine ar [.blk b800 36 (Result.cells (Result.mk 2 x349 i818 t819 0)), .blk b348 74 (Chan.cells (Chan.mk x341.capacity l821 x341.closed) v820), .blk b339 92 (Case.cells p4), .blk b337 64 (Desk.cells p0 vp0_chans vp0_waiting)] rfl (Inc.cons Mb0 (Inc.cons Mb1 (Inc.cons Mb3 (Inc.cons Mb4 Inc.nil))))<|JL 0 3 (Desk.cells p0 vp0_chans vp0_waiting) Z (by kernel_rfl) (Rb3 Z)<|JF 1 1 Z (by kernel_rfl)<|Jl 2 (.int .i64 p4.channel) Z (by kernel_rfl) (Rb2 Z)<|JL 3 3 (Chan.cells (Chan.mk x341.capacity l821 x341.closed) v820) Z (by kernel_rfl) (Rb1 Z)<|Jm 5 Z (by kernel_rfl)<|JL 6 5 (Result.cells (Result.mk 2 x349 i818 t819 0)) Z (by kernel_rfl) (Rb0 Z)<|Jq 7 Z (by kernel_rfl) (ao (cs := (Done.cells (Done.mk p1 (Result.mk 2 x349 i818 t819 0)))) rfl rfl rfl rfl rfl rfl)<|?_
    refine br 4 8 (by kernel_rfl) ?_ ?_
    ·skip
     refine id (Jy Z ?_)
     have hs953 := (hp0_chans).mono hK354
     have hs954 := (hp0_waiting).mono hK354
     refine Ek Tryd.call61 Z (fM p0 vp0_chans vp0_waiting p4.channel (Chan.mk x341.capacity l821 x341.closed) v820 x942 hx943 _ _ hs953 hs954 hs822) ?_
     rintro _ _ _ - ⟨v955, rs956, v957, rfl, rfl, rfl, hs958, hs959⟩
     refine ⟨(Inc.cons Mb1 (Inc.cons Mb2 (Inc.cons Mb4 (Inc.cons Mb5 Inc.nil)))), ?_⟩
     refine br 8 9 (by kernel_rfl) ?_ ?_
     ·skip
      refine id (Jy Z ?_)
      have hR961 : RowR aw K353 [(Done.cells (Done.mk p1 (Result.mk 2 x349 i818 t819 0)))] [(Done.mk p1 (Result.mk 2 x349 i818 t819 0))] := RowR.cons rfl (RowR.nil)
      refine aS (T := aw) (rows := [(Done.cells (Done.mk p1 (Result.mk 2 x349 i818 t819 0)))]) (l := [(Done.mk p1 (Result.mk 2 x349 i818 t819 0))]) rfl rfl rfl hR961 rfl rfl rfl rfl rfl rfl rfl rfl (fun v960 => ⟨(Inc.cons Mb2 (Inc.cons Mb3 (Inc.cons Mb5 (Inc.cons Mb6 Inc.nil)))), ?_⟩)
      refine ah 9 (by kernel_rfl) (Jy Z ?_)
      refine ag (vs := (Desk.cells x942 v955 v957)) (all' := (Desk.cells x942 v955 v957)) rfl rfl rfl rfl rfl (.there (.there (.there (.there .here)))) rfl rfl rfl ⟨(Inc.cons Mb2 (Inc.cons Mb3 (Inc.cons Mb5 (Inc.cons Mb6 Inc.nil)))), ?_⟩
      refine Ja 10 Z (by kernel_rfl)<|ay (by kernel_rfl)<|Pu1<|Pu1<|Pu4<|Re3<|Re3<|Re3<|Re3<|Shift.done<|?_
      exact ⟨_, by exact ⟨rfl, rfl, trivial⟩, v960, [(Done.cells (Done.mk p1 (Result.mk 2 x349 i818 t819 0)))], v955, x942.chans, rs956, v957, x942.waiting, x942.tick, rfl, rfl, rfl, H, hR961, hs958, hs959⟩
     ·skip
      refine id (Jy Z ?_)
      refine ag (vs := (Desk.cells x942 v955 v957)) (all' := (Desk.cells x942 v955 v957)) rfl rfl rfl rfl rfl (.there (.there (.there .here))) rfl rfl rfl ⟨(Inc.cons Mb1 (Inc.cons Mb2 (Inc.cons Mb4 (Inc.cons Mb5 Inc.nil)))), ?_⟩
      refine ah 8 (by kernel_rfl) (Jy Z ?_)
      have hR963 : RowR aw K353 [(Done.cells (Done.mk p1 (Result.mk 2 x349 i818 t819 0)))] [(Done.mk p1 (Result.mk 2 x349 i818 t819 0))] := RowR.cons rfl (RowR.nil)
      refine aS (T := aw) (rows := [(Done.cells (Done.mk p1 (Result.mk 2 x349 i818 t819 0)))]) (l := [(Done.mk p1 (Result.mk 2 x349 i818 t819 0))]) rfl rfl rfl hR963 rfl rfl rfl rfl rfl rfl rfl rfl (fun v962 => ⟨(Inc.cons Mb2 (Inc.cons Mb3 (Inc.cons Mb5 (Inc.cons Mb6 Inc.nil)))), ?_⟩)
      refine Ja 10 Z (by kernel_rfl)<|ay (by kernel_rfl)<|Pu1<|Pu1<|Pu4<|Re3<|Re3<|Re3<|Re3<|Shift.done<|?_
      exact ⟨_, by exact ⟨rfl, rfl, trivial⟩, v962, [(Done.cells (Done.mk p1 (Result.mk 2 x349 i818 t819 0)))], v955, x942.chans, rs956, v957, x942.waiting, x942.tick, rfl, rfl, rfl, H, hR963, hs958, hs959⟩
    ·skip
     refine id (Jy Z ?_)
     have hR965 : RowR aw K353 [(Done.cells (Done.mk p1 (Result.mk 2 x349 i818 t819 0)))] [(Done.mk p1 (Result.mk 2 x349 i818 t819 0))] := RowR.cons rfl (RowR.nil)
     refine aS (T := aw) (rows := [(Done.cells (Done.mk p1 (Result.mk 2 x349 i818 t819 0)))]) (l := [(Done.mk p1 (Result.mk 2 x349 i818 t819 0))]) rfl rfl rfl hR965 rfl rfl rfl rfl rfl rfl rfl rfl (fun v964 => ⟨(Inc.cons Mb1 (Inc.cons Mb2 (Inc.cons Mb4 (Inc.cons Mb5 Inc.nil)))), ?_⟩)
     refine ah 4 (by kernel_rfl) (Jy Z ?_)
     have hs966 := (hp0_chans).mono hK354
     have hs967 := (hp0_waiting).mono hK354
     refine Ek Tryd.call61 Z (fM p0 vp0_chans vp0_waiting p4.channel (Chan.mk x341.capacity l821 x341.closed) v820 x942 hx943 _ _ hs966 hs967 hs822) ?_
     rintro _ _ _ - ⟨v968, rs969, v970, rfl, rfl, rfl, hs971, hs972⟩
     refine ⟨(Inc.cons Mb2 (Inc.cons Mb3 (Inc.cons Mb5 (Inc.cons Mb6 Inc.nil)))), ?_⟩
     refine ah 9 (by kernel_rfl) (Jy Z ?_)
     refine ag (vs := (Desk.cells x942 v968 v970)) (all' := (Desk.cells x942 v968 v970)) rfl rfl rfl rfl rfl (.there (.there (.there (.there .here)))) rfl rfl rfl ⟨(Inc.cons Mb2 (Inc.cons Mb3 (Inc.cons Mb5 (Inc.cons Mb6 Inc.nil)))), ?_⟩
     refine Ja 10 Z (by kernel_rfl)<|ay (by kernel_rfl)<|Pu1<|Pu4<|Re3<|Re3<|Re3<|Re3<|Shift.done<|?_
     exact ⟨_, by exact ⟨rfl, rfl, trivial⟩, v964, [(Done.cells (Done.mk p1 (Result.mk 2 x349 i818 t819 0)))], v968, x942.chans, rs969, v970, x942.waiting, x942.tick, rfl, rfl, rfl, H, hR965, hs971, hs972⟩
   rintro _ _ _ - ⟨v931, rs933, v934, l935, rs937, v938, l939, i941, rfl, rfl, rfl, H, hR932, hR936, hs940⟩
   unfold o7 at H
   refine am ?_
   obtain ⟨ey0, ey1⟩ := cg H
   subst y0 y1
   refine ⟨(by first | exact .inl rfl | exact .inr rfl), [(.agg (Desk.cells (Desk.mk l935 l939 i941) v934 v938).toArray), (sv v931)], ⟨(.agg (Desk.cells (Desk.mk l935 l939 i941) v934 v938).toArray), _, rfl, ⟨_, 3, (Desk.cells (Desk.mk l935 l939 i941) v934 v938), rfl, rfl, rfl, rfl, ⟨rfl, Rb0 Z⟩, rfl⟩, ⟨(sv v931), _, rfl, rfl, rfl⟩⟩, ?_⟩
   refine Shift.settle (T := aB) (.there (.there .here)) hR936 rfl ?_
   intro K973 hK974 hs975
   have hs979 := (hR932).mono hK974
   refine Shift.settle (T := aw) (.there .here) hs979 rfl ?_
   intro K976 hK977 hs978
   refine Pu1<|Re1<|Re1<|?_
   have hs980 := (hs975).mono hK977
   have hs981 := ((hs940).mono hK974).mono hK977
   exact Shift.done ⟨v934, v938, v931, rfl, rfl, hs980, hs981, hs978⟩
  ·intro h899
   have h899 := aC (h899)
   have H := av h899 H
   refine ak<|ac<|aa<|EF 1 Z<|El (sv vp0_waiting) Z (Rb4 Z)<|Em Z<|?_
   obtain ⟨x982, hx983, H⟩ := bnd H
   have hs984 := (hp0_waiting).mono hK354
   obtain ⟨r985, hr986, hk987⟩ := Slr.at hs984 hx983
   obtain ⟨v988, v989, rfl, hs990, hs991⟩ := hr986
   refine Eq Z (bE (T := aA) hs984 hx983 rfl rfl rfl rfl rfl)<|EL 8 (Waiter.cells x982 v988 v989) Z (Rdc.k hk987 rfl)<|?_
   refine ae rfl (an (cs := (Waiter.cells (Waiter.mk 0 (Op.mk 0 0 0 0 0 [] [])) aj aj)) rfl rfl rfl rfl (fun b992 => ?_))
   refine ae rfl (ag (vs := (Waiter.cells x982 v988 v989)) (all' := (Waiter.cells x982 v988 v989)) rfl rfl rfl rfl rfl .here rfl rfl rfl ?_)
   refine ab<|ac<|aa<|EF 1 Z<|EL 7 (Op.cells x982.op v988 v989) Z (Rb0 Z)<|EF 1 Z<|El (.int .i64 p4.channel) Z (Rb4 Z)<|?_
   obtain ⟨x993, hx994, H⟩ := bnd H
   refine ae rfl (Ek Tryd.call62 Z (hU x982.op v988 v989 p4.channel true x993 hx994 _ _ hs990 hs991) ?_)
   rintro _ K995 _ hK996 ⟨rfl, rfl⟩
   refine Ea Z<|ab<|ac<|aa<|EF 1 Z<|EL 7 (Op.cells x982.op v988 v989) Z (Rb0 Z)<|?_
   obtain ⟨x997, hx998, H⟩ := bnd H
   have hs999 := (hs990).mono hK996
   have hs1000 := (hs991).mono hK996
   refine ae rfl (Ek Tryd.call35 Z (jZ x982.op v988 v989 x997 hx998 _ _ hs999 hs1000) ?_)
   rintro _ K1002 _ hK1003 ⟨v1001, rfl, rfl, hs1004⟩
   refine Em Z ?_
   obtain ⟨x1005, hx1006, H⟩ := bnd H
   obtain ⟨r1007, hr1008, hk1009⟩ := Slr.at hs1004 hx1006
   obtain rfl := hr1008
   refine Eq Z (bE (T := aK) hs1004 hx1006 rfl rfl rfl rfl rfl)<|EF 2 Z<|El (.int .u64 x1005.value) Z (Rdc.k hk1009 rfl)<|Ea Z<|ab<|?_
   refine ap (fun env' K' G' => ∃ (i1026 : Int) (t1027 : Bool) (v1028 : SV) (l1029 : List Int), [(1, (.int .i64 p1)), (5, (.pointer (some ((⟨b337, 0, none⟩ : Addr).add 0)))), (9, (.pointer (some ((⟨b339, 0, none⟩ : Addr).add 0)))), (10, (.pointer (some ((⟨b340, 0, none⟩ : Addr).add 0)))), (12, (.pointer (some ((⟨b348, 0, none⟩ : Addr).add 0)))), (14, (.int .i64 x351)), (17, (.pointer (some ((⟨b800, 0, none⟩ : Addr).add 0)))), (18, (.pointer (some ((⟨b992, 0, none⟩ : Addr).add 0)))), (19, (.int .i64 x993))] = env' ∧ (.blk b992 96 (Waiter.cells x982 v988 v989)) :: (.blk b800 36 (Result.cells (Result.mk 2 x349 i1026 t1027 0))) :: (.blk b348 74 (Chan.cells (Chan.mk x341.capacity l1029 x341.closed) v1028)) :: (.blk b340 64 (Desk.cells (Desk.mk [] [] 0) aj aj)) :: (.blk b339 92 (Case.cells p4)) :: (.blk b337 64 (Desk.cells p0 vp0_chans vp0_waiting)) :: G = G' ∧ lv p1 x351 x993 x982 x349 x341 p4 p0 i1026 t1027 l1029 = some (y0, y1) ∧ Slr Ty.u64 K' (sv v1028) l1029) ?_ ?_
   ·skip
    refine ac<|aa<|EF 3 Z<|El (.bool t819) Z (Rb1 Z)<|ab<|?_
    refine ai rfl ?_ ?_
    ·intro h1031
     have H := ift h1031 H
     refine aa<|EF 1 Z<|El (sv v820) Z (Rb2 Z)<|?_
     refine Ow.shift (Shift.nilTok1 34 1 (Shift.done ?_))
     obtain ⟨x1032, hx1033, H⟩ := bnd H
     have hs1034 := ((hs822).mono hK996).mono hK1003
     refine ae rfl (aL (T := Ty.u64) (bytes := 8) (q := 0) rfl rfl rfl (Slr.nil Ty.u64 _) Mb0 rfl (SrcT.sl hs1034) hx1033 rfl rfl rfl rfl rfl rfl rfl rfl (fun v1035 K1036 hK1037 hs1038 => ⟨_, .here, ?_⟩))
     refine Em Z ?_
     have hR1040 : RowR Ty.u64 K1036 [[(.int .u64 x1005.value)]] [x1005.value] := RowR.cons rfl (RowR.nil)
     refine ae rfl (aS (T := Ty.u64) (rows := [[(.int .u64 x1005.value)]]) (l := [x1005.value]) rfl rfl rfl hR1040 rfl rfl rfl rfl rfl rfl rfl rfl (fun v1039 => ?_))
     obtain ⟨x1041, hx1042, H⟩ := bnd H
     refine ae rfl (aL (T := Ty.u64) (bytes := 8) (q := 0) rfl rfl rfl hs1038 Mb1 rfl (SrcT.row Mb0 hR1040 rfl) hx1042 rfl rfl rfl rfl rfl rfl rfl rfl (fun v1043 K1044 hK1045 hs1046 => ⟨_, (.there .here), ?_⟩))
     refine Ow.shift (Re0 (Shift.done ?_))
     refine EF 1 Z ?_
     refine ae rfl (ag (vs := [(sv v1043)]) (all' := (Chan.cells (Chan.mk x341.capacity x1041 x341.closed) v1043)) rfl rfl rfl rfl rfl (.there (.there (.there .here))) rfl rfl rfl ?_)
     refine ab<|Pu6<|Pu6<|Pu6<|Pu6<|Pu6<|Pu6<|Re6<|Shift.done<|?_
     exact ⟨_, by exact ⟨rfl, rfl, rfl, rfl, rfl, rfl, rfl, rfl, rfl, trivial⟩, i818, t819, v1043, x1041, rfl, rfl, H, hs1046⟩
    ·intro h1031
     have H := av (btf h1031) H
     refine aa<|Em Z<|EF 2 Z<|?_
     refine ae rfl (ag (vs := [(.int .u64 x1005.value)]) (all' := (Result.cells (Result.mk 2 x349 x1005.value t819 0))) rfl rfl rfl rfl rfl (.there .here) rfl rfl rfl ?_)
     refine EF 3 Z ?_
     refine ae rfl (ag (vs := [(.bool true)]) (all' := (Result.cells (Result.mk 2 x349 x1005.value true 0))) rfl rfl rfl rfl rfl (.there .here) rfl rfl rfl ?_)
     refine ab<|Pu5<|Pu5<|Pu5<|Pu5<|Pu5<|Pu5<|?_
     have hs1047 := ((hs822).mono hK996).mono hK1003
     exact Shift.done ⟨_, by exact ⟨rfl, rfl, rfl, rfl, rfl, rfl, rfl, rfl, rfl, trivial⟩, x1005.value, true, v820, l821, rfl, rfl, H, hs1047⟩
   rintro _ K1048 _ hK1049 ⟨i1026, t1027, v1028, l1029, rfl, rfl, H, hs1030⟩
   unfold lv at H
   refine ac ?_
   obtain ⟨x1082, hx1083, H⟩ := bnd H
   obtain ⟨x1092, hx1093, H⟩ := bnd H
   refine ar [.blk b992 96 (Waiter.cells x982 v988 v989), .blk b800 36 (Result.cells (Result.mk 2 x349 i1026 t1027 0)), .blk b348 74 (Chan.cells (Chan.mk x341.capacity l1029 x341.closed) v1028), .blk b340 64 (Desk.cells (Desk.mk [] [] 0) aj aj), .blk b339 92 (Case.cells p4)] rfl (Inc.cons Mb0 (Inc.cons Mb1 (Inc.cons Mb2 (Inc.cons Mb3 (Inc.cons Mb4 Inc.nil)))))<|Jm 1 Z (by kernel_rfl)<|JF 3 1 Z (by kernel_rfl)<|Jl 4 (.int .i64 p4.channel) Z (by kernel_rfl) (Rb4 Z)<|JL 5 3 (Chan.cells (Chan.mk x341.capacity l1029 x341.closed) v1028) Z (by kernel_rfl) (Rb2 Z)<|?_
   refine ah 0 (by kernel_rfl) (Jyq Z (ck (m := 3) (cs := (Desk.cells p0 vp0_chans vp0_waiting)) rfl rfl rfl rfl ⟨rfl, Rb5 Z⟩) ⟨(Inc.cons Mb0 (Inc.cons Mb1 (Inc.cons Mb2 (Inc.cons Mb3 (Inc.cons Mb4 Inc.nil))))), ?_⟩)
   refine ah 2 (by kernel_rfl) (Jy Z ?_)
   have hs1100 := ((((hp0_chans).mono hK354).mono hK996).mono hK1003).mono hK1049
   have hs1101 := (((hs984).mono hK996).mono hK1003).mono hK1049
   refine Ek Tryd.call64 Z (m6 p0 vp0_chans vp0_waiting x351 x1082 hx1083 _ _ hs1100 hs1101) ?_
   rintro _ K1104 _ hK1105 ⟨v1102, v1103, rfl, rfl, hs1106, hs1107⟩
   refine ⟨(Inc.cons Mb1 (Inc.cons Mb2 (Inc.cons Mb3 (Inc.cons Mb4 (Inc.cons Mb5 Inc.nil))))), ?_⟩
   refine ah 6 (by kernel_rfl) (Jy Z ?_)
   have hs1108 := (hs1030).mono hK1105
   refine Ek Tryd.call61 Z (fM x1082 v1102 v1103 p4.channel (Chan.mk x341.capacity l1029 x341.closed) v1028 x1092 hx1093 _ _ hs1106 hs1107 hs1108) ?_
   rintro _ _ _ - ⟨v1109, rs1110, v1111, rfl, rfl, rfl, hs1112, hs1113⟩
   refine ⟨(Inc.cons Mb2 (Inc.cons Mb3 (Inc.cons Mb4 (Inc.cons Mb5 (Inc.cons Mb6 Inc.nil))))), ?_⟩
   refine ah 7 (by kernel_rfl) (Jy Z ?_)
   refine ag (vs := (Desk.cells x1092 v1109 v1111)) (all' := (Desk.cells x1092 v1109 v1111)) rfl rfl rfl rfl rfl (.there (.there (.there (.there (.there (.there (.there .here))))))) rfl rfl rfl ⟨(Inc.cons Mb2 (Inc.cons Mb3 (Inc.cons Mb4 (Inc.cons Mb5 (Inc.cons Mb6 Inc.nil))))), ?_⟩
   refine ay (by kernel_rfl)<|ac<|?_
   obtain ⟨x1153, hx1154, H⟩ := bnd H
   obtain ⟨x1160, hx1161, H⟩ := bnd H
   refine ar [.row (sv v1109) 74 3 rs1110.flatten, .tok 96 8 [(sv v1103)], .blk b992 96 (Waiter.cells x982 v988 v989), .blk b800 36 (Result.cells (Result.mk 2 x349 i1026 t1027 0)), .blk b348 74 (Chan.cells (Chan.mk x341.capacity l1029 x341.closed) v1028), .blk b339 92 (Case.cells p4), .blk b337 64 (Desk.cells x1092 v1109 v1111)] rfl (Inc.cons Mb0 (Inc.cons Mb1 (Inc.cons Mb2 (Inc.cons Mb3 (Inc.cons Mb4 (Inc.cons Mb6 (Inc.cons Mb7 Inc.nil)))))))<|JL 0 3 (Desk.cells x1092 v1109 v1111) Z (by kernel_rfl) (Rb6 Z)<|Jm 1 Z (by kernel_rfl)<|JL 2 5 (Result.cells (Result.mk 2 x349 i1026 t1027 0)) Z (by kernel_rfl) (Rb3 Z)<|Jq 3 Z (by kernel_rfl) (ao (cs := (Done.cells (Done.mk p1 (Result.mk 2 x349 i1026 t1027 0)))) rfl rfl rfl rfl rfl rfl)<|JF 5 0 Z (by kernel_rfl)<|Jl 6 (.int .i64 x982.thread) Z (by kernel_rfl) (Rb2 Z)<|JF 7 1 Z (by kernel_rfl)<|JL 8 7 (Op.cells x982.op v988 v989) Z (by kernel_rfl) (Rb2 Z)<|Jm 9 Z (by kernel_rfl)<|?_
   refine br 4 10 (by kernel_rfl) ?_ ?_
   ·skip
    refine id (Jy Z ?_)
    have hR1167 : RowR aw K1104 [(Done.cells (Done.mk p1 (Result.mk 2 x349 i1026 t1027 0)))] [(Done.mk p1 (Result.mk 2 x349 i1026 t1027 0))] := RowR.cons rfl (RowR.nil)
    refine aS (T := aw) (rows := [(Done.cells (Done.mk p1 (Result.mk 2 x349 i1026 t1027 0)))]) (l := [(Done.mk p1 (Result.mk 2 x349 i1026 t1027 0))]) rfl rfl rfl hR1167 rfl rfl rfl rfl rfl rfl rfl rfl (fun v1166 => ⟨(Inc.cons Mb1 (Inc.cons Mb2 (Inc.cons Mb3 (Inc.cons Mb4 (Inc.cons Mb5 (Inc.cons Mb7 (Inc.cons Mb8 Inc.nil))))))), ?_⟩)
    refine ah 10 (by kernel_rfl) (Jy Z ?_)
    have hs1168 := (((hs999).mono hK1003).mono hK1049).mono hK1105
    have hs1169 := (((hs1000).mono hK1003).mono hK1049).mono hK1105
    refine Ek Tryd.call63 Z (fN x982.op v988 v989 x993 x1153 hx1154 _ _ hs1168 hs1169) ?_
    rintro _ _ _ - ⟨rfl, rfl, rfl⟩
    refine ⟨(Inc.cons Mb1 (Inc.cons Mb2 (Inc.cons Mb3 (Inc.cons Mb4 (Inc.cons Mb5 (Inc.cons Mb7 (Inc.cons Mb8 Inc.nil))))))), ?_⟩
    refine Jq 11 Z (by kernel_rfl) (ao (cs := (Result.cells (Result.mk 1 x1153 0 false 0))) rfl rfl rfl rfl rfl rfl) ?_
    refine ah 12 (by kernel_rfl) (Jy Z ?_)
    refine OpW.shift (Shift.settle (T := aw) .here hR1167 rfl (fun K1170 hK1171 hs1172 => Shift.done ?_))
    refine Ek Tryd.call65 Z (hX [(Done.mk p1 (Result.mk 2 x349 i1026 t1027 0))] v1166 x982.thread (Result.mk 1 x1153 0 false 0) x1160 hx1161 _ _ hs1172) ?_
    rintro _ K1174 _ hK1175 ⟨v1173, rfl, rfl, hs1176⟩
    refine ⟨(Inc.cons Mb2 (Inc.cons Mb3 (Inc.cons Mb4 (Inc.cons Mb5 (Inc.cons Mb6 (Inc.cons Mb8 (Inc.cons Mb9 Inc.nil))))))), ?_⟩
    refine ah 13 (by kernel_rfl) (Jy Z ?_)
    refine ag (vs := (Desk.cells x1092 v1109 v1111)) (all' := (Desk.cells x1092 v1109 v1111)) rfl rfl rfl rfl rfl (.there (.there (.there (.there (.there (.there (.there .here))))))) rfl rfl rfl ⟨(Inc.cons Mb2 (Inc.cons Mb3 (Inc.cons Mb4 (Inc.cons Mb5 (Inc.cons Mb6 (Inc.cons Mb8 (Inc.cons Mb9 Inc.nil))))))), ?_⟩
    refine Ja 14 Z (by kernel_rfl)<|ay (by kernel_rfl)<|am<|?_
    obtain ⟨ey0, ey1⟩ := cg H
    subst y0 y1
    refine ⟨(by first | exact .inl rfl | exact .inr rfl), [(.agg (Desk.cells x1092 v1109 v1111).toArray), (sv v1173)], ⟨(.agg (Desk.cells x1092 v1109 v1111).toArray), _, rfl, ⟨_, 3, (Desk.cells x1092 v1109 v1111), rfl, rfl, rfl, rfl, ⟨rfl, Rb7 Z⟩, rfl⟩, ⟨(sv v1173), _, rfl, rfl, rfl⟩⟩, ?_⟩
    have hs1180 := ((hs1112).mono hK1171).mono hK1175
    refine Shift.settle (T := aB) (.there (.there .here)) hs1180 rfl ?_
    intro K1177 hK1178 hs1179
    refine Re1<|Re1<|Re1<|Re1<|Re1<|Re1<|Re1<|Re1<|Re1<|?_
    have hs1181 := (((hs1113).mono hK1171).mono hK1175).mono hK1178
    have hs1182 := (hs1176).mono hK1178
    exact Shift.done ⟨v1109, v1111, v1173, rfl, rfl, hs1179, hs1181, hs1182⟩
   ·skip
    refine id (Jy Z ?_)
    have hs1183 := (((hs999).mono hK1003).mono hK1049).mono hK1105
    have hs1184 := (((hs1000).mono hK1003).mono hK1049).mono hK1105
    refine Ek Tryd.call63 Z (fN x982.op v988 v989 x993 x1153 hx1154 _ _ hs1183 hs1184) ?_
    rintro _ _ _ - ⟨rfl, rfl, rfl⟩
    refine ⟨(Inc.cons Mb0 (Inc.cons Mb1 (Inc.cons Mb2 (Inc.cons Mb3 (Inc.cons Mb4 (Inc.cons Mb6 (Inc.cons Mb7 Inc.nil))))))), ?_⟩
    refine Jq 11 Z (by kernel_rfl) (ao (cs := (Result.cells (Result.mk 1 x1153 0 false 0))) rfl rfl rfl rfl rfl rfl) ?_
    refine ah 4 (by kernel_rfl) (Jy Z ?_)
    have hR1186 : RowR aw K1104 [(Done.cells (Done.mk p1 (Result.mk 2 x349 i1026 t1027 0)))] [(Done.mk p1 (Result.mk 2 x349 i1026 t1027 0))] := RowR.cons rfl (RowR.nil)
    refine aS (T := aw) (rows := [(Done.cells (Done.mk p1 (Result.mk 2 x349 i1026 t1027 0)))]) (l := [(Done.mk p1 (Result.mk 2 x349 i1026 t1027 0))]) rfl rfl rfl hR1186 rfl rfl rfl rfl rfl rfl rfl rfl (fun v1185 => ⟨(Inc.cons Mb1 (Inc.cons Mb2 (Inc.cons Mb3 (Inc.cons Mb4 (Inc.cons Mb5 (Inc.cons Mb7 (Inc.cons Mb8 Inc.nil))))))), ?_⟩)
    refine ah 12 (by kernel_rfl) (Jy Z ?_)
    refine OpW.shift (Shift.settle (T := aw) .here hR1186 rfl (fun K1187 hK1188 hs1189 => Shift.done ?_))
    refine Ek Tryd.call65 Z (hX [(Done.mk p1 (Result.mk 2 x349 i1026 t1027 0))] v1185 x982.thread (Result.mk 1 x1153 0 false 0) x1160 hx1161 _ _ hs1189) ?_
    rintro _ K1191 _ hK1192 ⟨v1190, rfl, rfl, hs1193⟩
    refine ⟨(Inc.cons Mb2 (Inc.cons Mb3 (Inc.cons Mb4 (Inc.cons Mb5 (Inc.cons Mb6 (Inc.cons Mb8 (Inc.cons Mb9 Inc.nil))))))), ?_⟩
    refine ah 13 (by kernel_rfl) (Jy Z ?_)
    refine ag (vs := (Desk.cells x1092 v1109 v1111)) (all' := (Desk.cells x1092 v1109 v1111)) rfl rfl rfl rfl rfl (.there (.there (.there (.there (.there (.there (.there .here))))))) rfl rfl rfl ⟨(Inc.cons Mb2 (Inc.cons Mb3 (Inc.cons Mb4 (Inc.cons Mb5 (Inc.cons Mb6 (Inc.cons Mb8 (Inc.cons Mb9 Inc.nil))))))), ?_⟩
    refine Ja 14 Z (by kernel_rfl)<|ay (by kernel_rfl)<|am<|?_
    obtain ⟨ey0, ey1⟩ := cg H
    subst y0 y1
    refine ⟨(by first | exact .inl rfl | exact .inr rfl), [(.agg (Desk.cells x1092 v1109 v1111).toArray), (sv v1190)], ⟨(.agg (Desk.cells x1092 v1109 v1111).toArray), _, rfl, ⟨_, 3, (Desk.cells x1092 v1109 v1111), rfl, rfl, rfl, rfl, ⟨rfl, Rb7 Z⟩, rfl⟩, ⟨(sv v1190), _, rfl, rfl, rfl⟩⟩, ?_⟩
    have hs1197 := ((hs1112).mono hK1188).mono hK1192
    refine Shift.settle (T := aB) (.there (.there .here)) hs1197 rfl ?_
    intro K1194 hK1195 hs1196
    refine Re1<|Re1<|Re1<|Re1<|Re1<|Re1<|Re1<|Re1<|Re1<|?_
    have hs1198 := (((hs1113).mono hK1188).mono hK1192).mono hK1195
    have hs1199 := (hs1193).mono hK1195
    exact Shift.done ⟨v1109, v1111, v1190, rfl, rfl, hs1196, hs1198, hs1199⟩



end Go.Hx
