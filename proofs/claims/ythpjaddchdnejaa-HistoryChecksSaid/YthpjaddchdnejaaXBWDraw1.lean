/- Printed by program. -/
import Derived.Test.YthpjaddchdnejaaXBM
import Derived.Test.YthpjaddchdnejaaXBWDraw
namespace Go.Hx
open Go Go.Proofs
set_option linter.unusedSimpArgs false
set_option linter.unusedVariables false
set_option maxRecDepth 10000
set_option maxHeartbeats 1000000 in
theorem c_M_draw_Codes_Select (bp0 : Nat) (p0 : Draw_Codes) (vp0_list : SV) (p1 : Config) (vp1_capacities : SV) (vp1_starts : SV) (p2 : Int) (y0 : Op) (z0_at_ : Int) (z0_value : Int) (H : M_draw_Codes_Select p0 p1 p2 = some (y0, z0_at_, z0_value)) (K : Kp) (G : List Ent) (hp0_list : Slr Ty.u8 K (sv vp0_list) p0.list) (hp1_capacities : Slr Ty.i64 K (sv vp1_capacities) p1.capacities) (hp1_starts : Slr Ty.u64 K (sv vp1_starts) p1.starts) :
    Fc Try.prog 67 #[(.pointer (some ((⟨bp0, 0, none⟩ : Addr).add 0))), (.agg (Config.cells p1 vp1_capacities vp1_starts).toArray), (.int .i64 p2)] K ((.blk bp0 93 (Draw_Codes.cells p0 vp0_list)) :: G) (fun v K' G' => ∃ (wy0_cases : SV) (wy0_draws : SV), v = (.agg (Op.cells y0 wy0_cases wy0_draws).toArray) ∧ (.blk bp0 93 (Draw_Codes.cells (Draw_Codes.mk p0.list z0_at_ z0_value) vp0_list)) :: G = G' ∧ Slr TyCase K' (sv wy0_cases) y0.cases ∧ Slr Ty.i64 K' (sv wy0_draws) y0.draws) := by
  refine Fc_body Try.func67 rfl Try.ntmps67 Try.results67 rfl ?_
  unfold M_draw_Codes_Select at H
  refine Cw_seq ?_
  refine Cw_region ?_
  refine Ow_cons rfl (OpW_box (cs := (Config.cells p1 vp1_capacities vp1_starts)) rfl rfl rfl (fun b431 => ?_))
  refine Ow_cons rfl (OpW_alloc (cs := (Op.cells (Op.mk 0 0 0 0 0 [] []) nilS nilS)) rfl rfl rfl rfl (fun b432 => ?_))
  refine Ow_nil ?_
  refine Cw_seq ?_
  refine Cw_region ?_
  refine Ow_q rfl rfl rfl (Qt_build (cs := (Op.cells (Op.mk 4 0 0 0 0 [] []) nilS nilS)) rfl rfl rfl rfl rfl rfl) ?_
  refine Ow_cons rfl (OpW_alloc (cs := (Op.cells (Op.mk 0 0 0 0 0 [] []) nilS nilS)) rfl rfl rfl rfl (fun b433 => ?_))
  refine Ow_cons rfl (OpW_store (vs := (Op.cells (Op.mk 4 0 0 0 0 [] []) nilS nilS)) (all' := (Op.cells (Op.mk 4 0 0 0 0 [] []) nilS nilS)) rfl rfl rfl rfl rfl .here rfl rfl rfl ?_)
  refine Ow_nil ?_
  refine Cw_join (fun env' K' G' => ∃ (i818 : Int) (i819 : Int) (v820 : SV) (l821 : List Case) (v823 : SV) (l824 : List Int), [(0, (.pointer (some ((⟨bp0, 0, none⟩ : Addr).add 0)))), (6, (.pointer (some ((⟨b432, 0, none⟩ : Addr).add 0)))), (7, (.pointer (some ((⟨b433, 0, none⟩ : Addr).add 0))))] = env' ∧ (.blk bp0 93 (Draw_Codes.cells (Draw_Codes.mk p0.list i818 i819) vp0_list)) :: (.blk b433 73 (Op.cells (Op.mk 4 0 0 0 0 l821 l824) v820 v823)) :: (.blk b432 73 (Op.cells (Op.mk 0 0 0 0 0 [] []) nilS nilS)) :: (.tok 105 3 [(sv v820)]) :: (.tok 3 1 [(sv v823)]) :: G = G' ∧ M_draw_Codes_Select_J1 p0 i818 i819 l821 l824 = some (y0, z0_at_, z0_value) ∧ Slr TyCase K' (sv v820) l821 ∧ Slr Ty.i64 K' (sv v823) l824) ?_ ?_
  · skip
    refine Cw_seq ?_
    refine Cw_region ?_
    refine Ow_q rfl rfl rfl (Qt_assign rfl) ?_
    refine Ow_nil ?_
    refine Cw_block ?_
    refine Cw_loopM (fun n1210 env' K' G' => ∃ (i1201 : Int) (i1202 : Int) (i1203 : Int) (v1204 : SV) (l1205 : List Case) (v1207 : SV) (l1208 : List Int), [(0, (.pointer (some ((⟨bp0, 0, none⟩ : Addr).add 0)))), (2, (.int .i64 p2)), (4, (.pointer (some ((⟨b431, 0, none⟩ : Addr).add 0)))), (6, (.pointer (some ((⟨b432, 0, none⟩ : Addr).add 0)))), (7, (.pointer (some ((⟨b433, 0, none⟩ : Addr).add 0)))), (8, (.int .i64 i1201))] = env' ∧ (.blk bp0 93 (Draw_Codes.cells (Draw_Codes.mk p0.list i1202 i1203) vp0_list)) :: (.blk b433 73 (Op.cells (Op.mk 4 0 0 0 0 l1205 l1208) v1204 v1207)) :: (.blk b432 73 (Op.cells (Op.mk 0 0 0 0 0 [] []) nilS nilS)) :: (.blk b431 77 (Config.cells p1 vp1_capacities vp1_starts)) :: (.tok 105 3 [(sv v1204)]) :: (.tok 3 1 [(sv v1207)]) :: G = G' ∧ lp5 (M_draw_Codes_Select_L1 p2 p0 p1) n1210 i1201 i1202 i1203 l1205 l1208 = some (y0, z0_at_, z0_value) ∧ Slr TyCase K' (sv v1204) l1205 ∧ Slr Ty.i64 K' (sv v1207) l1208) BIG ?_ ?_
    · skip
      refine Shift.nilTok1 105 3 ?_
      refine Shift.nilTok1 3 1 ?_
      refine Shift.pull (.there .here) ?_
      refine Shift.pull (.there (.there (.there (.there .here)))) ?_
      refine Shift.pull (.there (.there (.there (.there .here)))) ?_
      refine Shift.pull (.there (.there (.there (.there .here)))) ?_
      refine Shift.pull (.there (.there (.there (.there (.there .here))))) ?_
      refine Shift.done ?_
      exact ⟨[(0, (.pointer (some ((⟨bp0, 0, none⟩ : Addr).add 0)))), (2, (.int .i64 p2)), (4, (.pointer (some ((⟨b431, 0, none⟩ : Addr).add 0)))), (6, (.pointer (some ((⟨b432, 0, none⟩ : Addr).add 0)))), (7, (.pointer (some ((⟨b433, 0, none⟩ : Addr).add 0)))), (8, (.int .i64 0))], ⟨rfl, rfl, rfl, rfl, rfl, rfl, trivial⟩, 0, p0.at_, p0.value, nilS, ([] : List Case), nilS, ([] : List Int), rfl, rfl, H, (Slr.nil TyCase _), (Slr.nil Ty.i64 _)⟩
    rintro n1210 _ K1211 _ hK1212 ⟨i1201, i1202, i1203, v1204, l1205, v1207, l1208, rfl, rfl, H, hs1206, hs1209⟩
    obtain ⟨m1213, k1214, rfl, hkk1215, H⟩ := lps5 H
    unfold M_draw_Codes_Select_L1 at H
    refine Cw_seq ?_
    refine Cw_seq ?_
    refine Cw_region ?_
    refine Ow_q rfl rfl rfl (Qt_move rfl) ?_
    refine Ow_q rfl rfl rfl (Qt_move rfl) ?_
    refine Ow_q rfl rfl rfl (Qt_move rfl) ?_
    refine Ow_q rfl rfl rfl (Qt_arith (e := wI (p2 + 1)) rfl rfl rfl rfl) ?_
    obtain ⟨x1221, x1222, hx1223, H⟩ := bnd2 H
    have hs1224 := (hp0_list).mono hK1212
    refine Ow_cons rfl (OpW_call rfl Try.call40 rfl rfl (c_M_draw_Codes_Next bp0 (Draw_Codes.mk p0.list i1202 i1203) vp0_list (wI (p2 + 1)) x1221 x1222 hx1223 _ _ hs1224) ?_)
    rintro _ _ _ - ⟨rfl, rfl, rfl⟩
    refine Ow_q rfl rfl rfl (Qt_cmp rfl rfl rfl) ?_
    refine Ow_nil ?_
    refine Cw_cond rfl ?_ ?_
    · intro h1225
      have h1225 := dcd_t (h1225)
      have H := ift h1225 H
      refine Cw_skip ?_
      refine Cw_join (fun env' K' G' => ∃ (i1398 : Int) (i1399 : Int) (v1400 : SV) (l1401 : List Case) (v1403 : SV) (l1404 : List Int), [(0, (.pointer (some ((⟨bp0, 0, none⟩ : Addr).add 0)))), (2, (.int .i64 p2)), (4, (.pointer (some ((⟨b431, 0, none⟩ : Addr).add 0)))), (6, (.pointer (some ((⟨b432, 0, none⟩ : Addr).add 0)))), (7, (.pointer (some ((⟨b433, 0, none⟩ : Addr).add 0)))), (8, (.int .i64 i1201))] = env' ∧ (.blk bp0 93 (Draw_Codes.cells (Draw_Codes.mk p0.list i1398 i1399) vp0_list)) :: (.blk b433 73 (Op.cells (Op.mk 4 0 0 0 0 l1401 l1404) v1400 v1403)) :: (.blk b432 73 (Op.cells (Op.mk 0 0 0 0 0 [] []) nilS nilS)) :: (.blk b431 77 (Config.cells p1 vp1_capacities vp1_starts)) :: (.tok 105 3 [(sv v1400)]) :: (.tok 3 1 [(sv v1403)]) :: G = G' ∧ M_draw_Codes_Select_J2 p2 i1201 p0 p1 k1214 i1398 i1399 l1401 l1404 = some (y0, z0_at_, z0_value) ∧ Slr TyCase K' (sv v1400) l1401 ∧ Slr Ty.i64 K' (sv v1403) l1404) ?_ ?_
      · skip
        refine Cw_block ?_
        refine Cw_seq ?_
        obtain ⟨x1406, x1407, hx1408, H⟩ := bnd2 H
        obtain ⟨x1409, x1410, x1411, hx1412, H⟩ := bnd3 H
        refine Cw_region_any [.blk b433 73 (Op.cells (Op.mk 4 0 0 0 0 l1205 l1208) v1204 v1207), .blk b432 73 (Op.cells (Op.mk 0 0 0 0 0 [] []) nilS nilS), .blk b431 77 (Config.cells p1 vp1_capacities vp1_starts), .tok 105 3 [(sv v1204)], .tok 3 1 [(sv v1207)]] rfl (Inc.cons (.tail _ (.head _)) (Inc.cons (.tail _ (.tail _ (.head _))) (Inc.cons (.tail _ (.tail _ (.tail _ (.head _)))) (Inc.cons (.tail _ (.tail _ (.tail _ (.tail _ (.head _))))) (Inc.cons (.tail _ (.tail _ (.tail _ (.tail _ (.tail _ (.head _)))))) Inc.nil))))) ?_
        refine Aw_q 0 rfl (by kernel_rfl) (by kernel_rfl) (by kernel_rfl) rfl rfl rfl (Qt_move rfl) ?_
        refine Aw_q 3 rfl (by kernel_rfl) (by kernel_rfl) (by kernel_rfl) rfl rfl rfl (Qt_move rfl) ?_
        refine Aw_q 4 rfl (by kernel_rfl) (by kernel_rfl) (by kernel_rfl) rfl rfl rfl (Qt_loadA (m := 3) (cs := (Config.cells p1 vp1_capacities vp1_starts)) rfl rfl rfl rfl ⟨rfl, Rdc.blk (.tail _ (.tail _ (.head _))) rfl⟩) ?_
        refine Aw_two 1 7 (by kernel_rfl) ?_ ?_
        · skip
          refine id (Ax_mk rfl rfl (OpW_call rfl Try.call40 rfl rfl (c_M_draw_Codes_Next bp0 (Draw_Codes.mk p0.list x1222 ((Draw_Codes.mk p0.list i1202 i1203).value)) vp0_list 2 x1406 x1407 hx1408 _ _ hs1224) ?_))
          rintro _ _ _ - ⟨rfl, rfl, rfl⟩
          refine ⟨(Inc.cons (.tail _ (.head _)) (Inc.cons (.tail _ (.tail _ (.head _))) (Inc.cons (.tail _ (.tail _ (.tail _ (.head _)))) (Inc.cons (.tail _ (.tail _ (.tail _ (.tail _ (.head _))))) (Inc.cons (.tail _ (.tail _ (.tail _ (.tail _ (.tail _ (.head _)))))) Inc.nil))))), ?_⟩
          refine Aw_q 2 rfl (by kernel_rfl) (by kernel_rfl) (by kernel_rfl) rfl rfl rfl (Qt_cmp rfl rfl rfl) ?_
          refine Aw_two 5 7 (by kernel_rfl) ?_ ?_
          · skip
            have hs1416 := (hp1_capacities).mono hK1212
            have hs1417 := (hp1_starts).mono hK1212
            refine id (Ax_mk rfl rfl (OpW_call rfl Try.call65 rfl rfl (c_M_draw_Codes_channel bp0 (Draw_Codes.mk p0.list x1407 ((Draw_Codes.mk p0.list x1222 ((Draw_Codes.mk p0.list i1202 i1203).value)).value)) vp0_list p1 vp1_capacities vp1_starts x1409 x1410 x1411 hx1412 _ _ hs1224 hs1416 hs1417) ?_))
            rintro _ _ _ - ⟨rfl, rfl, rfl⟩
            refine ⟨(Inc.cons (.tail _ (.head _)) (Inc.cons (.tail _ (.tail _ (.head _))) (Inc.cons (.tail _ (.tail _ (.tail _ (.head _)))) (Inc.cons (.tail _ (.tail _ (.tail _ (.tail _ (.head _))))) (Inc.cons (.tail _ (.tail _ (.tail _ (.tail _ (.tail _ (.head _)))))) Inc.nil))))), ?_⟩
            refine Aw_q 6 rfl (by kernel_rfl) (by kernel_rfl) (by kernel_rfl) rfl rfl rfl (Qt_build (cs := (Case.cells (Case.mk (dcd (x1406 = 1)) x1409 0))) rfl rfl rfl rfl rfl rfl) ?_
            refine Aw_one 7 (by kernel_rfl) (Ax_mk rfl rfl (OpW_alloc (cs := (Case.cells (Case.mk false 0 0))) rfl rfl rfl rfl (fun b1418 => ⟨(Inc.cons (.tail _ (.tail _ (.head _))) (Inc.cons (.tail _ (.tail _ (.tail _ (.head _)))) (Inc.cons (.tail _ (.tail _ (.tail _ (.tail _ (.head _))))) (Inc.cons (.tail _ (.tail _ (.tail _ (.tail _ (.tail _ (.head _)))))) (Inc.cons (.tail _ (.tail _ (.tail _ (.tail _ (.tail _ (.tail _ (.head _))))))) Inc.nil))))), ?_⟩)))
            refine Aw_one 8 (by kernel_rfl) (Ax_mk rfl rfl (OpW_store (vs := (Case.cells (Case.mk (dcd (x1406 = 1)) x1409 0))) (all' := (Case.cells (Case.mk (dcd (x1406 = 1)) x1409 0))) rfl rfl rfl rfl rfl .here rfl rfl rfl ⟨(Inc.cons (.tail _ (.tail _ (.head _))) (Inc.cons (.tail _ (.tail _ (.tail _ (.head _)))) (Inc.cons (.tail _ (.tail _ (.tail _ (.tail _ (.head _))))) (Inc.cons (.tail _ (.tail _ (.tail _ (.tail _ (.tail _ (.head _)))))) (Inc.cons (.tail _ (.tail _ (.tail _ (.tail _ (.tail _ (.tail _ (.head _))))))) Inc.nil))))), ?_⟩))
            refine Aw_done (by kernel_rfl) ?_
            refine Cw_join (fun env' K' G' => ∃ (i1423 : Int) (i1424 : Int) (i1425 : Int), [(0, (.pointer (some ((⟨bp0, 0, none⟩ : Addr).add 0)))), (2, (.int .i64 p2)), (4, (.pointer (some ((⟨b431, 0, none⟩ : Addr).add 0)))), (6, (.pointer (some ((⟨b432, 0, none⟩ : Addr).add 0)))), (7, (.pointer (some ((⟨b433, 0, none⟩ : Addr).add 0)))), (8, (.int .i64 i1201)), (9, (.pointer (some ((⟨b1418, 0, none⟩ : Addr).add 0))))] = env' ∧ K1211 = K' ∧ (.blk bp0 93 (Draw_Codes.cells (Draw_Codes.mk p0.list i1423 i1424) vp0_list)) :: (.blk b1418 105 (Case.cells (Case.mk (dcd (x1406 = 1)) x1409 i1425))) :: (.blk b433 73 (Op.cells (Op.mk 4 0 0 0 0 l1205 l1208) v1204 v1207)) :: (.blk b432 73 (Op.cells (Op.mk 0 0 0 0 0 [] []) nilS nilS)) :: (.blk b431 77 (Config.cells p1 vp1_capacities vp1_starts)) :: (.tok 105 3 [(sv v1204)]) :: (.tok 3 1 [(sv v1207)]) :: G = G' ∧ M_draw_Codes_Select_J3 p2 i1201 p0 x1406 x1409 l1205 l1208 p1 k1214 i1423 i1424 i1425 = some (y0, z0_at_, z0_value)) ?_ ?_
            · skip
              refine Cw_seq ?_
              refine Cw_region ?_
              refine Ow_q rfl rfl rfl (Qt_fieldAddr (m := 0) rfl rfl rfl rfl rfl) ?_
              refine Ow_q rfl rfl rfl (Qt_load1 (v := (.bool (dcd (x1406 = 1)))) rfl rfl rfl (Rdc.blk (.head _) rfl)) ?_
              refine Ow_nil ?_
              refine Cw_cond rfl ?_ ?_
              · intro h1426
                have h1426 := dcd_t (h1426)
                have H := ift h1426 H
                refine Cw_region ?_
                refine Ow_q rfl rfl rfl (Qt_move rfl) ?_
                obtain ⟨x1427, x1428, hx1429, H⟩ := bnd2 H
                refine Ow.shift (Shift.pull (.there .here) (Shift.done ?_))
                refine Ow_cons rfl (OpW_call rfl Try.call66 rfl rfl (c_M_draw_Codes_Value bp0 (Draw_Codes.mk p0.list x1410 x1411) vp0_list x1427 x1428 hx1429 _ _ hs1224) ?_)
                rintro _ _ _ - ⟨rfl, rfl, rfl⟩
                refine Ow_q rfl rfl rfl (Qt_fieldAddr (m := 2) rfl rfl rfl rfl rfl) ?_
                refine Ow_cons rfl (OpW_store (vs := [(.int .u64 x1427)]) (all' := (Case.cells (Case.mk (dcd (x1406 = 1)) x1409 x1427))) rfl rfl rfl rfl rfl (.there .here) rfl rfl rfl ?_)
                refine Ow_nil ?_
                refine Shift.pull (.there (.there (.there (.there (.there (.there .here)))))) ?_
                refine Shift.pull (.there (.there (.there (.there (.there (.there .here)))))) ?_
                refine Shift.pull (.there (.there (.there (.there (.there (.there .here)))))) ?_
                refine Shift.pull (.there (.there (.there (.there (.there (.there .here)))))) ?_
                refine Shift.pull (.there (.there (.there (.there (.there (.there .here)))))) ?_
                refine Shift.pull (.there (.there (.there (.there (.there (.there .here)))))) ?_
                refine Shift.pull (.there (.there (.there (.there (.there (.there .here)))))) ?_
                refine Shift.done ?_
                exact ⟨[(0, (.pointer (some ((⟨bp0, 0, none⟩ : Addr).add 0)))), (2, (.int .i64 p2)), (4, (.pointer (some ((⟨b431, 0, none⟩ : Addr).add 0)))), (6, (.pointer (some ((⟨b432, 0, none⟩ : Addr).add 0)))), (7, (.pointer (some ((⟨b433, 0, none⟩ : Addr).add 0)))), (8, (.int .i64 i1201)), (9, (.pointer (some ((⟨b1418, 0, none⟩ : Addr).add 0))))], ⟨rfl, rfl, rfl, rfl, rfl, rfl, rfl, trivial⟩, ((Draw_Codes.mk p0.list x1410 x1411).at_), x1428, x1427, rfl, rfl, rfl, H⟩
              · intro h1426
                have h1426 := dcd_f (h1426)
                have H := iff_ h1426 H
                refine Cw_skip ?_
                refine Shift.pull (.there (.there (.there (.there (.there (.there .here)))))) ?_
                refine Shift.pull (.there (.there (.there (.there (.there (.there .here)))))) ?_
                refine Shift.pull (.there (.there (.there (.there (.there (.there .here)))))) ?_
                refine Shift.pull (.there (.there (.there (.there (.there (.there .here)))))) ?_
                refine Shift.pull (.there (.there (.there (.there (.there (.there .here)))))) ?_
                refine Shift.pull (.there (.there (.there (.there (.there .here))))) ?_
                refine Shift.pull (.there (.there (.there (.there (.there (.there .here)))))) ?_
                refine Shift.done ?_
                exact ⟨[(0, (.pointer (some ((⟨bp0, 0, none⟩ : Addr).add 0)))), (2, (.int .i64 p2)), (4, (.pointer (some ((⟨b431, 0, none⟩ : Addr).add 0)))), (6, (.pointer (some ((⟨b432, 0, none⟩ : Addr).add 0)))), (7, (.pointer (some ((⟨b433, 0, none⟩ : Addr).add 0)))), (8, (.int .i64 i1201)), (9, (.pointer (some ((⟨b1418, 0, none⟩ : Addr).add 0))))], ⟨rfl, rfl, rfl, rfl, rfl, rfl, rfl, trivial⟩, x1410, x1411, 0, rfl, rfl, rfl, H⟩
            rintro _ _ _ - ⟨i1423, i1424, i1425, rfl, rfl, rfl, H⟩
            unfold M_draw_Codes_Select_J3 at H
            refine Cw_seq ?_
            refine Cw_region ?_
            refine Ow_q rfl rfl rfl (Qt_fieldAddr (m := 5) rfl rfl rfl rfl rfl) ?_
            refine Ow_q rfl rfl rfl (Qt_load1 (v := (sv v1204)) rfl rfl rfl (Rdc.blk (.tail _ (.tail _ (.head _))) rfl)) ?_
            refine Ow_q rfl rfl rfl (Qt_loadA (m := 3) (cs := (Case.cells (Case.mk (dcd (x1406 = 1)) x1409 i1425))) rfl rfl rfl rfl ⟨rfl, Rdc.blk (.tail _ (.head _)) rfl⟩) ?_
            have hR1431 : RowR TyCase K1211 [(Case.cells (Case.mk (dcd (x1406 = 1)) x1409 i1425))] [(Case.mk (dcd (x1406 = 1)) x1409 i1425)] := RowR.cons rfl (RowR.nil)
            refine Ow_cons rfl (O_lit (T := TyCase) (rows := [(Case.cells (Case.mk (dcd (x1406 = 1)) x1409 i1425))]) (l := [(Case.mk (dcd (x1406 = 1)) x1409 i1425)]) rfl rfl rfl hR1431 rfl rfl rfl rfl rfl rfl rfl rfl (fun v1430 => ?_))
            obtain ⟨x1432, hx1433, H⟩ := bnd H
            refine Ow_cons rfl (O_appTok (T := TyCase) (bytes := 24) (q := 0) rfl rfl rfl hs1206 (.tail _ (.tail _ (.tail _ (.tail _ (.tail _ (.tail _ (.head _))))))) rfl (SrcT.row (.head _) hR1431 rfl) hx1433 rfl rfl rfl rfl rfl rfl rfl rfl (fun v1434 K1435 hK1436 hs1437 => ⟨_, (.there (.there (.there (.there (.there (.there .here)))))), ?_⟩))
            refine Ow.shift (Shift.rem .here (Shift.done ?_))
            refine Ow_q rfl rfl rfl (Qt_fieldAddr (m := 5) rfl rfl rfl rfl rfl) ?_
            refine Ow_cons rfl (OpW_store (vs := [(sv v1434)]) (all' := (Op.cells (Op.mk 4 0 0 0 0 x1432 l1208) v1434 v1207)) rfl rfl rfl rfl rfl (.there (.there .here)) rfl rfl rfl ?_)
            refine Ow_nil ?_
            obtain ⟨x1438, x1439, hx1440, H⟩ := bnd2 H
            obtain ⟨x1444, hx1445, H⟩ := bnd H
            refine Cw_region_any [.blk b1418 105 (Case.cells (Case.mk (dcd (x1406 = 1)) x1409 i1425)), .blk b432 73 (Op.cells (Op.mk 0 0 0 0 0 [] []) nilS nilS), .blk b431 77 (Config.cells p1 vp1_capacities vp1_starts), .tok 105 3 [(sv v1434)]] rfl (Inc.cons (.tail _ (.head _)) (Inc.cons (.tail _ (.tail _ (.tail _ (.head _)))) (Inc.cons (.tail _ (.tail _ (.tail _ (.tail _ (.head _))))) (Inc.cons (.tail _ (.tail _ (.tail _ (.tail _ (.tail _ (.head _)))))) Inc.nil)))) ?_
            refine Aw_q 0 rfl (by kernel_rfl) (by kernel_rfl) (by kernel_rfl) rfl rfl rfl (Qt_fieldAddr (m := 6) rfl rfl rfl rfl rfl) ?_
            refine Aw_q 2 rfl (by kernel_rfl) (by kernel_rfl) (by kernel_rfl) rfl rfl rfl (Qt_move rfl) ?_
            refine Aw_q 3 rfl (by kernel_rfl) (by kernel_rfl) (by kernel_rfl) rfl rfl rfl (Qt_move rfl) ?_
            refine Aw_q 4 rfl (by kernel_rfl) (by kernel_rfl) (by kernel_rfl) rfl rfl rfl (Qt_arith (e := wI (i1201 + 1)) rfl rfl rfl rfl) ?_
            refine Aw_two 1 5 (by kernel_rfl) ?_ ?_
            · skip
              refine id (Ax_mk rfl rfl (OpW_of_Qt rfl rfl (Qt_load1 (v := (sv v1207)) rfl rfl rfl (Rdc.blk (.tail _ (.tail _ (.head _))) rfl)) ⟨(Inc.cons (.tail _ (.head _)) (Inc.cons (.tail _ (.tail _ (.tail _ (.head _)))) (Inc.cons (.tail _ (.tail _ (.tail _ (.tail _ (.head _))))) (Inc.cons (.tail _ (.tail _ (.tail _ (.tail _ (.tail _ (.head _)))))) Inc.nil)))), ?_⟩))
              have hs1451 := (hs1224).mono hK1436
              refine Aw_one 5 (by kernel_rfl) (Ax_mk rfl rfl (OpW_call rfl Try.call40 rfl rfl (c_M_draw_Codes_Next bp0 (Draw_Codes.mk p0.list i1423 i1424) vp0_list (wI (i1201 + 1)) x1438 x1439 hx1440 _ _ hs1451) ?_))
              rintro _ _ _ - ⟨rfl, rfl, rfl⟩
              refine ⟨(Inc.cons (.tail _ (.head _)) (Inc.cons (.tail _ (.tail _ (.tail _ (.head _)))) (Inc.cons (.tail _ (.tail _ (.tail _ (.tail _ (.head _))))) (Inc.cons (.tail _ (.tail _ (.tail _ (.tail _ (.tail _ (.head _)))))) Inc.nil)))), ?_⟩
              have hR1453 : RowR Ty.i64 K1435 [[(.int .i64 x1438)]] [x1438] := RowR.cons rfl (RowR.nil)
              refine Aw_one 6 (by kernel_rfl) (Ax_mk rfl rfl (O_lit (T := Ty.i64) (rows := [[(.int .i64 x1438)]]) (l := [x1438]) rfl rfl rfl hR1453 rfl rfl rfl rfl rfl rfl rfl rfl (fun v1452 => ⟨(Inc.cons (.tail _ (.tail _ (.head _))) (Inc.cons (.tail _ (.tail _ (.tail _ (.tail _ (.head _))))) (Inc.cons (.tail _ (.tail _ (.tail _ (.tail _ (.tail _ (.head _)))))) (Inc.cons (.tail _ (.tail _ (.tail _ (.tail _ (.tail _ (.tail _ (.head _))))))) Inc.nil)))), ?_⟩)))
              have hs1458 := (hs1209).mono hK1436
              refine Aw_one 7 (by kernel_rfl) (Ax_mk rfl rfl (O_appTok (T := Ty.i64) (bytes := 8) (q := 0) rfl rfl rfl hs1458 (.tail _ (.tail _ (.tail _ (.tail _ (.tail _ (.tail _ (.tail _ (.head _)))))))) rfl (SrcT.row (.head _) hR1453 rfl) hx1445 rfl rfl rfl rfl rfl rfl rfl rfl (fun v1454 K1455 hK1456 hs1457 => ⟨_, (.there (.there (.there (.there (.there (.there (.there .here))))))), ⟨(Inc.cons (.tail _ (.tail _ (.head _))) (Inc.cons (.tail _ (.tail _ (.tail _ (.tail _ (.head _))))) (Inc.cons (.tail _ (.tail _ (.tail _ (.tail _ (.tail _ (.head _)))))) (Inc.cons (.tail _ (.tail _ (.tail _ (.tail _ (.tail _ (.tail _ (.head _))))))) Inc.nil)))), ?_⟩⟩)))
              refine Aw.shift (Shift.rem .here (Shift.done ⟨(Inc.cons (.tail _ (.head _)) (Inc.cons (.tail _ (.tail _ (.tail _ (.head _)))) (Inc.cons (.tail _ (.tail _ (.tail _ (.tail _ (.head _))))) (Inc.cons (.tail _ (.tail _ (.tail _ (.tail _ (.tail _ (.head _)))))) Inc.nil)))), ?_⟩))
              refine Aw_q 8 rfl (by kernel_rfl) (by kernel_rfl) (by kernel_rfl) rfl rfl rfl (Qt_fieldAddr (m := 6) rfl rfl rfl rfl rfl) ?_
              refine Aw_one 9 (by kernel_rfl) (Ax_mk rfl rfl (OpW_store (vs := [(sv v1454)]) (all' := (Op.cells (Op.mk 4 0 0 0 0 x1432 x1444) v1434 v1454)) rfl rfl rfl rfl rfl (.there (.there .here)) rfl rfl rfl ⟨(Inc.cons (.tail _ (.head _)) (Inc.cons (.tail _ (.tail _ (.tail _ (.head _)))) (Inc.cons (.tail _ (.tail _ (.tail _ (.tail _ (.head _))))) (Inc.cons (.tail _ (.tail _ (.tail _ (.tail _ (.tail _ (.head _)))))) Inc.nil)))), ?_⟩))
              refine Aw_done (by kernel_rfl) ?_
              refine Shift.pull (.there (.there (.there (.there (.there (.there .here)))))) ?_
              refine Shift.pull (.there (.there (.there (.there (.there (.there .here)))))) ?_
              refine Shift.pull (.there (.there (.there (.there (.there (.there .here)))))) ?_
              refine Shift.pull (.there (.there (.there (.there (.there (.there .here)))))) ?_
              refine Shift.pull (.there (.there (.there (.there (.there (.there .here)))))) ?_
              refine Shift.pull (.there (.there (.there (.there (.there .here))))) ?_
              refine Shift.rem (.there (.there (.there (.there (.there (.there .here)))))) ?_
              have hs1459 := (hs1437).mono hK1456
              refine Shift.done ?_
              exact ⟨[(0, (.pointer (some ((⟨bp0, 0, none⟩ : Addr).add 0)))), (2, (.int .i64 p2)), (4, (.pointer (some ((⟨b431, 0, none⟩ : Addr).add 0)))), (6, (.pointer (some ((⟨b432, 0, none⟩ : Addr).add 0)))), (7, (.pointer (some ((⟨b433, 0, none⟩ : Addr).add 0)))), (8, (.int .i64 i1201))], ⟨rfl, rfl, rfl, rfl, rfl, rfl, trivial⟩, x1439, ((Draw_Codes.mk p0.list i1423 i1424).value), v1434, x1432, v1454, x1444, rfl, rfl, H, hs1459, hs1457⟩
            · skip
              have hs1460 := (hs1224).mono hK1436
              refine id (Ax_mk rfl rfl (OpW_call rfl Try.call40 rfl rfl (c_M_draw_Codes_Next bp0 (Draw_Codes.mk p0.list i1423 i1424) vp0_list (wI (i1201 + 1)) x1438 x1439 hx1440 _ _ hs1460) ?_))
              rintro _ _ _ - ⟨rfl, rfl, rfl⟩
              refine ⟨(Inc.cons (.tail _ (.head _)) (Inc.cons (.tail _ (.tail _ (.tail _ (.head _)))) (Inc.cons (.tail _ (.tail _ (.tail _ (.tail _ (.head _))))) (Inc.cons (.tail _ (.tail _ (.tail _ (.tail _ (.tail _ (.head _)))))) Inc.nil)))), ?_⟩
              refine Aw_two 1 6 (by kernel_rfl) ?_ ?_
              · skip
                refine id (Ax_mk rfl rfl (OpW_of_Qt rfl rfl (Qt_load1 (v := (sv v1207)) rfl rfl rfl (Rdc.blk (.tail _ (.tail _ (.head _))) rfl)) ⟨(Inc.cons (.tail _ (.head _)) (Inc.cons (.tail _ (.tail _ (.tail _ (.head _)))) (Inc.cons (.tail _ (.tail _ (.tail _ (.tail _ (.head _))))) (Inc.cons (.tail _ (.tail _ (.tail _ (.tail _ (.tail _ (.head _)))))) Inc.nil)))), ?_⟩))
                have hR1462 : RowR Ty.i64 K1435 [[(.int .i64 x1438)]] [x1438] := RowR.cons rfl (RowR.nil)
                refine Aw_one 6 (by kernel_rfl) (Ax_mk rfl rfl (O_lit (T := Ty.i64) (rows := [[(.int .i64 x1438)]]) (l := [x1438]) rfl rfl rfl hR1462 rfl rfl rfl rfl rfl rfl rfl rfl (fun v1461 => ⟨(Inc.cons (.tail _ (.tail _ (.head _))) (Inc.cons (.tail _ (.tail _ (.tail _ (.tail _ (.head _))))) (Inc.cons (.tail _ (.tail _ (.tail _ (.tail _ (.tail _ (.head _)))))) (Inc.cons (.tail _ (.tail _ (.tail _ (.tail _ (.tail _ (.tail _ (.head _))))))) Inc.nil)))), ?_⟩)))
                have hs1467 := (hs1209).mono hK1436
                refine Aw_one 7 (by kernel_rfl) (Ax_mk rfl rfl (O_appTok (T := Ty.i64) (bytes := 8) (q := 0) rfl rfl rfl hs1467 (.tail _ (.tail _ (.tail _ (.tail _ (.tail _ (.tail _ (.tail _ (.head _)))))))) rfl (SrcT.row (.head _) hR1462 rfl) hx1445 rfl rfl rfl rfl rfl rfl rfl rfl (fun v1463 K1464 hK1465 hs1466 => ⟨_, (.there (.there (.there (.there (.there (.there (.there .here))))))), ⟨(Inc.cons (.tail _ (.tail _ (.head _))) (Inc.cons (.tail _ (.tail _ (.tail _ (.tail _ (.head _))))) (Inc.cons (.tail _ (.tail _ (.tail _ (.tail _ (.tail _ (.head _)))))) (Inc.cons (.tail _ (.tail _ (.tail _ (.tail _ (.tail _ (.tail _ (.head _))))))) Inc.nil)))), ?_⟩⟩)))
                refine Aw.shift (Shift.rem .here (Shift.done ⟨(Inc.cons (.tail _ (.head _)) (Inc.cons (.tail _ (.tail _ (.tail _ (.head _)))) (Inc.cons (.tail _ (.tail _ (.tail _ (.tail _ (.head _))))) (Inc.cons (.tail _ (.tail _ (.tail _ (.tail _ (.tail _ (.head _)))))) Inc.nil)))), ?_⟩))
                refine Aw_q 8 rfl (by kernel_rfl) (by kernel_rfl) (by kernel_rfl) rfl rfl rfl (Qt_fieldAddr (m := 6) rfl rfl rfl rfl rfl) ?_
                refine Aw_one 9 (by kernel_rfl) (Ax_mk rfl rfl (OpW_store (vs := [(sv v1463)]) (all' := (Op.cells (Op.mk 4 0 0 0 0 x1432 x1444) v1434 v1463)) rfl rfl rfl rfl rfl (.there (.there .here)) rfl rfl rfl ⟨(Inc.cons (.tail _ (.head _)) (Inc.cons (.tail _ (.tail _ (.tail _ (.head _)))) (Inc.cons (.tail _ (.tail _ (.tail _ (.tail _ (.head _))))) (Inc.cons (.tail _ (.tail _ (.tail _ (.tail _ (.tail _ (.head _)))))) Inc.nil)))), ?_⟩))
                refine Aw_done (by kernel_rfl) ?_
                refine Shift.pull (.there (.there (.there (.there (.there (.there .here)))))) ?_
                refine Shift.pull (.there (.there (.there (.there (.there (.there .here)))))) ?_
                refine Shift.pull (.there (.there (.there (.there (.there (.there .here)))))) ?_
                refine Shift.pull (.there (.there (.there (.there (.there (.there .here)))))) ?_
                refine Shift.pull (.there (.there (.there (.there (.there (.there .here)))))) ?_
                refine Shift.pull (.there (.there (.there (.there (.there .here))))) ?_
                refine Shift.rem (.there (.there (.there (.there (.there (.there .here)))))) ?_
                have hs1468 := (hs1437).mono hK1465
                refine Shift.done ?_
                exact ⟨[(0, (.pointer (some ((⟨bp0, 0, none⟩ : Addr).add 0)))), (2, (.int .i64 p2)), (4, (.pointer (some ((⟨b431, 0, none⟩ : Addr).add 0)))), (6, (.pointer (some ((⟨b432, 0, none⟩ : Addr).add 0)))), (7, (.pointer (some ((⟨b433, 0, none⟩ : Addr).add 0)))), (8, (.int .i64 i1201))], ⟨rfl, rfl, rfl, rfl, rfl, rfl, trivial⟩, x1439, ((Draw_Codes.mk p0.list i1423 i1424).value), v1434, x1432, v1463, x1444, rfl, rfl, H, hs1468, hs1466⟩
              · skip
                have hR1470 : RowR Ty.i64 K1435 [[(.int .i64 x1438)]] [x1438] := RowR.cons rfl (RowR.nil)
                refine id (Ax_mk rfl rfl (O_lit (T := Ty.i64) (rows := [[(.int .i64 x1438)]]) (l := [x1438]) rfl rfl rfl hR1470 rfl rfl rfl rfl rfl rfl rfl rfl (fun v1469 => ⟨(Inc.cons (.tail _ (.tail _ (.head _))) (Inc.cons (.tail _ (.tail _ (.tail _ (.tail _ (.head _))))) (Inc.cons (.tail _ (.tail _ (.tail _ (.tail _ (.tail _ (.head _)))))) (Inc.cons (.tail _ (.tail _ (.tail _ (.tail _ (.tail _ (.tail _ (.head _))))))) Inc.nil)))), ?_⟩)))
                refine Aw_one 1 (by kernel_rfl) (Ax_mk rfl rfl (OpW_of_Qt rfl rfl (Qt_load1 (v := (sv v1207)) rfl rfl rfl (Rdc.blk (.tail _ (.tail _ (.tail _ (.head _)))) rfl)) ⟨(Inc.cons (.tail _ (.tail _ (.head _))) (Inc.cons (.tail _ (.tail _ (.tail _ (.tail _ (.head _))))) (Inc.cons (.tail _ (.tail _ (.tail _ (.tail _ (.tail _ (.head _)))))) (Inc.cons (.tail _ (.tail _ (.tail _ (.tail _ (.tail _ (.tail _ (.head _))))))) Inc.nil)))), ?_⟩))
                have hs1475 := (hs1209).mono hK1436
                refine Aw_one 7 (by kernel_rfl) (Ax_mk rfl rfl (O_appTok (T := Ty.i64) (bytes := 8) (q := 0) rfl rfl rfl hs1475 (.tail _ (.tail _ (.tail _ (.tail _ (.tail _ (.tail _ (.tail _ (.head _)))))))) rfl (SrcT.row (.head _) hR1470 rfl) hx1445 rfl rfl rfl rfl rfl rfl rfl rfl (fun v1471 K1472 hK1473 hs1474 => ⟨_, (.there (.there (.there (.there (.there (.there (.there .here))))))), ⟨(Inc.cons (.tail _ (.tail _ (.head _))) (Inc.cons (.tail _ (.tail _ (.tail _ (.tail _ (.head _))))) (Inc.cons (.tail _ (.tail _ (.tail _ (.tail _ (.tail _ (.head _)))))) (Inc.cons (.tail _ (.tail _ (.tail _ (.tail _ (.tail _ (.tail _ (.head _))))))) Inc.nil)))), ?_⟩⟩)))
                refine Aw.shift (Shift.rem .here (Shift.done ⟨(Inc.cons (.tail _ (.head _)) (Inc.cons (.tail _ (.tail _ (.tail _ (.head _)))) (Inc.cons (.tail _ (.tail _ (.tail _ (.tail _ (.head _))))) (Inc.cons (.tail _ (.tail _ (.tail _ (.tail _ (.tail _ (.head _)))))) Inc.nil)))), ?_⟩))
                refine Aw_q 8 rfl (by kernel_rfl) (by kernel_rfl) (by kernel_rfl) rfl rfl rfl (Qt_fieldAddr (m := 6) rfl rfl rfl rfl rfl) ?_
                refine Aw_one 9 (by kernel_rfl) (Ax_mk rfl rfl (OpW_store (vs := [(sv v1471)]) (all' := (Op.cells (Op.mk 4 0 0 0 0 x1432 x1444) v1434 v1471)) rfl rfl rfl rfl rfl (.there (.there .here)) rfl rfl rfl ⟨(Inc.cons (.tail _ (.head _)) (Inc.cons (.tail _ (.tail _ (.tail _ (.head _)))) (Inc.cons (.tail _ (.tail _ (.tail _ (.tail _ (.head _))))) (Inc.cons (.tail _ (.tail _ (.tail _ (.tail _ (.tail _ (.head _)))))) Inc.nil)))), ?_⟩))
                refine Aw_done (by kernel_rfl) ?_
                refine Shift.pull (.there (.there (.there (.there (.there (.there .here)))))) ?_
                refine Shift.pull (.there (.there (.there (.there (.there (.there .here)))))) ?_
                refine Shift.pull (.there (.there (.there (.there (.there (.there .here)))))) ?_
                refine Shift.pull (.there (.there (.there (.there (.there (.there .here)))))) ?_
                refine Shift.pull (.there (.there (.there (.there (.there (.there .here)))))) ?_
                refine Shift.pull (.there (.there (.there (.there (.there .here))))) ?_
                refine Shift.rem (.there (.there (.there (.there (.there (.there .here)))))) ?_
                have hs1476 := (hs1437).mono hK1473
                refine Shift.done ?_
                exact ⟨[(0, (.pointer (some ((⟨bp0, 0, none⟩ : Addr).add 0)))), (2, (.int .i64 p2)), (4, (.pointer (some ((⟨b431, 0, none⟩ : Addr).add 0)))), (6, (.pointer (some ((⟨b432, 0, none⟩ : Addr).add 0)))), (7, (.pointer (some ((⟨b433, 0, none⟩ : Addr).add 0)))), (8, (.int .i64 i1201))], ⟨rfl, rfl, rfl, rfl, rfl, rfl, trivial⟩, x1439, ((Draw_Codes.mk p0.list i1423 i1424).value), v1434, x1432, v1471, x1444, rfl, rfl, H, hs1476, hs1474⟩
          · skip
            refine id (Ax_mk rfl rfl (OpW_alloc (cs := (Case.cells (Case.mk false 0 0))) rfl rfl rfl rfl (fun b1477 => ⟨(Inc.cons (.tail _ (.tail _ (.head _))) (Inc.cons (.tail _ (.tail _ (.tail _ (.head _)))) (Inc.cons (.tail _ (.tail _ (.tail _ (.tail _ (.head _))))) (Inc.cons (.tail _ (.tail _ (.tail _ (.tail _ (.tail _ (.head _)))))) (Inc.cons (.tail _ (.tail _ (.tail _ (.tail _ (.tail _ (.tail _ (.head _))))))) Inc.nil))))), ?_⟩)))
            refine Aw.shift (Shift.pull (.there .here) (Shift.done ⟨(Inc.cons (.tail _ (.tail _ (.head _))) (Inc.cons (.tail _ (.tail _ (.tail _ (.head _)))) (Inc.cons (.tail _ (.tail _ (.tail _ (.tail _ (.head _))))) (Inc.cons (.tail _ (.tail _ (.tail _ (.tail _ (.tail _ (.head _)))))) (Inc.cons (.tail _ (.tail _ (.tail _ (.tail _ (.tail _ (.tail _ (.head _))))))) Inc.nil))))), ?_⟩))
            have hs1478 := (hp1_capacities).mono hK1212
            have hs1479 := (hp1_starts).mono hK1212
            refine Aw_one 5 (by kernel_rfl) (Ax_mk rfl rfl (OpW_call rfl Try.call65 rfl rfl (c_M_draw_Codes_channel bp0 (Draw_Codes.mk p0.list x1407 ((Draw_Codes.mk p0.list x1222 ((Draw_Codes.mk p0.list i1202 i1203).value)).value)) vp0_list p1 vp1_capacities vp1_starts x1409 x1410 x1411 hx1412 _ _ hs1224 hs1478 hs1479) ?_))
            rintro _ _ _ - ⟨rfl, rfl, rfl⟩
            refine ⟨(Inc.cons (.tail _ (.tail _ (.head _))) (Inc.cons (.tail _ (.tail _ (.tail _ (.head _)))) (Inc.cons (.tail _ (.tail _ (.tail _ (.tail _ (.head _))))) (Inc.cons (.tail _ (.tail _ (.tail _ (.tail _ (.tail _ (.head _)))))) (Inc.cons (.tail _ (.tail _ (.tail _ (.tail _ (.tail _ (.tail _ (.head _))))))) Inc.nil))))), ?_⟩
            refine Aw_q 6 rfl (by kernel_rfl) (by kernel_rfl) (by kernel_rfl) rfl rfl rfl (Qt_build (cs := (Case.cells (Case.mk (dcd (x1406 = 1)) x1409 0))) rfl rfl rfl rfl rfl rfl) ?_
            refine Aw_one 8 (by kernel_rfl) (Ax_mk rfl rfl (OpW_store (vs := (Case.cells (Case.mk (dcd (x1406 = 1)) x1409 0))) (all' := (Case.cells (Case.mk (dcd (x1406 = 1)) x1409 0))) rfl rfl rfl rfl rfl (.there .here) rfl rfl rfl ⟨(Inc.cons (.tail _ (.tail _ (.head _))) (Inc.cons (.tail _ (.tail _ (.tail _ (.head _)))) (Inc.cons (.tail _ (.tail _ (.tail _ (.tail _ (.head _))))) (Inc.cons (.tail _ (.tail _ (.tail _ (.tail _ (.tail _ (.head _)))))) (Inc.cons (.tail _ (.tail _ (.tail _ (.tail _ (.tail _ (.tail _ (.head _))))))) Inc.nil))))), ?_⟩))
            refine Aw_done (by kernel_rfl) ?_
            refine Cw_join (fun env' K' G' => ∃ (i1484 : Int) (i1485 : Int) (i1486 : Int), [(0, (.pointer (some ((⟨bp0, 0, none⟩ : Addr).add 0)))), (2, (.int .i64 p2)), (4, (.pointer (some ((⟨b431, 0, none⟩ : Addr).add 0)))), (6, (.pointer (some ((⟨b432, 0, none⟩ : Addr).add 0)))), (7, (.pointer (some ((⟨b433, 0, none⟩ : Addr).add 0)))), (8, (.int .i64 i1201)), (9, (.pointer (some ((⟨b1477, 0, none⟩ : Addr).add 0))))] = env' ∧ K1211 = K' ∧ (.blk bp0 93 (Draw_Codes.cells (Draw_Codes.mk p0.list i1484 i1485) vp0_list)) :: (.blk b1477 105 (Case.cells (Case.mk (dcd (x1406 = 1)) x1409 i1486))) :: (.blk b433 73 (Op.cells (Op.mk 4 0 0 0 0 l1205 l1208) v1204 v1207)) :: (.blk b432 73 (Op.cells (Op.mk 0 0 0 0 0 [] []) nilS nilS)) :: (.blk b431 77 (Config.cells p1 vp1_capacities vp1_starts)) :: (.tok 105 3 [(sv v1204)]) :: (.tok 3 1 [(sv v1207)]) :: G = G' ∧ M_draw_Codes_Select_J4 p2 i1201 p0 x1406 x1409 l1205 l1208 p1 k1214 i1484 i1485 i1486 = some (y0, z0_at_, z0_value)) ?_ ?_
            · skip
              refine Cw_seq ?_
              refine Cw_region ?_
              refine Ow_q rfl rfl rfl (Qt_fieldAddr (m := 0) rfl rfl rfl rfl rfl) ?_
              refine Ow_q rfl rfl rfl (Qt_load1 (v := (.bool (dcd (x1406 = 1)))) rfl rfl rfl (Rdc.blk (.tail _ (.head _)) rfl)) ?_
              refine Ow_nil ?_
              refine Cw_cond rfl ?_ ?_
              · intro h1487
                have h1487 := dcd_t (h1487)
                have H := ift h1487 H
                refine Cw_region ?_
                refine Ow_q rfl rfl rfl (Qt_move rfl) ?_
                obtain ⟨x1488, x1489, hx1490, H⟩ := bnd2 H
                refine Ow_cons rfl (OpW_call rfl Try.call66 rfl rfl (c_M_draw_Codes_Value bp0 (Draw_Codes.mk p0.list x1410 x1411) vp0_list x1488 x1489 hx1490 _ _ hs1224) ?_)
                rintro _ _ _ - ⟨rfl, rfl, rfl⟩
                refine Ow_q rfl rfl rfl (Qt_fieldAddr (m := 2) rfl rfl rfl rfl rfl) ?_
                refine Ow_cons rfl (OpW_store (vs := [(.int .u64 x1488)]) (all' := (Case.cells (Case.mk (dcd (x1406 = 1)) x1409 x1488))) rfl rfl rfl rfl rfl (.there .here) rfl rfl rfl ?_)
                refine Ow_nil ?_
                refine Shift.pull (.there (.there (.there (.there (.there (.there .here)))))) ?_
                refine Shift.pull (.there (.there (.there (.there (.there (.there .here)))))) ?_
                refine Shift.pull (.there (.there (.there (.there (.there (.there .here)))))) ?_
                refine Shift.pull (.there (.there (.there (.there (.there (.there .here)))))) ?_
                refine Shift.pull (.there (.there (.there (.there (.there (.there .here)))))) ?_
                refine Shift.pull (.there (.there (.there (.there (.there (.there .here)))))) ?_
                refine Shift.pull (.there (.there (.there (.there (.there (.there .here)))))) ?_
                refine Shift.done ?_
                exact ⟨[(0, (.pointer (some ((⟨bp0, 0, none⟩ : Addr).add 0)))), (2, (.int .i64 p2)), (4, (.pointer (some ((⟨b431, 0, none⟩ : Addr).add 0)))), (6, (.pointer (some ((⟨b432, 0, none⟩ : Addr).add 0)))), (7, (.pointer (some ((⟨b433, 0, none⟩ : Addr).add 0)))), (8, (.int .i64 i1201)), (9, (.pointer (some ((⟨b1477, 0, none⟩ : Addr).add 0))))], ⟨rfl, rfl, rfl, rfl, rfl, rfl, rfl, trivial⟩, ((Draw_Codes.mk p0.list x1410 x1411).at_), x1489, x1488, rfl, rfl, rfl, H⟩
              · intro h1487
                have h1487 := dcd_f (h1487)
                have H := iff_ h1487 H
                refine Cw_skip ?_
                refine Shift.pull (.there (.there (.there (.there (.there (.there .here)))))) ?_
                refine Shift.pull (.there (.there (.there (.there (.there (.there .here)))))) ?_
                refine Shift.pull (.there (.there (.there (.there (.there (.there .here)))))) ?_
                refine Shift.pull (.there (.there (.there (.there (.there (.there .here)))))) ?_
                refine Shift.pull (.there (.there (.there (.there (.there (.there .here)))))) ?_
                refine Shift.pull (.there (.there (.there (.there (.there (.there .here)))))) ?_
                refine Shift.pull (.there (.there (.there (.there (.there (.there .here)))))) ?_
                refine Shift.done ?_
                exact ⟨[(0, (.pointer (some ((⟨bp0, 0, none⟩ : Addr).add 0)))), (2, (.int .i64 p2)), (4, (.pointer (some ((⟨b431, 0, none⟩ : Addr).add 0)))), (6, (.pointer (some ((⟨b432, 0, none⟩ : Addr).add 0)))), (7, (.pointer (some ((⟨b433, 0, none⟩ : Addr).add 0)))), (8, (.int .i64 i1201)), (9, (.pointer (some ((⟨b1477, 0, none⟩ : Addr).add 0))))], ⟨rfl, rfl, rfl, rfl, rfl, rfl, rfl, trivial⟩, x1410, x1411, 0, rfl, rfl, rfl, H⟩
            rintro _ _ _ - ⟨i1484, i1485, i1486, rfl, rfl, rfl, H⟩
            unfold M_draw_Codes_Select_J4 at H
            refine Cw_seq ?_
            refine Cw_region ?_
            refine Ow_q rfl rfl rfl (Qt_fieldAddr (m := 5) rfl rfl rfl rfl rfl) ?_
            refine Ow_q rfl rfl rfl (Qt_load1 (v := (sv v1204)) rfl rfl rfl (Rdc.blk (.tail _ (.tail _ (.head _))) rfl)) ?_
            refine Ow_q rfl rfl rfl (Qt_loadA (m := 3) (cs := (Case.cells (Case.mk (dcd (x1406 = 1)) x1409 i1486))) rfl rfl rfl rfl ⟨rfl, Rdc.blk (.tail _ (.head _)) rfl⟩) ?_
            have hR1492 : RowR TyCase K1211 [(Case.cells (Case.mk (dcd (x1406 = 1)) x1409 i1486))] [(Case.mk (dcd (x1406 = 1)) x1409 i1486)] := RowR.cons rfl (RowR.nil)
            refine Ow_cons rfl (O_lit (T := TyCase) (rows := [(Case.cells (Case.mk (dcd (x1406 = 1)) x1409 i1486))]) (l := [(Case.mk (dcd (x1406 = 1)) x1409 i1486)]) rfl rfl rfl hR1492 rfl rfl rfl rfl rfl rfl rfl rfl (fun v1491 => ?_))
            obtain ⟨x1493, hx1494, H⟩ := bnd H
            refine Ow_cons rfl (O_appTok (T := TyCase) (bytes := 24) (q := 0) rfl rfl rfl hs1206 (.tail _ (.tail _ (.tail _ (.tail _ (.tail _ (.tail _ (.head _))))))) rfl (SrcT.row (.head _) hR1492 rfl) hx1494 rfl rfl rfl rfl rfl rfl rfl rfl (fun v1495 K1496 hK1497 hs1498 => ⟨_, (.there (.there (.there (.there (.there (.there .here)))))), ?_⟩))
            refine Ow.shift (Shift.rem .here (Shift.done ?_))
            refine Ow_q rfl rfl rfl (Qt_fieldAddr (m := 5) rfl rfl rfl rfl rfl) ?_
            refine Ow_cons rfl (OpW_store (vs := [(sv v1495)]) (all' := (Op.cells (Op.mk 4 0 0 0 0 x1493 l1208) v1495 v1207)) rfl rfl rfl rfl rfl (.there (.there .here)) rfl rfl rfl ?_)
            refine Ow_nil ?_
            obtain ⟨x1499, x1500, hx1501, H⟩ := bnd2 H
            obtain ⟨x1505, hx1506, H⟩ := bnd H
            refine Cw_region_any [.blk b1477 105 (Case.cells (Case.mk (dcd (x1406 = 1)) x1409 i1486)), .blk b432 73 (Op.cells (Op.mk 0 0 0 0 0 [] []) nilS nilS), .blk b431 77 (Config.cells p1 vp1_capacities vp1_starts), .tok 105 3 [(sv v1495)]] rfl (Inc.cons (.tail _ (.head _)) (Inc.cons (.tail _ (.tail _ (.tail _ (.head _)))) (Inc.cons (.tail _ (.tail _ (.tail _ (.tail _ (.head _))))) (Inc.cons (.tail _ (.tail _ (.tail _ (.tail _ (.tail _ (.head _)))))) Inc.nil)))) ?_
            refine Aw_q 0 rfl (by kernel_rfl) (by kernel_rfl) (by kernel_rfl) rfl rfl rfl (Qt_fieldAddr (m := 6) rfl rfl rfl rfl rfl) ?_
            refine Aw_q 2 rfl (by kernel_rfl) (by kernel_rfl) (by kernel_rfl) rfl rfl rfl (Qt_move rfl) ?_
            refine Aw_q 3 rfl (by kernel_rfl) (by kernel_rfl) (by kernel_rfl) rfl rfl rfl (Qt_move rfl) ?_
            refine Aw_q 4 rfl (by kernel_rfl) (by kernel_rfl) (by kernel_rfl) rfl rfl rfl (Qt_arith (e := wI (i1201 + 1)) rfl rfl rfl rfl) ?_
            refine Aw_two 1 5 (by kernel_rfl) ?_ ?_
            · skip
              refine id (Ax_mk rfl rfl (OpW_of_Qt rfl rfl (Qt_load1 (v := (sv v1207)) rfl rfl rfl (Rdc.blk (.tail _ (.tail _ (.head _))) rfl)) ⟨(Inc.cons (.tail _ (.head _)) (Inc.cons (.tail _ (.tail _ (.tail _ (.head _)))) (Inc.cons (.tail _ (.tail _ (.tail _ (.tail _ (.head _))))) (Inc.cons (.tail _ (.tail _ (.tail _ (.tail _ (.tail _ (.head _)))))) Inc.nil)))), ?_⟩))
              have hs1512 := (hs1224).mono hK1497
              refine Aw_one 5 (by kernel_rfl) (Ax_mk rfl rfl (OpW_call rfl Try.call40 rfl rfl (c_M_draw_Codes_Next bp0 (Draw_Codes.mk p0.list i1484 i1485) vp0_list (wI (i1201 + 1)) x1499 x1500 hx1501 _ _ hs1512) ?_))
              rintro _ _ _ - ⟨rfl, rfl, rfl⟩
              refine ⟨(Inc.cons (.tail _ (.head _)) (Inc.cons (.tail _ (.tail _ (.tail _ (.head _)))) (Inc.cons (.tail _ (.tail _ (.tail _ (.tail _ (.head _))))) (Inc.cons (.tail _ (.tail _ (.tail _ (.tail _ (.tail _ (.head _)))))) Inc.nil)))), ?_⟩
              have hR1514 : RowR Ty.i64 K1496 [[(.int .i64 x1499)]] [x1499] := RowR.cons rfl (RowR.nil)
              refine Aw_one 6 (by kernel_rfl) (Ax_mk rfl rfl (O_lit (T := Ty.i64) (rows := [[(.int .i64 x1499)]]) (l := [x1499]) rfl rfl rfl hR1514 rfl rfl rfl rfl rfl rfl rfl rfl (fun v1513 => ⟨(Inc.cons (.tail _ (.tail _ (.head _))) (Inc.cons (.tail _ (.tail _ (.tail _ (.tail _ (.head _))))) (Inc.cons (.tail _ (.tail _ (.tail _ (.tail _ (.tail _ (.head _)))))) (Inc.cons (.tail _ (.tail _ (.tail _ (.tail _ (.tail _ (.tail _ (.head _))))))) Inc.nil)))), ?_⟩)))
              have hs1519 := (hs1209).mono hK1497
              refine Aw_one 7 (by kernel_rfl) (Ax_mk rfl rfl (O_appTok (T := Ty.i64) (bytes := 8) (q := 0) rfl rfl rfl hs1519 (.tail _ (.tail _ (.tail _ (.tail _ (.tail _ (.tail _ (.tail _ (.head _)))))))) rfl (SrcT.row (.head _) hR1514 rfl) hx1506 rfl rfl rfl rfl rfl rfl rfl rfl (fun v1515 K1516 hK1517 hs1518 => ⟨_, (.there (.there (.there (.there (.there (.there (.there .here))))))), ⟨(Inc.cons (.tail _ (.tail _ (.head _))) (Inc.cons (.tail _ (.tail _ (.tail _ (.tail _ (.head _))))) (Inc.cons (.tail _ (.tail _ (.tail _ (.tail _ (.tail _ (.head _)))))) (Inc.cons (.tail _ (.tail _ (.tail _ (.tail _ (.tail _ (.tail _ (.head _))))))) Inc.nil)))), ?_⟩⟩)))
              refine Aw.shift (Shift.rem .here (Shift.done ⟨(Inc.cons (.tail _ (.head _)) (Inc.cons (.tail _ (.tail _ (.tail _ (.head _)))) (Inc.cons (.tail _ (.tail _ (.tail _ (.tail _ (.head _))))) (Inc.cons (.tail _ (.tail _ (.tail _ (.tail _ (.tail _ (.head _)))))) Inc.nil)))), ?_⟩))
              refine Aw_q 8 rfl (by kernel_rfl) (by kernel_rfl) (by kernel_rfl) rfl rfl rfl (Qt_fieldAddr (m := 6) rfl rfl rfl rfl rfl) ?_
              refine Aw_one 9 (by kernel_rfl) (Ax_mk rfl rfl (OpW_store (vs := [(sv v1515)]) (all' := (Op.cells (Op.mk 4 0 0 0 0 x1493 x1505) v1495 v1515)) rfl rfl rfl rfl rfl (.there (.there .here)) rfl rfl rfl ⟨(Inc.cons (.tail _ (.head _)) (Inc.cons (.tail _ (.tail _ (.tail _ (.head _)))) (Inc.cons (.tail _ (.tail _ (.tail _ (.tail _ (.head _))))) (Inc.cons (.tail _ (.tail _ (.tail _ (.tail _ (.tail _ (.head _)))))) Inc.nil)))), ?_⟩))
              refine Aw_done (by kernel_rfl) ?_
              refine Shift.pull (.there (.there (.there (.there (.there (.there .here)))))) ?_
              refine Shift.pull (.there (.there (.there (.there (.there (.there .here)))))) ?_
              refine Shift.pull (.there (.there (.there (.there (.there (.there .here)))))) ?_
              refine Shift.pull (.there (.there (.there (.there (.there (.there .here)))))) ?_
              refine Shift.pull (.there (.there (.there (.there (.there (.there .here)))))) ?_
              refine Shift.pull (.there (.there (.there (.there (.there .here))))) ?_
              refine Shift.rem (.there (.there (.there (.there (.there (.there .here)))))) ?_
              have hs1520 := (hs1498).mono hK1517
              refine Shift.done ?_
              exact ⟨[(0, (.pointer (some ((⟨bp0, 0, none⟩ : Addr).add 0)))), (2, (.int .i64 p2)), (4, (.pointer (some ((⟨b431, 0, none⟩ : Addr).add 0)))), (6, (.pointer (some ((⟨b432, 0, none⟩ : Addr).add 0)))), (7, (.pointer (some ((⟨b433, 0, none⟩ : Addr).add 0)))), (8, (.int .i64 i1201))], ⟨rfl, rfl, rfl, rfl, rfl, rfl, trivial⟩, x1500, ((Draw_Codes.mk p0.list i1484 i1485).value), v1495, x1493, v1515, x1505, rfl, rfl, H, hs1520, hs1518⟩
            · skip
              have hs1521 := (hs1224).mono hK1497
              refine id (Ax_mk rfl rfl (OpW_call rfl Try.call40 rfl rfl (c_M_draw_Codes_Next bp0 (Draw_Codes.mk p0.list i1484 i1485) vp0_list (wI (i1201 + 1)) x1499 x1500 hx1501 _ _ hs1521) ?_))
              rintro _ _ _ - ⟨rfl, rfl, rfl⟩
              refine ⟨(Inc.cons (.tail _ (.head _)) (Inc.cons (.tail _ (.tail _ (.tail _ (.head _)))) (Inc.cons (.tail _ (.tail _ (.tail _ (.tail _ (.head _))))) (Inc.cons (.tail _ (.tail _ (.tail _ (.tail _ (.tail _ (.head _)))))) Inc.nil)))), ?_⟩
              refine Aw_two 1 6 (by kernel_rfl) ?_ ?_
              · skip
                refine id (Ax_mk rfl rfl (OpW_of_Qt rfl rfl (Qt_load1 (v := (sv v1207)) rfl rfl rfl (Rdc.blk (.tail _ (.tail _ (.head _))) rfl)) ⟨(Inc.cons (.tail _ (.head _)) (Inc.cons (.tail _ (.tail _ (.tail _ (.head _)))) (Inc.cons (.tail _ (.tail _ (.tail _ (.tail _ (.head _))))) (Inc.cons (.tail _ (.tail _ (.tail _ (.tail _ (.tail _ (.head _)))))) Inc.nil)))), ?_⟩))
                have hR1523 : RowR Ty.i64 K1496 [[(.int .i64 x1499)]] [x1499] := RowR.cons rfl (RowR.nil)
                refine Aw_one 6 (by kernel_rfl) (Ax_mk rfl rfl (O_lit (T := Ty.i64) (rows := [[(.int .i64 x1499)]]) (l := [x1499]) rfl rfl rfl hR1523 rfl rfl rfl rfl rfl rfl rfl rfl (fun v1522 => ⟨(Inc.cons (.tail _ (.tail _ (.head _))) (Inc.cons (.tail _ (.tail _ (.tail _ (.tail _ (.head _))))) (Inc.cons (.tail _ (.tail _ (.tail _ (.tail _ (.tail _ (.head _)))))) (Inc.cons (.tail _ (.tail _ (.tail _ (.tail _ (.tail _ (.tail _ (.head _))))))) Inc.nil)))), ?_⟩)))
                have hs1528 := (hs1209).mono hK1497
                refine Aw_one 7 (by kernel_rfl) (Ax_mk rfl rfl (O_appTok (T := Ty.i64) (bytes := 8) (q := 0) rfl rfl rfl hs1528 (.tail _ (.tail _ (.tail _ (.tail _ (.tail _ (.tail _ (.tail _ (.head _)))))))) rfl (SrcT.row (.head _) hR1523 rfl) hx1506 rfl rfl rfl rfl rfl rfl rfl rfl (fun v1524 K1525 hK1526 hs1527 => ⟨_, (.there (.there (.there (.there (.there (.there (.there .here))))))), ⟨(Inc.cons (.tail _ (.tail _ (.head _))) (Inc.cons (.tail _ (.tail _ (.tail _ (.tail _ (.head _))))) (Inc.cons (.tail _ (.tail _ (.tail _ (.tail _ (.tail _ (.head _)))))) (Inc.cons (.tail _ (.tail _ (.tail _ (.tail _ (.tail _ (.tail _ (.head _))))))) Inc.nil)))), ?_⟩⟩)))
                refine Aw.shift (Shift.rem .here (Shift.done ⟨(Inc.cons (.tail _ (.head _)) (Inc.cons (.tail _ (.tail _ (.tail _ (.head _)))) (Inc.cons (.tail _ (.tail _ (.tail _ (.tail _ (.head _))))) (Inc.cons (.tail _ (.tail _ (.tail _ (.tail _ (.tail _ (.head _)))))) Inc.nil)))), ?_⟩))
                refine Aw_q 8 rfl (by kernel_rfl) (by kernel_rfl) (by kernel_rfl) rfl rfl rfl (Qt_fieldAddr (m := 6) rfl rfl rfl rfl rfl) ?_
                refine Aw_one 9 (by kernel_rfl) (Ax_mk rfl rfl (OpW_store (vs := [(sv v1524)]) (all' := (Op.cells (Op.mk 4 0 0 0 0 x1493 x1505) v1495 v1524)) rfl rfl rfl rfl rfl (.there (.there .here)) rfl rfl rfl ⟨(Inc.cons (.tail _ (.head _)) (Inc.cons (.tail _ (.tail _ (.tail _ (.head _)))) (Inc.cons (.tail _ (.tail _ (.tail _ (.tail _ (.head _))))) (Inc.cons (.tail _ (.tail _ (.tail _ (.tail _ (.tail _ (.head _)))))) Inc.nil)))), ?_⟩))
                refine Aw_done (by kernel_rfl) ?_
                refine Shift.pull (.there (.there (.there (.there (.there (.there .here)))))) ?_
                refine Shift.pull (.there (.there (.there (.there (.there (.there .here)))))) ?_
                refine Shift.pull (.there (.there (.there (.there (.there (.there .here)))))) ?_
                refine Shift.pull (.there (.there (.there (.there (.there (.there .here)))))) ?_
                refine Shift.pull (.there (.there (.there (.there (.there (.there .here)))))) ?_
                refine Shift.pull (.there (.there (.there (.there (.there .here))))) ?_
                refine Shift.rem (.there (.there (.there (.there (.there (.there .here)))))) ?_
                have hs1529 := (hs1498).mono hK1526
                refine Shift.done ?_
                exact ⟨[(0, (.pointer (some ((⟨bp0, 0, none⟩ : Addr).add 0)))), (2, (.int .i64 p2)), (4, (.pointer (some ((⟨b431, 0, none⟩ : Addr).add 0)))), (6, (.pointer (some ((⟨b432, 0, none⟩ : Addr).add 0)))), (7, (.pointer (some ((⟨b433, 0, none⟩ : Addr).add 0)))), (8, (.int .i64 i1201))], ⟨rfl, rfl, rfl, rfl, rfl, rfl, trivial⟩, x1500, ((Draw_Codes.mk p0.list i1484 i1485).value), v1495, x1493, v1524, x1505, rfl, rfl, H, hs1529, hs1527⟩
              · skip
                have hR1531 : RowR Ty.i64 K1496 [[(.int .i64 x1499)]] [x1499] := RowR.cons rfl (RowR.nil)
                refine id (Ax_mk rfl rfl (O_lit (T := Ty.i64) (rows := [[(.int .i64 x1499)]]) (l := [x1499]) rfl rfl rfl hR1531 rfl rfl rfl rfl rfl rfl rfl rfl (fun v1530 => ⟨(Inc.cons (.tail _ (.tail _ (.head _))) (Inc.cons (.tail _ (.tail _ (.tail _ (.tail _ (.head _))))) (Inc.cons (.tail _ (.tail _ (.tail _ (.tail _ (.tail _ (.head _)))))) (Inc.cons (.tail _ (.tail _ (.tail _ (.tail _ (.tail _ (.tail _ (.head _))))))) Inc.nil)))), ?_⟩)))
                refine Aw_one 1 (by kernel_rfl) (Ax_mk rfl rfl (OpW_of_Qt rfl rfl (Qt_load1 (v := (sv v1207)) rfl rfl rfl (Rdc.blk (.tail _ (.tail _ (.tail _ (.head _)))) rfl)) ⟨(Inc.cons (.tail _ (.tail _ (.head _))) (Inc.cons (.tail _ (.tail _ (.tail _ (.tail _ (.head _))))) (Inc.cons (.tail _ (.tail _ (.tail _ (.tail _ (.tail _ (.head _)))))) (Inc.cons (.tail _ (.tail _ (.tail _ (.tail _ (.tail _ (.tail _ (.head _))))))) Inc.nil)))), ?_⟩))
                have hs1536 := (hs1209).mono hK1497
                refine Aw_one 7 (by kernel_rfl) (Ax_mk rfl rfl (O_appTok (T := Ty.i64) (bytes := 8) (q := 0) rfl rfl rfl hs1536 (.tail _ (.tail _ (.tail _ (.tail _ (.tail _ (.tail _ (.tail _ (.head _)))))))) rfl (SrcT.row (.head _) hR1531 rfl) hx1506 rfl rfl rfl rfl rfl rfl rfl rfl (fun v1532 K1533 hK1534 hs1535 => ⟨_, (.there (.there (.there (.there (.there (.there (.there .here))))))), ⟨(Inc.cons (.tail _ (.tail _ (.head _))) (Inc.cons (.tail _ (.tail _ (.tail _ (.tail _ (.head _))))) (Inc.cons (.tail _ (.tail _ (.tail _ (.tail _ (.tail _ (.head _)))))) (Inc.cons (.tail _ (.tail _ (.tail _ (.tail _ (.tail _ (.tail _ (.head _))))))) Inc.nil)))), ?_⟩⟩)))
                refine Aw.shift (Shift.rem .here (Shift.done ⟨(Inc.cons (.tail _ (.head _)) (Inc.cons (.tail _ (.tail _ (.tail _ (.head _)))) (Inc.cons (.tail _ (.tail _ (.tail _ (.tail _ (.head _))))) (Inc.cons (.tail _ (.tail _ (.tail _ (.tail _ (.tail _ (.head _)))))) Inc.nil)))), ?_⟩))
                refine Aw_q 8 rfl (by kernel_rfl) (by kernel_rfl) (by kernel_rfl) rfl rfl rfl (Qt_fieldAddr (m := 6) rfl rfl rfl rfl rfl) ?_
                refine Aw_one 9 (by kernel_rfl) (Ax_mk rfl rfl (OpW_store (vs := [(sv v1532)]) (all' := (Op.cells (Op.mk 4 0 0 0 0 x1493 x1505) v1495 v1532)) rfl rfl rfl rfl rfl (.there (.there .here)) rfl rfl rfl ⟨(Inc.cons (.tail _ (.head _)) (Inc.cons (.tail _ (.tail _ (.tail _ (.head _)))) (Inc.cons (.tail _ (.tail _ (.tail _ (.tail _ (.head _))))) (Inc.cons (.tail _ (.tail _ (.tail _ (.tail _ (.tail _ (.head _)))))) Inc.nil)))), ?_⟩))
                refine Aw_done (by kernel_rfl) ?_
                refine Shift.pull (.there (.there (.there (.there (.there (.there .here)))))) ?_
                refine Shift.pull (.there (.there (.there (.there (.there (.there .here)))))) ?_
                refine Shift.pull (.there (.there (.there (.there (.there (.there .here)))))) ?_
                refine Shift.pull (.there (.there (.there (.there (.there (.there .here)))))) ?_
                refine Shift.pull (.there (.there (.there (.there (.there (.there .here)))))) ?_
                refine Shift.pull (.there (.there (.there (.there (.there .here))))) ?_
                refine Shift.rem (.there (.there (.there (.there (.there (.there .here)))))) ?_
                have hs1537 := (hs1498).mono hK1534
                refine Shift.done ?_
                exact ⟨[(0, (.pointer (some ((⟨bp0, 0, none⟩ : Addr).add 0)))), (2, (.int .i64 p2)), (4, (.pointer (some ((⟨b431, 0, none⟩ : Addr).add 0)))), (6, (.pointer (some ((⟨b432, 0, none⟩ : Addr).add 0)))), (7, (.pointer (some ((⟨b433, 0, none⟩ : Addr).add 0)))), (8, (.int .i64 i1201))], ⟨rfl, rfl, rfl, rfl, rfl, rfl, trivial⟩, x1500, ((Draw_Codes.mk p0.list i1484 i1485).value), v1495, x1493, v1532, x1505, rfl, rfl, H, hs1537, hs1535⟩
        · skip
          refine id (Ax_mk rfl rfl (OpW_alloc (cs := (Case.cells (Case.mk false 0 0))) rfl rfl rfl rfl (fun b1538 => ⟨(Inc.cons (.tail _ (.tail _ (.head _))) (Inc.cons (.tail _ (.tail _ (.tail _ (.head _)))) (Inc.cons (.tail _ (.tail _ (.tail _ (.tail _ (.head _))))) (Inc.cons (.tail _ (.tail _ (.tail _ (.tail _ (.tail _ (.head _)))))) (Inc.cons (.tail _ (.tail _ (.tail _ (.tail _ (.tail _ (.tail _ (.head _))))))) Inc.nil))))), ?_⟩)))
          refine Aw.shift (Shift.pull (.there .here) (Shift.done ⟨(Inc.cons (.tail _ (.tail _ (.head _))) (Inc.cons (.tail _ (.tail _ (.tail _ (.head _)))) (Inc.cons (.tail _ (.tail _ (.tail _ (.tail _ (.head _))))) (Inc.cons (.tail _ (.tail _ (.tail _ (.tail _ (.tail _ (.head _)))))) (Inc.cons (.tail _ (.tail _ (.tail _ (.tail _ (.tail _ (.tail _ (.head _))))))) Inc.nil))))), ?_⟩))
          refine Aw_one 1 (by kernel_rfl) (Ax_mk rfl rfl (OpW_call rfl Try.call40 rfl rfl (c_M_draw_Codes_Next bp0 (Draw_Codes.mk p0.list x1222 ((Draw_Codes.mk p0.list i1202 i1203).value)) vp0_list 2 x1406 x1407 hx1408 _ _ hs1224) ?_))
          rintro _ _ _ - ⟨rfl, rfl, rfl⟩
          refine ⟨(Inc.cons (.tail _ (.tail _ (.head _))) (Inc.cons (.tail _ (.tail _ (.tail _ (.head _)))) (Inc.cons (.tail _ (.tail _ (.tail _ (.tail _ (.head _))))) (Inc.cons (.tail _ (.tail _ (.tail _ (.tail _ (.tail _ (.head _)))))) (Inc.cons (.tail _ (.tail _ (.tail _ (.tail _ (.tail _ (.tail _ (.head _))))))) Inc.nil))))), ?_⟩
          refine Aw_q 2 rfl (by kernel_rfl) (by kernel_rfl) (by kernel_rfl) rfl rfl rfl (Qt_cmp rfl rfl rfl) ?_
          have hs1539 := (hp1_capacities).mono hK1212
          have hs1540 := (hp1_starts).mono hK1212
          refine Aw_one 5 (by kernel_rfl) (Ax_mk rfl rfl (OpW_call rfl Try.call65 rfl rfl (c_M_draw_Codes_channel bp0 (Draw_Codes.mk p0.list x1407 ((Draw_Codes.mk p0.list x1222 ((Draw_Codes.mk p0.list i1202 i1203).value)).value)) vp0_list p1 vp1_capacities vp1_starts x1409 x1410 x1411 hx1412 _ _ hs1224 hs1539 hs1540) ?_))
          rintro _ _ _ - ⟨rfl, rfl, rfl⟩
          refine ⟨(Inc.cons (.tail _ (.tail _ (.head _))) (Inc.cons (.tail _ (.tail _ (.tail _ (.head _)))) (Inc.cons (.tail _ (.tail _ (.tail _ (.tail _ (.head _))))) (Inc.cons (.tail _ (.tail _ (.tail _ (.tail _ (.tail _ (.head _)))))) (Inc.cons (.tail _ (.tail _ (.tail _ (.tail _ (.tail _ (.tail _ (.head _))))))) Inc.nil))))), ?_⟩
          refine Aw_q 6 rfl (by kernel_rfl) (by kernel_rfl) (by kernel_rfl) rfl rfl rfl (Qt_build (cs := (Case.cells (Case.mk (dcd (x1406 = 1)) x1409 0))) rfl rfl rfl rfl rfl rfl) ?_
          refine Aw_one 8 (by kernel_rfl) (Ax_mk rfl rfl (OpW_store (vs := (Case.cells (Case.mk (dcd (x1406 = 1)) x1409 0))) (all' := (Case.cells (Case.mk (dcd (x1406 = 1)) x1409 0))) rfl rfl rfl rfl rfl (.there .here) rfl rfl rfl ⟨(Inc.cons (.tail _ (.tail _ (.head _))) (Inc.cons (.tail _ (.tail _ (.tail _ (.head _)))) (Inc.cons (.tail _ (.tail _ (.tail _ (.tail _ (.head _))))) (Inc.cons (.tail _ (.tail _ (.tail _ (.tail _ (.tail _ (.head _)))))) (Inc.cons (.tail _ (.tail _ (.tail _ (.tail _ (.tail _ (.tail _ (.head _))))))) Inc.nil))))), ?_⟩))
          refine Aw_done (by kernel_rfl) ?_
          refine Cw_join (fun env' K' G' => ∃ (i1545 : Int) (i1546 : Int) (i1547 : Int), [(0, (.pointer (some ((⟨bp0, 0, none⟩ : Addr).add 0)))), (2, (.int .i64 p2)), (4, (.pointer (some ((⟨b431, 0, none⟩ : Addr).add 0)))), (6, (.pointer (some ((⟨b432, 0, none⟩ : Addr).add 0)))), (7, (.pointer (some ((⟨b433, 0, none⟩ : Addr).add 0)))), (8, (.int .i64 i1201)), (9, (.pointer (some ((⟨b1538, 0, none⟩ : Addr).add 0))))] = env' ∧ K1211 = K' ∧ (.blk bp0 93 (Draw_Codes.cells (Draw_Codes.mk p0.list i1545 i1546) vp0_list)) :: (.blk b1538 105 (Case.cells (Case.mk (dcd (x1406 = 1)) x1409 i1547))) :: (.blk b433 73 (Op.cells (Op.mk 4 0 0 0 0 l1205 l1208) v1204 v1207)) :: (.blk b432 73 (Op.cells (Op.mk 0 0 0 0 0 [] []) nilS nilS)) :: (.blk b431 77 (Config.cells p1 vp1_capacities vp1_starts)) :: (.tok 105 3 [(sv v1204)]) :: (.tok 3 1 [(sv v1207)]) :: G = G' ∧ M_draw_Codes_Select_J5 p2 i1201 p0 x1406 x1409 l1205 l1208 p1 k1214 i1545 i1546 i1547 = some (y0, z0_at_, z0_value)) ?_ ?_
          · skip
            refine Cw_seq ?_
            refine Cw_region ?_
            refine Ow_q rfl rfl rfl (Qt_fieldAddr (m := 0) rfl rfl rfl rfl rfl) ?_
            refine Ow_q rfl rfl rfl (Qt_load1 (v := (.bool (dcd (x1406 = 1)))) rfl rfl rfl (Rdc.blk (.tail _ (.head _)) rfl)) ?_
            refine Ow_nil ?_
            refine Cw_cond rfl ?_ ?_
            · intro h1548
              have h1548 := dcd_t (h1548)
              have H := ift h1548 H
              refine Cw_region ?_
              refine Ow_q rfl rfl rfl (Qt_move rfl) ?_
              obtain ⟨x1549, x1550, hx1551, H⟩ := bnd2 H
              refine Ow_cons rfl (OpW_call rfl Try.call66 rfl rfl (c_M_draw_Codes_Value bp0 (Draw_Codes.mk p0.list x1410 x1411) vp0_list x1549 x1550 hx1551 _ _ hs1224) ?_)
              rintro _ _ _ - ⟨rfl, rfl, rfl⟩
              refine Ow_q rfl rfl rfl (Qt_fieldAddr (m := 2) rfl rfl rfl rfl rfl) ?_
              refine Ow_cons rfl (OpW_store (vs := [(.int .u64 x1549)]) (all' := (Case.cells (Case.mk (dcd (x1406 = 1)) x1409 x1549))) rfl rfl rfl rfl rfl (.there .here) rfl rfl rfl ?_)
              refine Ow_nil ?_
              refine Shift.pull (.there (.there (.there (.there (.there (.there .here)))))) ?_
              refine Shift.pull (.there (.there (.there (.there (.there (.there .here)))))) ?_
              refine Shift.pull (.there (.there (.there (.there (.there (.there .here)))))) ?_
              refine Shift.pull (.there (.there (.there (.there (.there (.there .here)))))) ?_
              refine Shift.pull (.there (.there (.there (.there (.there (.there .here)))))) ?_
              refine Shift.pull (.there (.there (.there (.there (.there (.there .here)))))) ?_
              refine Shift.pull (.there (.there (.there (.there (.there (.there .here)))))) ?_
              refine Shift.done ?_
              exact ⟨[(0, (.pointer (some ((⟨bp0, 0, none⟩ : Addr).add 0)))), (2, (.int .i64 p2)), (4, (.pointer (some ((⟨b431, 0, none⟩ : Addr).add 0)))), (6, (.pointer (some ((⟨b432, 0, none⟩ : Addr).add 0)))), (7, (.pointer (some ((⟨b433, 0, none⟩ : Addr).add 0)))), (8, (.int .i64 i1201)), (9, (.pointer (some ((⟨b1538, 0, none⟩ : Addr).add 0))))], ⟨rfl, rfl, rfl, rfl, rfl, rfl, rfl, trivial⟩, ((Draw_Codes.mk p0.list x1410 x1411).at_), x1550, x1549, rfl, rfl, rfl, H⟩
            · intro h1548
              have h1548 := dcd_f (h1548)
              have H := iff_ h1548 H
              refine Cw_skip ?_
              refine Shift.pull (.there (.there (.there (.there (.there (.there .here)))))) ?_
              refine Shift.pull (.there (.there (.there (.there (.there (.there .here)))))) ?_
              refine Shift.pull (.there (.there (.there (.there (.there (.there .here)))))) ?_
              refine Shift.pull (.there (.there (.there (.there (.there (.there .here)))))) ?_
              refine Shift.pull (.there (.there (.there (.there (.there (.there .here)))))) ?_
              refine Shift.pull (.there (.there (.there (.there (.there (.there .here)))))) ?_
              refine Shift.pull (.there (.there (.there (.there (.there (.there .here)))))) ?_
              refine Shift.done ?_
              exact ⟨[(0, (.pointer (some ((⟨bp0, 0, none⟩ : Addr).add 0)))), (2, (.int .i64 p2)), (4, (.pointer (some ((⟨b431, 0, none⟩ : Addr).add 0)))), (6, (.pointer (some ((⟨b432, 0, none⟩ : Addr).add 0)))), (7, (.pointer (some ((⟨b433, 0, none⟩ : Addr).add 0)))), (8, (.int .i64 i1201)), (9, (.pointer (some ((⟨b1538, 0, none⟩ : Addr).add 0))))], ⟨rfl, rfl, rfl, rfl, rfl, rfl, rfl, trivial⟩, x1410, x1411, 0, rfl, rfl, rfl, H⟩
          rintro _ _ _ - ⟨i1545, i1546, i1547, rfl, rfl, rfl, H⟩
          unfold M_draw_Codes_Select_J5 at H
          refine Cw_seq ?_
          refine Cw_region ?_
          refine Ow_q rfl rfl rfl (Qt_fieldAddr (m := 5) rfl rfl rfl rfl rfl) ?_
          refine Ow_q rfl rfl rfl (Qt_load1 (v := (sv v1204)) rfl rfl rfl (Rdc.blk (.tail _ (.tail _ (.head _))) rfl)) ?_
          refine Ow_q rfl rfl rfl (Qt_loadA (m := 3) (cs := (Case.cells (Case.mk (dcd (x1406 = 1)) x1409 i1547))) rfl rfl rfl rfl ⟨rfl, Rdc.blk (.tail _ (.head _)) rfl⟩) ?_
          have hR1553 : RowR TyCase K1211 [(Case.cells (Case.mk (dcd (x1406 = 1)) x1409 i1547))] [(Case.mk (dcd (x1406 = 1)) x1409 i1547)] := RowR.cons rfl (RowR.nil)
          refine Ow_cons rfl (O_lit (T := TyCase) (rows := [(Case.cells (Case.mk (dcd (x1406 = 1)) x1409 i1547))]) (l := [(Case.mk (dcd (x1406 = 1)) x1409 i1547)]) rfl rfl rfl hR1553 rfl rfl rfl rfl rfl rfl rfl rfl (fun v1552 => ?_))
          obtain ⟨x1554, hx1555, H⟩ := bnd H
          refine Ow_cons rfl (O_appTok (T := TyCase) (bytes := 24) (q := 0) rfl rfl rfl hs1206 (.tail _ (.tail _ (.tail _ (.tail _ (.tail _ (.tail _ (.head _))))))) rfl (SrcT.row (.head _) hR1553 rfl) hx1555 rfl rfl rfl rfl rfl rfl rfl rfl (fun v1556 K1557 hK1558 hs1559 => ⟨_, (.there (.there (.there (.there (.there (.there .here)))))), ?_⟩))
          refine Ow.shift (Shift.rem .here (Shift.done ?_))
          refine Ow_q rfl rfl rfl (Qt_fieldAddr (m := 5) rfl rfl rfl rfl rfl) ?_
          refine Ow_cons rfl (OpW_store (vs := [(sv v1556)]) (all' := (Op.cells (Op.mk 4 0 0 0 0 x1554 l1208) v1556 v1207)) rfl rfl rfl rfl rfl (.there (.there .here)) rfl rfl rfl ?_)
          refine Ow_nil ?_
          obtain ⟨x1560, x1561, hx1562, H⟩ := bnd2 H
          obtain ⟨x1566, hx1567, H⟩ := bnd H
          refine Cw_region_any [.blk b1538 105 (Case.cells (Case.mk (dcd (x1406 = 1)) x1409 i1547)), .blk b432 73 (Op.cells (Op.mk 0 0 0 0 0 [] []) nilS nilS), .blk b431 77 (Config.cells p1 vp1_capacities vp1_starts), .tok 105 3 [(sv v1556)]] rfl (Inc.cons (.tail _ (.head _)) (Inc.cons (.tail _ (.tail _ (.tail _ (.head _)))) (Inc.cons (.tail _ (.tail _ (.tail _ (.tail _ (.head _))))) (Inc.cons (.tail _ (.tail _ (.tail _ (.tail _ (.tail _ (.head _)))))) Inc.nil)))) ?_
          refine Aw_q 0 rfl (by kernel_rfl) (by kernel_rfl) (by kernel_rfl) rfl rfl rfl (Qt_fieldAddr (m := 6) rfl rfl rfl rfl rfl) ?_
          refine Aw_q 2 rfl (by kernel_rfl) (by kernel_rfl) (by kernel_rfl) rfl rfl rfl (Qt_move rfl) ?_
          refine Aw_q 3 rfl (by kernel_rfl) (by kernel_rfl) (by kernel_rfl) rfl rfl rfl (Qt_move rfl) ?_
          refine Aw_q 4 rfl (by kernel_rfl) (by kernel_rfl) (by kernel_rfl) rfl rfl rfl (Qt_arith (e := wI (i1201 + 1)) rfl rfl rfl rfl) ?_
          refine Aw_two 1 5 (by kernel_rfl) ?_ ?_
          · skip
            refine id (Ax_mk rfl rfl (OpW_of_Qt rfl rfl (Qt_load1 (v := (sv v1207)) rfl rfl rfl (Rdc.blk (.tail _ (.tail _ (.head _))) rfl)) ⟨(Inc.cons (.tail _ (.head _)) (Inc.cons (.tail _ (.tail _ (.tail _ (.head _)))) (Inc.cons (.tail _ (.tail _ (.tail _ (.tail _ (.head _))))) (Inc.cons (.tail _ (.tail _ (.tail _ (.tail _ (.tail _ (.head _)))))) Inc.nil)))), ?_⟩))
            have hs1573 := (hs1224).mono hK1558
            refine Aw_one 5 (by kernel_rfl) (Ax_mk rfl rfl (OpW_call rfl Try.call40 rfl rfl (c_M_draw_Codes_Next bp0 (Draw_Codes.mk p0.list i1545 i1546) vp0_list (wI (i1201 + 1)) x1560 x1561 hx1562 _ _ hs1573) ?_))
            rintro _ _ _ - ⟨rfl, rfl, rfl⟩
            refine ⟨(Inc.cons (.tail _ (.head _)) (Inc.cons (.tail _ (.tail _ (.tail _ (.head _)))) (Inc.cons (.tail _ (.tail _ (.tail _ (.tail _ (.head _))))) (Inc.cons (.tail _ (.tail _ (.tail _ (.tail _ (.tail _ (.head _)))))) Inc.nil)))), ?_⟩
            have hR1575 : RowR Ty.i64 K1557 [[(.int .i64 x1560)]] [x1560] := RowR.cons rfl (RowR.nil)
            refine Aw_one 6 (by kernel_rfl) (Ax_mk rfl rfl (O_lit (T := Ty.i64) (rows := [[(.int .i64 x1560)]]) (l := [x1560]) rfl rfl rfl hR1575 rfl rfl rfl rfl rfl rfl rfl rfl (fun v1574 => ⟨(Inc.cons (.tail _ (.tail _ (.head _))) (Inc.cons (.tail _ (.tail _ (.tail _ (.tail _ (.head _))))) (Inc.cons (.tail _ (.tail _ (.tail _ (.tail _ (.tail _ (.head _)))))) (Inc.cons (.tail _ (.tail _ (.tail _ (.tail _ (.tail _ (.tail _ (.head _))))))) Inc.nil)))), ?_⟩)))
            have hs1580 := (hs1209).mono hK1558
            refine Aw_one 7 (by kernel_rfl) (Ax_mk rfl rfl (O_appTok (T := Ty.i64) (bytes := 8) (q := 0) rfl rfl rfl hs1580 (.tail _ (.tail _ (.tail _ (.tail _ (.tail _ (.tail _ (.tail _ (.head _)))))))) rfl (SrcT.row (.head _) hR1575 rfl) hx1567 rfl rfl rfl rfl rfl rfl rfl rfl (fun v1576 K1577 hK1578 hs1579 => ⟨_, (.there (.there (.there (.there (.there (.there (.there .here))))))), ⟨(Inc.cons (.tail _ (.tail _ (.head _))) (Inc.cons (.tail _ (.tail _ (.tail _ (.tail _ (.head _))))) (Inc.cons (.tail _ (.tail _ (.tail _ (.tail _ (.tail _ (.head _)))))) (Inc.cons (.tail _ (.tail _ (.tail _ (.tail _ (.tail _ (.tail _ (.head _))))))) Inc.nil)))), ?_⟩⟩)))
            refine Aw.shift (Shift.rem .here (Shift.done ⟨(Inc.cons (.tail _ (.head _)) (Inc.cons (.tail _ (.tail _ (.tail _ (.head _)))) (Inc.cons (.tail _ (.tail _ (.tail _ (.tail _ (.head _))))) (Inc.cons (.tail _ (.tail _ (.tail _ (.tail _ (.tail _ (.head _)))))) Inc.nil)))), ?_⟩))
            refine Aw_q 8 rfl (by kernel_rfl) (by kernel_rfl) (by kernel_rfl) rfl rfl rfl (Qt_fieldAddr (m := 6) rfl rfl rfl rfl rfl) ?_
            refine Aw_one 9 (by kernel_rfl) (Ax_mk rfl rfl (OpW_store (vs := [(sv v1576)]) (all' := (Op.cells (Op.mk 4 0 0 0 0 x1554 x1566) v1556 v1576)) rfl rfl rfl rfl rfl (.there (.there .here)) rfl rfl rfl ⟨(Inc.cons (.tail _ (.head _)) (Inc.cons (.tail _ (.tail _ (.tail _ (.head _)))) (Inc.cons (.tail _ (.tail _ (.tail _ (.tail _ (.head _))))) (Inc.cons (.tail _ (.tail _ (.tail _ (.tail _ (.tail _ (.head _)))))) Inc.nil)))), ?_⟩))
            refine Aw_done (by kernel_rfl) ?_
            refine Shift.pull (.there (.there (.there (.there (.there (.there .here)))))) ?_
            refine Shift.pull (.there (.there (.there (.there (.there (.there .here)))))) ?_
            refine Shift.pull (.there (.there (.there (.there (.there (.there .here)))))) ?_
            refine Shift.pull (.there (.there (.there (.there (.there (.there .here)))))) ?_
            refine Shift.pull (.there (.there (.there (.there (.there (.there .here)))))) ?_
            refine Shift.pull (.there (.there (.there (.there (.there .here))))) ?_
            refine Shift.rem (.there (.there (.there (.there (.there (.there .here)))))) ?_
            have hs1581 := (hs1559).mono hK1578
            refine Shift.done ?_
            exact ⟨[(0, (.pointer (some ((⟨bp0, 0, none⟩ : Addr).add 0)))), (2, (.int .i64 p2)), (4, (.pointer (some ((⟨b431, 0, none⟩ : Addr).add 0)))), (6, (.pointer (some ((⟨b432, 0, none⟩ : Addr).add 0)))), (7, (.pointer (some ((⟨b433, 0, none⟩ : Addr).add 0)))), (8, (.int .i64 i1201))], ⟨rfl, rfl, rfl, rfl, rfl, rfl, trivial⟩, x1561, ((Draw_Codes.mk p0.list i1545 i1546).value), v1556, x1554, v1576, x1566, rfl, rfl, H, hs1581, hs1579⟩
          · skip
            have hs1582 := (hs1224).mono hK1558
            refine id (Ax_mk rfl rfl (OpW_call rfl Try.call40 rfl rfl (c_M_draw_Codes_Next bp0 (Draw_Codes.mk p0.list i1545 i1546) vp0_list (wI (i1201 + 1)) x1560 x1561 hx1562 _ _ hs1582) ?_))
            rintro _ _ _ - ⟨rfl, rfl, rfl⟩
            refine ⟨(Inc.cons (.tail _ (.head _)) (Inc.cons (.tail _ (.tail _ (.tail _ (.head _)))) (Inc.cons (.tail _ (.tail _ (.tail _ (.tail _ (.head _))))) (Inc.cons (.tail _ (.tail _ (.tail _ (.tail _ (.tail _ (.head _)))))) Inc.nil)))), ?_⟩
            refine Aw_two 1 6 (by kernel_rfl) ?_ ?_
            · skip
              refine id (Ax_mk rfl rfl (OpW_of_Qt rfl rfl (Qt_load1 (v := (sv v1207)) rfl rfl rfl (Rdc.blk (.tail _ (.tail _ (.head _))) rfl)) ⟨(Inc.cons (.tail _ (.head _)) (Inc.cons (.tail _ (.tail _ (.tail _ (.head _)))) (Inc.cons (.tail _ (.tail _ (.tail _ (.tail _ (.head _))))) (Inc.cons (.tail _ (.tail _ (.tail _ (.tail _ (.tail _ (.head _)))))) Inc.nil)))), ?_⟩))
              have hR1584 : RowR Ty.i64 K1557 [[(.int .i64 x1560)]] [x1560] := RowR.cons rfl (RowR.nil)
              refine Aw_one 6 (by kernel_rfl) (Ax_mk rfl rfl (O_lit (T := Ty.i64) (rows := [[(.int .i64 x1560)]]) (l := [x1560]) rfl rfl rfl hR1584 rfl rfl rfl rfl rfl rfl rfl rfl (fun v1583 => ⟨(Inc.cons (.tail _ (.tail _ (.head _))) (Inc.cons (.tail _ (.tail _ (.tail _ (.tail _ (.head _))))) (Inc.cons (.tail _ (.tail _ (.tail _ (.tail _ (.tail _ (.head _)))))) (Inc.cons (.tail _ (.tail _ (.tail _ (.tail _ (.tail _ (.tail _ (.head _))))))) Inc.nil)))), ?_⟩)))
              have hs1589 := (hs1209).mono hK1558
              refine Aw_one 7 (by kernel_rfl) (Ax_mk rfl rfl (O_appTok (T := Ty.i64) (bytes := 8) (q := 0) rfl rfl rfl hs1589 (.tail _ (.tail _ (.tail _ (.tail _ (.tail _ (.tail _ (.tail _ (.head _)))))))) rfl (SrcT.row (.head _) hR1584 rfl) hx1567 rfl rfl rfl rfl rfl rfl rfl rfl (fun v1585 K1586 hK1587 hs1588 => ⟨_, (.there (.there (.there (.there (.there (.there (.there .here))))))), ⟨(Inc.cons (.tail _ (.tail _ (.head _))) (Inc.cons (.tail _ (.tail _ (.tail _ (.tail _ (.head _))))) (Inc.cons (.tail _ (.tail _ (.tail _ (.tail _ (.tail _ (.head _)))))) (Inc.cons (.tail _ (.tail _ (.tail _ (.tail _ (.tail _ (.tail _ (.head _))))))) Inc.nil)))), ?_⟩⟩)))
              refine Aw.shift (Shift.rem .here (Shift.done ⟨(Inc.cons (.tail _ (.head _)) (Inc.cons (.tail _ (.tail _ (.tail _ (.head _)))) (Inc.cons (.tail _ (.tail _ (.tail _ (.tail _ (.head _))))) (Inc.cons (.tail _ (.tail _ (.tail _ (.tail _ (.tail _ (.head _)))))) Inc.nil)))), ?_⟩))
              refine Aw_q 8 rfl (by kernel_rfl) (by kernel_rfl) (by kernel_rfl) rfl rfl rfl (Qt_fieldAddr (m := 6) rfl rfl rfl rfl rfl) ?_
              refine Aw_one 9 (by kernel_rfl) (Ax_mk rfl rfl (OpW_store (vs := [(sv v1585)]) (all' := (Op.cells (Op.mk 4 0 0 0 0 x1554 x1566) v1556 v1585)) rfl rfl rfl rfl rfl (.there (.there .here)) rfl rfl rfl ⟨(Inc.cons (.tail _ (.head _)) (Inc.cons (.tail _ (.tail _ (.tail _ (.head _)))) (Inc.cons (.tail _ (.tail _ (.tail _ (.tail _ (.head _))))) (Inc.cons (.tail _ (.tail _ (.tail _ (.tail _ (.tail _ (.head _)))))) Inc.nil)))), ?_⟩))
              refine Aw_done (by kernel_rfl) ?_
              refine Shift.pull (.there (.there (.there (.there (.there (.there .here)))))) ?_
              refine Shift.pull (.there (.there (.there (.there (.there (.there .here)))))) ?_
              refine Shift.pull (.there (.there (.there (.there (.there (.there .here)))))) ?_
              refine Shift.pull (.there (.there (.there (.there (.there (.there .here)))))) ?_
              refine Shift.pull (.there (.there (.there (.there (.there (.there .here)))))) ?_
              refine Shift.pull (.there (.there (.there (.there (.there .here))))) ?_
              refine Shift.rem (.there (.there (.there (.there (.there (.there .here)))))) ?_
              have hs1590 := (hs1559).mono hK1587
              refine Shift.done ?_
              exact ⟨[(0, (.pointer (some ((⟨bp0, 0, none⟩ : Addr).add 0)))), (2, (.int .i64 p2)), (4, (.pointer (some ((⟨b431, 0, none⟩ : Addr).add 0)))), (6, (.pointer (some ((⟨b432, 0, none⟩ : Addr).add 0)))), (7, (.pointer (some ((⟨b433, 0, none⟩ : Addr).add 0)))), (8, (.int .i64 i1201))], ⟨rfl, rfl, rfl, rfl, rfl, rfl, trivial⟩, x1561, ((Draw_Codes.mk p0.list i1545 i1546).value), v1556, x1554, v1585, x1566, rfl, rfl, H, hs1590, hs1588⟩
            · skip
              have hR1592 : RowR Ty.i64 K1557 [[(.int .i64 x1560)]] [x1560] := RowR.cons rfl (RowR.nil)
              refine id (Ax_mk rfl rfl (O_lit (T := Ty.i64) (rows := [[(.int .i64 x1560)]]) (l := [x1560]) rfl rfl rfl hR1592 rfl rfl rfl rfl rfl rfl rfl rfl (fun v1591 => ⟨(Inc.cons (.tail _ (.tail _ (.head _))) (Inc.cons (.tail _ (.tail _ (.tail _ (.tail _ (.head _))))) (Inc.cons (.tail _ (.tail _ (.tail _ (.tail _ (.tail _ (.head _)))))) (Inc.cons (.tail _ (.tail _ (.tail _ (.tail _ (.tail _ (.tail _ (.head _))))))) Inc.nil)))), ?_⟩)))
              refine Aw_one 1 (by kernel_rfl) (Ax_mk rfl rfl (OpW_of_Qt rfl rfl (Qt_load1 (v := (sv v1207)) rfl rfl rfl (Rdc.blk (.tail _ (.tail _ (.tail _ (.head _)))) rfl)) ⟨(Inc.cons (.tail _ (.tail _ (.head _))) (Inc.cons (.tail _ (.tail _ (.tail _ (.tail _ (.head _))))) (Inc.cons (.tail _ (.tail _ (.tail _ (.tail _ (.tail _ (.head _)))))) (Inc.cons (.tail _ (.tail _ (.tail _ (.tail _ (.tail _ (.tail _ (.head _))))))) Inc.nil)))), ?_⟩))
              have hs1597 := (hs1209).mono hK1558
              refine Aw_one 7 (by kernel_rfl) (Ax_mk rfl rfl (O_appTok (T := Ty.i64) (bytes := 8) (q := 0) rfl rfl rfl hs1597 (.tail _ (.tail _ (.tail _ (.tail _ (.tail _ (.tail _ (.tail _ (.head _)))))))) rfl (SrcT.row (.head _) hR1592 rfl) hx1567 rfl rfl rfl rfl rfl rfl rfl rfl (fun v1593 K1594 hK1595 hs1596 => ⟨_, (.there (.there (.there (.there (.there (.there (.there .here))))))), ⟨(Inc.cons (.tail _ (.tail _ (.head _))) (Inc.cons (.tail _ (.tail _ (.tail _ (.tail _ (.head _))))) (Inc.cons (.tail _ (.tail _ (.tail _ (.tail _ (.tail _ (.head _)))))) (Inc.cons (.tail _ (.tail _ (.tail _ (.tail _ (.tail _ (.tail _ (.head _))))))) Inc.nil)))), ?_⟩⟩)))
              refine Aw.shift (Shift.rem .here (Shift.done ⟨(Inc.cons (.tail _ (.head _)) (Inc.cons (.tail _ (.tail _ (.tail _ (.head _)))) (Inc.cons (.tail _ (.tail _ (.tail _ (.tail _ (.head _))))) (Inc.cons (.tail _ (.tail _ (.tail _ (.tail _ (.tail _ (.head _)))))) Inc.nil)))), ?_⟩))
              refine Aw_q 8 rfl (by kernel_rfl) (by kernel_rfl) (by kernel_rfl) rfl rfl rfl (Qt_fieldAddr (m := 6) rfl rfl rfl rfl rfl) ?_
              refine Aw_one 9 (by kernel_rfl) (Ax_mk rfl rfl (OpW_store (vs := [(sv v1593)]) (all' := (Op.cells (Op.mk 4 0 0 0 0 x1554 x1566) v1556 v1593)) rfl rfl rfl rfl rfl (.there (.there .here)) rfl rfl rfl ⟨(Inc.cons (.tail _ (.head _)) (Inc.cons (.tail _ (.tail _ (.tail _ (.head _)))) (Inc.cons (.tail _ (.tail _ (.tail _ (.tail _ (.head _))))) (Inc.cons (.tail _ (.tail _ (.tail _ (.tail _ (.tail _ (.head _)))))) Inc.nil)))), ?_⟩))
              refine Aw_done (by kernel_rfl) ?_
              refine Shift.pull (.there (.there (.there (.there (.there (.there .here)))))) ?_
              refine Shift.pull (.there (.there (.there (.there (.there (.there .here)))))) ?_
              refine Shift.pull (.there (.there (.there (.there (.there (.there .here)))))) ?_
              refine Shift.pull (.there (.there (.there (.there (.there (.there .here)))))) ?_
              refine Shift.pull (.there (.there (.there (.there (.there (.there .here)))))) ?_
              refine Shift.pull (.there (.there (.there (.there (.there .here))))) ?_
              refine Shift.rem (.there (.there (.there (.there (.there (.there .here)))))) ?_
              have hs1598 := (hs1559).mono hK1595
              refine Shift.done ?_
              exact ⟨[(0, (.pointer (some ((⟨bp0, 0, none⟩ : Addr).add 0)))), (2, (.int .i64 p2)), (4, (.pointer (some ((⟨b431, 0, none⟩ : Addr).add 0)))), (6, (.pointer (some ((⟨b432, 0, none⟩ : Addr).add 0)))), (7, (.pointer (some ((⟨b433, 0, none⟩ : Addr).add 0)))), (8, (.int .i64 i1201))], ⟨rfl, rfl, rfl, rfl, rfl, rfl, trivial⟩, x1561, ((Draw_Codes.mk p0.list i1545 i1546).value), v1556, x1554, v1593, x1566, rfl, rfl, H, hs1598, hs1596⟩
      rintro _ K1599 _ hK1600 ⟨i1398, i1399, v1400, l1401, v1403, l1404, rfl, rfl, H, hs1402, hs1405⟩
      unfold M_draw_Codes_Select_J2 at H
      refine Cw_region ?_
      refine Ow_q rfl rfl rfl (Qt_move rfl) ?_
      refine Ow_q rfl rfl rfl (Qt_arith (e := wI (i1201 + 1)) rfl rfl rfl rfl) ?_
      refine Ow_q rfl rfl rfl (Qt_assign rfl) ?_
      refine Ow_nil ?_
      refine Shift.pull (.there (.there (.there (.there (.there .here))))) ?_
      refine Shift.pull (.there (.there (.there (.there (.there .here))))) ?_
      refine Shift.pull (.there (.there (.there (.there (.there .here))))) ?_
      refine Shift.pull (.there (.there (.there (.there (.there .here))))) ?_
      refine Shift.pull (.there (.there (.there (.there (.there .here))))) ?_
      refine Shift.pull (.there (.there (.there (.there (.there .here))))) ?_
      refine Shift.done ?_
      exact ⟨[(0, (.pointer (some ((⟨bp0, 0, none⟩ : Addr).add 0)))), (2, (.int .i64 p2)), (4, (.pointer (some ((⟨b431, 0, none⟩ : Addr).add 0)))), (6, (.pointer (some ((⟨b432, 0, none⟩ : Addr).add 0)))), (7, (.pointer (some ((⟨b433, 0, none⟩ : Addr).add 0)))), (8, (.int .i64 (wI (i1201 + 1))))], ⟨rfl, rfl, rfl, rfl, rfl, rfl, trivial⟩, _, Nat.lt_succ_self _, (wI (i1201 + 1)), i1398, i1399, v1400, l1401, v1403, l1404, rfl, rfl, (hkk1215 ▸ H), hs1402, hs1405⟩
    · intro h1225
      have h1225 := dcd_f (h1225)
      have H := iff_ h1225 H
      refine Cw_exit ?_
      refine Shift.pull (.there (.there (.there (.there (.there .here))))) ?_
      refine Shift.pull (.there (.there (.there (.there (.there .here))))) ?_
      refine Shift.pull (.there (.there (.there (.there .here)))) ?_
      refine Shift.pull (.there (.there (.there (.there .here)))) ?_
      refine Shift.pull (.there (.there (.there (.there .here)))) ?_
      refine Shift.rem (.there (.there (.there (.there (.there .here))))) ?_
      refine Shift.done ?_
      exact ⟨[(0, (.pointer (some ((⟨bp0, 0, none⟩ : Addr).add 0)))), (6, (.pointer (some ((⟨b432, 0, none⟩ : Addr).add 0)))), (7, (.pointer (some ((⟨b433, 0, none⟩ : Addr).add 0))))], ⟨rfl, rfl, rfl, trivial⟩, x1222, ((Draw_Codes.mk p0.list i1202 i1203).value), v1204, l1205, v1207, l1208, rfl, rfl, H, hs1206, hs1209⟩
  rintro _ K1601 _ hK1602 ⟨i818, i819, v820, l821, v823, l824, rfl, rfl, H, hs822, hs825⟩
  unfold M_draw_Codes_Select_J1 at H
  refine Cw_seq ?_
  refine Cw_region ?_
  refine Ow_q rfl rfl rfl (Qt_move rfl) ?_
  refine Ow_q rfl rfl rfl (Qt_loadA (m := 7) (cs := (Op.cells (Op.mk 4 0 0 0 0 l821 l824) v820 v823)) rfl rfl rfl rfl ⟨rfl, Rdc.blk (.tail _ (.head _)) rfl⟩) ?_
  obtain ⟨x1603, x1604, x1605, hx1606, H⟩ := bnd3 H
  have hs1607 := (hp0_list).mono hK1602
  refine Ow_cons rfl (OpW_call rfl Try.call64 rfl rfl (c_M_draw_Codes_mode bp0 (Draw_Codes.mk p0.list i818 i819) vp0_list (Op.mk 4 0 0 0 0 l821 l824) v820 v823 x1603 x1604 x1605 hx1606 _ _ hs1607 hs822 hs825) ?_)
  rintro _ _ _ - ⟨v1608, v1609, rfl, rfl, rfl, hs1610, hs1611⟩
  refine Ow_cons rfl (OpW_store (vs := (Op.cells x1603 v1608 v1609)) (all' := (Op.cells x1603 v1608 v1609)) rfl rfl rfl rfl rfl (.there (.there .here)) rfl rfl rfl ?_)
  refine Ow_nil ?_
  refine Cw_ret ?_
  obtain ⟨ey0, ez0_at_, ez0_value⟩ := inj3 H
  subst y0 z0_at_ z0_value
  refine ⟨(by first | exact .inl rfl | exact .inr rfl), [(.agg (Op.cells x1603 v1608 v1609).toArray)], ⟨(.agg (Op.cells x1603 v1608 v1609).toArray), _, rfl, ⟨_, 7, (Op.cells x1603 v1608 v1609), rfl, rfl, rfl, rfl, ⟨rfl, Rdc.blk (.tail _ (.tail _ (.head _))) rfl⟩, rfl⟩, rfl⟩, ?_⟩
  refine Shift.rem (.there .here) ?_
  refine Shift.rem (.there .here) ?_
  refine Shift.rem (.there .here) ?_
  refine Shift.rem (.there .here) ?_
  refine Shift.done ?_
  exact ⟨v1608, v1609, rfl, rfl, hs1610, hs1611⟩

set_option maxHeartbeats 1000000 in
theorem c_M_draw_Codes_Op (bp0 : Nat) (p0 : Draw_Codes) (vp0_list : SV) (p1 : Config) (vp1_capacities : SV) (vp1_starts : SV) (y0 : Op) (z0_at_ : Int) (z0_value : Int) (H : M_draw_Codes_Op p0 p1 = some (y0, z0_at_, z0_value)) (K : Kp) (G : List Ent) (hp0_list : Slr Ty.u8 K (sv vp0_list) p0.list) (hp1_capacities : Slr Ty.i64 K (sv vp1_capacities) p1.capacities) (hp1_starts : Slr Ty.u64 K (sv vp1_starts) p1.starts) :
    Fc Try.prog 58 #[(.pointer (some ((⟨bp0, 0, none⟩ : Addr).add 0))), (.agg (Config.cells p1 vp1_capacities vp1_starts).toArray)] K ((.blk bp0 93 (Draw_Codes.cells p0 vp0_list)) :: G) (fun v K' G' => ∃ (wy0_cases : SV) (wy0_draws : SV), v = (.agg (Op.cells y0 wy0_cases wy0_draws).toArray) ∧ (.blk bp0 93 (Draw_Codes.cells (Draw_Codes.mk p0.list z0_at_ z0_value) vp0_list)) :: G = G' ∧ Slr TyCase K' (sv wy0_cases) y0.cases ∧ Slr Ty.i64 K' (sv wy0_draws) y0.draws) := by
  refine Fc_body Try.func58 rfl Try.ntmps58 Try.results58 rfl ?_
  unfold M_draw_Codes_Op at H
  refine Cw_seq ?_
  refine Cw_region ?_
  refine Ow_cons rfl (OpW_box (cs := (Config.cells p1 vp1_capacities vp1_starts)) rfl rfl rfl (fun b60 => ?_))
  refine Ow_cons rfl (OpW_alloc (cs := (Op.cells (Op.mk 0 0 0 0 0 [] []) nilS nilS)) rfl rfl rfl rfl (fun b61 => ?_))
  refine Ow_nil ?_
  refine Cw_seq ?_
  refine Cw_seq ?_
  refine Cw_region ?_
  refine Ow_q rfl rfl rfl (Qt_move rfl) ?_
  obtain ⟨x115, x116, hx117, H⟩ := bnd2 H
  refine Ow.shift (Shift.pull (.there (.there .here)) (Shift.done ?_))
  refine Ow_cons rfl (OpW_call rfl Try.call40 rfl rfl (c_M_draw_Codes_Next bp0 p0 vp0_list 20 x115 x116 hx117 _ _ hp0_list) ?_)
  rintro _ _ _ - ⟨rfl, rfl, rfl⟩
  refine Ow_q rfl rfl rfl (Qt_assign rfl) ?_
  refine Ow_nil ?_
  refine Cw_block ?_
  refine Cw_seq ?_
  refine Cw_region ?_
  refine Ow_q rfl rfl rfl (Qt_move rfl) ?_
  refine Ow_q rfl rfl rfl (Qt_cmp rfl rfl rfl) ?_
  refine Ow_q rfl rfl rfl (Qt_assign rfl) ?_
  refine Ow_nil ?_
  refine Cw_cond rfl ?_ ?_
  · intro h118
    have h118 := dcd_t (h118)
    have H := ift h118 H
    refine Cw_seq ?_
    refine Cw_region ?_
    refine Ow_q rfl rfl rfl (Qt_move rfl) ?_
    refine Ow_q rfl rfl rfl (Qt_move rfl) ?_
    refine Ow_q rfl rfl rfl (Qt_loadA (m := 3) (cs := (Config.cells p1 vp1_capacities vp1_starts)) rfl rfl rfl rfl ⟨rfl, Rdc.blk (.tail _ (.tail _ (.head _))) rfl⟩) ?_
    obtain ⟨x119, x120, x121, hx122, H⟩ := bnd3 H
    refine Ow_cons rfl (OpW_call rfl Try.call65 rfl rfl (c_M_draw_Codes_channel bp0 (Draw_Codes.mk p0.list x116 p0.value) vp0_list p1 vp1_capacities vp1_starts x119 x120 x121 hx122 _ _ hp0_list hp1_capacities hp1_starts) ?_)
    rintro _ _ _ - ⟨rfl, rfl, rfl⟩
    refine Ow_q rfl rfl rfl (Qt_move rfl) ?_
    obtain ⟨x123, x124, hx125, H⟩ := bnd2 H
    refine Ow_cons rfl (OpW_call rfl Try.call66 rfl rfl (c_M_draw_Codes_Value bp0 (Draw_Codes.mk p0.list x120 x121) vp0_list x123 x124 hx125 _ _ hp0_list) ?_)
    rintro _ _ _ - ⟨rfl, rfl, rfl⟩
    refine Ow_q rfl rfl rfl (Qt_build (cs := (Op.cells (Op.mk 1 0 x119 x123 0 [] []) nilS nilS)) rfl rfl rfl rfl rfl rfl) ?_
    obtain ⟨x126, x127, x128, hx129, H⟩ := bnd3 H
    refine Ow_cons rfl (OpW_call rfl Try.call64 rfl rfl (c_M_draw_Codes_mode bp0 (Draw_Codes.mk p0.list ((Draw_Codes.mk p0.list x120 x121).at_) x124) vp0_list (Op.mk 1 0 x119 x123 0 [] []) nilS nilS x126 x127 x128 hx129 _ _ hp0_list (Slr.nil TyCase _) (Slr.nil Ty.i64 _)) ?_)
    rintro _ _ _ - ⟨v130, v131, rfl, rfl, rfl, hs132, hs133⟩
    refine Ow_cons rfl (OpW_store (vs := (Op.cells x126 v130 v131)) (all' := (Op.cells x126 v130 v131)) rfl rfl rfl rfl rfl (.there .here) rfl rfl rfl ?_)
    refine Ow_nil ?_
    refine Cw_ret ?_
    obtain ⟨ey0, ez0_at_, ez0_value⟩ := inj3 H
    subst y0 z0_at_ z0_value
    refine ⟨(by first | exact .inl rfl | exact .inr rfl), [(.agg (Op.cells x126 v130 v131).toArray)], ⟨(.agg (Op.cells x126 v130 v131).toArray), _, rfl, ⟨_, 7, (Op.cells x126 v130 v131), rfl, rfl, rfl, rfl, ⟨rfl, Rdc.blk (.tail _ (.head _)) rfl⟩, rfl⟩, rfl⟩, ?_⟩
    refine Shift.rem (.there .here) ?_
    refine Shift.rem (.there .here) ?_
    refine Shift.done ?_
    exact ⟨v130, v131, rfl, rfl, hs132, hs133⟩
  · intro h118
    have h118 := dcd_f (h118)
    have H := iff_ h118 H
    refine Cw_seq ?_
    refine Cw_region ?_
    refine Ow_q rfl rfl rfl (Qt_move rfl) ?_
    refine Ow_q rfl rfl rfl (Qt_cmp rfl rfl rfl) ?_
    refine Ow_q rfl rfl rfl (Qt_assign rfl) ?_
    refine Ow_nil ?_
    refine Cw_cond rfl ?_ ?_
    · intro h134
      have h134 := dcd_t (h134)
      have H := ift h134 H
      refine Cw_seq ?_
      refine Cw_region ?_
      refine Ow_q rfl rfl rfl (Qt_move rfl) ?_
      refine Ow_q rfl rfl rfl (Qt_move rfl) ?_
      refine Ow_q rfl rfl rfl (Qt_loadA (m := 3) (cs := (Config.cells p1 vp1_capacities vp1_starts)) rfl rfl rfl rfl ⟨rfl, Rdc.blk (.tail _ (.tail _ (.head _))) rfl⟩) ?_
      obtain ⟨x135, x136, x137, hx138, H⟩ := bnd3 H
      refine Ow_cons rfl (OpW_call rfl Try.call65 rfl rfl (c_M_draw_Codes_channel bp0 (Draw_Codes.mk p0.list x116 p0.value) vp0_list p1 vp1_capacities vp1_starts x135 x136 x137 hx138 _ _ hp0_list hp1_capacities hp1_starts) ?_)
      rintro _ _ _ - ⟨rfl, rfl, rfl⟩
      refine Ow_q rfl rfl rfl (Qt_build (cs := (Op.cells (Op.mk 2 0 x135 0 0 [] []) nilS nilS)) rfl rfl rfl rfl rfl rfl) ?_
      obtain ⟨x139, x140, x141, hx142, H⟩ := bnd3 H
      refine Ow_cons rfl (OpW_call rfl Try.call64 rfl rfl (c_M_draw_Codes_mode bp0 (Draw_Codes.mk p0.list x136 x137) vp0_list (Op.mk 2 0 x135 0 0 [] []) nilS nilS x139 x140 x141 hx142 _ _ hp0_list (Slr.nil TyCase _) (Slr.nil Ty.i64 _)) ?_)
      rintro _ _ _ - ⟨v143, v144, rfl, rfl, rfl, hs145, hs146⟩
      refine Ow_cons rfl (OpW_store (vs := (Op.cells x139 v143 v144)) (all' := (Op.cells x139 v143 v144)) rfl rfl rfl rfl rfl (.there .here) rfl rfl rfl ?_)
      refine Ow_nil ?_
      refine Cw_ret ?_
      obtain ⟨ey0, ez0_at_, ez0_value⟩ := inj3 H
      subst y0 z0_at_ z0_value
      refine ⟨(by first | exact .inl rfl | exact .inr rfl), [(.agg (Op.cells x139 v143 v144).toArray)], ⟨(.agg (Op.cells x139 v143 v144).toArray), _, rfl, ⟨_, 7, (Op.cells x139 v143 v144), rfl, rfl, rfl, rfl, ⟨rfl, Rdc.blk (.tail _ (.head _)) rfl⟩, rfl⟩, rfl⟩, ?_⟩
      refine Shift.rem (.there .here) ?_
      refine Shift.rem (.there .here) ?_
      refine Shift.done ?_
      exact ⟨v143, v144, rfl, rfl, hs145, hs146⟩
    · intro h134
      have h134 := dcd_f (h134)
      have H := iff_ h134 H
      refine Cw_seq ?_
      refine Cw_region ?_
      refine Ow_q rfl rfl rfl (Qt_move rfl) ?_
      refine Ow_q rfl rfl rfl (Qt_cmp rfl rfl rfl) ?_
      refine Ow_q rfl rfl rfl (Qt_assign rfl) ?_
      refine Ow_nil ?_
      refine Cw_cond rfl ?_ ?_
      · intro h147
        have h147 := dcd_t (h147)
        have H := ift h147 H
        refine Cw_seq ?_
        refine Cw_region ?_
        refine Ow_q rfl rfl rfl (Qt_move rfl) ?_
        refine Ow_q rfl rfl rfl (Qt_loadA (m := 3) (cs := (Config.cells p1 vp1_capacities vp1_starts)) rfl rfl rfl rfl ⟨rfl, Rdc.blk (.tail _ (.tail _ (.head _))) rfl⟩) ?_
        obtain ⟨x148, x149, x150, hx151, H⟩ := bnd3 H
        refine Ow_cons rfl (OpW_call rfl Try.call67 rfl rfl (c_M_draw_Codes_Select bp0 (Draw_Codes.mk p0.list x116 p0.value) vp0_list p1 vp1_capacities vp1_starts 4 x148 x149 x150 hx151 _ _ hp0_list hp1_capacities hp1_starts) ?_)
        rintro _ K154 _ hK155 ⟨v152, v153, rfl, rfl, hs156, hs157⟩
        refine Ow_cons rfl (OpW_store (vs := (Op.cells x148 v152 v153)) (all' := (Op.cells x148 v152 v153)) rfl rfl rfl rfl rfl (.there .here) rfl rfl rfl ?_)
        refine Ow_nil ?_
        refine Cw_ret ?_
        obtain ⟨ey0, ez0_at_, ez0_value⟩ := inj3 H
        subst y0 z0_at_ z0_value
        refine ⟨(by first | exact .inl rfl | exact .inr rfl), [(.agg (Op.cells x148 v152 v153).toArray)], ⟨(.agg (Op.cells x148 v152 v153).toArray), _, rfl, ⟨_, 7, (Op.cells x148 v152 v153), rfl, rfl, rfl, rfl, ⟨rfl, Rdc.blk (.tail _ (.head _)) rfl⟩, rfl⟩, rfl⟩, ?_⟩
        refine Shift.rem (.there .here) ?_
        refine Shift.rem (.there .here) ?_
        refine Shift.done ?_
        exact ⟨v152, v153, rfl, rfl, hs156, hs157⟩
      · intro h147
        have h147 := dcd_f (h147)
        have H := iff_ h147 H
        refine Cw_seq ?_
        refine Cw_region ?_
        refine Ow_q rfl rfl rfl (Qt_move rfl) ?_
        refine Ow_q rfl rfl rfl (Qt_cmp rfl rfl rfl) ?_
        refine Ow_q rfl rfl rfl (Qt_assign rfl) ?_
        refine Ow_nil ?_
        refine Cw_cond rfl ?_ ?_
        · intro h158
          have h158 := dcd_t (h158)
          have H := ift h158 H
          refine Cw_seq ?_
          refine Cw_region ?_
          refine Ow_q rfl rfl rfl (Qt_move rfl) ?_
          refine Ow_q rfl rfl rfl (Qt_loadA (m := 3) (cs := (Config.cells p1 vp1_capacities vp1_starts)) rfl rfl rfl rfl ⟨rfl, Rdc.blk (.tail _ (.tail _ (.head _))) rfl⟩) ?_
          obtain ⟨x159, x160, x161, hx162, H⟩ := bnd3 H
          refine Ow_cons rfl (OpW_call rfl Try.call65 rfl rfl (c_M_draw_Codes_channel bp0 (Draw_Codes.mk p0.list x116 p0.value) vp0_list p1 vp1_capacities vp1_starts x159 x160 x161 hx162 _ _ hp0_list hp1_capacities hp1_starts) ?_)
          rintro _ _ _ - ⟨rfl, rfl, rfl⟩
          refine Ow_q rfl rfl rfl (Qt_build (cs := (Op.cells (Op.mk 3 0 x159 0 0 [] []) nilS nilS)) rfl rfl rfl rfl rfl rfl) ?_
          refine Ow_cons rfl (OpW_store (vs := (Op.cells (Op.mk 3 0 x159 0 0 [] []) nilS nilS)) (all' := (Op.cells (Op.mk 3 0 x159 0 0 [] []) nilS nilS)) rfl rfl rfl rfl rfl (.there .here) rfl rfl rfl ?_)
          refine Ow_nil ?_
          refine Cw_ret ?_
          obtain ⟨ey0, ez0_at_, ez0_value⟩ := inj3 H
          subst y0 z0_at_ z0_value
          refine ⟨(by first | exact .inl rfl | exact .inr rfl), [(.agg (Op.cells (Op.mk 3 0 x159 0 0 [] []) nilS nilS).toArray)], ⟨(.agg (Op.cells (Op.mk 3 0 x159 0 0 [] []) nilS nilS).toArray), _, rfl, ⟨_, 7, (Op.cells (Op.mk 3 0 x159 0 0 [] []) nilS nilS), rfl, rfl, rfl, rfl, ⟨rfl, Rdc.blk (.tail _ (.head _)) rfl⟩, rfl⟩, rfl⟩, ?_⟩
          refine Shift.rem (.there .here) ?_
          refine Shift.rem (.there .here) ?_
          refine Shift.done ?_
          exact ⟨nilS, nilS, rfl, rfl, (Slr.nil TyCase _), (Slr.nil Ty.i64 _)⟩
        · intro h158
          have h158 := dcd_f (h158)
          have H := iff_ h158 H
          refine Cw_seq ?_
          refine Cw_region ?_
          refine Ow_q rfl rfl rfl (Qt_move rfl) ?_
          refine Ow_q rfl rfl rfl (Qt_cmp rfl rfl rfl) ?_
          refine Ow_q rfl rfl rfl (Qt_assign rfl) ?_
          refine Ow_nil ?_
          refine Cw_cond rfl ?_ ?_
          · intro h163
            have h163 := dcd_t (h163)
            have H := ift h163 H
            refine Cw_seq ?_
            refine Cw_region ?_
            refine Ow_q rfl rfl rfl (Qt_move rfl) ?_
            refine Ow_q rfl rfl rfl (Qt_loadA (m := 3) (cs := (Config.cells p1 vp1_capacities vp1_starts)) rfl rfl rfl rfl ⟨rfl, Rdc.blk (.tail _ (.tail _ (.head _))) rfl⟩) ?_
            obtain ⟨x164, x165, x166, hx167, H⟩ := bnd3 H
            refine Ow_cons rfl (OpW_call rfl Try.call65 rfl rfl (c_M_draw_Codes_channel bp0 (Draw_Codes.mk p0.list x116 p0.value) vp0_list p1 vp1_capacities vp1_starts x164 x165 x166 hx167 _ _ hp0_list hp1_capacities hp1_starts) ?_)
            rintro _ _ _ - ⟨rfl, rfl, rfl⟩
            refine Ow_q rfl rfl rfl (Qt_build (cs := (Op.cells (Op.mk 5 0 x164 0 0 [] []) nilS nilS)) rfl rfl rfl rfl rfl rfl) ?_
            refine Ow_cons rfl (OpW_store (vs := (Op.cells (Op.mk 5 0 x164 0 0 [] []) nilS nilS)) (all' := (Op.cells (Op.mk 5 0 x164 0 0 [] []) nilS nilS)) rfl rfl rfl rfl rfl (.there .here) rfl rfl rfl ?_)
            refine Ow_nil ?_
            refine Cw_ret ?_
            obtain ⟨ey0, ez0_at_, ez0_value⟩ := inj3 H
            subst y0 z0_at_ z0_value
            refine ⟨(by first | exact .inl rfl | exact .inr rfl), [(.agg (Op.cells (Op.mk 5 0 x164 0 0 [] []) nilS nilS).toArray)], ⟨(.agg (Op.cells (Op.mk 5 0 x164 0 0 [] []) nilS nilS).toArray), _, rfl, ⟨_, 7, (Op.cells (Op.mk 5 0 x164 0 0 [] []) nilS nilS), rfl, rfl, rfl, rfl, ⟨rfl, Rdc.blk (.tail _ (.head _)) rfl⟩, rfl⟩, rfl⟩, ?_⟩
            refine Shift.rem (.there .here) ?_
            refine Shift.rem (.there .here) ?_
            refine Shift.done ?_
            exact ⟨nilS, nilS, rfl, rfl, (Slr.nil TyCase _), (Slr.nil Ty.i64 _)⟩
          · intro h163
            have h163 := dcd_f (h163)
            have H := iff_ h163 H
            refine Cw_skip ?_
            refine Cw_seq ?_
            refine Cw_region ?_
            refine Ow_q rfl rfl rfl (Qt_move rfl) ?_
            refine Ow_q rfl rfl rfl (Qt_loadA (m := 3) (cs := (Config.cells p1 vp1_capacities vp1_starts)) rfl rfl rfl rfl ⟨rfl, Rdc.blk (.tail _ (.tail _ (.head _))) rfl⟩) ?_
            obtain ⟨x168, x169, x170, hx171, H⟩ := bnd3 H
            refine Ow_cons rfl (OpW_call rfl Try.call65 rfl rfl (c_M_draw_Codes_channel bp0 (Draw_Codes.mk p0.list x116 p0.value) vp0_list p1 vp1_capacities vp1_starts x168 x169 x170 hx171 _ _ hp0_list hp1_capacities hp1_starts) ?_)
            rintro _ _ _ - ⟨rfl, rfl, rfl⟩
            refine Ow_q rfl rfl rfl (Qt_build (cs := (Op.cells (Op.mk 6 0 x168 0 0 [] []) nilS nilS)) rfl rfl rfl rfl rfl rfl) ?_
            refine Ow_cons rfl (OpW_store (vs := (Op.cells (Op.mk 6 0 x168 0 0 [] []) nilS nilS)) (all' := (Op.cells (Op.mk 6 0 x168 0 0 [] []) nilS nilS)) rfl rfl rfl rfl rfl (.there .here) rfl rfl rfl ?_)
            refine Ow_nil ?_
            refine Cw_ret ?_
            obtain ⟨ey0, ez0_at_, ez0_value⟩ := inj3 H
            subst y0 z0_at_ z0_value
            refine ⟨(by first | exact .inl rfl | exact .inr rfl), [(.agg (Op.cells (Op.mk 6 0 x168 0 0 [] []) nilS nilS).toArray)], ⟨(.agg (Op.cells (Op.mk 6 0 x168 0 0 [] []) nilS nilS).toArray), _, rfl, ⟨_, 7, (Op.cells (Op.mk 6 0 x168 0 0 [] []) nilS nilS), rfl, rfl, rfl, rfl, ⟨rfl, Rdc.blk (.tail _ (.head _)) rfl⟩, rfl⟩, rfl⟩, ?_⟩
            refine Shift.rem (.there .here) ?_
            refine Shift.rem (.there .here) ?_
            refine Shift.done ?_
            exact ⟨nilS, nilS, rfl, rfl, (Slr.nil TyCase _), (Slr.nil Ty.i64 _)⟩


end Go.Hx
