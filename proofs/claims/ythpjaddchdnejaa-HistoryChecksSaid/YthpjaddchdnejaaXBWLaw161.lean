/- Printed by program. -/
import Derived.Test.YthpjaddchdnejaaXBM
import Derived.Test.YthpjaddchdnejaaXBWDraw
import Derived.Test.YthpjaddchdnejaaXBWDraw2
namespace Go.Hx
open Go Go.Proofs
set_option linter.unusedSimpArgs false
set_option linter.unusedVariables false
set_option maxRecDepth 10000
set_option maxHeartbeats 1000000 in
theorem c_M_law16_made (p0 : List Int) (vp0 : SV) (y0 : List (List Op)) (y1 : List Event) (H : M_law16_made p0 = some (y0, y1)) (K : Kp) (G : List Ent) (hp0 : Slr Ty.u8 K (sv vp0) p0) :
    Fc Try.prog 15 #[(sv vp0)] K (G) (fun v K' G' => ∃ (wy0 : SV) (rswy0 : List (List Value)) (wy1 : SV), v = (.tuple #[(sv wy0), (sv wy1)]) ∧ (.row (sv wy0) 74 1 rswy0.flatten) :: (.tok 34 8 [(sv wy1)]) :: G = G' ∧ RowR (Ty.sl TyOp) K' rswy0 y0 ∧ Slr TyEvent K' (sv wy1) y1) := by
  refine Fc_body Try.func15 rfl Try.ntmps15 Try.results15 rfl ?_
  unfold M_law16_made at H
  refine Cw_seq ?_
  refine Cw_region ?_
  refine Ow_q rfl rfl rfl (Qt_assign rfl) ?_
  refine Ow_q rfl rfl rfl (Qt_assign rfl) ?_
  refine Ow_nil ?_
  refine Cw_seq ?_
  refine Cw_region ?_
  refine Ow_q rfl rfl rfl (Qt_move rfl) ?_
  obtain ⟨x605, hx606, H⟩ := bnd H
  refine Ow_cons rfl (OpW_call rfl Try.call38 rfl rfl (c_M_draw_New p0 vp0 150 x605 hx606 _ _ hp0) ?_)
  rintro _ _ _ - ⟨b607, v608, rfl, rfl, rfl, hs609⟩
  refine Ow_q rfl rfl rfl (Qt_assign rfl) ?_
  refine Ow_nil ?_
  refine Cw_seq ?_
  refine Cw_region ?_
  refine Ow_q rfl rfl rfl (Qt_move rfl) ?_
  obtain ⟨x610, x611, x612, hx613, H⟩ := bnd3 H
  refine Ow_cons rfl (OpW_call rfl Try.call45 rfl rfl (c_M_draw_Codes_Config b607 x605 v608 x610 x611 x612 hx613 _ _ hs609) ?_)
  rintro _ K616 _ hK617 ⟨v614, v615, rfl, rfl, hs618, hs619⟩
  refine Ow_cons rfl (OpW_alloc (cs := (Config.cells (Config.mk [] [] 0) nilS nilS)) rfl rfl rfl rfl (fun b620 => ?_))
  refine Ow_cons rfl (OpW_store (vs := (Config.cells x610 v614 v615)) (all' := (Config.cells x610 v614 v615)) rfl rfl rfl rfl rfl .here rfl rfl rfl ?_)
  refine Ow_nil ?_
  refine Cw_seq ?_
  refine Cw_region ?_
  refine Ow_q rfl rfl rfl (Qt_move rfl) ?_
  refine Ow_q rfl rfl rfl (Qt_loadA (m := 3) (cs := (Config.cells x610 v614 v615)) rfl rfl rfl rfl ⟨rfl, Rdc.blk (.head _) rfl⟩) ?_
  obtain ⟨x621, x622, x623, hx624, H⟩ := bnd3 H
  refine Ow.shift (Shift.pull (.there .here) (Shift.done ?_))
  have hs625 := (hs609).mono hK617
  refine Ow_cons rfl (OpW_call rfl Try.call46 rfl rfl (c_M_draw_Codes_Ops b607 (Draw_Codes.mk x605.list x611 x612) v608 x610 v614 v615 10 x621 x622 x623 hx624 _ _ hs625 hs618 hs619) ?_)
  rintro _ K628 _ hK629 ⟨v626, rs627, rfl, rfl, hs630⟩
  refine Ow_q rfl rfl rfl (Qt_assign rfl) ?_
  refine Ow_nil ?_
  refine Cw_seq ?_
  obtain ⟨x631, hx632, H⟩ := bnd H
  obtain ⟨x637, hx638, H⟩ := bnd H
  refine Cw_region_any [.blk b607 93 (Draw_Codes.cells (Draw_Codes.mk x605.list x622 x623) v608), .row (sv v626) 74 1 rs627.flatten, .blk b620 77 (Config.cells x610 v614 v615), .tok 3 1 [(sv v614)], .tok 30 1 [(sv v615)]] rfl (Inc.cons (.head _) (Inc.cons (.tail _ (.head _)) (Inc.cons (.tail _ (.tail _ (.head _))) (Inc.cons (.tail _ (.tail _ (.tail _ (.head _)))) (Inc.cons (.tail _ (.tail _ (.tail _ (.tail _ (.head _))))) Inc.nil))))) ?_
  refine Aw_q 0 rfl (by kernel_rfl) (by kernel_rfl) (by kernel_rfl) rfl rfl rfl (Qt_fieldAddr (m := 2) rfl rfl rfl rfl rfl) ?_
  refine Aw_q 1 rfl (by kernel_rfl) (by kernel_rfl) (by kernel_rfl) rfl rfl rfl (Qt_load1 (v := (.int .i64 x610.threads)) rfl rfl rfl (Rdc.blk (.tail _ (.tail _ (.head _))) rfl)) ?_
  refine Aw_q 3 rfl (by kernel_rfl) (by kernel_rfl) (by kernel_rfl) rfl rfl rfl (Qt_fieldAddr (m := 2) rfl rfl rfl rfl rfl) ?_
  refine Aw_q 4 rfl (by kernel_rfl) (by kernel_rfl) (by kernel_rfl) rfl rfl rfl (Qt_load1 (v := (.int .i64 x610.threads)) rfl rfl rfl (Rdc.blk (.tail _ (.tail _ (.head _))) rfl)) ?_
  refine Aw_two 2 5 (by kernel_rfl) ?_ ?_
  · skip
    refine id (Ax_mk rfl rfl (O_make (T := Ty.i64) (r := [(.int .i64 0)]) rfl rfl rfl hx632 rfl rfl rfl rfl rfl rfl rfl rfl rfl rfl (fun v643 rs644 hR645 hz646 => ⟨(Inc.cons (.tail _ (.head _)) (Inc.cons (.tail _ (.tail _ (.head _))) (Inc.cons (.tail _ (.tail _ (.tail _ (.head _)))) (Inc.cons (.tail _ (.tail _ (.tail _ (.tail _ (.head _))))) (Inc.cons (.tail _ (.tail _ (.tail _ (.tail _ (.tail _ (.head _)))))) Inc.nil))))), ?_⟩)))
    refine Aw_q 6 rfl (by kernel_rfl) (by kernel_rfl) (by kernel_rfl) rfl rfl rfl (Qt_assign rfl) ?_
    refine Aw_one 5 (by kernel_rfl) (Ax_mk rfl rfl (O_make (T := Ty.bool) (r := [(.bool false)]) rfl rfl rfl hx638 rfl rfl rfl rfl rfl rfl rfl rfl rfl rfl (fun v647 rs648 hR649 hz650 => ⟨(Inc.cons (.tail _ (.tail _ (.head _))) (Inc.cons (.tail _ (.tail _ (.tail _ (.head _)))) (Inc.cons (.tail _ (.tail _ (.tail _ (.tail _ (.head _))))) (Inc.cons (.tail _ (.tail _ (.tail _ (.tail _ (.tail _ (.head _)))))) (Inc.cons (.tail _ (.tail _ (.tail _ (.tail _ (.tail _ (.tail _ (.head _))))))) Inc.nil))))), ?_⟩)))
    refine Aw_q 7 rfl (by kernel_rfl) (by kernel_rfl) (by kernel_rfl) rfl rfl rfl (Qt_assign rfl) ?_
    refine Aw_done (by kernel_rfl) ?_
    refine Cw_seq ?_
    refine Cw_region ?_
    refine Ow_q rfl rfl rfl (Qt_assign rfl) ?_
    refine Ow_nil ?_
    refine Cw_join (fun env' K' G' => ∃ (v921 : SV) (l922 : List Event), [(6, (sv v626)), (9, (sv v921))] = env' ∧ (.tok 34 8 [(sv v921)]) :: (.row (sv v626) 74 1 rs627.flatten) :: G = G' ∧ M_law16_made_J1 x621 l922 = some (y0, y1) ∧ Slr TyEvent K' (sv v921) l922) ?_ ?_
    · skip
      refine Cw_seq ?_
      refine Cw_region ?_
      refine Ow_q rfl rfl rfl (Qt_assign rfl) ?_
      refine Ow_nil ?_
      refine Cw_block ?_
      refine Cw_loopM (fun n1194 env' K' G' => ∃ (l1182 : List Int) (rs1184 : List (List Value)) (l1185 : List Bool) (rs1187 : List (List Value)) (v1188 : SV) (l1189 : List Event) (i1191 : Int) (i1192 : Int) (i1193 : Int), [(4, (.pointer (some ((⟨b607, 0, none⟩ : Addr).add 0)))), (5, (.pointer (some ((⟨b620, 0, none⟩ : Addr).add 0)))), (6, (sv v626)), (7, (sv v643)), (8, (sv v647)), (9, (sv v1188)), (10, (.int .i64 i1191))] = env' ∧ (.blk b620 77 (Config.cells x610 v614 v615)) :: (.blk b607 93 (Draw_Codes.cells (Draw_Codes.mk x605.list i1192 i1193) v608)) :: (.row (sv v643) 3 1 rs1184.flatten) :: (.row (sv v647) 4 1 rs1187.flatten) :: (.tok 34 8 [(sv v1188)]) :: (.row (sv v626) 74 1 rs627.flatten) :: (.tok 3 1 [(sv v614)]) :: (.tok 30 1 [(sv v615)]) :: G = G' ∧ lp6 (M_law16_made_L1 x621 x610 x605) n1194 l1182 l1185 l1189 i1191 i1192 i1193 = some (y0, y1) ∧ RowR Ty.i64 K' rs1184 l1182 ∧ RowR Ty.bool K' rs1187 l1185 ∧ Slr TyEvent K' (sv v1188) l1189) BIG ?_ ?_
      · skip
        refine Shift.nilTok1 34 8 ?_
        refine Shift.pull (.there (.there (.there (.there (.there (.there (.there .here))))))) ?_
        refine Shift.pull (.there (.there (.there (.there (.there (.there (.there .here))))))) ?_
        refine Shift.pull (.there (.there (.there (.there (.there (.there .here)))))) ?_
        refine Shift.pull (.there (.there (.there .here))) ?_
        refine Shift.pull (.there (.there (.there (.there .here)))) ?_
        refine Shift.pull (.there (.there (.there (.there (.there .here))))) ?_
        refine Shift.pull (.there (.there (.there (.there (.there (.there .here)))))) ?_
        refine Shift.pull (.there (.there (.there (.there (.there (.there (.there .here))))))) ?_
        refine Shift.done ?_
        exact ⟨[(4, (.pointer (some ((⟨b607, 0, none⟩ : Addr).add 0)))), (5, (.pointer (some ((⟨b620, 0, none⟩ : Addr).add 0)))), (6, (sv v626)), (7, (sv v643)), (8, (sv v647)), (9, (sv nilS)), (10, (.int .i64 0))], ⟨rfl, rfl, rfl, rfl, rfl, rfl, rfl, trivial⟩, x631, rs644, x637, rs648, nilS, ([] : List Event), 0, x622, x623, rfl, rfl, H, hR645, hR649, (Slr.nil TyEvent _)⟩
      rintro n1194 _ K1195 _ hK1196 ⟨l1182, rs1184, l1185, rs1187, v1188, l1189, i1191, i1192, i1193, rfl, rfl, H, hR1183, hR1186, hs1190⟩
      obtain ⟨m1197, k1198, rfl, hkk1199, H⟩ := lps6 H
      unfold M_law16_made_L1 at H
      refine Cw_seq ?_
      refine Cw_join (fun env' K' G' => ∃ (t1212 : Bool) (i1213 : Int) (i1214 : Int), [(4, (.pointer (some ((⟨b607, 0, none⟩ : Addr).add 0)))), (5, (.pointer (some ((⟨b620, 0, none⟩ : Addr).add 0)))), (6, (sv v626)), (7, (sv v643)), (8, (sv v647)), (9, (sv v1188)), (10, (.int .i64 i1191)), (30, (.bool t1212))] = env' ∧ K1195 = K' ∧ (.blk b620 77 (Config.cells x610 v614 v615)) :: (.blk b607 93 (Draw_Codes.cells (Draw_Codes.mk x605.list i1213 i1214) v608)) :: (.row (sv v643) 3 1 rs1184.flatten) :: (.row (sv v647) 4 1 rs1187.flatten) :: (.tok 34 8 [(sv v1188)]) :: (.row (sv v626) 74 1 rs627.flatten) :: (.tok 3 1 [(sv v614)]) :: (.tok 30 1 [(sv v615)]) :: G = G' ∧ M_law16_made_J2 x621 l1182 l1185 l1189 i1191 x610 x605 k1198 t1212 i1213 i1214 = some (y0, y1)) ?_ ?_
      · skip
        refine Cw_region ?_
        refine Ow_q rfl rfl rfl (Qt_move rfl) ?_
        refine Ow_q rfl rfl rfl (Qt_cmp rfl rfl rfl) ?_
        refine Ow_q rfl rfl rfl (Qt_move rfl) ?_
        refine Ow_caseG rfl rfl rfl ?_ ?_
        · intro h1215
          have h1215 := dcd_t (h1215)
          have H := ift h1215 H
          refine Ow_qw rfl rfl rfl rfl rfl rfl (Qt_move rfl) ?_
          obtain ⟨x1216, hx1217, H⟩ := bnd H
          refine Ow.shift (Shift.pull (.there .here) (Shift.done ?_))
          have hs1218 := ((hs625).mono hK629).mono hK1196
          refine Ow_want rfl rfl rfl rfl (OpW_call rfl Try.call39 rfl rfl (c_M_draw_Codes_Left b607 (Draw_Codes.mk x605.list i1192 i1193) v608 x1216 hx1217 _ _ hs1218) ?_)
          rintro _ _ _ - ⟨rfl, rfl, rfl⟩
          refine Ow_q rfl rfl rfl (Qt_pick_t rfl rfl) ?_
          refine Ow_nil ?_
          refine Shift.pull (.there (.there (.there (.there (.there (.there (.there .here))))))) ?_
          refine Shift.pull (.there (.there (.there (.there (.there (.there (.there .here))))))) ?_
          refine Shift.pull (.there (.there (.there (.there (.there (.there (.there .here))))))) ?_
          refine Shift.pull (.there (.there (.there (.there (.there (.there (.there .here))))))) ?_
          refine Shift.pull (.there (.there (.there (.there (.there (.there (.there .here))))))) ?_
          refine Shift.pull (.there (.there (.there (.there (.there (.there (.there .here))))))) ?_
          refine Shift.pull (.there (.there (.there (.there (.there (.there .here)))))) ?_
          refine Shift.pull (.there (.there (.there (.there (.there (.there (.there .here))))))) ?_
          refine Shift.done ?_
          exact ⟨[(4, (.pointer (some ((⟨b607, 0, none⟩ : Addr).add 0)))), (5, (.pointer (some ((⟨b620, 0, none⟩ : Addr).add 0)))), (6, (sv v626)), (7, (sv v643)), (8, (sv v647)), (9, (sv v1188)), (10, (.int .i64 i1191)), (30, (.bool x1216))], ⟨rfl, rfl, rfl, rfl, rfl, rfl, rfl, rfl, trivial⟩, x1216, ((Draw_Codes.mk x605.list i1192 i1193).at_), ((Draw_Codes.mk x605.list i1192 i1193).value), rfl, rfl, rfl, H⟩
        · intro h1215
          have h1215 := dcd_f (h1215)
          have H := iff_ h1215 H
          refine Ow_pass rfl rfl rfl rfl rfl rfl rfl ?_
          refine Ow_pass rfl rfl rfl rfl rfl rfl rfl ?_
          refine Ow_q rfl rfl rfl (Qt_pick_f rfl rfl) ?_
          refine Ow_nil ?_
          refine Shift.pull (.there (.there (.there (.there (.there (.there (.there .here))))))) ?_
          refine Shift.pull (.there (.there (.there (.there (.there (.there (.there .here))))))) ?_
          refine Shift.pull (.there (.there (.there (.there (.there (.there (.there .here))))))) ?_
          refine Shift.pull (.there (.there (.there (.there (.there (.there (.there .here))))))) ?_
          refine Shift.pull (.there (.there (.there (.there (.there (.there (.there .here))))))) ?_
          refine Shift.pull (.there (.there (.there (.there (.there (.there (.there .here))))))) ?_
          refine Shift.pull (.there (.there (.there (.there (.there (.there (.there .here))))))) ?_
          refine Shift.pull (.there (.there (.there (.there (.there (.there (.there .here))))))) ?_
          refine Shift.done ?_
          exact ⟨[(4, (.pointer (some ((⟨b607, 0, none⟩ : Addr).add 0)))), (5, (.pointer (some ((⟨b620, 0, none⟩ : Addr).add 0)))), (6, (sv v626)), (7, (sv v643)), (8, (sv v647)), (9, (sv v1188)), (10, (.int .i64 i1191)), (30, (.bool false))], ⟨rfl, rfl, rfl, rfl, rfl, rfl, rfl, rfl, trivial⟩, false, i1192, i1193, rfl, rfl, rfl, H⟩
      rintro _ _ _ - ⟨t1212, i1213, i1214, rfl, rfl, rfl, H⟩
      unfold M_law16_made_J2 at H
      refine Cw_cond rfl ?_ ?_
      · intro h1219
        have H := ift h1219 H
        refine Cw_skip ?_
        refine Cw_join (fun env' K' G' => ∃ (l1320 : List Int) (rs1322 : List (List Value)) (l1323 : List Bool) (rs1325 : List (List Value)) (v1326 : SV) (l1327 : List Event) (i1329 : Int) (i1330 : Int), [(4, (.pointer (some ((⟨b607, 0, none⟩ : Addr).add 0)))), (5, (.pointer (some ((⟨b620, 0, none⟩ : Addr).add 0)))), (6, (sv v626)), (7, (sv v643)), (8, (sv v647)), (9, (sv v1326)), (10, (.int .i64 i1191))] = env' ∧ (.blk b620 77 (Config.cells x610 v614 v615)) :: (.blk b607 93 (Draw_Codes.cells (Draw_Codes.mk x605.list i1329 i1330) v608)) :: (.row (sv v643) 3 1 rs1322.flatten) :: (.row (sv v647) 4 1 rs1325.flatten) :: (.tok 34 8 [(sv v1326)]) :: (.row (sv v626) 74 1 rs627.flatten) :: (.tok 3 1 [(sv v614)]) :: (.tok 30 1 [(sv v615)]) :: G = G' ∧ M_law16_made_J3 x621 i1191 x610 x605 k1198 l1320 l1323 l1327 i1329 i1330 = some (y0, y1) ∧ RowR Ty.i64 K' rs1322 l1320 ∧ RowR Ty.bool K' rs1325 l1323 ∧ Slr TyEvent K' (sv v1326) l1327) ?_ ?_
        · skip
          refine Cw_block ?_
          refine Cw_seq ?_
          refine Cw_region ?_
          refine Ow_q rfl rfl rfl (Qt_move rfl) ?_
          refine Ow_q rfl rfl rfl (Qt_fieldAddr (m := 2) rfl rfl rfl rfl rfl) ?_
          refine Ow_q rfl rfl rfl (Qt_load1 (v := (.int .i64 x610.threads)) rfl rfl rfl (Rdc.blk (.head _) rfl)) ?_
          obtain ⟨x1331, x1332, hx1333, H⟩ := bnd2 H
          refine Ow.shift (Shift.pull (.there .here) (Shift.done ?_))
          have hs1334 := ((hs625).mono hK629).mono hK1196
          refine Ow_cons rfl (OpW_call rfl Try.call40 rfl rfl (c_M_draw_Codes_Next b607 (Draw_Codes.mk x605.list i1213 i1214) v608 x610.threads x1331 x1332 hx1333 _ _ hs1334) ?_)
          rintro _ _ _ - ⟨rfl, rfl, rfl⟩
          refine Ow_q rfl rfl rfl (Qt_assign rfl) ?_
          refine Ow_nil ?_
          refine Cw_block ?_
          refine Cw_seq ?_
          refine Cw_region ?_
          refine Ow_q rfl rfl rfl (Qt_move rfl) ?_
          refine Ow_q rfl rfl rfl (Qt_move rfl) ?_
          obtain ⟨x1335, hx1336, H⟩ := bnd H
          obtain ⟨r1337, hq1338, hr1339⟩ := RowR.at hR1186 hx1336
          obtain rfl := hr1339
          refine Ow_q rfl rfl rfl (Q_ixR (T := Ty.bool) (.tail _ (.tail _ (.tail _ (.head _)))) hR1186 hq1338 (getI_ix hx1336).1 rfl rfl rfl rfl rfl) ?_
          refine Ow_q rfl rfl rfl (Qt_load1 (v := (.bool x1335)) rfl rfl rfl (Rd_row (T := Ty.bool) (.tail _ (.tail _ (.tail _ (.head _)))) hR1186 hq1338 rfl rfl)) ?_
          refine Ow_q rfl rfl rfl (Qt_assign rfl) ?_
          refine Ow_nil ?_
          refine Cw_cond rfl ?_ ?_
          · intro h1340
            have H := ift h1340 H
            refine Cw_seq ?_
            obtain ⟨x1341, hx1342, H⟩ := bnd H
            obtain ⟨x1346, x1347, hx1348, H⟩ := bnd2 H
            obtain ⟨x1351, hx1352, H⟩ := bnd H
            refine Cw_region_any [.blk b620 77 (Config.cells x610 v614 v615), .row (sv v643) 3 1 rs1184.flatten, .row (sv v647) 4 1 rs1187.flatten, .row (sv v626) 74 1 rs627.flatten, .tok 3 1 [(sv v614)], .tok 30 1 [(sv v615)]] rfl (Inc.cons (.tail _ (.head _)) (Inc.cons (.tail _ (.tail _ (.head _))) (Inc.cons (.tail _ (.tail _ (.tail _ (.head _)))) (Inc.cons (.tail _ (.tail _ (.tail _ (.tail _ (.tail _ (.head _)))))) (Inc.cons (.tail _ (.tail _ (.tail _ (.tail _ (.tail _ (.tail _ (.head _))))))) (Inc.cons (.tail _ (.tail _ (.tail _ (.tail _ (.tail _ (.tail _ (.tail _ (.head _)))))))) Inc.nil)))))) ?_
            refine Aw_q 0 rfl (by kernel_rfl) (by kernel_rfl) (by kernel_rfl) rfl rfl rfl (Qt_move rfl) ?_
            refine Aw_q 1 rfl (by kernel_rfl) (by kernel_rfl) (by kernel_rfl) rfl rfl rfl (Qt_move rfl) ?_
            refine Aw_q 2 rfl (by kernel_rfl) (by kernel_rfl) (by kernel_rfl) rfl rfl rfl (Qt_move rfl) ?_
            refine Aw_q 3 rfl (by kernel_rfl) (by kernel_rfl) (by kernel_rfl) rfl rfl rfl (Qt_move rfl) ?_
            obtain ⟨r1357, hq1358, hr1359⟩ := RowR.at hR1183 hx1342
            obtain rfl := hr1359
            refine Aw_q 4 rfl (by kernel_rfl) (by kernel_rfl) (by kernel_rfl) rfl rfl rfl (Q_ixR (T := Ty.i64) (.tail _ (.head _)) hR1183 hq1358 (getI_ix hx1342).1 rfl rfl rfl rfl rfl) ?_
            refine Aw_q 5 rfl (by kernel_rfl) (by kernel_rfl) (by kernel_rfl) rfl rfl rfl (Qt_load1 (v := (.int .i64 x1341)) rfl rfl rfl (Rd_row (T := Ty.i64) (.tail _ (.head _)) hR1183 hq1358 rfl rfl)) ?_
            refine Aw_q 6 rfl (by kernel_rfl) (by kernel_rfl) (by kernel_rfl) rfl rfl rfl (Qt_move rfl) ?_
            refine Aw_one 7 (by kernel_rfl) (Ax_mk rfl rfl (OpW_call rfl Try.call40 rfl rfl (c_M_draw_Codes_Next b607 (Draw_Codes.mk x605.list x1332 ((Draw_Codes.mk x605.list i1213 i1214).value)) v608 7 x1346 x1347 hx1348 _ _ hs1334) ?_))
            rintro _ _ _ - ⟨rfl, rfl, rfl⟩
            refine ⟨(Inc.cons (.tail _ (.head _)) (Inc.cons (.tail _ (.tail _ (.head _))) (Inc.cons (.tail _ (.tail _ (.tail _ (.head _)))) (Inc.cons (.tail _ (.tail _ (.tail _ (.tail _ (.tail _ (.head _)))))) (Inc.cons (.tail _ (.tail _ (.tail _ (.tail _ (.tail _ (.tail _ (.head _))))))) (Inc.cons (.tail _ (.tail _ (.tail _ (.tail _ (.tail _ (.tail _ (.tail _ (.head _)))))))) Inc.nil)))))), ?_⟩
            refine Aw_q 8 rfl (by kernel_rfl) (by kernel_rfl) (by kernel_rfl) rfl rfl rfl (Qt_arith (e := wI (1 + x1346)) rfl rfl rfl rfl) ?_
            refine Aw_q 9 rfl (by kernel_rfl) (by kernel_rfl) (by kernel_rfl) rfl rfl rfl (Qt_build (cs := (Result.cells (Result.mk (wI (1 + x1346)) (-1) 0 false 0))) rfl rfl rfl rfl rfl rfl) ?_
            refine Aw_q 10 rfl (by kernel_rfl) (by kernel_rfl) (by kernel_rfl) rfl rfl rfl (Qt_build (cs := (Event.cells (Event.mk x1331 x1341 true (Result.mk (wI (1 + x1346)) (-1) 0 false 0)))) rfl rfl rfl rfl rfl rfl) ?_
            have hR1361 : RowR TyEvent K1195 [(Event.cells (Event.mk x1331 x1341 true (Result.mk (wI (1 + x1346)) (-1) 0 false 0)))] [(Event.mk x1331 x1341 true (Result.mk (wI (1 + x1346)) (-1) 0 false 0))] := RowR.cons rfl (RowR.nil)
            refine Aw_one 11 (by kernel_rfl) (Ax_mk rfl rfl (O_lit (T := TyEvent) (rows := [(Event.cells (Event.mk x1331 x1341 true (Result.mk (wI (1 + x1346)) (-1) 0 false 0)))]) (l := [(Event.mk x1331 x1341 true (Result.mk (wI (1 + x1346)) (-1) 0 false 0))]) rfl rfl rfl hR1361 rfl rfl rfl rfl rfl rfl rfl rfl (fun v1360 => ⟨(Inc.cons (.tail _ (.tail _ (.head _))) (Inc.cons (.tail _ (.tail _ (.tail _ (.head _)))) (Inc.cons (.tail _ (.tail _ (.tail _ (.tail _ (.head _))))) (Inc.cons (.tail _ (.tail _ (.tail _ (.tail _ (.tail _ (.tail _ (.head _))))))) (Inc.cons (.tail _ (.tail _ (.tail _ (.tail _ (.tail _ (.tail _ (.tail _ (.head _)))))))) (Inc.cons (.tail _ (.tail _ (.tail _ (.tail _ (.tail _ (.tail _ (.tail _ (.tail _ (.head _))))))))) Inc.nil)))))), ?_⟩)))
            refine Aw_one 12 (by kernel_rfl) (Ax_mk rfl rfl (O_appTok (T := TyEvent) (bytes := 64) (q := 0) rfl rfl rfl hs1190 (.tail _ (.tail _ (.tail _ (.tail _ (.tail _ (.head _)))))) rfl (SrcT.row (.head _) hR1361 rfl) hx1352 rfl rfl rfl rfl rfl rfl rfl rfl (fun v1362 K1363 hK1364 hs1365 => ⟨_, (.there (.there (.there (.there (.there .here))))), ⟨(Inc.cons (.tail _ (.tail _ (.head _))) (Inc.cons (.tail _ (.tail _ (.tail _ (.head _)))) (Inc.cons (.tail _ (.tail _ (.tail _ (.tail _ (.head _))))) (Inc.cons (.tail _ (.tail _ (.tail _ (.tail _ (.tail _ (.tail _ (.head _))))))) (Inc.cons (.tail _ (.tail _ (.tail _ (.tail _ (.tail _ (.tail _ (.tail _ (.head _)))))))) (Inc.cons (.tail _ (.tail _ (.tail _ (.tail _ (.tail _ (.tail _ (.tail _ (.tail _ (.head _))))))))) Inc.nil)))))), ?_⟩⟩)))
            refine Aw.shift (Shift.rem .here (Shift.done ⟨(Inc.cons (.tail _ (.head _)) (Inc.cons (.tail _ (.tail _ (.head _))) (Inc.cons (.tail _ (.tail _ (.tail _ (.head _)))) (Inc.cons (.tail _ (.tail _ (.tail _ (.tail _ (.tail _ (.head _)))))) (Inc.cons (.tail _ (.tail _ (.tail _ (.tail _ (.tail _ (.tail _ (.head _))))))) (Inc.cons (.tail _ (.tail _ (.tail _ (.tail _ (.tail _ (.tail _ (.tail _ (.head _)))))))) Inc.nil)))))), ?_⟩))
            refine Aw_q 13 rfl (by kernel_rfl) (by kernel_rfl) (by kernel_rfl) rfl rfl rfl (Qt_assign rfl) ?_
            refine Aw_done (by kernel_rfl) ?_
            refine Cw_seq ?_
            refine Cw_region ?_
            refine Ow_q rfl rfl rfl (Qt_move rfl) ?_
            refine Ow_q rfl rfl rfl (Qt_move rfl) ?_
            obtain ⟨x1366, hx1367, H⟩ := bnd H
            have hs1368 := (hR1183).mono hK1364
            obtain ⟨r1369, hq1370, hr1371⟩ := RowR.at hs1368 hx1367
            obtain rfl := hr1371
            refine Ow_q rfl rfl rfl (Q_ixR (T := Ty.i64) (.tail _ (.tail _ (.head _))) hs1368 hq1370 (getI_ix hx1367).1 rfl rfl rfl rfl rfl) ?_
            refine Ow_q rfl rfl rfl (Qt_load1 (v := (.int .i64 x1366)) rfl rfl rfl (Rd_row (T := Ty.i64) (.tail _ (.tail _ (.head _))) hs1368 hq1370 rfl rfl)) ?_
            refine Ow_q rfl rfl rfl (Qt_arith (e := wI (x1366 + 1)) rfl rfl rfl rfl) ?_
            obtain ⟨x1372, hx1373, H⟩ := bnd H
            obtain ⟨r1374, hq1375, hr1376⟩ := RowR.at hs1368 hx1373
            obtain rfl := hr1376
            refine Ow_q rfl rfl rfl (Q_ixR (T := Ty.i64) (.tail _ (.tail _ (.head _))) hs1368 hq1375 (getI_ix hx1373).1 rfl rfl rfl rfl rfl) ?_
            refine Ow_cons rfl (O_storeR (T := Ty.i64) (vs := [(.int .i64 (wI (x1366 + 1)))]) (r' := [(.int .i64 (wI (x1366 + 1)))]) (l' := (setI l1182 x1331 (wI (x1366 + 1)))) rfl rfl rfl rfl rfl (.there (.there .here)) hs1368 hq1375 rfl rfl rfl (RowR.set x1331 hs1368 rfl) (fun hR1377 => ?_))
            have hE1378 := set_at hq1375 (v := [(.int .i64 (wI (x1366 + 1)))])
            refine Ow_nil ?_
            refine Cw_region ?_
            refine Ow_q rfl rfl rfl (Qt_move rfl) ?_
            refine Ow_q rfl rfl rfl (Qt_move rfl) ?_
            obtain ⟨x1379, hx1380, H⟩ := bnd H
            have hs1381 := (hR1186).mono hK1364
            obtain ⟨r1382, hq1383, hr1384⟩ := RowR.at hs1381 hx1380
            obtain rfl := hr1384
            refine Ow_q rfl rfl rfl (Q_ixR (T := Ty.bool) (.tail _ (.tail _ (.tail _ (.head _)))) hs1381 hq1383 (getI_ix hx1380).1 rfl rfl rfl rfl rfl) ?_
            refine Ow_cons rfl (O_storeR (T := Ty.bool) (vs := [(.bool false)]) (r' := [(.bool false)]) (l' := (setI l1185 x1331 false)) rfl rfl rfl rfl rfl (.there (.there (.there .here))) hs1381 hq1383 rfl rfl rfl (RowR.set x1331 hs1381 rfl) (fun hR1385 => ?_))
            have hE1386 := set_at hq1383 (v := [(.bool false)])
            refine Ow_nil ?_
            refine Shift.pull (.there (.there (.there (.there (.there (.there (.there .here))))))) ?_
            refine Shift.pull (.there (.there (.there (.there (.there (.there (.there .here))))))) ?_
            refine Shift.pull (.there (.there (.there (.there (.there (.there (.there .here))))))) ?_
            refine Shift.pull (.there (.there (.there (.there (.there (.there (.there .here))))))) ?_
            refine Shift.pull (.there (.there (.there (.there (.there (.there (.there .here))))))) ?_
            refine Shift.pull (.there (.there (.there (.there (.there (.there (.there .here))))))) ?_
            refine Shift.pull (.there (.there (.there (.there (.there (.there .here)))))) ?_
            refine Shift.pull (.there (.there (.there (.there (.there (.there (.there .here))))))) ?_
            refine Shift.done ?_
            exact ⟨[(4, (.pointer (some ((⟨b607, 0, none⟩ : Addr).add 0)))), (5, (.pointer (some ((⟨b620, 0, none⟩ : Addr).add 0)))), (6, (sv v626)), (7, (sv v643)), (8, (sv v647)), (9, (sv v1362)), (10, (.int .i64 i1191))], ⟨rfl, rfl, rfl, rfl, rfl, rfl, rfl, trivial⟩, (setI l1182 x1331 (wI (x1366 + 1))), (rs1184.set x1331.toNat [(.int .i64 (wI (x1366 + 1)))]), (setI l1185 x1331 false), (rs1187.set x1331.toNat [(.bool false)]), v1362, x1351, x1347, ((Draw_Codes.mk x605.list x1332 ((Draw_Codes.mk x605.list i1213 i1214).value)).value), rfl, rfl, H, hR1377, hR1385, hs1365⟩
          · intro h1340
            have H := iff_ (btf h1340) H
            refine Cw_seq ?_
            obtain ⟨x1387, hx1388, H⟩ := bnd H
            obtain ⟨x1392, hx1393, H⟩ := bnd H
            refine Cw_region_any [.blk b607 93 (Draw_Codes.cells (Draw_Codes.mk x605.list x1332 ((Draw_Codes.mk x605.list i1213 i1214).value)) v608), .blk b620 77 (Config.cells x610 v614 v615), .row (sv v643) 3 1 rs1184.flatten, .row (sv v647) 4 1 rs1187.flatten, .tok 34 8 [(sv v1188)], .row (sv v626) 74 1 rs627.flatten, .tok 3 1 [(sv v614)], .tok 30 1 [(sv v615)]] rfl (Inc.cons (.head _) (Inc.cons (.tail _ (.head _)) (Inc.cons (.tail _ (.tail _ (.head _))) (Inc.cons (.tail _ (.tail _ (.tail _ (.head _)))) (Inc.cons (.tail _ (.tail _ (.tail _ (.tail _ (.head _))))) (Inc.cons (.tail _ (.tail _ (.tail _ (.tail _ (.tail _ (.head _)))))) (Inc.cons (.tail _ (.tail _ (.tail _ (.tail _ (.tail _ (.tail _ (.head _))))))) (Inc.cons (.tail _ (.tail _ (.tail _ (.tail _ (.tail _ (.tail _ (.tail _ (.head _)))))))) Inc.nil)))))))) ?_
            refine Aw_q 0 rfl (by kernel_rfl) (by kernel_rfl) (by kernel_rfl) rfl rfl rfl (Qt_move rfl) ?_
            refine Aw_q 1 rfl (by kernel_rfl) (by kernel_rfl) (by kernel_rfl) rfl rfl rfl (Qt_move rfl) ?_
            obtain ⟨r1400, hq1401, hr1402⟩ := RowR.at hR1183 hx1388
            obtain rfl := hr1402
            refine Aw_q 2 rfl (by kernel_rfl) (by kernel_rfl) (by kernel_rfl) rfl rfl rfl (Q_ixR (T := Ty.i64) (.tail _ (.tail _ (.head _))) hR1183 hq1401 (getI_ix hx1388).1 rfl rfl rfl rfl rfl) ?_
            refine Aw_q 3 rfl (by kernel_rfl) (by kernel_rfl) (by kernel_rfl) rfl rfl rfl (Qt_load1 (v := (.int .i64 x1387)) rfl rfl rfl (Rd_row (T := Ty.i64) (.tail _ (.tail _ (.head _))) hR1183 hq1401 rfl rfl)) ?_
            refine Aw_q 4 rfl (by kernel_rfl) (by kernel_rfl) (by kernel_rfl) rfl rfl rfl (Qt_move rfl) ?_
            refine Aw_q 5 rfl (by kernel_rfl) (by kernel_rfl) (by kernel_rfl) rfl rfl rfl (Qt_move rfl) ?_
            have hs1403 := (hs630).mono hK1196
            obtain ⟨r1404, hq1405, hr1406⟩ := RowR.at hs1403 hx1393
            obtain ⟨v1407, rfl, hs1408⟩ := hr1406
            refine Aw_q 6 rfl (by kernel_rfl) (by kernel_rfl) (by kernel_rfl) rfl rfl rfl (Q_ixR (T := (Ty.sl TyOp)) (.tail _ (.tail _ (.tail _ (.tail _ (.tail _ (.head _)))))) hs1403 hq1405 (getI_ix hx1393).1 rfl rfl rfl rfl rfl) ?_
            refine Aw_q 7 rfl (by kernel_rfl) (by kernel_rfl) (by kernel_rfl) rfl rfl rfl (Qt_load1 (v := (sv v1407)) rfl rfl rfl (Rd_row (T := (Ty.sl TyOp)) (.tail _ (.tail _ (.tail _ (.tail _ (.tail _ (.head _)))))) hs1403 hq1405 rfl rfl)) ?_
            refine Aw_q 8 rfl (by kernel_rfl) (by kernel_rfl) (by kernel_rfl) rfl rfl rfl (Q_len (T := TyOp) hs1408 rfl rfl) ?_
            refine Aw_q 9 rfl (by kernel_rfl) (by kernel_rfl) (by kernel_rfl) rfl rfl rfl (Qt_cmp rfl rfl rfl) ?_
            refine Aw_q 10 rfl (by kernel_rfl) (by kernel_rfl) (by kernel_rfl) rfl rfl rfl (Qt_assign rfl) ?_
            refine Aw_done (by kernel_rfl) ?_
            refine Cw_cond rfl ?_ ?_
            · intro h1409
              have h1409 := dcd_t (h1409)
              have H := ift h1409 H
              refine Cw_seq ?_
              refine Cw_region ?_
              refine Ow_q rfl rfl rfl (Qt_move rfl) ?_
              refine Ow_q rfl rfl rfl (Qt_move rfl) ?_
              refine Ow_q rfl rfl rfl (Qt_move rfl) ?_
              refine Ow_q rfl rfl rfl (Qt_move rfl) ?_
              obtain ⟨x1410, hx1411, H⟩ := bnd H
              obtain ⟨r1412, hq1413, hr1414⟩ := RowR.at hR1183 hx1411
              obtain rfl := hr1414
              refine Ow_q rfl rfl rfl (Q_ixR (T := Ty.i64) (.tail _ (.tail _ (.head _))) hR1183 hq1413 (getI_ix hx1411).1 rfl rfl rfl rfl rfl) ?_
              refine Ow_q rfl rfl rfl (Qt_load1 (v := (.int .i64 x1410)) rfl rfl rfl (Rd_row (T := Ty.i64) (.tail _ (.tail _ (.head _))) hR1183 hq1413 rfl rfl)) ?_
              refine Ow_q rfl rfl rfl (Qt_build (cs := (Event.cells (Event.mk x1331 x1410 false (Result.mk 0 0 0 false 0)))) rfl rfl rfl rfl rfl rfl) ?_
              have hR1416 : RowR TyEvent K1195 [(Event.cells (Event.mk x1331 x1410 false (Result.mk 0 0 0 false 0)))] [(Event.mk x1331 x1410 false (Result.mk 0 0 0 false 0))] := RowR.cons rfl (RowR.nil)
              refine Ow_cons rfl (O_lit (T := TyEvent) (rows := [(Event.cells (Event.mk x1331 x1410 false (Result.mk 0 0 0 false 0)))]) (l := [(Event.mk x1331 x1410 false (Result.mk 0 0 0 false 0))]) rfl rfl rfl hR1416 rfl rfl rfl rfl rfl rfl rfl rfl (fun v1415 => ?_))
              obtain ⟨x1417, hx1418, H⟩ := bnd H
              refine Ow_cons rfl (O_appTok (T := TyEvent) (bytes := 64) (q := 0) rfl rfl rfl hs1190 (.tail _ (.tail _ (.tail _ (.tail _ (.tail _ (.head _)))))) rfl (SrcT.row (.head _) hR1416 rfl) hx1418 rfl rfl rfl rfl rfl rfl rfl rfl (fun v1419 K1420 hK1421 hs1422 => ⟨_, (.there (.there (.there (.there (.there .here))))), ?_⟩))
              refine Ow.shift (Shift.rem .here (Shift.done ?_))
              refine Ow_q rfl rfl rfl (Qt_assign rfl) ?_
              refine Ow_nil ?_
              refine Cw_region ?_
              refine Ow_q rfl rfl rfl (Qt_move rfl) ?_
              refine Ow_q rfl rfl rfl (Qt_move rfl) ?_
              obtain ⟨x1423, hx1424, H⟩ := bnd H
              have hs1425 := (hR1186).mono hK1421
              obtain ⟨r1426, hq1427, hr1428⟩ := RowR.at hs1425 hx1424
              obtain rfl := hr1428
              refine Ow_q rfl rfl rfl (Q_ixR (T := Ty.bool) (.tail _ (.tail _ (.tail _ (.head _)))) hs1425 hq1427 (getI_ix hx1424).1 rfl rfl rfl rfl rfl) ?_
              refine Ow_cons rfl (O_storeR (T := Ty.bool) (vs := [(.bool true)]) (r' := [(.bool true)]) (l' := (setI l1185 x1331 true)) rfl rfl rfl rfl rfl (.there (.there (.there .here))) hs1425 hq1427 rfl rfl rfl (RowR.set x1331 hs1425 rfl) (fun hR1429 => ?_))
              have hE1430 := set_at hq1427 (v := [(.bool true)])
              refine Ow_nil ?_
              refine Shift.pull (.there (.there (.there (.there (.there (.there (.there .here))))))) ?_
              refine Shift.pull (.there (.there (.there (.there (.there (.there (.there .here))))))) ?_
              refine Shift.pull (.there (.there (.there (.there (.there (.there (.there .here))))))) ?_
              refine Shift.pull (.there (.there (.there (.there (.there (.there (.there .here))))))) ?_
              refine Shift.pull (.there (.there (.there (.there (.there (.there (.there .here))))))) ?_
              refine Shift.pull (.there (.there (.there (.there (.there (.there (.there .here))))))) ?_
              refine Shift.pull (.there (.there (.there (.there (.there (.there .here)))))) ?_
              refine Shift.pull (.there (.there (.there (.there (.there (.there (.there .here))))))) ?_
              have hs1431 := (hR1183).mono hK1421
              refine Shift.done ?_
              exact ⟨[(4, (.pointer (some ((⟨b607, 0, none⟩ : Addr).add 0)))), (5, (.pointer (some ((⟨b620, 0, none⟩ : Addr).add 0)))), (6, (sv v626)), (7, (sv v643)), (8, (sv v647)), (9, (sv v1419)), (10, (.int .i64 i1191))], ⟨rfl, rfl, rfl, rfl, rfl, rfl, rfl, trivial⟩, l1182, rs1184, (setI l1185 x1331 true), (rs1187.set x1331.toNat [(.bool true)]), v1419, x1417, x1332, ((Draw_Codes.mk x605.list i1213 i1214).value), rfl, rfl, H, hs1431, hR1429, hs1422⟩
            · intro h1409
              have h1409 := dcd_f (h1409)
              have H := iff_ h1409 H
              refine Cw_skip ?_
              refine Shift.pull (.there (.there (.there (.there (.there (.there (.there .here))))))) ?_
              refine Shift.pull (.there (.there (.there (.there (.there (.there (.there .here))))))) ?_
              refine Shift.pull (.there (.there (.there (.there (.there (.there (.there .here))))))) ?_
              refine Shift.pull (.there (.there (.there (.there (.there (.there (.there .here))))))) ?_
              refine Shift.pull (.there (.there (.there (.there (.there (.there (.there .here))))))) ?_
              refine Shift.pull (.there (.there (.there (.there (.there (.there (.there .here))))))) ?_
              refine Shift.pull (.there (.there (.there (.there (.there (.there .here)))))) ?_
              refine Shift.pull (.there (.there (.there (.there (.there (.there (.there .here))))))) ?_
              refine Shift.done ?_
              exact ⟨[(4, (.pointer (some ((⟨b607, 0, none⟩ : Addr).add 0)))), (5, (.pointer (some ((⟨b620, 0, none⟩ : Addr).add 0)))), (6, (sv v626)), (7, (sv v643)), (8, (sv v647)), (9, (sv v1188)), (10, (.int .i64 i1191))], ⟨rfl, rfl, rfl, rfl, rfl, rfl, rfl, trivial⟩, l1182, rs1184, l1185, rs1187, v1188, l1189, x1332, ((Draw_Codes.mk x605.list i1213 i1214).value), rfl, rfl, H, hR1183, hR1186, hs1190⟩
        rintro _ K1432 _ hK1433 ⟨l1320, rs1322, l1323, rs1325, v1326, l1327, i1329, i1330, rfl, rfl, H, hR1321, hR1324, hs1328⟩
        unfold M_law16_made_J3 at H
        refine Cw_region ?_
        refine Ow_q rfl rfl rfl (Qt_move rfl) ?_
        refine Ow_q rfl rfl rfl (Qt_arith (e := wI (i1191 + 1)) rfl rfl rfl rfl) ?_
        refine Ow_q rfl rfl rfl (Qt_assign rfl) ?_
        refine Ow_nil ?_
        refine Shift.pull (.there (.there (.there (.there (.there (.there (.there .here))))))) ?_
        refine Shift.pull (.there (.there (.there (.there (.there (.there (.there .here))))))) ?_
        refine Shift.pull (.there (.there (.there (.there (.there (.there (.there .here))))))) ?_
        refine Shift.pull (.there (.there (.there (.there (.there (.there (.there .here))))))) ?_
        refine Shift.pull (.there (.there (.there (.there (.there (.there (.there .here))))))) ?_
        refine Shift.pull (.there (.there (.there (.there (.there (.there (.there .here))))))) ?_
        refine Shift.pull (.there (.there (.there (.there (.there (.there (.there .here))))))) ?_
        refine Shift.pull (.there (.there (.there (.there (.there (.there (.there .here))))))) ?_
        refine Shift.done ?_
        exact ⟨[(4, (.pointer (some ((⟨b607, 0, none⟩ : Addr).add 0)))), (5, (.pointer (some ((⟨b620, 0, none⟩ : Addr).add 0)))), (6, (sv v626)), (7, (sv v643)), (8, (sv v647)), (9, (sv v1326)), (10, (.int .i64 (wI (i1191 + 1))))], ⟨rfl, rfl, rfl, rfl, rfl, rfl, rfl, trivial⟩, _, Nat.lt_succ_self _, l1320, rs1322, l1323, rs1325, v1326, l1327, (wI (i1191 + 1)), i1329, i1330, rfl, rfl, (hkk1199 ▸ H), hR1321, hR1324, hs1328⟩
      · intro h1219
        have H := iff_ (btf h1219) H
        refine Cw_exit ?_
        refine Shift.pull (.there (.there (.there (.there (.there .here))))) ?_
        refine Shift.pull (.there (.there (.there (.there (.there .here))))) ?_
        refine Shift.rem (.there (.there .here)) ?_
        refine Shift.rem (.there (.there .here)) ?_
        refine Shift.rem (.there (.there .here)) ?_
        refine Shift.rem (.there (.there .here)) ?_
        refine Shift.rem (.there (.there .here)) ?_
        refine Shift.rem (.there (.there .here)) ?_
        refine Shift.done ?_
        exact ⟨[(6, (sv v626)), (9, (sv v1188))], ⟨rfl, rfl, trivial⟩, v1188, l1189, rfl, rfl, H, hs1190⟩
    rintro _ K1434 _ hK1435 ⟨v921, l922, rfl, rfl, H, hs923⟩
    unfold M_law16_made_J1 at H
    refine Cw_seq ?_
    refine Cw_region ?_
    refine Ow_q rfl rfl rfl (Qt_move rfl) ?_
    refine Ow_q rfl rfl rfl (Qt_move rfl) ?_
    refine Ow_q rfl rfl rfl (Qt_assign rfl) ?_
    refine Ow_q rfl rfl rfl (Qt_assign rfl) ?_
    refine Ow_nil ?_
    refine Cw_ret ?_
    obtain ⟨ey0, ey1⟩ := inj2 H
    subst y0 y1
    refine ⟨(by first | exact .inl rfl | exact .inr rfl), [(sv v626), (sv v921)], ⟨(sv v626), _, rfl, rfl, ⟨(sv v921), _, rfl, rfl, rfl⟩⟩, ?_⟩
    refine Shift.pull (.there .here) ?_
    have hs1436 := (hs630).mono hK1435
    refine Shift.done ?_
    exact ⟨v626, rs627, v921, rfl, rfl, hs1436, hs923⟩
  · skip
    refine id (Ax_mk rfl rfl (O_make (T := Ty.bool) (r := [(.bool false)]) rfl rfl rfl hx638 rfl rfl rfl rfl rfl rfl rfl rfl rfl rfl (fun v1437 rs1438 hR1439 hz1440 => ⟨(Inc.cons (.tail _ (.head _)) (Inc.cons (.tail _ (.tail _ (.head _))) (Inc.cons (.tail _ (.tail _ (.tail _ (.head _)))) (Inc.cons (.tail _ (.tail _ (.tail _ (.tail _ (.head _))))) (Inc.cons (.tail _ (.tail _ (.tail _ (.tail _ (.tail _ (.head _)))))) Inc.nil))))), ?_⟩)))
    refine Aw_one 2 (by kernel_rfl) (Ax_mk rfl rfl (O_make (T := Ty.i64) (r := [(.int .i64 0)]) rfl rfl rfl hx632 rfl rfl rfl rfl rfl rfl rfl rfl rfl rfl (fun v1441 rs1442 hR1443 hz1444 => ⟨(Inc.cons (.tail _ (.tail _ (.head _))) (Inc.cons (.tail _ (.tail _ (.tail _ (.head _)))) (Inc.cons (.tail _ (.tail _ (.tail _ (.tail _ (.head _))))) (Inc.cons (.tail _ (.tail _ (.tail _ (.tail _ (.tail _ (.head _)))))) (Inc.cons (.tail _ (.tail _ (.tail _ (.tail _ (.tail _ (.tail _ (.head _))))))) Inc.nil))))), ?_⟩)))
    refine Aw_q 6 rfl (by kernel_rfl) (by kernel_rfl) (by kernel_rfl) rfl rfl rfl (Qt_assign rfl) ?_
    refine Aw_q 7 rfl (by kernel_rfl) (by kernel_rfl) (by kernel_rfl) rfl rfl rfl (Qt_assign rfl) ?_
    refine Aw_done (by kernel_rfl) ?_
    refine Cw_seq ?_
    refine Cw_region ?_
    refine Ow_q rfl rfl rfl (Qt_assign rfl) ?_
    refine Ow_nil ?_
    refine Cw_join (fun env' K' G' => ∃ (v1715 : SV) (l1716 : List Event), [(6, (sv v626)), (9, (sv v1715))] = env' ∧ (.tok 34 8 [(sv v1715)]) :: (.row (sv v626) 74 1 rs627.flatten) :: G = G' ∧ M_law16_made_J4 x621 l1716 = some (y0, y1) ∧ Slr TyEvent K' (sv v1715) l1716) ?_ ?_
    · skip
      refine Cw_seq ?_
      refine Cw_region ?_
      refine Ow_q rfl rfl rfl (Qt_assign rfl) ?_
      refine Ow_nil ?_
      refine Cw_block ?_
      refine Cw_loopM (fun n1988 env' K' G' => ∃ (l1976 : List Int) (rs1978 : List (List Value)) (l1979 : List Bool) (rs1981 : List (List Value)) (v1982 : SV) (l1983 : List Event) (i1985 : Int) (i1986 : Int) (i1987 : Int), [(4, (.pointer (some ((⟨b607, 0, none⟩ : Addr).add 0)))), (5, (.pointer (some ((⟨b620, 0, none⟩ : Addr).add 0)))), (6, (sv v626)), (7, (sv v1441)), (8, (sv v1437)), (9, (sv v1982)), (10, (.int .i64 i1985))] = env' ∧ (.blk b620 77 (Config.cells x610 v614 v615)) :: (.blk b607 93 (Draw_Codes.cells (Draw_Codes.mk x605.list i1986 i1987) v608)) :: (.row (sv v1441) 3 1 rs1978.flatten) :: (.row (sv v1437) 4 1 rs1981.flatten) :: (.tok 34 8 [(sv v1982)]) :: (.row (sv v626) 74 1 rs627.flatten) :: (.tok 3 1 [(sv v614)]) :: (.tok 30 1 [(sv v615)]) :: G = G' ∧ lp6 (M_law16_made_L2 x621 x610 x605) n1988 l1976 l1979 l1983 i1985 i1986 i1987 = some (y0, y1) ∧ RowR Ty.i64 K' rs1978 l1976 ∧ RowR Ty.bool K' rs1981 l1979 ∧ Slr TyEvent K' (sv v1982) l1983) BIG ?_ ?_
      · skip
        refine Shift.nilTok1 34 8 ?_
        refine Shift.pull (.there (.there (.there (.there (.there (.there (.there .here))))))) ?_
        refine Shift.pull (.there (.there (.there (.there (.there (.there (.there .here))))))) ?_
        refine Shift.pull (.there (.there (.there (.there (.there (.there .here)))))) ?_
        refine Shift.pull (.there (.there (.there .here))) ?_
        refine Shift.pull (.there (.there (.there (.there (.there .here))))) ?_
        refine Shift.pull (.there (.there (.there (.there (.there .here))))) ?_
        refine Shift.pull (.there (.there (.there (.there (.there (.there .here)))))) ?_
        refine Shift.pull (.there (.there (.there (.there (.there (.there (.there .here))))))) ?_
        refine Shift.done ?_
        exact ⟨[(4, (.pointer (some ((⟨b607, 0, none⟩ : Addr).add 0)))), (5, (.pointer (some ((⟨b620, 0, none⟩ : Addr).add 0)))), (6, (sv v626)), (7, (sv v1441)), (8, (sv v1437)), (9, (sv nilS)), (10, (.int .i64 0))], ⟨rfl, rfl, rfl, rfl, rfl, rfl, rfl, trivial⟩, x631, rs1442, x637, rs1438, nilS, ([] : List Event), 0, x622, x623, rfl, rfl, H, hR1443, hR1439, (Slr.nil TyEvent _)⟩
      rintro n1988 _ K1989 _ hK1990 ⟨l1976, rs1978, l1979, rs1981, v1982, l1983, i1985, i1986, i1987, rfl, rfl, H, hR1977, hR1980, hs1984⟩
      obtain ⟨m1991, k1992, rfl, hkk1993, H⟩ := lps6 H
      unfold M_law16_made_L2 at H
      refine Cw_seq ?_
      refine Cw_join (fun env' K' G' => ∃ (t2006 : Bool) (i2007 : Int) (i2008 : Int), [(4, (.pointer (some ((⟨b607, 0, none⟩ : Addr).add 0)))), (5, (.pointer (some ((⟨b620, 0, none⟩ : Addr).add 0)))), (6, (sv v626)), (7, (sv v1441)), (8, (sv v1437)), (9, (sv v1982)), (10, (.int .i64 i1985)), (30, (.bool t2006))] = env' ∧ K1989 = K' ∧ (.blk b620 77 (Config.cells x610 v614 v615)) :: (.blk b607 93 (Draw_Codes.cells (Draw_Codes.mk x605.list i2007 i2008) v608)) :: (.row (sv v1441) 3 1 rs1978.flatten) :: (.row (sv v1437) 4 1 rs1981.flatten) :: (.tok 34 8 [(sv v1982)]) :: (.row (sv v626) 74 1 rs627.flatten) :: (.tok 3 1 [(sv v614)]) :: (.tok 30 1 [(sv v615)]) :: G = G' ∧ M_law16_made_J5 x621 l1976 l1979 l1983 i1985 x610 x605 k1992 t2006 i2007 i2008 = some (y0, y1)) ?_ ?_
      · skip
        refine Cw_region ?_
        refine Ow_q rfl rfl rfl (Qt_move rfl) ?_
        refine Ow_q rfl rfl rfl (Qt_cmp rfl rfl rfl) ?_
        refine Ow_q rfl rfl rfl (Qt_move rfl) ?_
        refine Ow_caseG rfl rfl rfl ?_ ?_
        · intro h2009
          have h2009 := dcd_t (h2009)
          have H := ift h2009 H
          refine Ow_qw rfl rfl rfl rfl rfl rfl (Qt_move rfl) ?_
          obtain ⟨x2010, hx2011, H⟩ := bnd H
          refine Ow.shift (Shift.pull (.there .here) (Shift.done ?_))
          have hs2012 := ((hs625).mono hK629).mono hK1990
          refine Ow_want rfl rfl rfl rfl (OpW_call rfl Try.call39 rfl rfl (c_M_draw_Codes_Left b607 (Draw_Codes.mk x605.list i1986 i1987) v608 x2010 hx2011 _ _ hs2012) ?_)
          rintro _ _ _ - ⟨rfl, rfl, rfl⟩
          refine Ow_q rfl rfl rfl (Qt_pick_t rfl rfl) ?_
          refine Ow_nil ?_
          refine Shift.pull (.there (.there (.there (.there (.there (.there (.there .here))))))) ?_
          refine Shift.pull (.there (.there (.there (.there (.there (.there (.there .here))))))) ?_
          refine Shift.pull (.there (.there (.there (.there (.there (.there (.there .here))))))) ?_
          refine Shift.pull (.there (.there (.there (.there (.there (.there (.there .here))))))) ?_
          refine Shift.pull (.there (.there (.there (.there (.there (.there (.there .here))))))) ?_
          refine Shift.pull (.there (.there (.there (.there (.there (.there (.there .here))))))) ?_
          refine Shift.pull (.there (.there (.there (.there (.there (.there .here)))))) ?_
          refine Shift.pull (.there (.there (.there (.there (.there (.there (.there .here))))))) ?_
          refine Shift.done ?_
          exact ⟨[(4, (.pointer (some ((⟨b607, 0, none⟩ : Addr).add 0)))), (5, (.pointer (some ((⟨b620, 0, none⟩ : Addr).add 0)))), (6, (sv v626)), (7, (sv v1441)), (8, (sv v1437)), (9, (sv v1982)), (10, (.int .i64 i1985)), (30, (.bool x2010))], ⟨rfl, rfl, rfl, rfl, rfl, rfl, rfl, rfl, trivial⟩, x2010, ((Draw_Codes.mk x605.list i1986 i1987).at_), ((Draw_Codes.mk x605.list i1986 i1987).value), rfl, rfl, rfl, H⟩
        · intro h2009
          have h2009 := dcd_f (h2009)
          have H := iff_ h2009 H
          refine Ow_pass rfl rfl rfl rfl rfl rfl rfl ?_
          refine Ow_pass rfl rfl rfl rfl rfl rfl rfl ?_
          refine Ow_q rfl rfl rfl (Qt_pick_f rfl rfl) ?_
          refine Ow_nil ?_
          refine Shift.pull (.there (.there (.there (.there (.there (.there (.there .here))))))) ?_
          refine Shift.pull (.there (.there (.there (.there (.there (.there (.there .here))))))) ?_
          refine Shift.pull (.there (.there (.there (.there (.there (.there (.there .here))))))) ?_
          refine Shift.pull (.there (.there (.there (.there (.there (.there (.there .here))))))) ?_
          refine Shift.pull (.there (.there (.there (.there (.there (.there (.there .here))))))) ?_
          refine Shift.pull (.there (.there (.there (.there (.there (.there (.there .here))))))) ?_
          refine Shift.pull (.there (.there (.there (.there (.there (.there (.there .here))))))) ?_
          refine Shift.pull (.there (.there (.there (.there (.there (.there (.there .here))))))) ?_
          refine Shift.done ?_
          exact ⟨[(4, (.pointer (some ((⟨b607, 0, none⟩ : Addr).add 0)))), (5, (.pointer (some ((⟨b620, 0, none⟩ : Addr).add 0)))), (6, (sv v626)), (7, (sv v1441)), (8, (sv v1437)), (9, (sv v1982)), (10, (.int .i64 i1985)), (30, (.bool false))], ⟨rfl, rfl, rfl, rfl, rfl, rfl, rfl, rfl, trivial⟩, false, i1986, i1987, rfl, rfl, rfl, H⟩
      rintro _ _ _ - ⟨t2006, i2007, i2008, rfl, rfl, rfl, H⟩
      unfold M_law16_made_J5 at H
      refine Cw_cond rfl ?_ ?_
      · intro h2013
        have H := ift h2013 H
        refine Cw_skip ?_
        refine Cw_join (fun env' K' G' => ∃ (l2114 : List Int) (rs2116 : List (List Value)) (l2117 : List Bool) (rs2119 : List (List Value)) (v2120 : SV) (l2121 : List Event) (i2123 : Int) (i2124 : Int), [(4, (.pointer (some ((⟨b607, 0, none⟩ : Addr).add 0)))), (5, (.pointer (some ((⟨b620, 0, none⟩ : Addr).add 0)))), (6, (sv v626)), (7, (sv v1441)), (8, (sv v1437)), (9, (sv v2120)), (10, (.int .i64 i1985))] = env' ∧ (.blk b620 77 (Config.cells x610 v614 v615)) :: (.blk b607 93 (Draw_Codes.cells (Draw_Codes.mk x605.list i2123 i2124) v608)) :: (.row (sv v1441) 3 1 rs2116.flatten) :: (.row (sv v1437) 4 1 rs2119.flatten) :: (.tok 34 8 [(sv v2120)]) :: (.row (sv v626) 74 1 rs627.flatten) :: (.tok 3 1 [(sv v614)]) :: (.tok 30 1 [(sv v615)]) :: G = G' ∧ M_law16_made_J6 x621 i1985 x610 x605 k1992 l2114 l2117 l2121 i2123 i2124 = some (y0, y1) ∧ RowR Ty.i64 K' rs2116 l2114 ∧ RowR Ty.bool K' rs2119 l2117 ∧ Slr TyEvent K' (sv v2120) l2121) ?_ ?_
        · skip
          refine Cw_block ?_
          refine Cw_seq ?_
          refine Cw_region ?_
          refine Ow_q rfl rfl rfl (Qt_move rfl) ?_
          refine Ow_q rfl rfl rfl (Qt_fieldAddr (m := 2) rfl rfl rfl rfl rfl) ?_
          refine Ow_q rfl rfl rfl (Qt_load1 (v := (.int .i64 x610.threads)) rfl rfl rfl (Rdc.blk (.head _) rfl)) ?_
          obtain ⟨x2125, x2126, hx2127, H⟩ := bnd2 H
          refine Ow.shift (Shift.pull (.there .here) (Shift.done ?_))
          have hs2128 := ((hs625).mono hK629).mono hK1990
          refine Ow_cons rfl (OpW_call rfl Try.call40 rfl rfl (c_M_draw_Codes_Next b607 (Draw_Codes.mk x605.list i2007 i2008) v608 x610.threads x2125 x2126 hx2127 _ _ hs2128) ?_)
          rintro _ _ _ - ⟨rfl, rfl, rfl⟩
          refine Ow_q rfl rfl rfl (Qt_assign rfl) ?_
          refine Ow_nil ?_
          refine Cw_block ?_
          refine Cw_seq ?_
          refine Cw_region ?_
          refine Ow_q rfl rfl rfl (Qt_move rfl) ?_
          refine Ow_q rfl rfl rfl (Qt_move rfl) ?_
          obtain ⟨x2129, hx2130, H⟩ := bnd H
          obtain ⟨r2131, hq2132, hr2133⟩ := RowR.at hR1980 hx2130
          obtain rfl := hr2133
          refine Ow_q rfl rfl rfl (Q_ixR (T := Ty.bool) (.tail _ (.tail _ (.tail _ (.head _)))) hR1980 hq2132 (getI_ix hx2130).1 rfl rfl rfl rfl rfl) ?_
          refine Ow_q rfl rfl rfl (Qt_load1 (v := (.bool x2129)) rfl rfl rfl (Rd_row (T := Ty.bool) (.tail _ (.tail _ (.tail _ (.head _)))) hR1980 hq2132 rfl rfl)) ?_
          refine Ow_q rfl rfl rfl (Qt_assign rfl) ?_
          refine Ow_nil ?_
          refine Cw_cond rfl ?_ ?_
          · intro h2134
            have H := ift h2134 H
            refine Cw_seq ?_
            obtain ⟨x2135, hx2136, H⟩ := bnd H
            obtain ⟨x2140, x2141, hx2142, H⟩ := bnd2 H
            obtain ⟨x2145, hx2146, H⟩ := bnd H
            refine Cw_region_any [.blk b620 77 (Config.cells x610 v614 v615), .row (sv v1441) 3 1 rs1978.flatten, .row (sv v1437) 4 1 rs1981.flatten, .row (sv v626) 74 1 rs627.flatten, .tok 3 1 [(sv v614)], .tok 30 1 [(sv v615)]] rfl (Inc.cons (.tail _ (.head _)) (Inc.cons (.tail _ (.tail _ (.head _))) (Inc.cons (.tail _ (.tail _ (.tail _ (.head _)))) (Inc.cons (.tail _ (.tail _ (.tail _ (.tail _ (.tail _ (.head _)))))) (Inc.cons (.tail _ (.tail _ (.tail _ (.tail _ (.tail _ (.tail _ (.head _))))))) (Inc.cons (.tail _ (.tail _ (.tail _ (.tail _ (.tail _ (.tail _ (.tail _ (.head _)))))))) Inc.nil)))))) ?_
            refine Aw_q 0 rfl (by kernel_rfl) (by kernel_rfl) (by kernel_rfl) rfl rfl rfl (Qt_move rfl) ?_
            refine Aw_q 1 rfl (by kernel_rfl) (by kernel_rfl) (by kernel_rfl) rfl rfl rfl (Qt_move rfl) ?_
            refine Aw_q 2 rfl (by kernel_rfl) (by kernel_rfl) (by kernel_rfl) rfl rfl rfl (Qt_move rfl) ?_
            refine Aw_q 3 rfl (by kernel_rfl) (by kernel_rfl) (by kernel_rfl) rfl rfl rfl (Qt_move rfl) ?_
            obtain ⟨r2151, hq2152, hr2153⟩ := RowR.at hR1977 hx2136
            obtain rfl := hr2153
            refine Aw_q 4 rfl (by kernel_rfl) (by kernel_rfl) (by kernel_rfl) rfl rfl rfl (Q_ixR (T := Ty.i64) (.tail _ (.head _)) hR1977 hq2152 (getI_ix hx2136).1 rfl rfl rfl rfl rfl) ?_
            refine Aw_q 5 rfl (by kernel_rfl) (by kernel_rfl) (by kernel_rfl) rfl rfl rfl (Qt_load1 (v := (.int .i64 x2135)) rfl rfl rfl (Rd_row (T := Ty.i64) (.tail _ (.head _)) hR1977 hq2152 rfl rfl)) ?_
            refine Aw_q 6 rfl (by kernel_rfl) (by kernel_rfl) (by kernel_rfl) rfl rfl rfl (Qt_move rfl) ?_
            refine Aw_one 7 (by kernel_rfl) (Ax_mk rfl rfl (OpW_call rfl Try.call40 rfl rfl (c_M_draw_Codes_Next b607 (Draw_Codes.mk x605.list x2126 ((Draw_Codes.mk x605.list i2007 i2008).value)) v608 7 x2140 x2141 hx2142 _ _ hs2128) ?_))
            rintro _ _ _ - ⟨rfl, rfl, rfl⟩
            refine ⟨(Inc.cons (.tail _ (.head _)) (Inc.cons (.tail _ (.tail _ (.head _))) (Inc.cons (.tail _ (.tail _ (.tail _ (.head _)))) (Inc.cons (.tail _ (.tail _ (.tail _ (.tail _ (.tail _ (.head _)))))) (Inc.cons (.tail _ (.tail _ (.tail _ (.tail _ (.tail _ (.tail _ (.head _))))))) (Inc.cons (.tail _ (.tail _ (.tail _ (.tail _ (.tail _ (.tail _ (.tail _ (.head _)))))))) Inc.nil)))))), ?_⟩
            refine Aw_q 8 rfl (by kernel_rfl) (by kernel_rfl) (by kernel_rfl) rfl rfl rfl (Qt_arith (e := wI (1 + x2140)) rfl rfl rfl rfl) ?_
            refine Aw_q 9 rfl (by kernel_rfl) (by kernel_rfl) (by kernel_rfl) rfl rfl rfl (Qt_build (cs := (Result.cells (Result.mk (wI (1 + x2140)) (-1) 0 false 0))) rfl rfl rfl rfl rfl rfl) ?_
            refine Aw_q 10 rfl (by kernel_rfl) (by kernel_rfl) (by kernel_rfl) rfl rfl rfl (Qt_build (cs := (Event.cells (Event.mk x2125 x2135 true (Result.mk (wI (1 + x2140)) (-1) 0 false 0)))) rfl rfl rfl rfl rfl rfl) ?_
            have hR2155 : RowR TyEvent K1989 [(Event.cells (Event.mk x2125 x2135 true (Result.mk (wI (1 + x2140)) (-1) 0 false 0)))] [(Event.mk x2125 x2135 true (Result.mk (wI (1 + x2140)) (-1) 0 false 0))] := RowR.cons rfl (RowR.nil)
            refine Aw_one 11 (by kernel_rfl) (Ax_mk rfl rfl (O_lit (T := TyEvent) (rows := [(Event.cells (Event.mk x2125 x2135 true (Result.mk (wI (1 + x2140)) (-1) 0 false 0)))]) (l := [(Event.mk x2125 x2135 true (Result.mk (wI (1 + x2140)) (-1) 0 false 0))]) rfl rfl rfl hR2155 rfl rfl rfl rfl rfl rfl rfl rfl (fun v2154 => ⟨(Inc.cons (.tail _ (.tail _ (.head _))) (Inc.cons (.tail _ (.tail _ (.tail _ (.head _)))) (Inc.cons (.tail _ (.tail _ (.tail _ (.tail _ (.head _))))) (Inc.cons (.tail _ (.tail _ (.tail _ (.tail _ (.tail _ (.tail _ (.head _))))))) (Inc.cons (.tail _ (.tail _ (.tail _ (.tail _ (.tail _ (.tail _ (.tail _ (.head _)))))))) (Inc.cons (.tail _ (.tail _ (.tail _ (.tail _ (.tail _ (.tail _ (.tail _ (.tail _ (.head _))))))))) Inc.nil)))))), ?_⟩)))
            refine Aw_one 12 (by kernel_rfl) (Ax_mk rfl rfl (O_appTok (T := TyEvent) (bytes := 64) (q := 0) rfl rfl rfl hs1984 (.tail _ (.tail _ (.tail _ (.tail _ (.tail _ (.head _)))))) rfl (SrcT.row (.head _) hR2155 rfl) hx2146 rfl rfl rfl rfl rfl rfl rfl rfl (fun v2156 K2157 hK2158 hs2159 => ⟨_, (.there (.there (.there (.there (.there .here))))), ⟨(Inc.cons (.tail _ (.tail _ (.head _))) (Inc.cons (.tail _ (.tail _ (.tail _ (.head _)))) (Inc.cons (.tail _ (.tail _ (.tail _ (.tail _ (.head _))))) (Inc.cons (.tail _ (.tail _ (.tail _ (.tail _ (.tail _ (.tail _ (.head _))))))) (Inc.cons (.tail _ (.tail _ (.tail _ (.tail _ (.tail _ (.tail _ (.tail _ (.head _)))))))) (Inc.cons (.tail _ (.tail _ (.tail _ (.tail _ (.tail _ (.tail _ (.tail _ (.tail _ (.head _))))))))) Inc.nil)))))), ?_⟩⟩)))
            refine Aw.shift (Shift.rem .here (Shift.done ⟨(Inc.cons (.tail _ (.head _)) (Inc.cons (.tail _ (.tail _ (.head _))) (Inc.cons (.tail _ (.tail _ (.tail _ (.head _)))) (Inc.cons (.tail _ (.tail _ (.tail _ (.tail _ (.tail _ (.head _)))))) (Inc.cons (.tail _ (.tail _ (.tail _ (.tail _ (.tail _ (.tail _ (.head _))))))) (Inc.cons (.tail _ (.tail _ (.tail _ (.tail _ (.tail _ (.tail _ (.tail _ (.head _)))))))) Inc.nil)))))), ?_⟩))
            refine Aw_q 13 rfl (by kernel_rfl) (by kernel_rfl) (by kernel_rfl) rfl rfl rfl (Qt_assign rfl) ?_
            refine Aw_done (by kernel_rfl) ?_
            refine Cw_seq ?_
            refine Cw_region ?_
            refine Ow_q rfl rfl rfl (Qt_move rfl) ?_
            refine Ow_q rfl rfl rfl (Qt_move rfl) ?_
            obtain ⟨x2160, hx2161, H⟩ := bnd H
            have hs2162 := (hR1977).mono hK2158
            obtain ⟨r2163, hq2164, hr2165⟩ := RowR.at hs2162 hx2161
            obtain rfl := hr2165
            refine Ow_q rfl rfl rfl (Q_ixR (T := Ty.i64) (.tail _ (.tail _ (.head _))) hs2162 hq2164 (getI_ix hx2161).1 rfl rfl rfl rfl rfl) ?_
            refine Ow_q rfl rfl rfl (Qt_load1 (v := (.int .i64 x2160)) rfl rfl rfl (Rd_row (T := Ty.i64) (.tail _ (.tail _ (.head _))) hs2162 hq2164 rfl rfl)) ?_
            refine Ow_q rfl rfl rfl (Qt_arith (e := wI (x2160 + 1)) rfl rfl rfl rfl) ?_
            obtain ⟨x2166, hx2167, H⟩ := bnd H
            obtain ⟨r2168, hq2169, hr2170⟩ := RowR.at hs2162 hx2167
            obtain rfl := hr2170
            refine Ow_q rfl rfl rfl (Q_ixR (T := Ty.i64) (.tail _ (.tail _ (.head _))) hs2162 hq2169 (getI_ix hx2167).1 rfl rfl rfl rfl rfl) ?_
            refine Ow_cons rfl (O_storeR (T := Ty.i64) (vs := [(.int .i64 (wI (x2160 + 1)))]) (r' := [(.int .i64 (wI (x2160 + 1)))]) (l' := (setI l1976 x2125 (wI (x2160 + 1)))) rfl rfl rfl rfl rfl (.there (.there .here)) hs2162 hq2169 rfl rfl rfl (RowR.set x2125 hs2162 rfl) (fun hR2171 => ?_))
            have hE2172 := set_at hq2169 (v := [(.int .i64 (wI (x2160 + 1)))])
            refine Ow_nil ?_
            refine Cw_region ?_
            refine Ow_q rfl rfl rfl (Qt_move rfl) ?_
            refine Ow_q rfl rfl rfl (Qt_move rfl) ?_
            obtain ⟨x2173, hx2174, H⟩ := bnd H
            have hs2175 := (hR1980).mono hK2158
            obtain ⟨r2176, hq2177, hr2178⟩ := RowR.at hs2175 hx2174
            obtain rfl := hr2178
            refine Ow_q rfl rfl rfl (Q_ixR (T := Ty.bool) (.tail _ (.tail _ (.tail _ (.head _)))) hs2175 hq2177 (getI_ix hx2174).1 rfl rfl rfl rfl rfl) ?_
            refine Ow_cons rfl (O_storeR (T := Ty.bool) (vs := [(.bool false)]) (r' := [(.bool false)]) (l' := (setI l1979 x2125 false)) rfl rfl rfl rfl rfl (.there (.there (.there .here))) hs2175 hq2177 rfl rfl rfl (RowR.set x2125 hs2175 rfl) (fun hR2179 => ?_))
            have hE2180 := set_at hq2177 (v := [(.bool false)])
            refine Ow_nil ?_
            refine Shift.pull (.there (.there (.there (.there (.there (.there (.there .here))))))) ?_
            refine Shift.pull (.there (.there (.there (.there (.there (.there (.there .here))))))) ?_
            refine Shift.pull (.there (.there (.there (.there (.there (.there (.there .here))))))) ?_
            refine Shift.pull (.there (.there (.there (.there (.there (.there (.there .here))))))) ?_
            refine Shift.pull (.there (.there (.there (.there (.there (.there (.there .here))))))) ?_
            refine Shift.pull (.there (.there (.there (.there (.there (.there (.there .here))))))) ?_
            refine Shift.pull (.there (.there (.there (.there (.there (.there .here)))))) ?_
            refine Shift.pull (.there (.there (.there (.there (.there (.there (.there .here))))))) ?_
            refine Shift.done ?_
            exact ⟨[(4, (.pointer (some ((⟨b607, 0, none⟩ : Addr).add 0)))), (5, (.pointer (some ((⟨b620, 0, none⟩ : Addr).add 0)))), (6, (sv v626)), (7, (sv v1441)), (8, (sv v1437)), (9, (sv v2156)), (10, (.int .i64 i1985))], ⟨rfl, rfl, rfl, rfl, rfl, rfl, rfl, trivial⟩, (setI l1976 x2125 (wI (x2160 + 1))), (rs1978.set x2125.toNat [(.int .i64 (wI (x2160 + 1)))]), (setI l1979 x2125 false), (rs1981.set x2125.toNat [(.bool false)]), v2156, x2145, x2141, ((Draw_Codes.mk x605.list x2126 ((Draw_Codes.mk x605.list i2007 i2008).value)).value), rfl, rfl, H, hR2171, hR2179, hs2159⟩
          · intro h2134
            have H := iff_ (btf h2134) H
            refine Cw_seq ?_
            obtain ⟨x2181, hx2182, H⟩ := bnd H
            obtain ⟨x2186, hx2187, H⟩ := bnd H
            refine Cw_region_any [.blk b607 93 (Draw_Codes.cells (Draw_Codes.mk x605.list x2126 ((Draw_Codes.mk x605.list i2007 i2008).value)) v608), .blk b620 77 (Config.cells x610 v614 v615), .row (sv v1441) 3 1 rs1978.flatten, .row (sv v1437) 4 1 rs1981.flatten, .tok 34 8 [(sv v1982)], .row (sv v626) 74 1 rs627.flatten, .tok 3 1 [(sv v614)], .tok 30 1 [(sv v615)]] rfl (Inc.cons (.head _) (Inc.cons (.tail _ (.head _)) (Inc.cons (.tail _ (.tail _ (.head _))) (Inc.cons (.tail _ (.tail _ (.tail _ (.head _)))) (Inc.cons (.tail _ (.tail _ (.tail _ (.tail _ (.head _))))) (Inc.cons (.tail _ (.tail _ (.tail _ (.tail _ (.tail _ (.head _)))))) (Inc.cons (.tail _ (.tail _ (.tail _ (.tail _ (.tail _ (.tail _ (.head _))))))) (Inc.cons (.tail _ (.tail _ (.tail _ (.tail _ (.tail _ (.tail _ (.tail _ (.head _)))))))) Inc.nil)))))))) ?_
            refine Aw_q 0 rfl (by kernel_rfl) (by kernel_rfl) (by kernel_rfl) rfl rfl rfl (Qt_move rfl) ?_
            refine Aw_q 1 rfl (by kernel_rfl) (by kernel_rfl) (by kernel_rfl) rfl rfl rfl (Qt_move rfl) ?_
            obtain ⟨r2194, hq2195, hr2196⟩ := RowR.at hR1977 hx2182
            obtain rfl := hr2196
            refine Aw_q 2 rfl (by kernel_rfl) (by kernel_rfl) (by kernel_rfl) rfl rfl rfl (Q_ixR (T := Ty.i64) (.tail _ (.tail _ (.head _))) hR1977 hq2195 (getI_ix hx2182).1 rfl rfl rfl rfl rfl) ?_
            refine Aw_q 3 rfl (by kernel_rfl) (by kernel_rfl) (by kernel_rfl) rfl rfl rfl (Qt_load1 (v := (.int .i64 x2181)) rfl rfl rfl (Rd_row (T := Ty.i64) (.tail _ (.tail _ (.head _))) hR1977 hq2195 rfl rfl)) ?_
            refine Aw_q 4 rfl (by kernel_rfl) (by kernel_rfl) (by kernel_rfl) rfl rfl rfl (Qt_move rfl) ?_
            refine Aw_q 5 rfl (by kernel_rfl) (by kernel_rfl) (by kernel_rfl) rfl rfl rfl (Qt_move rfl) ?_
            have hs2197 := (hs630).mono hK1990
            obtain ⟨r2198, hq2199, hr2200⟩ := RowR.at hs2197 hx2187
            obtain ⟨v2201, rfl, hs2202⟩ := hr2200
            refine Aw_q 6 rfl (by kernel_rfl) (by kernel_rfl) (by kernel_rfl) rfl rfl rfl (Q_ixR (T := (Ty.sl TyOp)) (.tail _ (.tail _ (.tail _ (.tail _ (.tail _ (.head _)))))) hs2197 hq2199 (getI_ix hx2187).1 rfl rfl rfl rfl rfl) ?_
            refine Aw_q 7 rfl (by kernel_rfl) (by kernel_rfl) (by kernel_rfl) rfl rfl rfl (Qt_load1 (v := (sv v2201)) rfl rfl rfl (Rd_row (T := (Ty.sl TyOp)) (.tail _ (.tail _ (.tail _ (.tail _ (.tail _ (.head _)))))) hs2197 hq2199 rfl rfl)) ?_
            refine Aw_q 8 rfl (by kernel_rfl) (by kernel_rfl) (by kernel_rfl) rfl rfl rfl (Q_len (T := TyOp) hs2202 rfl rfl) ?_
            refine Aw_q 9 rfl (by kernel_rfl) (by kernel_rfl) (by kernel_rfl) rfl rfl rfl (Qt_cmp rfl rfl rfl) ?_
            refine Aw_q 10 rfl (by kernel_rfl) (by kernel_rfl) (by kernel_rfl) rfl rfl rfl (Qt_assign rfl) ?_
            refine Aw_done (by kernel_rfl) ?_
            refine Cw_cond rfl ?_ ?_
            · intro h2203
              have h2203 := dcd_t (h2203)
              have H := ift h2203 H
              refine Cw_seq ?_
              refine Cw_region ?_
              refine Ow_q rfl rfl rfl (Qt_move rfl) ?_
              refine Ow_q rfl rfl rfl (Qt_move rfl) ?_
              refine Ow_q rfl rfl rfl (Qt_move rfl) ?_
              refine Ow_q rfl rfl rfl (Qt_move rfl) ?_
              obtain ⟨x2204, hx2205, H⟩ := bnd H
              obtain ⟨r2206, hq2207, hr2208⟩ := RowR.at hR1977 hx2205
              obtain rfl := hr2208
              refine Ow_q rfl rfl rfl (Q_ixR (T := Ty.i64) (.tail _ (.tail _ (.head _))) hR1977 hq2207 (getI_ix hx2205).1 rfl rfl rfl rfl rfl) ?_
              refine Ow_q rfl rfl rfl (Qt_load1 (v := (.int .i64 x2204)) rfl rfl rfl (Rd_row (T := Ty.i64) (.tail _ (.tail _ (.head _))) hR1977 hq2207 rfl rfl)) ?_
              refine Ow_q rfl rfl rfl (Qt_build (cs := (Event.cells (Event.mk x2125 x2204 false (Result.mk 0 0 0 false 0)))) rfl rfl rfl rfl rfl rfl) ?_
              have hR2210 : RowR TyEvent K1989 [(Event.cells (Event.mk x2125 x2204 false (Result.mk 0 0 0 false 0)))] [(Event.mk x2125 x2204 false (Result.mk 0 0 0 false 0))] := RowR.cons rfl (RowR.nil)
              refine Ow_cons rfl (O_lit (T := TyEvent) (rows := [(Event.cells (Event.mk x2125 x2204 false (Result.mk 0 0 0 false 0)))]) (l := [(Event.mk x2125 x2204 false (Result.mk 0 0 0 false 0))]) rfl rfl rfl hR2210 rfl rfl rfl rfl rfl rfl rfl rfl (fun v2209 => ?_))
              obtain ⟨x2211, hx2212, H⟩ := bnd H
              refine Ow_cons rfl (O_appTok (T := TyEvent) (bytes := 64) (q := 0) rfl rfl rfl hs1984 (.tail _ (.tail _ (.tail _ (.tail _ (.tail _ (.head _)))))) rfl (SrcT.row (.head _) hR2210 rfl) hx2212 rfl rfl rfl rfl rfl rfl rfl rfl (fun v2213 K2214 hK2215 hs2216 => ⟨_, (.there (.there (.there (.there (.there .here))))), ?_⟩))
              refine Ow.shift (Shift.rem .here (Shift.done ?_))
              refine Ow_q rfl rfl rfl (Qt_assign rfl) ?_
              refine Ow_nil ?_
              refine Cw_region ?_
              refine Ow_q rfl rfl rfl (Qt_move rfl) ?_
              refine Ow_q rfl rfl rfl (Qt_move rfl) ?_
              obtain ⟨x2217, hx2218, H⟩ := bnd H
              have hs2219 := (hR1980).mono hK2215
              obtain ⟨r2220, hq2221, hr2222⟩ := RowR.at hs2219 hx2218
              obtain rfl := hr2222
              refine Ow_q rfl rfl rfl (Q_ixR (T := Ty.bool) (.tail _ (.tail _ (.tail _ (.head _)))) hs2219 hq2221 (getI_ix hx2218).1 rfl rfl rfl rfl rfl) ?_
              refine Ow_cons rfl (O_storeR (T := Ty.bool) (vs := [(.bool true)]) (r' := [(.bool true)]) (l' := (setI l1979 x2125 true)) rfl rfl rfl rfl rfl (.there (.there (.there .here))) hs2219 hq2221 rfl rfl rfl (RowR.set x2125 hs2219 rfl) (fun hR2223 => ?_))
              have hE2224 := set_at hq2221 (v := [(.bool true)])
              refine Ow_nil ?_
              refine Shift.pull (.there (.there (.there (.there (.there (.there (.there .here))))))) ?_
              refine Shift.pull (.there (.there (.there (.there (.there (.there (.there .here))))))) ?_
              refine Shift.pull (.there (.there (.there (.there (.there (.there (.there .here))))))) ?_
              refine Shift.pull (.there (.there (.there (.there (.there (.there (.there .here))))))) ?_
              refine Shift.pull (.there (.there (.there (.there (.there (.there (.there .here))))))) ?_
              refine Shift.pull (.there (.there (.there (.there (.there (.there (.there .here))))))) ?_
              refine Shift.pull (.there (.there (.there (.there (.there (.there .here)))))) ?_
              refine Shift.pull (.there (.there (.there (.there (.there (.there (.there .here))))))) ?_
              have hs2225 := (hR1977).mono hK2215
              refine Shift.done ?_
              exact ⟨[(4, (.pointer (some ((⟨b607, 0, none⟩ : Addr).add 0)))), (5, (.pointer (some ((⟨b620, 0, none⟩ : Addr).add 0)))), (6, (sv v626)), (7, (sv v1441)), (8, (sv v1437)), (9, (sv v2213)), (10, (.int .i64 i1985))], ⟨rfl, rfl, rfl, rfl, rfl, rfl, rfl, trivial⟩, l1976, rs1978, (setI l1979 x2125 true), (rs1981.set x2125.toNat [(.bool true)]), v2213, x2211, x2126, ((Draw_Codes.mk x605.list i2007 i2008).value), rfl, rfl, H, hs2225, hR2223, hs2216⟩
            · intro h2203
              have h2203 := dcd_f (h2203)
              have H := iff_ h2203 H
              refine Cw_skip ?_
              refine Shift.pull (.there (.there (.there (.there (.there (.there (.there .here))))))) ?_
              refine Shift.pull (.there (.there (.there (.there (.there (.there (.there .here))))))) ?_
              refine Shift.pull (.there (.there (.there (.there (.there (.there (.there .here))))))) ?_
              refine Shift.pull (.there (.there (.there (.there (.there (.there (.there .here))))))) ?_
              refine Shift.pull (.there (.there (.there (.there (.there (.there (.there .here))))))) ?_
              refine Shift.pull (.there (.there (.there (.there (.there (.there (.there .here))))))) ?_
              refine Shift.pull (.there (.there (.there (.there (.there (.there .here)))))) ?_
              refine Shift.pull (.there (.there (.there (.there (.there (.there (.there .here))))))) ?_
              refine Shift.done ?_
              exact ⟨[(4, (.pointer (some ((⟨b607, 0, none⟩ : Addr).add 0)))), (5, (.pointer (some ((⟨b620, 0, none⟩ : Addr).add 0)))), (6, (sv v626)), (7, (sv v1441)), (8, (sv v1437)), (9, (sv v1982)), (10, (.int .i64 i1985))], ⟨rfl, rfl, rfl, rfl, rfl, rfl, rfl, trivial⟩, l1976, rs1978, l1979, rs1981, v1982, l1983, x2126, ((Draw_Codes.mk x605.list i2007 i2008).value), rfl, rfl, H, hR1977, hR1980, hs1984⟩
        rintro _ K2226 _ hK2227 ⟨l2114, rs2116, l2117, rs2119, v2120, l2121, i2123, i2124, rfl, rfl, H, hR2115, hR2118, hs2122⟩
        unfold M_law16_made_J6 at H
        refine Cw_region ?_
        refine Ow_q rfl rfl rfl (Qt_move rfl) ?_
        refine Ow_q rfl rfl rfl (Qt_arith (e := wI (i1985 + 1)) rfl rfl rfl rfl) ?_
        refine Ow_q rfl rfl rfl (Qt_assign rfl) ?_
        refine Ow_nil ?_
        refine Shift.pull (.there (.there (.there (.there (.there (.there (.there .here))))))) ?_
        refine Shift.pull (.there (.there (.there (.there (.there (.there (.there .here))))))) ?_
        refine Shift.pull (.there (.there (.there (.there (.there (.there (.there .here))))))) ?_
        refine Shift.pull (.there (.there (.there (.there (.there (.there (.there .here))))))) ?_
        refine Shift.pull (.there (.there (.there (.there (.there (.there (.there .here))))))) ?_
        refine Shift.pull (.there (.there (.there (.there (.there (.there (.there .here))))))) ?_
        refine Shift.pull (.there (.there (.there (.there (.there (.there (.there .here))))))) ?_
        refine Shift.pull (.there (.there (.there (.there (.there (.there (.there .here))))))) ?_
        refine Shift.done ?_
        exact ⟨[(4, (.pointer (some ((⟨b607, 0, none⟩ : Addr).add 0)))), (5, (.pointer (some ((⟨b620, 0, none⟩ : Addr).add 0)))), (6, (sv v626)), (7, (sv v1441)), (8, (sv v1437)), (9, (sv v2120)), (10, (.int .i64 (wI (i1985 + 1))))], ⟨rfl, rfl, rfl, rfl, rfl, rfl, rfl, trivial⟩, _, Nat.lt_succ_self _, l2114, rs2116, l2117, rs2119, v2120, l2121, (wI (i1985 + 1)), i2123, i2124, rfl, rfl, (hkk1993 ▸ H), hR2115, hR2118, hs2122⟩
      · intro h2013
        have H := iff_ (btf h2013) H
        refine Cw_exit ?_
        refine Shift.pull (.there (.there (.there (.there (.there .here))))) ?_
        refine Shift.pull (.there (.there (.there (.there (.there .here))))) ?_
        refine Shift.rem (.there (.there .here)) ?_
        refine Shift.rem (.there (.there .here)) ?_
        refine Shift.rem (.there (.there .here)) ?_
        refine Shift.rem (.there (.there .here)) ?_
        refine Shift.rem (.there (.there .here)) ?_
        refine Shift.rem (.there (.there .here)) ?_
        refine Shift.done ?_
        exact ⟨[(6, (sv v626)), (9, (sv v1982))], ⟨rfl, rfl, trivial⟩, v1982, l1983, rfl, rfl, H, hs1984⟩
    rintro _ K2228 _ hK2229 ⟨v1715, l1716, rfl, rfl, H, hs1717⟩
    unfold M_law16_made_J4 at H
    refine Cw_seq ?_
    refine Cw_region ?_
    refine Ow_q rfl rfl rfl (Qt_move rfl) ?_
    refine Ow_q rfl rfl rfl (Qt_move rfl) ?_
    refine Ow_q rfl rfl rfl (Qt_assign rfl) ?_
    refine Ow_q rfl rfl rfl (Qt_assign rfl) ?_
    refine Ow_nil ?_
    refine Cw_ret ?_
    obtain ⟨ey0, ey1⟩ := inj2 H
    subst y0 y1
    refine ⟨(by first | exact .inl rfl | exact .inr rfl), [(sv v626), (sv v1715)], ⟨(sv v626), _, rfl, rfl, ⟨(sv v1715), _, rfl, rfl, rfl⟩⟩, ?_⟩
    refine Shift.pull (.there .here) ?_
    have hs2230 := (hs630).mono hK2229
    refine Shift.done ?_
    exact ⟨v626, rs627, v1715, rfl, rfl, hs2230, hs1717⟩


end Go.Hx
