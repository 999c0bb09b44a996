/- Printed by program. -/
import Derived.Test.YtgpoanmjkggijaaXCM
import Derived.Test.YtgpoanmjkggijaaXCWDraw
import Derived.Test.YtgpoanmjkggijaaXCWDraw1
import Derived.Test.YtgpoanmjkggijaaXCWLaw14
import Derived.Test.YtgpoanmjkggijaaXCWLaw141
import Derived.Test.YtgpoanmjkggijaaXCWModel2
import Derived.Test.YtgpoanmjkggijaaXCWModel4
import Derived.Test.YtgpoanmjkggijaaXCWRef145
namespace Go.Hx
open Go Go.Proofs
set_option linter.unusedSimpArgs false
set_option linter.unusedVariables false
set_option maxRecDepth 10000
set_option maxHeartbeats 1000000 in
theorem c_M_law14_ModelCoulds (p0 : List Int) (vp0 : SV) (y0 : Bool) (H : M_law14_ModelCoulds p0 = some y0) (K : Kp) (G : List Ent) (hp0 : Slr Ty.u8 K (sv vp0) p0) :
    Fc Try.prog 8 #[(sv vp0)] K (G) (fun v K' G' => v = (.bool y0) ∧ G = G') := by
  refine Fc_body Try.func8 rfl Try.ntmps8 Try.results8 rfl ?_
  unfold M_law14_ModelCoulds at H
  refine Cw_seq ?_
  refine Cw_region ?_
  refine Ow_q rfl rfl rfl (Qt_assign rfl) ?_
  refine Ow_nil ?_
  refine Cw_seq ?_
  refine Cw_seq ?_
  refine Cw_region ?_
  obtain ⟨x349, hx350, H⟩ := bnd H
  refine Ow_cons rfl (OpW_call rfl Try.call13 rfl rfl (c_M_law14_awake  x349 hx350 _ _ ) ?_)
  rintro _ K351 _ hK352 ⟨rfl, rfl⟩
  refine Ow_q rfl rfl rfl (Qt_not rfl) ?_
  refine Ow_nil ?_
  refine Cw_cond rfl ?_ ?_
  · intro h353
    have h353 := nt_t (h353)
    have H := iff_ (btf h353) H
    refine Cw_seq ?_
    refine Cw_region ?_
    refine Ow_q rfl rfl rfl (Qt_assign rfl) ?_
    refine Ow_nil ?_
    refine Cw_ret ?_
    obtain ey0 := inj1 H
    subst y0
    refine ⟨(by first | exact .inl rfl | exact .inr rfl), [(.bool false)], ⟨(.bool false), _, rfl, rfl, rfl⟩, ?_⟩
    refine Shift.done ?_
    exact ⟨rfl, rfl⟩
  · intro h353
    have h353 := nt_f (h353)
    have H := ift h353 H
    refine Cw_skip ?_
    refine Cw_seq ?_
    refine Cw_region ?_
    refine Ow_q rfl rfl rfl (Qt_move rfl) ?_
    obtain ⟨x354, hx355, H⟩ := bnd H
    have hs356 := (hp0).mono hK352
    refine Ow_cons rfl (OpW_call rfl Try.call14 rfl rfl (c_M_draw_New p0 vp0 200 x354 hx355 _ _ hs356) ?_)
    rintro _ _ _ - ⟨b357, v358, rfl, rfl, rfl, hs359⟩
    refine Ow_q rfl rfl rfl (Qt_assign rfl) ?_
    refine Ow_nil ?_
    refine Cw_seq ?_
    refine Cw_region ?_
    refine Ow_q rfl rfl rfl (Qt_move rfl) ?_
    obtain ⟨x360, x361, x362, hx363, H⟩ := bnd3 H
    refine Ow_cons rfl (OpW_call rfl Try.call15 rfl rfl (c_M_law14_chans b357 x354 v358 x360 x361 x362 hx363 _ _ hs359) ?_)
    rintro _ K366 _ hK367 ⟨v364, rs365, rfl, rfl, hs368⟩
    refine Ow_q rfl rfl rfl (Qt_assign rfl) ?_
    refine Ow_nil ?_
    refine Cw_seq ?_
    refine Cw_region ?_
    refine Ow_q rfl rfl rfl (Qt_move rfl) ?_
    refine Ow.shift (Shift.settle (T := TyChan) (.there .here) hs368 rfl (fun K369 hK370 hs371 => Shift.done ?_))
    obtain ⟨x372, hx373, H⟩ := bnd H
    refine Ow_cons rfl (OpW_call rfl Try.call16 rfl rfl (c_M_law14_config x360 v364 x372 hx373 _ _ hs371) ?_)
    rintro _ K376 _ hK377 ⟨v374, v375, rfl, rfl, hs378, hs379⟩
    refine Ow_cons rfl (OpW_alloc (cs := (Config.cells (Config.mk [] [] 0) nilS nilS)) rfl rfl rfl rfl (fun b380 => ?_))
    refine Ow_cons rfl (OpW_store (vs := (Config.cells x372 v374 v375)) (all' := (Config.cells x372 v374 v375)) rfl rfl rfl rfl rfl .here rfl rfl rfl ?_)
    refine Ow_nil ?_
    refine Cw_join (fun env' K' G' => [] = env' ∧ G = G' ∧ M_law14_ModelCoulds_J1 = some y0) ?_ ?_
    · skip
      refine Cw_seq ?_
      refine Cw_region ?_
      refine Ow_q rfl rfl rfl (Qt_assign rfl) ?_
      refine Ow_nil ?_
      refine Cw_block ?_
      refine Cw_loopM (fun n1003 env' K' G' => ∃ (i1000 : Int) (i1001 : Int) (i1002 : Int), [(3, (.pointer (some ((⟨b357, 0, none⟩ : Addr).add 0)))), (4, (sv v364)), (5, (.pointer (some ((⟨b380, 0, none⟩ : Addr).add 0)))), (6, (.int .i64 i1000))] = env' ∧ (.blk b380 34 (Config.cells x372 v374 v375)) :: (.blk b357 85 (Draw_Codes.cells (Draw_Codes.mk x354.list i1001 i1002) v358)) :: (.tok 3 1 [(sv v374)]) :: (.tok 23 1 [(sv v375)]) :: (.tok 83 3 [(sv v364)]) :: G = G' ∧ lp3 (M_law14_ModelCoulds_L1 x360 x372 x354) n1003 i1000 i1001 i1002 = some y0) BIG ?_ ?_
      · skip
        refine Shift.pull (.there (.there (.there (.there .here)))) ?_
        refine Shift.pull (.there (.there (.there .here))) ?_
        refine Shift.pull (.there (.there (.there .here))) ?_
        refine Shift.pull (.there (.there (.there (.there .here)))) ?_
        refine Shift.pull (.there (.there (.there (.there .here)))) ?_
        refine Shift.rem (.there (.there (.there (.there (.there .here))))) ?_
        refine Shift.done ?_
        exact ⟨[(3, (.pointer (some ((⟨b357, 0, none⟩ : Addr).add 0)))), (4, (sv v364)), (5, (.pointer (some ((⟨b380, 0, none⟩ : Addr).add 0)))), (6, (.int .i64 0))], ⟨rfl, rfl, rfl, rfl, trivial⟩, 0, x361, x362, rfl, rfl, H⟩
      rintro n1003 _ K1004 _ hK1005 ⟨i1000, i1001, i1002, rfl, rfl, H⟩
      obtain ⟨m1006, k1007, rfl, hkk1008, H⟩ := lps3 H
      unfold M_law14_ModelCoulds_L1 at H
      refine Cw_seq ?_
      refine Cw_seq ?_
      refine Cw_region ?_
      refine Ow_q rfl rfl rfl (Qt_move rfl) ?_
      refine Ow_q rfl rfl rfl (Qt_cmp rfl rfl rfl) ?_
      refine Ow_nil ?_
      refine Cw_cond rfl ?_ ?_
      · intro h1010
        have h1010 := dcd_t (h1010)
        have H := ift h1010 H
        refine Cw_skip ?_
        refine Cw_join (fun env' K' G' => ∃ (i1157 : Int) (i1158 : Int), [(3, (.pointer (some ((⟨b357, 0, none⟩ : Addr).add 0)))), (4, (sv v364)), (5, (.pointer (some ((⟨b380, 0, none⟩ : Addr).add 0)))), (6, (.int .i64 i1000))] = env' ∧ (.blk b380 34 (Config.cells x372 v374 v375)) :: (.blk b357 85 (Draw_Codes.cells (Draw_Codes.mk x354.list i1157 i1158) v358)) :: (.tok 3 1 [(sv v374)]) :: (.tok 23 1 [(sv v375)]) :: (.tok 83 3 [(sv v364)]) :: G = G' ∧ M_law14_ModelCoulds_J2 x360 i1000 x372 x354 k1007 i1157 i1158 = some y0) ?_ ?_
        · skip
          refine Cw_block ?_
          refine Cw_seq ?_
          refine Cw_region ?_
          refine Ow_q rfl rfl rfl (Qt_move rfl) ?_
          refine Ow_q rfl rfl rfl (Qt_loadA (m := 3) (cs := (Config.cells x372 v374 v375)) rfl rfl rfl rfl ⟨rfl, Rdc.blk (.head _) rfl⟩) ?_
          obtain ⟨x1159, x1160, x1161, hx1162, H⟩ := bnd3 H
          refine Ow.shift (Shift.pull (.there .here) (Shift.done ?_))
          have hs1163 := ((((hs359).mono hK367).mono hK370).mono hK377).mono hK1005
          have hs1164 := (hs378).mono hK1005
          have hs1165 := (hs379).mono hK1005
          refine Ow_cons rfl (OpW_call rfl Try.call17 rfl rfl (c_M_draw_Codes_Op b357 (Draw_Codes.mk x354.list i1001 i1002) v358 x372 v374 v375 x1159 x1160 x1161 hx1162 _ _ hs1163 hs1164 hs1165) ?_)
          rintro _ K1168 _ hK1169 ⟨v1166, v1167, rfl, rfl, hs1170, hs1171⟩
          refine Ow_cons rfl (OpW_alloc (cs := (Op.cells (Op.mk 0 0 0 0 0 [] []) nilS nilS)) rfl rfl rfl rfl (fun b1172 => ?_))
          refine Ow_cons rfl (OpW_store (vs := (Op.cells x1159 v1166 v1167)) (all' := (Op.cells x1159 v1166 v1167)) rfl rfl rfl rfl rfl .here rfl rfl rfl ?_)
          refine Ow_nil ?_
          refine Cw_seq ?_
          obtain ⟨x1201, hx1202, H⟩ := bnd H
          obtain ⟨x1208, hx1209, H⟩ := bnd H
          refine Cw_region_any [.blk b1172 38 (Op.cells x1159 v1166 v1167), .blk b357 85 (Draw_Codes.cells (Draw_Codes.mk x354.list x1160 x1161) v358), .blk b380 34 (Config.cells x372 v374 v375), .tok 3 1 [(sv v374)], .tok 23 1 [(sv v375)], .tok 83 3 [(sv v364)]] rfl (Inc.cons (.head _) (Inc.cons (.tail _ (.head _)) (Inc.cons (.tail _ (.tail _ (.head _))) (Inc.cons (.tail _ (.tail _ (.tail _ (.head _)))) (Inc.cons (.tail _ (.tail _ (.tail _ (.tail _ (.head _))))) (Inc.cons (.tail _ (.tail _ (.tail _ (.tail _ (.tail _ (.head _)))))) Inc.nil)))))) ?_
          refine Aw_q 0 rfl (by kernel_rfl) (by kernel_rfl) (by kernel_rfl) rfl rfl rfl (Qt_move rfl) ?_
          refine Aw_q 1 rfl (by kernel_rfl) (by kernel_rfl) (by kernel_rfl) rfl rfl rfl (Qt_loadA (m := 7) (cs := (Op.cells x1159 v1166 v1167)) rfl rfl rfl rfl ⟨rfl, Rdc.blk (.head _) rfl⟩) ?_
          refine Aw_q 3 rfl (by kernel_rfl) (by kernel_rfl) (by kernel_rfl) rfl rfl rfl (Qt_move rfl) ?_
          refine Aw_q 4 rfl (by kernel_rfl) (by kernel_rfl) (by kernel_rfl) rfl rfl rfl (Qt_loadA (m := 7) (cs := (Op.cells x1159 v1166 v1167)) rfl rfl rfl rfl ⟨rfl, Rdc.blk (.head _) rfl⟩) ?_
          refine Aw_one 2 (by kernel_rfl) (Ax_mk rfl rfl ?_)
          have hs1217 := (((hs371).mono hK377).mono hK1005).mono hK1169
          refine OpW_call rfl Try.call34 rfl rfl (c_M_model_Could x360 v364 x1159 v1166 v1167 x1201 hx1202 _ _ hs1217 hs1170 hs1171) ?_
          rintro _ K1219 _ hK1220 ⟨v1218, rfl, rfl, hs1221⟩
          refine ⟨(Inc.cons (.tail _ (.head _)) (Inc.cons (.tail _ (.tail _ (.head _))) (Inc.cons (.tail _ (.tail _ (.tail _ (.head _)))) (Inc.cons (.tail _ (.tail _ (.tail _ (.tail _ (.head _))))) (Inc.cons (.tail _ (.tail _ (.tail _ (.tail _ (.tail _ (.head _)))))) (Inc.cons (.tail _ (.tail _ (.tail _ (.tail _ (.tail _ (.tail _ (.head _))))))) Inc.nil)))))), ?_⟩
          refine Aw_one 5 (by kernel_rfl) (Ax_mk rfl rfl ?_)
          have hs1222 := (hs1217).mono hK1220
          have hs1223 := (hs1170).mono hK1220
          have hs1224 := (hs1171).mono hK1220
          refine OpW_call rfl Try.call35 rfl rfl (c_M_ref14_Could x360 v364 x1159 v1166 v1167 x1208 hx1209 _ _ hs1222 hs1223 hs1224) ?_
          rintro _ K1226 _ hK1227 ⟨v1225, rfl, rfl, hs1228⟩
          refine ⟨(Inc.cons (.tail _ (.tail _ (.head _))) (Inc.cons (.tail _ (.tail _ (.tail _ (.head _)))) (Inc.cons (.tail _ (.tail _ (.tail _ (.tail _ (.head _))))) (Inc.cons (.tail _ (.tail _ (.tail _ (.tail _ (.tail _ (.head _)))))) (Inc.cons (.tail _ (.tail _ (.tail _ (.tail _ (.tail _ (.tail _ (.head _))))))) (Inc.cons (.tail _ (.tail _ (.tail _ (.tail _ (.tail _ (.tail _ (.tail _ (.head _)))))))) Inc.nil)))))), ?_⟩
          refine Aw_q 6 rfl (by kernel_rfl) (by kernel_rfl) (by kernel_rfl) rfl rfl rfl (Qt_assign rfl) ?_
          refine Aw_q 7 rfl (by kernel_rfl) (by kernel_rfl) (by kernel_rfl) rfl rfl rfl (Qt_assign rfl) ?_
          refine Aw_done (by kernel_rfl) ?_
          refine Cw_seq ?_
          refine Cw_seq ?_
          refine Cw_region ?_
          refine Ow_q rfl rfl rfl (Qt_move rfl) ?_
          have hs1231 := (hs1221).mono hK1227
          refine Ow_q rfl rfl rfl (Q_len (T := TyResult) hs1231 rfl rfl) ?_
          refine Ow_q rfl rfl rfl (Qt_move rfl) ?_
          refine Ow_q rfl rfl rfl (Q_len (T := TyResult) hs1228 rfl rfl) ?_
          refine Ow_q rfl rfl rfl (Qt_cmp rfl rfl rfl) ?_
          refine Ow_nil ?_
          refine Cw_cond rfl ?_ ?_
          · intro h1232
            have h1232 := dcd_f (nt_t (h1232))
            have H := iff_ h1232 H
            refine Cw_seq ?_
            refine Cw_region ?_
            refine Ow_q rfl rfl rfl (Qt_assign rfl) ?_
            refine Ow_nil ?_
            refine Cw_ret ?_
            obtain ey0 := inj1 H
            subst y0
            refine ⟨(by first | exact .inl rfl | exact .inr rfl), [(.bool false)], ⟨(.bool false), _, rfl, rfl, rfl⟩, ?_⟩
            refine Shift.rem .here ?_
            refine Shift.rem .here ?_
            refine Shift.rem .here ?_
            refine Shift.rem .here ?_
            refine Shift.rem .here ?_
            refine Shift.rem .here ?_
            refine Shift.rem .here ?_
            refine Shift.rem .here ?_
            refine Shift.done ?_
            exact ⟨rfl, rfl⟩
          · intro h1232
            have h1232 := dcd_t (nt_f (h1232))
            have H := ift h1232 H
            refine Cw_skip ?_
            refine Cw_seq ?_
            refine Cw_region ?_
            refine Ow_q rfl rfl rfl (Qt_move rfl) ?_
            refine Ow_q rfl rfl rfl (Q_len (T := TyResult) hs1231 rfl rfl) ?_
            refine Ow_q rfl rfl rfl (Qt_move rfl) ?_
            refine Ow_nil ?_
            refine Cw_block ?_
            refine Cw_loopM (fun n1335 env' K' G' => ∃ (i1334 : Int), [(3, (.pointer (some ((⟨b357, 0, none⟩ : Addr).add 0)))), (4, (sv v364)), (5, (.pointer (some ((⟨b380, 0, none⟩ : Addr).add 0)))), (6, (.int .i64 i1000)), (7, (.pointer (some ((⟨b1172, 0, none⟩ : Addr).add 0)))), (8, (sv v1218)), (9, (sv v1225)), (40, (.int .i64 (x1201.length : Int))), (41, (.int .i64 i1334))] = env' ∧ (.blk b1172 38 (Op.cells x1159 v1166 v1167)) :: (.blk b380 34 (Config.cells x372 v374 v375)) :: (.blk b357 85 (Draw_Codes.cells (Draw_Codes.mk x354.list x1160 x1161) v358)) :: (.tok 25 5 [(sv v1225)]) :: (.tok 25 5 [(sv v1218)]) :: (.tok 3 1 [(sv v374)]) :: (.tok 23 1 [(sv v375)]) :: (.tok 83 3 [(sv v364)]) :: G = G' ∧ lp1 (M_law14_ModelCoulds_L2 x360 i1000 x1201 x1208 x1159 x372 x354 x1160 x1161 k1007) n1335 i1334 = some y0) BIG ?_ ?_
            · skip
              refine Shift.pull (.there (.there (.there (.there (.there (.there (.there .here))))))) ?_
              refine Shift.pull (.there (.there (.there (.there (.there (.there (.there .here))))))) ?_
              refine Shift.pull (.there (.there (.there (.there (.there (.there (.there .here))))))) ?_
              refine Shift.pull (.there (.there (.there (.there .here)))) ?_
              refine Shift.pull (.there (.there (.there (.there .here)))) ?_
              refine Shift.pull (.there (.there (.there (.there (.there (.there .here)))))) ?_
              refine Shift.pull (.there (.there (.there (.there (.there (.there (.there .here))))))) ?_
              refine Shift.pull (.there (.there (.there (.there (.there (.there (.there .here))))))) ?_
              refine Shift.done ?_
              exact ⟨[(3, (.pointer (some ((⟨b357, 0, none⟩ : Addr).add 0)))), (4, (sv v364)), (5, (.pointer (some ((⟨b380, 0, none⟩ : Addr).add 0)))), (6, (.int .i64 i1000)), (7, (.pointer (some ((⟨b1172, 0, none⟩ : Addr).add 0)))), (8, (sv v1218)), (9, (sv v1225)), (40, (.int .i64 (x1201.length : Int))), (41, (.int .i64 0))], ⟨rfl, rfl, rfl, rfl, rfl, rfl, rfl, rfl, rfl, trivial⟩, 0, rfl, rfl, H⟩
            rintro n1335 _ K1336 _ hK1337 ⟨i1334, rfl, rfl, H⟩
            obtain ⟨m1338, k1339, rfl, hkk1340, H⟩ := lps1 H
            unfold M_law14_ModelCoulds_L2 at H
            refine Cw_seq ?_
            refine Cw_region ?_
            refine Ow_q rfl rfl rfl (Qt_cmp rfl rfl rfl) ?_
            refine Ow_nil ?_
            refine Cw_seq ?_
            refine Cw_cond rfl ?_ ?_
            · intro h1342
              have h1342 := dcd_t (h1342)
              have H := ift h1342 H
              refine Cw_skip ?_
              refine Cw_seq ?_
              refine Cw_block ?_
              refine Cw_seq ?_
              refine Cw_region ?_
              refine Ow_q rfl rfl rfl (Qt_move rfl) ?_
              refine Ow_q rfl rfl rfl (Qt_assign rfl) ?_
              refine Ow_nil ?_
              refine Cw_seq ?_
              refine Cw_seq ?_
              obtain ⟨x1411, hx1412, H⟩ := bnd H
              obtain ⟨x1417, hx1418, H⟩ := bnd H
              refine Cw_region_any [.blk b1172 38 (Op.cells x1159 v1166 v1167), .blk b380 34 (Config.cells x372 v374 v375), .blk b357 85 (Draw_Codes.cells (Draw_Codes.mk x354.list x1160 x1161) v358), .tok 25 5 [(sv v1225)], .tok 25 5 [(sv v1218)], .tok 3 1 [(sv v374)], .tok 23 1 [(sv v375)], .tok 83 3 [(sv v364)]] rfl (Inc.cons (.head _) (Inc.cons (.tail _ (.head _)) (Inc.cons (.tail _ (.tail _ (.head _))) (Inc.cons (.tail _ (.tail _ (.tail _ (.head _)))) (Inc.cons (.tail _ (.tail _ (.tail _ (.tail _ (.head _))))) (Inc.cons (.tail _ (.tail _ (.tail _ (.tail _ (.tail _ (.head _)))))) (Inc.cons (.tail _ (.tail _ (.tail _ (.tail _ (.tail _ (.tail _ (.head _))))))) (Inc.cons (.tail _ (.tail _ (.tail _ (.tail _ (.tail _ (.tail _ (.tail _ (.head _)))))))) Inc.nil)))))))) ?_
              refine Aw_q 0 rfl (by kernel_rfl) (by kernel_rfl) (by kernel_rfl) rfl rfl rfl (Qt_move rfl) ?_
              refine Aw_q 1 rfl (by kernel_rfl) (by kernel_rfl) (by kernel_rfl) rfl rfl rfl (Qt_move rfl) ?_
              have hs1423 := (hs1231).mono hK1337
              obtain ⟨r1424, hr1425, hk1426⟩ := Slr.at hs1423 hx1412
              obtain rfl := hr1425
              refine Aw_q 2 rfl (by kernel_rfl) (by kernel_rfl) (by kernel_rfl) rfl rfl rfl (Q_ix (T := TyResult) hs1423 hx1412 rfl rfl rfl rfl rfl) ?_
              refine Aw_q 3 rfl (by kernel_rfl) (by kernel_rfl) (by kernel_rfl) rfl rfl rfl (Qt_loadA (m := 5) (cs := (Result.cells x1411)) rfl rfl rfl rfl ⟨rfl, Rdc.k hk1426 rfl⟩) ?_
              refine Aw_q 4 rfl (by kernel_rfl) (by kernel_rfl) (by kernel_rfl) rfl rfl rfl (Qt_move rfl) ?_
              refine Aw_q 5 rfl (by kernel_rfl) (by kernel_rfl) (by kernel_rfl) rfl rfl rfl (Qt_move rfl) ?_
              have hs1427 := (hs1228).mono hK1337
              obtain ⟨r1428, hr1429, hk1430⟩ := Slr.at hs1427 hx1418
              obtain rfl := hr1429
              refine Aw_q 6 rfl (by kernel_rfl) (by kernel_rfl) (by kernel_rfl) rfl rfl rfl (Q_ix (T := TyResult) hs1427 hx1418 rfl rfl rfl rfl rfl) ?_
              refine Aw_q 7 rfl (by kernel_rfl) (by kernel_rfl) (by kernel_rfl) rfl rfl rfl (Qt_loadA (m := 5) (cs := (Result.cells x1417)) rfl rfl rfl rfl ⟨rfl, Rdc.k hk1430 rfl⟩) ?_
              refine Aw_q 8 rfl (by kernel_rfl) (by kernel_rfl) (by kernel_rfl) rfl rfl rfl (Qt_neS rfl rfl (fun w => Result.eqrun x1411 x1417 w) (by kernel_rfl)) ?_
              refine Aw_done (by kernel_rfl) ?_
              refine Cw_cond rfl ?_ ?_
              · intro h1431
                have h1431 := dcd_f (nt_t (h1431))
                have H := iff_ h1431 H
                refine Cw_seq ?_
                refine Cw_region ?_
                refine Ow_q rfl rfl rfl (Qt_assign rfl) ?_
                refine Ow_nil ?_
                refine Cw_ret ?_
                obtain ey0 := inj1 H
                subst y0
                refine ⟨(by first | exact .inl rfl | exact .inr rfl), [(.bool false)], ⟨(.bool false), _, rfl, rfl, rfl⟩, ?_⟩
                refine Shift.rem .here ?_
                refine Shift.rem .here ?_
                refine Shift.rem .here ?_
                refine Shift.rem .here ?_
                refine Shift.rem .here ?_
                refine Shift.rem .here ?_
                refine Shift.rem .here ?_
                refine Shift.rem .here ?_
                refine Shift.done ?_
                exact ⟨rfl, rfl⟩
              · intro h1431
                have h1431 := dcd_t (nt_f (h1431))
                have H := ift h1431 H
                refine Cw_skip ?_
                refine Cw_seq ?_
                obtain ⟨x1432, hx1433, H⟩ := bnd H
                obtain ⟨x1437, x1438, hx1439, H⟩ := bnd2 H
                refine Cw_region_any [.blk b1172 38 (Op.cells x1159 v1166 v1167), .blk b380 34 (Config.cells x372 v374 v375), .blk b357 85 (Draw_Codes.cells (Draw_Codes.mk x354.list x1160 x1161) v358), .tok 25 5 [(sv v1225)], .tok 25 5 [(sv v1218)], .tok 3 1 [(sv v374)], .tok 23 1 [(sv v375)], .tok 83 3 [(sv v364)]] rfl (Inc.cons (.head _) (Inc.cons (.tail _ (.head _)) (Inc.cons (.tail _ (.tail _ (.head _))) (Inc.cons (.tail _ (.tail _ (.tail _ (.head _)))) (Inc.cons (.tail _ (.tail _ (.tail _ (.tail _ (.head _))))) (Inc.cons (.tail _ (.tail _ (.tail _ (.tail _ (.tail _ (.head _)))))) (Inc.cons (.tail _ (.tail _ (.tail _ (.tail _ (.tail _ (.tail _ (.head _))))))) (Inc.cons (.tail _ (.tail _ (.tail _ (.tail _ (.tail _ (.tail _ (.tail _ (.head _)))))))) Inc.nil)))))))) ?_
                refine Aw_q 0 rfl (by kernel_rfl) (by kernel_rfl) (by kernel_rfl) rfl rfl rfl (Qt_move rfl) ?_
                refine Aw_q 1 rfl (by kernel_rfl) (by kernel_rfl) (by kernel_rfl) rfl rfl rfl (Qt_loadA (m := 7) (cs := (Op.cells x1159 v1166 v1167)) rfl rfl rfl rfl ⟨rfl, Rdc.blk (.head _) rfl⟩) ?_
                refine Aw_q 2 rfl (by kernel_rfl) (by kernel_rfl) (by kernel_rfl) rfl rfl rfl (Qt_move rfl) ?_
                refine Aw_q 3 rfl (by kernel_rfl) (by kernel_rfl) (by kernel_rfl) rfl rfl rfl (Qt_move rfl) ?_
                obtain ⟨r1447, hr1448, hk1449⟩ := Slr.at hs1423 hx1433
                obtain rfl := hr1448
                refine Aw_q 4 rfl (by kernel_rfl) (by kernel_rfl) (by kernel_rfl) rfl rfl rfl (Q_ix (T := TyResult) hs1423 hx1433 rfl rfl rfl rfl rfl) ?_
                refine Aw_q 5 rfl (by kernel_rfl) (by kernel_rfl) (by kernel_rfl) rfl rfl rfl (Qt_loadA (m := 5) (cs := (Result.cells x1432)) rfl rfl rfl rfl ⟨rfl, Rdc.k hk1449 rfl⟩) ?_
                refine Aw_one 6 (by kernel_rfl) (Ax_mk rfl rfl ?_)
                have hs1450 := ((hs1222).mono hK1227).mono hK1337
                have hs1451 := ((hs1223).mono hK1227).mono hK1337
                have hs1452 := ((hs1224).mono hK1227).mono hK1337
                refine OpW_call rfl Try.call19 rfl rfl (c_M_model_Apply x360 v364 x1159 v1166 v1167 x1432 x1437 x1438 hx1439 _ _ hs1450 hs1451 hs1452) ?_
                rintro _ K1454 _ hK1455 ⟨v1453, rfl, rfl, hs1456⟩
                refine ⟨(Inc.cons (.head _) (Inc.cons (.tail _ (.head _)) (Inc.cons (.tail _ (.tail _ (.head _))) (Inc.cons (.tail _ (.tail _ (.tail _ (.head _)))) (Inc.cons (.tail _ (.tail _ (.tail _ (.tail _ (.head _))))) (Inc.cons (.tail _ (.tail _ (.tail _ (.tail _ (.tail _ (.head _)))))) (Inc.cons (.tail _ (.tail _ (.tail _ (.tail _ (.tail _ (.tail _ (.head _))))))) (Inc.cons (.tail _ (.tail _ (.tail _ (.tail _ (.tail _ (.tail _ (.tail _ (.head _)))))))) Inc.nil)))))))), ?_⟩
                refine Aw_q 7 rfl (by kernel_rfl) (by kernel_rfl) (by kernel_rfl) rfl rfl rfl (Qt_move rfl) ?_
                refine Aw_q 8 rfl (by kernel_rfl) (by kernel_rfl) (by kernel_rfl) rfl rfl rfl (Qt_extract rfl rfl) ?_
                refine Aw_q 9 rfl (by kernel_rfl) (by kernel_rfl) (by kernel_rfl) rfl rfl rfl (Qt_extract rfl rfl) ?_
                refine Aw_q 10 rfl (by kernel_rfl) (by kernel_rfl) (by kernel_rfl) rfl rfl rfl (Qt_assign rfl) ?_
                refine Aw_q 11 rfl (by kernel_rfl) (by kernel_rfl) (by kernel_rfl) rfl rfl rfl (Qt_assign rfl) ?_
                refine Aw_done (by kernel_rfl) ?_
                refine Cw_seq ?_
                refine Cw_region ?_
                refine Ow_q rfl rfl rfl (Qt_move rfl) ?_
                refine Ow_q rfl rfl rfl (Qt_not rfl) ?_
                refine Ow_nil ?_
                refine Cw_cond rfl ?_ ?_
                · intro h1457
                  have h1457 := nt_t (h1457)
                  have H := iff_ (btf h1457) H
                  refine Cw_seq ?_
                  refine Cw_region ?_
                  refine Ow_q rfl rfl rfl (Qt_assign rfl) ?_
                  refine Ow_nil ?_
                  refine Cw_ret ?_
                  obtain ey0 := inj1 H
                  subst y0
                  refine ⟨(by first | exact .inl rfl | exact .inr rfl), [(.bool false)], ⟨(.bool false), _, rfl, rfl, rfl⟩, ?_⟩
                  refine Shift.rem .here ?_
                  refine Shift.rem .here ?_
                  refine Shift.rem .here ?_
                  refine Shift.rem .here ?_
                  refine Shift.rem .here ?_
                  refine Shift.rem .here ?_
                  refine Shift.rem .here ?_
                  refine Shift.rem .here ?_
                  refine Shift.done ?_
                  exact ⟨rfl, rfl⟩
                · intro h1457
                  have h1457 := nt_f (h1457)
                  have H := ift h1457 H
                  refine Cw_skip ?_
                  refine Cw_region ?_
                  refine Ow_q rfl rfl rfl (Qt_arith (e := wI (i1334 + 1)) rfl rfl rfl rfl) ?_
                  refine Ow_q rfl rfl rfl (Qt_move rfl) ?_
                  refine Ow_nil ?_
                  refine Shift.pull (.there (.there (.there (.there (.there (.there (.there .here))))))) ?_
                  refine Shift.pull (.there (.there (.there (.there (.there (.there (.there .here))))))) ?_
                  refine Shift.pull (.there (.there (.there (.there (.there (.there (.there .here))))))) ?_
                  refine Shift.pull (.there (.there (.there (.there (.there (.there (.there .here))))))) ?_
                  refine Shift.pull (.there (.there (.there (.there (.there (.there (.there .here))))))) ?_
                  refine Shift.pull (.there (.there (.there (.there (.there (.there (.there .here))))))) ?_
                  refine Shift.pull (.there (.there (.there (.there (.there (.there (.there .here))))))) ?_
                  refine Shift.pull (.there (.there (.there (.there (.there (.there (.there .here))))))) ?_
                  refine Shift.done ?_
                  exact ⟨[(3, (.pointer (some ((⟨b357, 0, none⟩ : Addr).add 0)))), (4, (sv v364)), (5, (.pointer (some ((⟨b380, 0, none⟩ : Addr).add 0)))), (6, (.int .i64 i1000)), (7, (.pointer (some ((⟨b1172, 0, none⟩ : Addr).add 0)))), (8, (sv v1218)), (9, (sv v1225)), (40, (.int .i64 (x1201.length : Int))), (41, (.int .i64 (wI (i1334 + 1))))], ⟨rfl, rfl, rfl, rfl, rfl, rfl, rfl, rfl, rfl, trivial⟩, _, Nat.lt_succ_self _, (wI (i1334 + 1)), rfl, rfl, (hkk1340 ▸ H)⟩
            · intro h1342
              have h1342 := dcd_f (h1342)
              have H := iff_ h1342 H
              refine Cw_exit ?_
              refine Shift.pull (.there (.there (.there (.there (.there (.there (.there .here))))))) ?_
              refine Shift.pull (.there (.there (.there (.there (.there (.there (.there .here))))))) ?_
              refine Shift.pull (.there (.there (.there (.there (.there (.there (.there .here))))))) ?_
              refine Shift.pull (.there (.there (.there (.there (.there .here))))) ?_
              refine Shift.pull (.there (.there (.there (.there (.there .here))))) ?_
              refine Shift.rem (.there (.there (.there (.there (.there .here))))) ?_
              refine Shift.rem (.there (.there (.there (.there (.there .here))))) ?_
              refine Shift.rem (.there (.there (.there (.there (.there .here))))) ?_
              refine Shift.done ?_
              exact ⟨[(3, (.pointer (some ((⟨b357, 0, none⟩ : Addr).add 0)))), (4, (sv v364)), (5, (.pointer (some ((⟨b380, 0, none⟩ : Addr).add 0)))), (6, (.int .i64 i1000))], ⟨rfl, rfl, rfl, rfl, trivial⟩, x1160, x1161, rfl, rfl, H⟩
        rintro _ K1458 _ hK1459 ⟨i1157, i1158, rfl, rfl, H⟩
        unfold M_law14_ModelCoulds_J2 at H
        refine Cw_region ?_
        refine Ow_q rfl rfl rfl (Qt_move rfl) ?_
        refine Ow_q rfl rfl rfl (Qt_arith (e := wI (i1000 + 1)) rfl rfl rfl rfl) ?_
        refine Ow_q rfl rfl rfl (Qt_assign rfl) ?_
        refine Ow_nil ?_
        refine Shift.pull (.there (.there (.there (.there .here)))) ?_
        refine Shift.pull (.there (.there (.there (.there .here)))) ?_
        refine Shift.pull (.there (.there (.there (.there .here)))) ?_
        refine Shift.pull (.there (.there (.there (.there .here)))) ?_
        refine Shift.pull (.there (.there (.there (.there .here)))) ?_
        refine Shift.done ?_
        exact ⟨[(3, (.pointer (some ((⟨b357, 0, none⟩ : Addr).add 0)))), (4, (sv v364)), (5, (.pointer (some ((⟨b380, 0, none⟩ : Addr).add 0)))), (6, (.int .i64 (wI (i1000 + 1))))], ⟨rfl, rfl, rfl, rfl, trivial⟩, _, Nat.lt_succ_self _, (wI (i1000 + 1)), i1157, i1158, rfl, rfl, (hkk1008 ▸ H)⟩
      · intro h1010
        have h1010 := dcd_f (h1010)
        have H := iff_ h1010 H
        refine Cw_exit ?_
        refine Shift.rem .here ?_
        refine Shift.rem .here ?_
        refine Shift.rem .here ?_
        refine Shift.rem .here ?_
        refine Shift.rem .here ?_
        refine Shift.done ?_
        exact ⟨[], trivial, rfl, rfl, H⟩
    rintro _ K1460 _ hK1461 ⟨rfl, rfl, H⟩
    unfold M_law14_ModelCoulds_J1 at H
    refine Cw_seq ?_
    refine Cw_region ?_
    refine Ow_q rfl rfl rfl (Qt_assign rfl) ?_
    refine Ow_nil ?_
    refine Cw_ret ?_
    obtain ey0 := inj1 H
    subst y0
    refine ⟨(by first | exact .inl rfl | exact .inr rfl), [(.bool true)], ⟨(.bool true), _, rfl, rfl, rfl⟩, ?_⟩
    refine Shift.done ?_
    exact ⟨rfl, rfl⟩



end Go.Hx
