/- Printed by program. -/
import Derived.Test.YtgpoanmjkggijaaXCM
import Derived.Test.YtgpoanmjkggijaaXCWDraw
import Derived.Test.YtgpoanmjkggijaaXCWDraw1
import Derived.Test.YtgpoanmjkggijaaXCWLaw14
import Derived.Test.YtgpoanmjkggijaaXCWLaw141
import Derived.Test.YtgpoanmjkggijaaXCWModel2
import Derived.Test.YtgpoanmjkggijaaXCWRef141
import Derived.Test.YtgpoanmjkggijaaXCWRef144
namespace Go.Hx
open Go Go.Proofs
set_option linter.unusedSimpArgs false
set_option linter.unusedVariables false
set_option maxRecDepth 10000
set_option maxHeartbeats 1000000 in
theorem c_M_law14_ModelApplies (p0 : List Int) (vp0 : SV) (p1 : Result) (y0 : Bool) (H : M_law14_ModelApplies p0 p1 = some y0) (K : Kp) (G : List Ent) (hp0 : Slr Ty.u8 K (sv vp0) p0) :
    Fc Try.prog 3 #[(sv vp0), (.agg (Result.cells p1).toArray)] K (G) (fun v K' G' => v = (.bool y0) ∧ G = G') := by
  refine Fc_body Try.func3 rfl Try.ntmps3 Try.results3 rfl ?_
  unfold M_law14_ModelApplies at H
  refine Cw_seq ?_
  refine Cw_region ?_
  refine Ow_cons rfl (OpW_box (cs := (Result.cells p1)) rfl rfl rfl (fun b303 => ?_))
  refine Ow_q rfl rfl rfl (Qt_assign rfl) ?_
  refine Ow_nil ?_
  refine Cw_seq ?_
  refine Cw_seq ?_
  refine Cw_region ?_
  obtain ⟨x309, hx310, H⟩ := bnd H
  refine Ow_cons rfl (OpW_call rfl Try.call13 rfl rfl (c_M_law14_awake  x309 hx310 _ _ ) ?_)
  rintro _ K311 _ hK312 ⟨rfl, rfl⟩
  refine Ow_q rfl rfl rfl (Qt_not rfl) ?_
  refine Ow_nil ?_
  refine Cw_cond rfl ?_ ?_
  · intro h313
    have h313 := nt_t (h313)
    have H := iff_ (btf h313) H
    refine Cw_seq ?_
    refine Cw_region ?_
    refine Ow_q rfl rfl rfl (Qt_assign rfl) ?_
    refine Ow_nil ?_
    refine Cw_ret ?_
    obtain ey0 := inj1 H
    subst y0
    refine ⟨(by first | exact .inl rfl | exact .inr rfl), [(.bool false)], ⟨(.bool false), _, rfl, rfl, rfl⟩, ?_⟩
    refine Shift.rem .here ?_
    refine Shift.done ?_
    exact ⟨rfl, rfl⟩
  · intro h313
    have h313 := nt_f (h313)
    have H := ift h313 H
    refine Cw_skip ?_
    refine Cw_seq ?_
    refine Cw_region ?_
    refine Ow_q rfl rfl rfl (Qt_move rfl) ?_
    obtain ⟨x314, hx315, H⟩ := bnd H
    have hs316 := (hp0).mono hK312
    refine Ow_cons rfl (OpW_call rfl Try.call14 rfl rfl (c_M_draw_New p0 vp0 200 x314 hx315 _ _ hs316) ?_)
    rintro _ _ _ - ⟨b317, v318, rfl, rfl, rfl, hs319⟩
    refine Ow_q rfl rfl rfl (Qt_assign rfl) ?_
    refine Ow_nil ?_
    refine Cw_seq ?_
    refine Cw_region ?_
    refine Ow_q rfl rfl rfl (Qt_move rfl) ?_
    obtain ⟨x320, x321, x322, hx323, H⟩ := bnd3 H
    refine Ow_cons rfl (OpW_call rfl Try.call15 rfl rfl (c_M_law14_chans b317 x314 v318 x320 x321 x322 hx323 _ _ hs319) ?_)
    rintro _ K326 _ hK327 ⟨v324, rs325, rfl, rfl, hs328⟩
    refine Ow_q rfl rfl rfl (Qt_assign rfl) ?_
    refine Ow_nil ?_
    refine Cw_seq ?_
    refine Cw_region ?_
    refine Ow_q rfl rfl rfl (Qt_move rfl) ?_
    refine Ow.shift (Shift.settle (T := TyChan) (.there .here) hs328 rfl (fun K329 hK330 hs331 => Shift.done ?_))
    obtain ⟨x332, hx333, H⟩ := bnd H
    refine Ow_cons rfl (OpW_call rfl Try.call16 rfl rfl (c_M_law14_config x320 v324 x332 hx333 _ _ hs331) ?_)
    rintro _ K336 _ hK337 ⟨v334, v335, rfl, rfl, hs338, hs339⟩
    refine Ow_cons rfl (OpW_alloc (cs := (Config.cells (Config.mk [] [] 0) nilS nilS)) rfl rfl rfl rfl (fun b340 => ?_))
    refine Ow_cons rfl (OpW_store (vs := (Config.cells x332 v334 v335)) (all' := (Config.cells x332 v334 v335)) rfl rfl rfl rfl rfl .here rfl rfl rfl ?_)
    refine Ow_nil ?_
    refine Cw_join (fun env' K' G' => [] = env' ∧ G = G' ∧ M_law14_ModelApplies_J1 = some y0) ?_ ?_
    · skip
      refine Cw_seq ?_
      refine Cw_region ?_
      refine Ow_q rfl rfl rfl (Qt_assign rfl) ?_
      refine Ow_nil ?_
      refine Cw_block ?_
      refine Cw_loopM (fun n879 env' K' G' => ∃ (v873 : SV) (l874 : List Chan) (i876 : Int) (i877 : Int) (i878 : Int), [(3, (.pointer (some ((⟨b303, 0, none⟩ : Addr).add 0)))), (5, (.pointer (some ((⟨b317, 0, none⟩ : Addr).add 0)))), (6, (sv v873)), (7, (.pointer (some ((⟨b340, 0, none⟩ : Addr).add 0)))), (8, (.int .i64 i876))] = env' ∧ (.blk b340 34 (Config.cells x332 v334 v335)) :: (.blk b317 85 (Draw_Codes.cells (Draw_Codes.mk x314.list i877 i878) v318)) :: (.blk b303 25 (Result.cells p1)) :: (.tok 3 1 [(sv v334)]) :: (.tok 23 1 [(sv v335)]) :: G = G' ∧ lp4 (M_law14_ModelApplies_L1 x332 x314 p1) n879 l874 i876 i877 i878 = some y0 ∧ Slr TyChan K' (sv v873) l874) BIG ?_ ?_
      · skip
        refine Shift.pull (.there (.there .here)) ?_
        refine Shift.pull (.there (.there .here)) ?_
        refine Shift.pull (.there (.there (.there (.there (.there (.there .here)))))) ?_
        refine Shift.pull (.there (.there (.there (.there .here)))) ?_
        refine Shift.pull (.there (.there (.there (.there .here)))) ?_
        refine Shift.rem (.there (.there (.there (.there (.there .here))))) ?_
        refine Shift.rem (.there (.there (.there (.there (.there .here))))) ?_
        have hs880 := (hs331).mono hK337
        refine Shift.done ?_
        exact ⟨[(3, (.pointer (some ((⟨b303, 0, none⟩ : Addr).add 0)))), (5, (.pointer (some ((⟨b317, 0, none⟩ : Addr).add 0)))), (6, (sv v324)), (7, (.pointer (some ((⟨b340, 0, none⟩ : Addr).add 0)))), (8, (.int .i64 0))], ⟨rfl, rfl, rfl, rfl, rfl, trivial⟩, v324, x320, 0, x321, x322, rfl, rfl, H, hs880⟩
      rintro n879 _ K881 _ hK882 ⟨v873, l874, i876, i877, i878, rfl, rfl, H, hs875⟩
      obtain ⟨m883, k884, rfl, hkk885, H⟩ := lps4 H
      unfold M_law14_ModelApplies_L1 at H
      refine Cw_seq ?_
      refine Cw_seq ?_
      refine Cw_region ?_
      refine Ow_q rfl rfl rfl (Qt_move rfl) ?_
      refine Ow_q rfl rfl rfl (Qt_cmp rfl rfl rfl) ?_
      refine Ow_nil ?_
      refine Cw_cond rfl ?_ ?_
      · intro h887
        have h887 := dcd_t (h887)
        have H := ift h887 H
        refine Cw_skip ?_
        refine Cw_join (fun env' K' G' => ∃ (v1007 : SV) (l1008 : List Chan) (i1010 : Int) (i1011 : Int), [(3, (.pointer (some ((⟨b303, 0, none⟩ : Addr).add 0)))), (5, (.pointer (some ((⟨b317, 0, none⟩ : Addr).add 0)))), (6, (sv v1007)), (7, (.pointer (some ((⟨b340, 0, none⟩ : Addr).add 0)))), (8, (.int .i64 i876))] = env' ∧ (.blk b340 34 (Config.cells x332 v334 v335)) :: (.blk b317 85 (Draw_Codes.cells (Draw_Codes.mk x314.list i1010 i1011) v318)) :: (.blk b303 25 (Result.cells p1)) :: (.tok 3 1 [(sv v334)]) :: (.tok 23 1 [(sv v335)]) :: G = G' ∧ M_law14_ModelApplies_J2 i876 x332 x314 p1 k884 l1008 i1010 i1011 = some y0 ∧ Slr TyChan K' (sv v1007) l1008) ?_ ?_
        · skip
          refine Cw_block ?_
          refine Cw_seq ?_
          refine Cw_region ?_
          refine Ow_q rfl rfl rfl (Qt_move rfl) ?_
          refine Ow_q rfl rfl rfl (Qt_loadA (m := 3) (cs := (Config.cells x332 v334 v335)) rfl rfl rfl rfl ⟨rfl, Rdc.blk (.head _) rfl⟩) ?_
          obtain ⟨x1012, x1013, x1014, hx1015, H⟩ := bnd3 H
          refine Ow.shift (Shift.pull (.there .here) (Shift.done ?_))
          have hs1016 := ((((hs319).mono hK327).mono hK330).mono hK337).mono hK882
          have hs1017 := (hs338).mono hK882
          have hs1018 := (hs339).mono hK882
          refine Ow_cons rfl (OpW_call rfl Try.call17 rfl rfl (c_M_draw_Codes_Op b317 (Draw_Codes.mk x314.list i877 i878) v318 x332 v334 v335 x1012 x1013 x1014 hx1015 _ _ hs1016 hs1017 hs1018) ?_)
          rintro _ K1021 _ hK1022 ⟨v1019, v1020, rfl, rfl, hs1023, hs1024⟩
          refine Ow_cons rfl (OpW_alloc (cs := (Op.cells (Op.mk 0 0 0 0 0 [] []) nilS nilS)) rfl rfl rfl rfl (fun b1025 => ?_))
          refine Ow_cons rfl (OpW_store (vs := (Op.cells x1012 v1019 v1020)) (all' := (Op.cells x1012 v1019 v1020)) rfl rfl rfl rfl rfl .here rfl rfl rfl ?_)
          refine Ow_nil ?_
          refine Cw_seq ?_
          obtain ⟨x1042, x1043, x1044, hx1045, H⟩ := bnd3 H
          obtain ⟨x1048, x1049, x1050, hx1051, H⟩ := bnd3 H
          refine Cw_region_any [.blk b1025 38 (Op.cells x1012 v1019 v1020), .blk b340 34 (Config.cells x332 v334 v335), .blk b303 25 (Result.cells p1), .tok 3 1 [(sv v334)], .tok 23 1 [(sv v335)]] rfl (Inc.cons (.head _) (Inc.cons (.tail _ (.tail _ (.head _))) (Inc.cons (.tail _ (.tail _ (.tail _ (.head _)))) (Inc.cons (.tail _ (.tail _ (.tail _ (.tail _ (.head _))))) (Inc.cons (.tail _ (.tail _ (.tail _ (.tail _ (.tail _ (.head _)))))) Inc.nil))))) ?_
          refine Aw_q 0 rfl (by kernel_rfl) (by kernel_rfl) (by kernel_rfl) rfl rfl rfl (Qt_move rfl) ?_
          refine Aw_q 1 rfl (by kernel_rfl) (by kernel_rfl) (by kernel_rfl) rfl rfl rfl (Qt_move rfl) ?_
          refine Aw_q 2 rfl (by kernel_rfl) (by kernel_rfl) (by kernel_rfl) rfl rfl rfl (Qt_loadA (m := 7) (cs := (Op.cells x1012 v1019 v1020)) rfl rfl rfl rfl ⟨rfl, Rdc.blk (.head _) rfl⟩) ?_
          refine Aw_q 4 rfl (by kernel_rfl) (by kernel_rfl) (by kernel_rfl) rfl rfl rfl (Qt_move rfl) ?_
          refine Aw_q 5 rfl (by kernel_rfl) (by kernel_rfl) (by kernel_rfl) rfl rfl rfl (Qt_move rfl) ?_
          refine Aw_q 6 rfl (by kernel_rfl) (by kernel_rfl) (by kernel_rfl) rfl rfl rfl (Qt_loadA (m := 7) (cs := (Op.cells x1012 v1019 v1020)) rfl rfl rfl rfl ⟨rfl, Rdc.blk (.head _) rfl⟩) ?_
          refine Aw_q 8 rfl (by kernel_rfl) (by kernel_rfl) (by kernel_rfl) rfl rfl rfl (Qt_loadA (m := 5) (cs := (Result.cells p1)) rfl rfl rfl rfl ⟨rfl, Rdc.blk (.tail _ (.tail _ (.head _))) rfl⟩) ?_
          refine Aw_q 11 rfl (by kernel_rfl) (by kernel_rfl) (by kernel_rfl) rfl rfl rfl (Qt_move rfl) ?_
          refine Aw_one 3 (by kernel_rfl) (Ax_mk rfl rfl ?_)
          refine OpW.shift (Shift.pull (.there .here) (Shift.done ?_))
          have hs1054 := (hs1016).mono hK1022
          have hs1055 := (hs875).mono hK1022
          refine OpW_call rfl Try.call18 rfl rfl (c_M_law14_result b317 (Draw_Codes.mk x314.list x1013 x1014) v318 l874 v873 x1012 v1019 v1020 x1042 x1043 x1044 hx1045 _ _ hs1054 hs1055 hs1023 hs1024) ?_
          rintro _ _ _ - ⟨rfl, rfl, rfl⟩
          refine ⟨(Inc.cons (.tail _ (.head _)) (Inc.cons (.tail _ (.tail _ (.head _))) (Inc.cons (.tail _ (.tail _ (.tail _ (.head _)))) (Inc.cons (.tail _ (.tail _ (.tail _ (.tail _ (.head _))))) (Inc.cons (.tail _ (.tail _ (.tail _ (.tail _ (.tail _ (.head _)))))) Inc.nil))))), ?_⟩
          refine Aw_one 7 (by kernel_rfl) (Ax_mk rfl rfl ?_)
          refine OpW_call rfl Try.call18 rfl rfl (c_M_law14_result b317 (Draw_Codes.mk x314.list x1043 x1044) v318 l874 v873 x1012 v1019 v1020 x1048 x1049 x1050 hx1051 _ _ hs1054 hs1055 hs1023 hs1024) ?_
          rintro _ _ _ - ⟨rfl, rfl, rfl⟩
          refine ⟨(Inc.cons (.tail _ (.head _)) (Inc.cons (.tail _ (.tail _ (.head _))) (Inc.cons (.tail _ (.tail _ (.tail _ (.head _)))) (Inc.cons (.tail _ (.tail _ (.tail _ (.tail _ (.head _))))) (Inc.cons (.tail _ (.tail _ (.tail _ (.tail _ (.tail _ (.head _)))))) Inc.nil))))), ?_⟩
          refine Aw_one 9 (by kernel_rfl) (Ax_mk rfl rfl ?_)
          have hR1057 : RowR TyResult K1021 [(Result.cells x1042), (Result.cells x1048), (Result.cells p1)] [x1042, x1048, p1] := RowR.cons rfl (RowR.cons rfl (RowR.cons rfl (RowR.nil)))
          refine O_lit (T := TyResult) (rows := [(Result.cells x1042), (Result.cells x1048), (Result.cells p1)]) (l := [x1042, x1048, p1]) rfl rfl rfl hR1057 rfl rfl rfl rfl rfl rfl rfl rfl (fun v1056 => ⟨(Inc.cons (.tail _ (.tail _ (.head _))) (Inc.cons (.tail _ (.tail _ (.tail _ (.head _)))) (Inc.cons (.tail _ (.tail _ (.tail _ (.tail _ (.head _))))) (Inc.cons (.tail _ (.tail _ (.tail _ (.tail _ (.tail _ (.head _)))))) (Inc.cons (.tail _ (.tail _ (.tail _ (.tail _ (.tail _ (.tail _ (.head _))))))) Inc.nil))))), ?_⟩)
          refine Aw_one 10 (by kernel_rfl) (Ax_mk rfl rfl (OpW_of_Qt rfl rfl (Q_lenR (T := TyResult) (.head _) hR1057 rfl rfl rfl) ⟨(Inc.cons (.tail _ (.tail _ (.head _))) (Inc.cons (.tail _ (.tail _ (.tail _ (.head _)))) (Inc.cons (.tail _ (.tail _ (.tail _ (.tail _ (.head _))))) (Inc.cons (.tail _ (.tail _ (.tail _ (.tail _ (.tail _ (.head _)))))) (Inc.cons (.tail _ (.tail _ (.tail _ (.tail _ (.tail _ (.tail _ (.head _))))))) Inc.nil))))), ?_⟩))
          refine Aw_done (by kernel_rfl) ?_
          refine Cw_block ?_
          refine Cw_loopM (fun n1147 env' K' G' => ∃ (v1143 : SV) (l1144 : List Chan) (i1146 : Int), [(3, (.pointer (some ((⟨b303, 0, none⟩ : Addr).add 0)))), (5, (.pointer (some ((⟨b317, 0, none⟩ : Addr).add 0)))), (6, (sv v1143)), (7, (.pointer (some ((⟨b340, 0, none⟩ : Addr).add 0)))), (8, (.int .i64 i876)), (9, (.pointer (some ((⟨b1025, 0, none⟩ : Addr).add 0)))), (40, (sv v1056)), (41, (.int .i64 ([x1042, x1048, p1].length : Int))), (42, (.int .i64 i1146))] = env' ∧ (.blk b1025 38 (Op.cells x1012 v1019 v1020)) :: (.blk b340 34 (Config.cells x332 v334 v335)) :: (.blk b317 85 (Draw_Codes.cells (Draw_Codes.mk x314.list x1049 x1050) v318)) :: (.blk b303 25 (Result.cells p1)) :: (.row (sv v1056) 25 5 [(Result.cells x1042), (Result.cells x1048), (Result.cells p1)].flatten) :: (.tok 3 1 [(sv v334)]) :: (.tok 23 1 [(sv v335)]) :: G = G' ∧ lp2 (M_law14_ModelApplies_L2 i876 x1042 x1048 p1 x1012 x332 x314 x1049 x1050 k884) n1147 l1144 i1146 = some y0 ∧ Slr TyChan K' (sv v1143) l1144) BIG ?_ ?_
          · skip
            refine Shift.pull (.there (.there (.there (.there (.there (.there .here)))))) ?_
            refine Shift.pull (.there (.there (.there (.there (.there (.there .here)))))) ?_
            refine Shift.pull (.there (.there .here)) ?_
            refine Shift.pull (.there (.there (.there (.there (.there (.there .here)))))) ?_
            refine Shift.pull (.there (.there (.there (.there .here)))) ?_
            refine Shift.pull (.there (.there (.there (.there (.there (.there .here)))))) ?_
            refine Shift.pull (.there (.there (.there (.there (.there (.there .here)))))) ?_
            refine Shift.done ?_
            exact ⟨[(3, (.pointer (some ((⟨b303, 0, none⟩ : Addr).add 0)))), (5, (.pointer (some ((⟨b317, 0, none⟩ : Addr).add 0)))), (6, (sv v873)), (7, (.pointer (some ((⟨b340, 0, none⟩ : Addr).add 0)))), (8, (.int .i64 i876)), (9, (.pointer (some ((⟨b1025, 0, none⟩ : Addr).add 0)))), (40, (sv v1056)), (41, (.int .i64 ([x1042, x1048, p1].length : Int))), (42, (.int .i64 0))], ⟨rfl, rfl, rfl, rfl, rfl, rfl, rfl, rfl, rfl, trivial⟩, v873, l874, 0, rfl, rfl, H, hs1055⟩
          rintro n1147 _ K1148 _ hK1149 ⟨v1143, l1144, i1146, rfl, rfl, H, hs1145⟩
          obtain ⟨m1150, k1151, rfl, hkk1152, H⟩ := lps2 H
          unfold M_law14_ModelApplies_L2 at H
          refine Cw_seq ?_
          refine Cw_region ?_
          refine Ow_q rfl rfl rfl (Qt_cmp rfl rfl rfl) ?_
          refine Ow_nil ?_
          refine Cw_seq ?_
          refine Cw_cond rfl ?_ ?_
          · intro h1154
            have h1154 := dcd_t (h1154)
            have H := ift h1154 H
            refine Cw_skip ?_
            refine Cw_seq ?_
            refine Cw_block ?_
            refine Cw_seq ?_
            refine Cw_region ?_
            obtain ⟨x1192, hx1193, H⟩ := bnd H
            have hs1194 := (hR1057).mono hK1149
            obtain ⟨r1195, hq1196, hr1197⟩ := RowR.at hs1194 hx1193
            obtain rfl := hr1197
            refine Ow_q rfl rfl rfl (Q_ixR (T := TyResult) (.tail _ (.tail _ (.tail _ (.tail _ (.head _))))) hs1194 hq1196 (getI_ix hx1193).1 rfl rfl rfl rfl rfl) ?_
            refine Ow_q rfl rfl rfl (Qt_loadA (m := 5) (cs := (Result.cells x1192)) rfl rfl rfl rfl ⟨rfl, Rd_row (T := TyResult) (.tail _ (.tail _ (.tail _ (.tail _ (.head _))))) hs1194 hq1196 rfl rfl⟩) ?_
            refine Ow_cons rfl (OpW_alloc (cs := (Result.cells (Result.mk 0 0 0 false 0))) rfl rfl rfl rfl (fun b1198 => ?_))
            refine Ow_cons rfl (OpW_store (vs := (Result.cells x1192)) (all' := (Result.cells x1192)) rfl rfl rfl rfl rfl .here rfl rfl rfl ?_)
            refine Ow_nil ?_
            refine Cw_seq ?_
            refine Cw_region ?_
            refine Ow_q rfl rfl rfl (Qt_move rfl) ?_
            refine Ow_q rfl rfl rfl (Qt_loadA (m := 7) (cs := (Op.cells x1012 v1019 v1020)) rfl rfl rfl rfl ⟨rfl, Rdc.blk (.tail _ (.head _)) rfl⟩) ?_
            refine Ow_q rfl rfl rfl (Qt_loadA (m := 5) (cs := (Result.cells x1192)) rfl rfl rfl rfl ⟨rfl, Rdc.blk (.head _) rfl⟩) ?_
            obtain ⟨x1199, x1200, hx1201, H⟩ := bnd2 H
            have hs1202 := (hs1023).mono hK1149
            have hs1203 := (hs1024).mono hK1149
            refine Ow_cons rfl (OpW_call rfl Try.call19 rfl rfl (c_M_model_Apply l1144 v1143 x1012 v1019 v1020 x1192 x1199 x1200 hx1201 _ _ hs1145 hs1202 hs1203) ?_)
            rintro _ K1205 _ hK1206 ⟨v1204, rfl, rfl, hs1207⟩
            refine Ow_q rfl rfl rfl (Qt_move rfl) ?_
            refine Ow_q rfl rfl rfl (Qt_extract rfl rfl) ?_
            refine Ow_q rfl rfl rfl (Qt_extract rfl rfl) ?_
            refine Ow_q rfl rfl rfl (Qt_assign rfl) ?_
            refine Ow_q rfl rfl rfl (Qt_assign rfl) ?_
            refine Ow_nil ?_
            refine Cw_seq ?_
            refine Cw_region ?_
            refine Ow_q rfl rfl rfl (Qt_move rfl) ?_
            refine Ow_q rfl rfl rfl (Qt_loadA (m := 7) (cs := (Op.cells x1012 v1019 v1020)) rfl rfl rfl rfl ⟨rfl, Rdc.blk (.tail _ (.head _)) rfl⟩) ?_
            refine Ow_q rfl rfl rfl (Qt_loadA (m := 5) (cs := (Result.cells x1192)) rfl rfl rfl rfl ⟨rfl, Rdc.blk (.head _) rfl⟩) ?_
            obtain ⟨x1208, x1209, hx1210, H⟩ := bnd2 H
            have hs1211 := (hs1145).mono hK1206
            have hs1212 := (hs1202).mono hK1206
            have hs1213 := (hs1203).mono hK1206
            refine Ow_cons rfl (OpW_call rfl Try.call20 rfl rfl (c_M_ref14_Apply l1144 v1143 x1012 v1019 v1020 x1192 x1208 x1209 hx1210 _ _ hs1211 hs1212 hs1213) ?_)
            rintro _ K1215 _ hK1216 ⟨v1214, rfl, rfl, hs1217⟩
            refine Ow_q rfl rfl rfl (Qt_move rfl) ?_
            refine Ow_q rfl rfl rfl (Qt_extract rfl rfl) ?_
            refine Ow_q rfl rfl rfl (Qt_extract rfl rfl) ?_
            refine Ow_q rfl rfl rfl (Qt_assign rfl) ?_
            refine Ow_q rfl rfl rfl (Qt_assign rfl) ?_
            refine Ow_nil ?_
            refine Cw_seq ?_
            refine Cw_join (fun env' K' G' => ∃ (t1234 : Bool), [(3, (.pointer (some ((⟨b303, 0, none⟩ : Addr).add 0)))), (5, (.pointer (some ((⟨b317, 0, none⟩ : Addr).add 0)))), (6, (sv v1143)), (7, (.pointer (some ((⟨b340, 0, none⟩ : Addr).add 0)))), (8, (.int .i64 i876)), (9, (.pointer (some ((⟨b1025, 0, none⟩ : Addr).add 0)))), (13, (.bool x1200)), (14, (sv v1214)), (40, (sv v1056)), (41, (.int .i64 ([x1042, x1048, p1].length : Int))), (42, (.int .i64 i1146)), (68, (.bool t1234))] = env' ∧ (.blk b1025 38 (Op.cells x1012 v1019 v1020)) :: (.blk b340 34 (Config.cells x332 v334 v335)) :: (.blk b317 85 (Draw_Codes.cells (Draw_Codes.mk x314.list x1049 x1050) v318)) :: (.blk b303 25 (Result.cells p1)) :: (.row (sv v1056) 25 5 [(Result.cells x1042), (Result.cells x1048), (Result.cells p1)].flatten) :: (.tok 3 1 [(sv v334)]) :: (.tok 23 1 [(sv v335)]) :: G = G' ∧ M_law14_ModelApplies_J3 l1144 i876 x1200 x1208 x1042 x1048 p1 i1146 x1012 x332 x314 x1049 x1050 k884 k1151 t1234 = some y0) ?_ ?_
            · skip
              refine Cw_region ?_
              refine Ow_q rfl rfl rfl (Qt_move rfl) ?_
              refine Ow_q rfl rfl rfl (Qt_move rfl) ?_
              refine Ow_q rfl rfl rfl (Qt_neB rfl rfl rfl) ?_
              refine Ow_q rfl rfl rfl (Qt_move rfl) ?_
              refine Ow_caseG rfl rfl rfl ?_ ?_
              · intro h1235
                have h1235 := nt_t (h1235)
                have H := iff_ (btf h1235) H
                refine Ow_pass rfl rfl rfl rfl rfl rfl rfl ?_
                refine Ow_pass rfl rfl rfl rfl rfl rfl rfl ?_
                refine Ow_pass rfl rfl rfl rfl rfl rfl rfl ?_
                refine Ow_pass rfl rfl rfl rfl rfl rfl rfl ?_
                refine Ow_q rfl rfl rfl (Qt_pick_t rfl rfl) ?_
                refine Ow_nil ?_
                refine Shift.pull (.there (.there (.there (.there (.there (.there (.there .here))))))) ?_
                refine Shift.pull (.there (.there (.there (.there (.there (.there (.there .here))))))) ?_
                refine Shift.pull (.there (.there (.there (.there (.there (.there (.there .here))))))) ?_
                refine Shift.pull (.there (.there (.there (.there (.there (.there (.there .here))))))) ?_
                refine Shift.pull (.there (.there (.there (.there (.there (.there (.there .here))))))) ?_
                refine Shift.pull (.there (.there (.there (.there (.there (.there (.there .here))))))) ?_
                refine Shift.pull (.there (.there (.there (.there (.there (.there (.there .here))))))) ?_
                refine Shift.rem (.there (.there (.there (.there (.there (.there (.there .here))))))) ?_
                refine Shift.done ?_
                exact ⟨[(3, (.pointer (some ((⟨b303, 0, none⟩ : Addr).add 0)))), (5, (.pointer (some ((⟨b317, 0, none⟩ : Addr).add 0)))), (6, (sv v1143)), (7, (.pointer (some ((⟨b340, 0, none⟩ : Addr).add 0)))), (8, (.int .i64 i876)), (9, (.pointer (some ((⟨b1025, 0, none⟩ : Addr).add 0)))), (13, (.bool x1200)), (14, (sv v1214)), (40, (sv v1056)), (41, (.int .i64 ([x1042, x1048, p1].length : Int))), (42, (.int .i64 i1146)), (68, (.bool true))], ⟨rfl, rfl, rfl, rfl, rfl, rfl, rfl, rfl, rfl, rfl, rfl, rfl, trivial⟩, true, rfl, rfl, H⟩
              · intro h1235
                have h1235 := nt_f (h1235)
                have H := ift h1235 H
                refine Ow_qw rfl rfl rfl rfl rfl rfl (Qt_move rfl) ?_
                refine Ow_qw rfl rfl rfl rfl rfl rfl (Qt_move rfl) ?_
                obtain ⟨x1236, hx1237, H⟩ := bnd H
                have hs1238 := (hs1207).mono hK1216
                refine Ow_want rfl rfl rfl rfl (OpW_call rfl Try.call21 rfl rfl (c_M_ref14_Same x1199 v1204 x1208 v1214 x1236 hx1237 _ _ hs1238 hs1217) ?_)
                rintro _ K1239 _ hK1240 ⟨rfl, rfl⟩
                refine Ow_qw rfl rfl rfl rfl rfl rfl (Qt_not rfl) ?_
                refine Ow_q rfl rfl rfl (Qt_pick_f rfl rfl) ?_
                refine Ow_nil ?_
                refine Shift.pull (.there (.there (.there (.there (.there (.there (.there .here))))))) ?_
                refine Shift.pull (.there (.there (.there (.there (.there (.there (.there .here))))))) ?_
                refine Shift.pull (.there (.there (.there (.there (.there (.there (.there .here))))))) ?_
                refine Shift.pull (.there (.there (.there (.there (.there (.there (.there .here))))))) ?_
                refine Shift.pull (.there (.there (.there (.there (.there (.there (.there .here))))))) ?_
                refine Shift.pull (.there (.there (.there (.there (.there (.there (.there .here))))))) ?_
                refine Shift.pull (.there (.there (.there (.there (.there (.there (.there .here))))))) ?_
                refine Shift.rem (.there (.there (.there (.there (.there (.there (.there .here))))))) ?_
                refine Shift.done ?_
                exact ⟨[(3, (.pointer (some ((⟨b303, 0, none⟩ : Addr).add 0)))), (5, (.pointer (some ((⟨b317, 0, none⟩ : Addr).add 0)))), (6, (sv v1143)), (7, (.pointer (some ((⟨b340, 0, none⟩ : Addr).add 0)))), (8, (.int .i64 i876)), (9, (.pointer (some ((⟨b1025, 0, none⟩ : Addr).add 0)))), (13, (.bool x1200)), (14, (sv v1214)), (40, (sv v1056)), (41, (.int .i64 ([x1042, x1048, p1].length : Int))), (42, (.int .i64 i1146)), (68, (.bool (!(x1236))))], ⟨rfl, rfl, rfl, rfl, rfl, rfl, rfl, rfl, rfl, rfl, rfl, rfl, trivial⟩, (!(x1236)), rfl, rfl, H⟩
            rintro _ K1241 _ hK1242 ⟨t1234, rfl, rfl, H⟩
            unfold M_law14_ModelApplies_J3 at H
            refine Cw_cond rfl ?_ ?_
            · intro h1243
              have H := ift h1243 H
              refine Cw_seq ?_
              refine Cw_region ?_
              refine Ow_q rfl rfl rfl (Qt_assign rfl) ?_
              refine Ow_nil ?_
              refine Cw_ret ?_
              obtain ey0 := inj1 H
              subst y0
              refine ⟨(by first | exact .inl rfl | exact .inr rfl), [(.bool false)], ⟨(.bool false), _, rfl, rfl, rfl⟩, ?_⟩
              refine Shift.rem .here ?_
              refine Shift.rem .here ?_
              refine Shift.rem .here ?_
              refine Shift.rem .here ?_
              refine Shift.rem .here ?_
              refine Shift.rem .here ?_
              refine Shift.rem .here ?_
              refine Shift.done ?_
              exact ⟨rfl, rfl⟩
            · intro h1243
              have H := iff_ (btf h1243) H
              refine Cw_skip ?_
              refine Cw_seq ?_
              refine Cw_region ?_
              refine Ow_q rfl rfl rfl (Qt_move rfl) ?_
              refine Ow_nil ?_
              refine Cw_cond rfl ?_ ?_
              · intro h1244
                have H := ift h1244 H
                refine Cw_region ?_
                refine Ow_q rfl rfl rfl (Qt_move rfl) ?_
                refine Ow_q rfl rfl rfl (Qt_assign rfl) ?_
                refine Ow_nil ?_
                refine Cw_region ?_
                refine Ow_q rfl rfl rfl (Qt_arith (e := wI (i1146 + 1)) rfl rfl rfl rfl) ?_
                refine Ow_q rfl rfl rfl (Qt_move rfl) ?_
                refine Ow_nil ?_
                refine Shift.pull (.there (.there (.there (.there (.there (.there .here)))))) ?_
                refine Shift.pull (.there (.there (.there (.there (.there (.there .here)))))) ?_
                refine Shift.pull (.there (.there (.there (.there (.there (.there .here)))))) ?_
                refine Shift.pull (.there (.there (.there (.there (.there (.there .here)))))) ?_
                refine Shift.pull (.there (.there (.there (.there (.there (.there .here)))))) ?_
                refine Shift.pull (.there (.there (.there (.there (.there (.there .here)))))) ?_
                refine Shift.pull (.there (.there (.there (.there (.there (.there .here)))))) ?_
                have hs1245 := (hs1217).mono hK1242
                refine Shift.done ?_
                exact ⟨[(3, (.pointer (some ((⟨b303, 0, none⟩ : Addr).add 0)))), (5, (.pointer (some ((⟨b317, 0, none⟩ : Addr).add 0)))), (6, (sv v1214)), (7, (.pointer (some ((⟨b340, 0, none⟩ : Addr).add 0)))), (8, (.int .i64 i876)), (9, (.pointer (some ((⟨b1025, 0, none⟩ : Addr).add 0)))), (40, (sv v1056)), (41, (.int .i64 ([x1042, x1048, p1].length : Int))), (42, (.int .i64 (wI (i1146 + 1))))], ⟨rfl, rfl, rfl, rfl, rfl, rfl, rfl, rfl, rfl, trivial⟩, _, Nat.lt_succ_self _, v1214, x1208, (wI (i1146 + 1)), rfl, rfl, (hkk1152 ▸ H), hs1245⟩
              · intro h1244
                have H := iff_ (btf h1244) H
                refine Cw_skip ?_
                refine Cw_region ?_
                refine Ow_q rfl rfl rfl (Qt_arith (e := wI (i1146 + 1)) rfl rfl rfl rfl) ?_
                refine Ow_q rfl rfl rfl (Qt_move rfl) ?_
                refine Ow_nil ?_
                refine Shift.pull (.there (.there (.there (.there (.there (.there .here)))))) ?_
                refine Shift.pull (.there (.there (.there (.there (.there (.there .here)))))) ?_
                refine Shift.pull (.there (.there (.there (.there (.there (.there .here)))))) ?_
                refine Shift.pull (.there (.there (.there (.there (.there (.there .here)))))) ?_
                refine Shift.pull (.there (.there (.there (.there (.there (.there .here)))))) ?_
                refine Shift.pull (.there (.there (.there (.there (.there (.there .here)))))) ?_
                refine Shift.pull (.there (.there (.there (.there (.there (.there .here)))))) ?_
                have hs1246 := ((hs1211).mono hK1216).mono hK1242
                refine Shift.done ?_
                exact ⟨[(3, (.pointer (some ((⟨b303, 0, none⟩ : Addr).add 0)))), (5, (.pointer (some ((⟨b317, 0, none⟩ : Addr).add 0)))), (6, (sv v1143)), (7, (.pointer (some ((⟨b340, 0, none⟩ : Addr).add 0)))), (8, (.int .i64 i876)), (9, (.pointer (some ((⟨b1025, 0, none⟩ : Addr).add 0)))), (40, (sv v1056)), (41, (.int .i64 ([x1042, x1048, p1].length : Int))), (42, (.int .i64 (wI (i1146 + 1))))], ⟨rfl, rfl, rfl, rfl, rfl, rfl, rfl, rfl, rfl, trivial⟩, _, Nat.lt_succ_self _, v1143, l1144, (wI (i1146 + 1)), rfl, rfl, (hkk1152 ▸ H), hs1246⟩
          · intro h1154
            have h1154 := dcd_f (h1154)
            have H := iff_ h1154 H
            refine Cw_exit ?_
            refine Shift.pull (.there (.there (.there (.there (.there (.there .here)))))) ?_
            refine Shift.pull (.there (.there (.there (.there (.there (.there .here)))))) ?_
            refine Shift.pull (.there (.there (.there (.there (.there .here))))) ?_
            refine Shift.pull (.there (.there (.there (.there (.there .here))))) ?_
            refine Shift.pull (.there (.there (.there (.there (.there .here))))) ?_
            refine Shift.rem (.there (.there (.there (.there (.there .here))))) ?_
            refine Shift.rem (.there (.there (.there (.there (.there .here))))) ?_
            refine Shift.done ?_
            exact ⟨[(3, (.pointer (some ((⟨b303, 0, none⟩ : Addr).add 0)))), (5, (.pointer (some ((⟨b317, 0, none⟩ : Addr).add 0)))), (6, (sv v1143)), (7, (.pointer (some ((⟨b340, 0, none⟩ : Addr).add 0)))), (8, (.int .i64 i876))], ⟨rfl, rfl, rfl, rfl, rfl, trivial⟩, v1143, l1144, x1049, x1050, rfl, rfl, H, hs1145⟩
        rintro _ K1247 _ hK1248 ⟨v1007, l1008, i1010, i1011, rfl, rfl, H, hs1009⟩
        unfold M_law14_ModelApplies_J2 at H
        refine Cw_region ?_
        refine Ow_q rfl rfl rfl (Qt_move rfl) ?_
        refine Ow_q rfl rfl rfl (Qt_arith (e := wI (i876 + 1)) rfl rfl rfl rfl) ?_
        refine Ow_q rfl rfl rfl (Qt_assign rfl) ?_
        refine Ow_nil ?_
        refine Shift.pull (.there (.there (.there (.there .here)))) ?_
        refine Shift.pull (.there (.there (.there (.there .here)))) ?_
        refine Shift.pull (.there (.there (.there (.there .here)))) ?_
        refine Shift.pull (.there (.there (.there (.there .here)))) ?_
        refine Shift.pull (.there (.there (.there (.there .here)))) ?_
        refine Shift.done ?_
        exact ⟨[(3, (.pointer (some ((⟨b303, 0, none⟩ : Addr).add 0)))), (5, (.pointer (some ((⟨b317, 0, none⟩ : Addr).add 0)))), (6, (sv v1007)), (7, (.pointer (some ((⟨b340, 0, none⟩ : Addr).add 0)))), (8, (.int .i64 (wI (i876 + 1))))], ⟨rfl, rfl, rfl, rfl, rfl, trivial⟩, _, Nat.lt_succ_self _, v1007, l1008, (wI (i876 + 1)), i1010, i1011, rfl, rfl, (hkk885 ▸ H), hs1009⟩
      · intro h887
        have h887 := dcd_f (h887)
        have H := iff_ h887 H
        refine Cw_exit ?_
        refine Shift.rem .here ?_
        refine Shift.rem .here ?_
        refine Shift.rem .here ?_
        refine Shift.rem .here ?_
        refine Shift.rem .here ?_
        refine Shift.done ?_
        exact ⟨[], trivial, rfl, rfl, H⟩
    rintro _ K1249 _ hK1250 ⟨rfl, rfl, H⟩
    unfold M_law14_ModelApplies_J1 at H
    refine Cw_seq ?_
    refine Cw_region ?_
    refine Ow_q rfl rfl rfl (Qt_assign rfl) ?_
    refine Ow_nil ?_
    refine Cw_ret ?_
    obtain ey0 := inj1 H
    subst y0
    refine ⟨(by first | exact .inl rfl | exact .inr rfl), [(.bool true)], ⟨(.bool true), _, rfl, rfl, rfl⟩, ?_⟩
    refine Shift.done ?_
    exact ⟨rfl, rfl⟩


end Go.Hx
