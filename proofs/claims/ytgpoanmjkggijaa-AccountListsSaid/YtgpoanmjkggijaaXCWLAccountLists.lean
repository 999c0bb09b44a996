/- Printed by program. -/
import Derived.Test.YtgpoanmjkggijaaXCM
import Derived.Test.YtgpoanmjkggijaaXCWAccount2
import Derived.Test.YtgpoanmjkggijaaXCWLaw25
import Derived.Test.YtgpoanmjkggijaaXCWLaw251
import Derived.Test.YtgpoanmjkggijaaXCWRef23
import Derived.Test.YtgpoanmjkggijaaXCWRef4
namespace Go.Hx
open Go Go.Proofs
set_option linter.unusedSimpArgs false
set_option linter.unusedVariables false
set_option maxRecDepth 10000
set_option maxHeartbeats 1000000 in
theorem c_M_law25_AccountLists (p0 : List Int) (vp0 : SV) (p1 : Int) (y0 : Bool) (H : M_law25_AccountLists p0 p1 = some y0) (K : Kp) (G : List Ent) (hp0 : Slr Ty.u8 K (sv vp0) p0) :
    Fc Try.prog 9 #[(sv vp0), (.int .i64 p1)] K (G) (fun v K' G' => v = (.bool y0) ∧ G = G') := by
  refine Fc_body Try.func9 rfl Try.ntmps9 Try.results9 rfl ?_
  unfold M_law25_AccountLists at H
  refine Cw_seq ?_
  refine Cw_region ?_
  refine Ow_q rfl rfl rfl (Qt_assign rfl) ?_
  refine Ow_nil ?_
  refine Cw_seq ?_
  refine Cw_seq ?_
  refine Cw_region ?_
  obtain ⟨x284, hx285, H⟩ := bnd H
  refine Ow_cons rfl (OpW_call rfl Try.call29 rfl rfl (c_M_law25_awake  x284 hx285 _ _ ) ?_)
  rintro _ K286 _ hK287 ⟨rfl, rfl⟩
  refine Ow_q rfl rfl rfl (Qt_not rfl) ?_
  refine Ow_nil ?_
  refine Cw_cond rfl ?_ ?_
  · intro h288
    have h288 := nt_t (h288)
    have H := iff_ (btf h288) H
    refine Cw_seq ?_
    refine Cw_region ?_
    refine Ow_q rfl rfl rfl (Qt_assign rfl) ?_
    refine Ow_nil ?_
    refine Cw_ret ?_
    obtain ey0 := inj1 H
    subst y0
    refine ⟨(by first | exact .inl rfl | exact .inr rfl), [(.bool false)], ⟨(.bool false), _, rfl, rfl, rfl⟩, ?_⟩
    refine Shift.done ?_
    exact ⟨rfl, rfl⟩
  · intro h288
    have h288 := nt_f (h288)
    have H := ift h288 H
    refine Cw_skip ?_
    refine Cw_seq ?_
    refine Cw_region ?_
    refine Ow_q rfl rfl rfl (Qt_move rfl) ?_
    obtain ⟨x289, x290, x291, hx292, H⟩ := bnd3 H
    have hs293 := (hp0).mono hK287
    refine Ow_cons rfl (OpW_call rfl Try.call30 rfl rfl (c_M_law25_made p0 vp0 x289 x290 x291 hx292 _ _ hs293) ?_)
    rintro _ K299 _ hK300 ⟨v294, v295, v296, rs297, v298, rfl, rfl, hs301, hs302, hs303, hs304⟩
    refine Ow_q rfl rfl rfl (Qt_move rfl) ?_
    refine Ow_q rfl rfl rfl (Qt_extract rfl rfl) ?_
    refine Ow_q rfl rfl rfl (Qt_extract rfl rfl) ?_
    refine Ow_q rfl rfl rfl (Qt_extract rfl rfl) ?_
    refine Ow_cons rfl (OpW_alloc (cs := (Config.cells (Config.mk [] [] 0) nilS nilS)) rfl rfl rfl rfl (fun b305 => ?_))
    refine Ow_cons rfl (OpW_store (vs := (Config.cells x289 v294 v295)) (all' := (Config.cells x289 v294 v295)) rfl rfl rfl rfl rfl .here rfl rfl rfl ?_)
    refine Ow_q rfl rfl rfl (Qt_assign rfl) ?_
    refine Ow_q rfl rfl rfl (Qt_assign rfl) ?_
    refine Ow_nil ?_
    refine Cw_join (fun env' K' G' => [] = env' ∧ G = G' ∧ M_law25_AccountLists_J1 = some y0) ?_ ?_
    · skip
      refine Cw_seq ?_
      refine Cw_region ?_
      refine Ow_q rfl rfl rfl (Qt_assign rfl) ?_
      refine Ow_nil ?_
      refine Cw_block ?_
      refine Cw_loopM (fun n814 env' K' G' => ∃ (i813 : Int), [(1, (.int .i64 p1)), (5, (.pointer (some ((⟨b305, 0, none⟩ : Addr).add 0)))), (6, (sv v296)), (7, (sv v298)), (8, (.int .i64 i813))] = env' ∧ (.blk b305 34 (Config.cells x289 v294 v295)) :: (.tok 99 1 [(sv v296)]) :: (.tok 3 1 [(sv v294)]) :: (.tok 23 1 [(sv v295)]) :: (.tok 65 8 [(sv v298)]) :: G = G' ∧ lp1 (M_law25_AccountLists_L1 p1 x290 x291 x289) n814 i813 = some y0 ∧ Slr (Ty.sl TyOp) K' (sv v296) x290) BIG ?_ ?_
      · skip
        refine Shift.settle (T := (Ty.sl TyOp)) (.there (.there (.there .here))) hs303 rfl ?_
        intro K815 hK816 hs817
        refine Shift.pull (.there (.there (.there (.there .here)))) ?_
        refine Shift.pull (.there (.there (.there .here))) ?_
        refine Shift.pull (.there (.there (.there .here))) ?_
        refine Shift.pull (.there (.there (.there (.there .here)))) ?_
        refine Shift.pull (.there (.there (.there (.there .here)))) ?_
        refine Shift.done ?_
        exact ⟨[(1, (.int .i64 p1)), (5, (.pointer (some ((⟨b305, 0, none⟩ : Addr).add 0)))), (6, (sv v296)), (7, (sv v298)), (8, (.int .i64 (-1)))], ⟨rfl, rfl, rfl, rfl, rfl, trivial⟩, (-1), rfl, rfl, H, hs817⟩
      rintro n814 _ K818 _ hK819 ⟨i813, rfl, rfl, H, hs812⟩
      obtain ⟨m820, k821, rfl, hkk822, H⟩ := lps1 H
      unfold M_law25_AccountLists_L1 at H
      refine Cw_seq ?_
      refine Cw_seq ?_
      refine Cw_region ?_
      refine Ow_q rfl rfl rfl (Qt_move rfl) ?_
      refine Ow_q rfl rfl rfl (Qt_fieldAddr (m := 0) rfl rfl rfl rfl rfl) ?_
      refine Ow_q rfl rfl rfl (Qt_load1 (v := (sv v294)) rfl rfl rfl (Rdc.blk (.head _) rfl)) ?_
      have hs825 := (hs301).mono hK819
      refine Ow_q rfl rfl rfl (Q_len (T := Ty.i64) hs825 rfl rfl) ?_
      refine Ow_q rfl rfl rfl (Qt_cmp rfl rfl rfl) ?_
      refine Ow_nil ?_
      refine Cw_cond rfl ?_ ?_
      · intro h826
        have h826 := dcd_t (h826)
        have H := ift h826 H
        refine Cw_skip ?_
        refine Cw_join (fun env' K' G' => [(1, (.int .i64 p1)), (5, (.pointer (some ((⟨b305, 0, none⟩ : Addr).add 0)))), (6, (sv v296)), (7, (sv v298)), (8, (.int .i64 i813))] = env' ∧ (.blk b305 34 (Config.cells x289 v294 v295)) :: (.tok 99 1 [(sv v296)]) :: (.tok 3 1 [(sv v294)]) :: (.tok 23 1 [(sv v295)]) :: (.tok 65 8 [(sv v298)]) :: G = G' ∧ M_law25_AccountLists_J2 p1 x290 x291 i813 x289 k821 = some y0) ?_ ?_
        · skip
          refine Cw_block ?_
          refine Cw_seq ?_
          refine Cw_region ?_
          refine Ow_q rfl rfl rfl (Qt_move rfl) ?_
          refine Ow_q rfl rfl rfl (Qt_move rfl) ?_
          have hR944 : RowR Ty.i64 K818 [[(.int .i64 i813)], [(.int .i64 p1)]] [i813, p1] := RowR.cons rfl (RowR.cons rfl (RowR.nil))
          refine Ow_cons rfl (O_lit (T := Ty.i64) (rows := [[(.int .i64 i813)], [(.int .i64 p1)]]) (l := [i813, p1]) rfl rfl rfl hR944 rfl rfl rfl rfl rfl rfl rfl rfl (fun v943 => ?_))
          refine Ow_q rfl rfl rfl (Q_lenR (T := Ty.i64) (.head _) hR944 rfl rfl rfl) ?_
          refine Ow_q rfl rfl rfl (Qt_move rfl) ?_
          refine Ow_nil ?_
          refine Cw_block ?_
          refine Cw_loopM (fun n1059 env' K' G' => ∃ (i1058 : Int), [(1, (.int .i64 p1)), (5, (.pointer (some ((⟨b305, 0, none⟩ : Addr).add 0)))), (6, (sv v296)), (7, (sv v298)), (8, (.int .i64 i813)), (28, (sv v943)), (29, (.int .i64 ([i813, p1].length : Int))), (30, (.int .i64 i1058))] = env' ∧ (.blk b305 34 (Config.cells x289 v294 v295)) :: (.row (sv v943) 3 1 [[(.int .i64 i813)], [(.int .i64 p1)]].flatten) :: (.tok 99 1 [(sv v296)]) :: (.tok 3 1 [(sv v294)]) :: (.tok 23 1 [(sv v295)]) :: (.tok 65 8 [(sv v298)]) :: G = G' ∧ lp1 (M_law25_AccountLists_L2 p1 x290 x291 i813 x289 k821) n1059 i1058 = some y0) BIG ?_ ?_
          · skip
            refine Shift.pull (.there (.there (.there (.there (.there .here))))) ?_
            refine Shift.pull (.there (.there (.there (.there (.there .here))))) ?_
            refine Shift.pull (.there (.there (.there (.there (.there .here))))) ?_
            refine Shift.pull (.there (.there (.there (.there (.there .here))))) ?_
            refine Shift.pull (.there (.there (.there (.there .here)))) ?_
            refine Shift.pull (.there (.there (.there (.there (.there .here))))) ?_
            refine Shift.done ?_
            exact ⟨[(1, (.int .i64 p1)), (5, (.pointer (some ((⟨b305, 0, none⟩ : Addr).add 0)))), (6, (sv v296)), (7, (sv v298)), (8, (.int .i64 i813)), (28, (sv v943)), (29, (.int .i64 ([i813, p1].length : Int))), (30, (.int .i64 0))], ⟨rfl, rfl, rfl, rfl, rfl, rfl, rfl, rfl, trivial⟩, 0, rfl, rfl, H⟩
          rintro n1059 _ K1060 _ hK1061 ⟨i1058, rfl, rfl, H⟩
          obtain ⟨m1062, k1063, rfl, hkk1064, H⟩ := lps1 H
          unfold M_law25_AccountLists_L2 at H
          refine Cw_seq ?_
          refine Cw_region ?_
          refine Ow_q rfl rfl rfl (Qt_cmp rfl rfl rfl) ?_
          refine Ow_nil ?_
          refine Cw_seq ?_
          refine Cw_cond rfl ?_ ?_
          · intro h1066
            have h1066 := dcd_t (h1066)
            have H := ift h1066 H
            refine Cw_skip ?_
            refine Cw_seq ?_
            refine Cw_block ?_
            refine Cw_seq ?_
            refine Cw_region ?_
            obtain ⟨x1120, hx1121, H⟩ := bnd H
            have hs1122 := (hR944).mono hK1061
            obtain ⟨r1123, hq1124, hr1125⟩ := RowR.at hs1122 hx1121
            obtain rfl := hr1125
            refine Ow_q rfl rfl rfl (Q_ixR (T := Ty.i64) (.tail _ (.head _)) hs1122 hq1124 (getI_ix hx1121).1 rfl rfl rfl rfl rfl) ?_
            refine Ow_q rfl rfl rfl (Qt_load1 (v := (.int .i64 x1120)) rfl rfl rfl (Rd_row (T := Ty.i64) (.tail _ (.head _)) hs1122 hq1124 rfl rfl)) ?_
            refine Ow_q rfl rfl rfl (Qt_assign rfl) ?_
            refine Ow_nil ?_
            refine Cw_join (fun env' K' G' => ∃ (t1169 : Bool), [(1, (.int .i64 p1)), (5, (.pointer (some ((⟨b305, 0, none⟩ : Addr).add 0)))), (6, (sv v296)), (7, (sv v298)), (8, (.int .i64 i813)), (28, (sv v943)), (29, (.int .i64 ([i813, p1].length : Int))), (30, (.int .i64 i1058)), (55, (.bool t1169))] = env' ∧ (.blk b305 34 (Config.cells x289 v294 v295)) :: (.row (sv v943) 3 1 [[(.int .i64 i813)], [(.int .i64 p1)]].flatten) :: (.tok 99 1 [(sv v296)]) :: (.tok 3 1 [(sv v294)]) :: (.tok 23 1 [(sv v295)]) :: (.tok 65 8 [(sv v298)]) :: G = G' ∧ M_law25_AccountLists_J3 p1 x290 x291 i813 i1058 x289 k821 k1063 t1169 = some y0) ?_ ?_
            · skip
              refine Cw_region ?_
              refine Ow_q rfl rfl rfl (Qt_move rfl) ?_
              refine Ow_q rfl rfl rfl (Qt_move rfl) ?_
              refine Ow_q rfl rfl rfl (Qt_move rfl) ?_
              obtain ⟨x1170, hx1171, H⟩ := bnd H
              have hs1172 := (hs812).mono hK1061
              have hs1173 := ((hs304).mono hK819).mono hK1061
              refine Ow_cons rfl (OpW_call rfl Try.call37 rfl rfl (c_M_account_Sent x290 v296 x291 v298 x1120 x1170 hx1171 _ _ hs1172 hs1173) ?_)
              rintro _ K1175 _ hK1176 ⟨v1174, rfl, rfl, hs1177⟩
              refine Ow_q rfl rfl rfl (Qt_move rfl) ?_
              refine Ow_q rfl rfl rfl (Qt_move rfl) ?_
              refine Ow_q rfl rfl rfl (Qt_move rfl) ?_
              obtain ⟨x1178, hx1179, H⟩ := bnd H
              have hs1180 := (hs1172).mono hK1176
              have hs1181 := (hs1173).mono hK1176
              refine Ow_cons rfl (OpW_call rfl Try.call38 rfl rfl (c_M_ref23_Values x290 v296 x291 v298 x1120 true x1178 hx1179 _ _ hs1180 hs1181) ?_)
              rintro _ K1183 _ hK1184 ⟨v1182, rfl, rfl, hs1185⟩
              obtain ⟨x1186, hx1187, H⟩ := bnd H
              have hs1188 := (hs1177).mono hK1184
              refine Ow_cons rfl (OpW_call rfl Try.call36 rfl rfl (c_M_ref4_SameWords x1170 v1174 x1178 v1182 x1186 hx1187 _ _ hs1188 hs1185) ?_)
              rintro _ K1189 _ hK1190 ⟨rfl, rfl⟩
              refine Ow_q rfl rfl rfl (Qt_not rfl) ?_
              refine Ow_q rfl rfl rfl (Qt_move rfl) ?_
              refine Ow_caseG rfl rfl rfl ?_ ?_
              · intro h1191
                have h1191 := nt_t (h1191)
                have H := iff_ (btf h1191) H
                refine Ow_pass rfl rfl rfl rfl rfl rfl rfl ?_
                refine Ow_pass rfl rfl rfl rfl rfl rfl rfl ?_
                refine Ow_pass rfl rfl rfl rfl rfl rfl rfl ?_
                refine Ow_pass rfl rfl rfl rfl rfl rfl rfl ?_
                refine Ow_pass rfl rfl rfl rfl rfl rfl rfl ?_
                refine Ow_pass rfl rfl rfl rfl rfl rfl rfl ?_
                refine Ow_pass rfl rfl rfl rfl rfl rfl rfl ?_
                refine Ow_pass rfl rfl rfl rfl rfl rfl rfl ?_
                refine Ow_pass rfl rfl rfl rfl rfl rfl rfl ?_
                refine Ow_pass rfl rfl rfl rfl rfl rfl rfl ?_
                refine Ow_q rfl rfl rfl (Qt_pick_t rfl rfl) ?_
                refine Ow_nil ?_
                refine Shift.pull (.there (.there (.there (.there (.there (.there (.there .here))))))) ?_
                refine Shift.pull (.there (.there (.there (.there (.there (.there (.there .here))))))) ?_
                refine Shift.pull (.there (.there (.there (.there (.there (.there (.there .here))))))) ?_
                refine Shift.pull (.there (.there (.there (.there (.there (.there (.there .here))))))) ?_
                refine Shift.pull (.there (.there (.there (.there (.there (.there (.there .here))))))) ?_
                refine Shift.pull (.there (.there (.there (.there (.there (.there (.there .here))))))) ?_
                refine Shift.rem (.there (.there (.there (.there (.there (.there .here)))))) ?_
                refine Shift.rem (.there (.there (.there (.there (.there (.there .here)))))) ?_
                refine Shift.done ?_
                exact ⟨[(1, (.int .i64 p1)), (5, (.pointer (some ((⟨b305, 0, none⟩ : Addr).add 0)))), (6, (sv v296)), (7, (sv v298)), (8, (.int .i64 i813)), (28, (sv v943)), (29, (.int .i64 ([i813, p1].length : Int))), (30, (.int .i64 i1058)), (55, (.bool true))], ⟨rfl, rfl, rfl, rfl, rfl, rfl, rfl, rfl, rfl, trivial⟩, true, rfl, rfl, H⟩
              · intro h1191
                have h1191 := nt_f (h1191)
                have H := ift h1191 H
                refine Ow_qw rfl rfl rfl rfl rfl rfl (Qt_move rfl) ?_
                refine Ow_qw rfl rfl rfl rfl rfl rfl (Qt_move rfl) ?_
                refine Ow_qw rfl rfl rfl rfl rfl rfl (Qt_move rfl) ?_
                obtain ⟨x1192, hx1193, H⟩ := bnd H
                have hs1194 := ((hs1180).mono hK1184).mono hK1190
                have hs1195 := ((hs1181).mono hK1184).mono hK1190
                refine Ow_want rfl rfl rfl rfl (OpW_call rfl Try.call39 rfl rfl (c_M_account_Received x290 v296 x291 v298 x1120 x1192 hx1193 _ _ hs1194 hs1195) ?_)
                rintro _ K1197 _ hK1198 ⟨v1196, rfl, rfl, hs1199⟩
                refine Ow_qw rfl rfl rfl rfl rfl rfl (Qt_move rfl) ?_
                refine Ow_qw rfl rfl rfl rfl rfl rfl (Qt_move rfl) ?_
                refine Ow_qw rfl rfl rfl rfl rfl rfl (Qt_move rfl) ?_
                obtain ⟨x1200, hx1201, H⟩ := bnd H
                have hs1202 := (hs1194).mono hK1198
                have hs1203 := (hs1195).mono hK1198
                refine Ow_want rfl rfl rfl rfl (OpW_call rfl Try.call38 rfl rfl (c_M_ref23_Values x290 v296 x291 v298 x1120 false x1200 hx1201 _ _ hs1202 hs1203) ?_)
                rintro _ K1205 _ hK1206 ⟨v1204, rfl, rfl, hs1207⟩
                obtain ⟨x1208, hx1209, H⟩ := bnd H
                have hs1210 := (hs1199).mono hK1206
                refine Ow_want rfl rfl rfl rfl (OpW_call rfl Try.call36 rfl rfl (c_M_ref4_SameWords x1192 v1196 x1200 v1204 x1208 hx1209 _ _ hs1210 hs1207) ?_)
                rintro _ K1211 _ hK1212 ⟨rfl, rfl⟩
                refine Ow_qw rfl rfl rfl rfl rfl rfl (Qt_not rfl) ?_
                refine Ow_q rfl rfl rfl (Qt_pick_f rfl rfl) ?_
                refine Ow_nil ?_
                refine Shift.pull (.there (.there (.there (.there (.there (.there (.there (.there (.there .here))))))))) ?_
                refine Shift.pull (.there (.there (.there (.there (.there (.there (.there (.there (.there .here))))))))) ?_
                refine Shift.pull (.there (.there (.there (.there (.there (.there (.there (.there (.there .here))))))))) ?_
                refine Shift.pull (.there (.there (.there (.there (.there (.there (.there (.there (.there .here))))))))) ?_
                refine Shift.pull (.there (.there (.there (.there (.there (.there (.there (.there (.there .here))))))))) ?_
                refine Shift.pull (.there (.there (.there (.there (.there (.there (.there (.there (.there .here))))))))) ?_
                refine Shift.rem (.there (.there (.there (.there (.there (.there .here)))))) ?_
                refine Shift.rem (.there (.there (.there (.there (.there (.there .here)))))) ?_
                refine Shift.rem (.there (.there (.there (.there (.there (.there .here)))))) ?_
                refine Shift.rem (.there (.there (.there (.there (.there (.there .here)))))) ?_
                refine Shift.done ?_
                exact ⟨[(1, (.int .i64 p1)), (5, (.pointer (some ((⟨b305, 0, none⟩ : Addr).add 0)))), (6, (sv v296)), (7, (sv v298)), (8, (.int .i64 i813)), (28, (sv v943)), (29, (.int .i64 ([i813, p1].length : Int))), (30, (.int .i64 i1058)), (55, (.bool (!(x1208))))], ⟨rfl, rfl, rfl, rfl, rfl, rfl, rfl, rfl, rfl, trivial⟩, (!(x1208)), rfl, rfl, H⟩
            rintro _ K1213 _ hK1214 ⟨t1169, rfl, rfl, H⟩
            unfold M_law25_AccountLists_J3 at H
            refine Cw_cond rfl ?_ ?_
            · intro h1215
              have H := ift h1215 H
              refine Cw_seq ?_
              refine Cw_region ?_
              refine Ow_q rfl rfl rfl (Qt_assign rfl) ?_
              refine Ow_nil ?_
              refine Cw_ret ?_
              obtain ey0 := inj1 H
              subst y0
              refine ⟨(by first | exact .inl rfl | exact .inr rfl), [(.bool false)], ⟨(.bool false), _, rfl, rfl, rfl⟩, ?_⟩
              refine Shift.rem .here ?_
              refine Shift.rem .here ?_
              refine Shift.rem .here ?_
              refine Shift.rem .here ?_
              refine Shift.rem .here ?_
              refine Shift.rem .here ?_
              refine Shift.done ?_
              exact ⟨rfl, rfl⟩
            · intro h1215
              have H := iff_ (btf h1215) H
              refine Cw_skip ?_
              refine Cw_region ?_
              refine Ow_q rfl rfl rfl (Qt_arith (e := wI (i1058 + 1)) rfl rfl rfl rfl) ?_
              refine Ow_q rfl rfl rfl (Qt_move rfl) ?_
              refine Ow_nil ?_
              refine Shift.pull (.there (.there (.there (.there (.there .here))))) ?_
              refine Shift.pull (.there (.there (.there (.there (.there .here))))) ?_
              refine Shift.pull (.there (.there (.there (.there (.there .here))))) ?_
              refine Shift.pull (.there (.there (.there (.there (.there .here))))) ?_
              refine Shift.pull (.there (.there (.there (.there (.there .here))))) ?_
              refine Shift.pull (.there (.there (.there (.there (.there .here))))) ?_
              refine Shift.done ?_
              exact ⟨[(1, (.int .i64 p1)), (5, (.pointer (some ((⟨b305, 0, none⟩ : Addr).add 0)))), (6, (sv v296)), (7, (sv v298)), (8, (.int .i64 i813)), (28, (sv v943)), (29, (.int .i64 ([i813, p1].length : Int))), (30, (.int .i64 (wI (i1058 + 1))))], ⟨rfl, rfl, rfl, rfl, rfl, rfl, rfl, rfl, trivial⟩, _, Nat.lt_succ_self _, (wI (i1058 + 1)), rfl, rfl, (hkk1064 ▸ H)⟩
          · intro h1066
            have h1066 := dcd_f (h1066)
            have H := iff_ h1066 H
            refine Cw_exit ?_
            refine Shift.pull (.there (.there (.there (.there (.there .here))))) ?_
            refine Shift.pull (.there (.there (.there (.there (.there .here))))) ?_
            refine Shift.pull (.there (.there (.there (.there (.there .here))))) ?_
            refine Shift.pull (.there (.there (.there (.there (.there .here))))) ?_
            refine Shift.pull (.there (.there (.there (.there .here)))) ?_
            refine Shift.rem (.there (.there (.there (.there (.there .here))))) ?_
            refine Shift.done ?_
            exact ⟨[(1, (.int .i64 p1)), (5, (.pointer (some ((⟨b305, 0, none⟩ : Addr).add 0)))), (6, (sv v296)), (7, (sv v298)), (8, (.int .i64 i813))], ⟨rfl, rfl, rfl, rfl, rfl, trivial⟩, rfl, rfl, H⟩
        rintro _ K1216 _ hK1217 ⟨rfl, rfl, H⟩
        unfold M_law25_AccountLists_J2 at H
        refine Cw_region ?_
        refine Ow_q rfl rfl rfl (Qt_move rfl) ?_
        refine Ow_q rfl rfl rfl (Qt_arith (e := wI (i813 + 1)) rfl rfl rfl rfl) ?_
        refine Ow_q rfl rfl rfl (Qt_assign rfl) ?_
        refine Ow_nil ?_
        refine Shift.pull (.there (.there (.there (.there .here)))) ?_
        refine Shift.pull (.there (.there (.there (.there .here)))) ?_
        refine Shift.pull (.there (.there (.there (.there .here)))) ?_
        refine Shift.pull (.there (.there (.there (.there .here)))) ?_
        refine Shift.pull (.there (.there (.there (.there .here)))) ?_
        have hs1218 := (hs812).mono hK1217
        refine Shift.done ?_
        exact ⟨[(1, (.int .i64 p1)), (5, (.pointer (some ((⟨b305, 0, none⟩ : Addr).add 0)))), (6, (sv v296)), (7, (sv v298)), (8, (.int .i64 (wI (i813 + 1))))], ⟨rfl, rfl, rfl, rfl, rfl, trivial⟩, _, Nat.lt_succ_self _, (wI (i813 + 1)), rfl, rfl, (hkk822 ▸ H), hs1218⟩
      · intro h826
        have h826 := dcd_f (h826)
        have H := iff_ h826 H
        refine Cw_exit ?_
        refine Shift.rem .here ?_
        refine Shift.rem .here ?_
        refine Shift.rem .here ?_
        refine Shift.rem .here ?_
        refine Shift.rem .here ?_
        refine Shift.done ?_
        exact ⟨[], trivial, rfl, rfl, H⟩
    rintro _ K1219 _ hK1220 ⟨rfl, rfl, H⟩
    unfold M_law25_AccountLists_J1 at H
    refine Cw_seq ?_
    refine Cw_region ?_
    refine Ow_q rfl rfl rfl (Qt_assign rfl) ?_
    refine Ow_nil ?_
    refine Cw_ret ?_
    obtain ey0 := inj1 H
    subst y0
    refine ⟨(by first | exact .inl rfl | exact .inr rfl), [(.bool true)], ⟨(.bool true), _, rfl, rfl, rfl⟩, ?_⟩
    refine Shift.done ?_
    exact ⟨rfl, rfl⟩



end Go.Hx
