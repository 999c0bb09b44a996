/- Printed by program. -/
import Derived.Test.YthpjaddchdnejaaXBM
import Derived.Test.YthpjaddchdnejaaXBWHistory
import Derived.Test.YthpjaddchdnejaaXBWLaw16
import Derived.Test.YthpjaddchdnejaaXBWLaw161
import Derived.Test.YthpjaddchdnejaaXBWRef16
namespace Go.Hx
open Go Go.Proofs
set_option linter.unusedSimpArgs false
set_option linter.unusedVariables false
set_option maxRecDepth 10000
set_option maxHeartbeats 1000000 in
theorem c_M_law16_HistoryPrecedes (p0 : List Int) (vp0 : SV) (p1 : List Event) (vp1 : SV) (p2 : A2Int) (p3 : A2Int) (y0 : Bool) (H : M_law16_HistoryPrecedes p0 p1 p2 p3 = some y0) (K : Kp) (G : List Ent) (hp0 : Slr Ty.u8 K (sv vp0) p0) (hp1 : Slr TyEvent K (sv vp1) p1) :
    Fc Try.prog 4 #[(sv vp0), (sv vp1), (.agg (A2Int.cells p2).toArray), (.agg (A2Int.cells p3).toArray)] K (G) (fun v K' G' => v = (.bool y0) ∧ G = G') := by
  refine Fc_body Try.func4 rfl Try.ntmps4 Try.results4 rfl ?_
  unfold M_law16_HistoryPrecedes at H
  refine Cw_seq ?_
  refine Cw_region ?_
  refine Ow_cons rfl (OpW_box (cs := (A2Int.cells p2)) rfl rfl rfl (fun b1072 => ?_))
  refine Ow_cons rfl (OpW_box (cs := (A2Int.cells p3)) rfl rfl rfl (fun b1073 => ?_))
  refine Ow_q rfl rfl rfl (Qt_assign rfl) ?_
  refine Ow_nil ?_
  refine Cw_seq ?_
  refine Cw_seq ?_
  refine Cw_region ?_
  obtain ⟨x1079, hx1080, H⟩ := bnd H
  refine Ow_cons rfl (OpW_call rfl Try.call14 rfl rfl (c_M_law16_awake  x1079 hx1080 _ _ ) ?_)
  rintro _ K1081 _ hK1082 ⟨rfl, rfl⟩
  refine Ow_q rfl rfl rfl (Qt_not rfl) ?_
  refine Ow_nil ?_
  refine Cw_cond rfl ?_ ?_
  · intro h1083
    have h1083 := nt_t (h1083)
    have H := iff_ (btf h1083) H
    refine Cw_seq ?_
    refine Cw_region ?_
    refine Ow_q rfl rfl rfl (Qt_assign rfl) ?_
    refine Ow_nil ?_
    refine Cw_ret ?_
    obtain ey0 := inj1 H
    subst y0
    refine ⟨(by first | exact .inl rfl | exact .inr rfl), [(.bool false)], ⟨(.bool false), _, rfl, rfl, rfl⟩, ?_⟩
    refine Shift.rem .here ?_
    refine Shift.rem .here ?_
    refine Shift.done ?_
    exact ⟨rfl, rfl⟩
  · intro h1083
    have h1083 := nt_f (h1083)
    have H := ift h1083 H
    refine Cw_skip ?_
    refine Cw_seq ?_
    refine Cw_seq ?_
    refine Cw_region ?_
    refine Ow_q rfl rfl rfl (Qt_move rfl) ?_
    have hs1086 := (hp1).mono hK1082
    refine Ow_q rfl rfl rfl (Q_len (T := TyEvent) hs1086 rfl rfl) ?_
    refine Ow_q rfl rfl rfl (Qt_cmp rfl rfl rfl) ?_
    refine Ow_nil ?_
    refine Cw_cond rfl ?_ ?_
    · intro h1087
      have h1087 := dcd_t (h1087)
      have H := ift h1087 H
      refine Cw_seq ?_
      refine Cw_region ?_
      refine Ow_q rfl rfl rfl (Qt_assign rfl) ?_
      refine Ow_nil ?_
      refine Cw_ret ?_
      obtain ey0 := inj1 H
      subst y0
      refine ⟨(by first | exact .inl rfl | exact .inr rfl), [(.bool true)], ⟨(.bool true), _, rfl, rfl, rfl⟩, ?_⟩
      refine Shift.rem .here ?_
      refine Shift.rem .here ?_
      refine Shift.done ?_
      exact ⟨rfl, rfl⟩
    · intro h1087
      have h1087 := dcd_f (h1087)
      have H := iff_ h1087 H
      refine Cw_skip ?_
      refine Cw_seq ?_
      refine Cw_region ?_
      refine Ow_q rfl rfl rfl (Qt_move rfl) ?_
      obtain ⟨x1088, x1089, hx1090, H⟩ := bnd2 H
      have hs1091 := (hp0).mono hK1082
      refine Ow_cons rfl (OpW_call rfl Try.call15 rfl rfl (c_M_law16_made p0 vp0 x1088 x1089 hx1090 _ _ hs1091) ?_)
      rintro _ K1095 _ hK1096 ⟨v1092, rs1093, v1094, rfl, rfl, hs1097, hs1098⟩
      refine Ow_q rfl rfl rfl (Qt_move rfl) ?_
      refine Ow_q rfl rfl rfl (Qt_extract rfl rfl) ?_
      refine Ow_q rfl rfl rfl (Qt_extract rfl rfl) ?_
      refine Ow_q rfl rfl rfl (Qt_assign rfl) ?_
      refine Ow_q rfl rfl rfl (Qt_assign rfl) ?_
      refine Ow_nil ?_
      refine Cw_join (fun env' K' G' => [] = env' ∧ G = G' ∧ M_law16_HistoryPrecedes_J1 = some y0) ?_ ?_
      · skip
        refine Cw_seq ?_
        refine Cw_region ?_
        refine Ow_q rfl rfl rfl (Qt_move rfl) ?_
        refine Ow_q rfl rfl rfl (Qt_move rfl) ?_
        have hs2150 := (hs1086).mono hK1096
        have hR2149 : RowR (Ty.sl TyEvent) K1095 [[(sv v1094)], [(sv vp1)]] [x1089, p1] := RowR.cons ⟨v1094, rfl, hs1098⟩ (RowR.cons ⟨vp1, rfl, hs2150⟩ (RowR.nil))
        refine Ow_cons rfl (O_lit (T := (Ty.sl TyEvent)) (rows := [[(sv v1094)], [(sv vp1)]]) (l := [x1089, p1]) rfl rfl rfl hR2149 rfl rfl rfl rfl rfl rfl rfl rfl (fun v2148 => ?_))
        refine Ow_q rfl rfl rfl (Q_lenR (T := (Ty.sl TyEvent)) (.head _) hR2149 rfl rfl rfl) ?_
        refine Ow_q rfl rfl rfl (Qt_move rfl) ?_
        refine Ow_nil ?_
        refine Cw_block ?_
        refine Cw_loopM (fun n3197 env' K' G' => ∃ (i3196 : Int), [(6, (.pointer (some ((⟨b1072, 0, none⟩ : Addr).add 0)))), (7, (.pointer (some ((⟨b1073, 0, none⟩ : Addr).add 0)))), (28, (sv v2148)), (29, (.int .i64 ([x1089, p1].length : Int))), (30, (.int .i64 i3196))] = env' ∧ (.blk b1073 36 (A2Int.cells p3)) :: (.blk b1072 36 (A2Int.cells p2)) :: (.row (sv v2148) 23 1 [[(sv v1094)], [(sv vp1)]].flatten) :: G = G' ∧ lp1 (M_law16_HistoryPrecedes_L1 x1089 p1 p3 p2) n3197 i3196 = some y0) BIG ?_ ?_
        · skip
          refine Shift.pull (.there (.there (.there (.there .here)))) ?_
          refine Shift.pull (.there (.there (.there (.there .here)))) ?_
          refine Shift.rem (.there (.there (.there .here))) ?_
          refine Shift.rem (.there (.there (.there .here))) ?_
          refine Shift.done ?_
          exact ⟨[(6, (.pointer (some ((⟨b1072, 0, none⟩ : Addr).add 0)))), (7, (.pointer (some ((⟨b1073, 0, none⟩ : Addr).add 0)))), (28, (sv v2148)), (29, (.int .i64 ([x1089, p1].length : Int))), (30, (.int .i64 0))], ⟨rfl, rfl, rfl, rfl, rfl, trivial⟩, 0, rfl, rfl, H⟩
        rintro n3197 _ K3198 _ hK3199 ⟨i3196, rfl, rfl, H⟩
        obtain ⟨m3200, k3201, rfl, hkk3202, H⟩ := lps1 H
        unfold M_law16_HistoryPrecedes_L1 at H
        refine Cw_seq ?_
        refine Cw_region ?_
        refine Ow_q rfl rfl rfl (Qt_cmp rfl rfl rfl) ?_
        refine Ow_nil ?_
        refine Cw_seq ?_
        refine Cw_cond rfl ?_ ?_
        · intro h3204
          have h3204 := dcd_t (h3204)
          have H := ift h3204 H
          refine Cw_skip ?_
          refine Cw_join (fun env' K' G' => [(6, (.pointer (some ((⟨b1072, 0, none⟩ : Addr).add 0)))), (7, (.pointer (some ((⟨b1073, 0, none⟩ : Addr).add 0)))), (28, (sv v2148)), (29, (.int .i64 ([x1089, p1].length : Int))), (30, (.int .i64 i3196))] = env' ∧ (.blk b1073 36 (A2Int.cells p3)) :: (.blk b1072 36 (A2Int.cells p2)) :: (.row (sv v2148) 23 1 [[(sv v1094)], [(sv vp1)]].flatten) :: G = G' ∧ M_law16_HistoryPrecedes_J2 x1089 p1 i3196 p3 p2 k3201 = some y0) ?_ ?_
          · skip
            refine Cw_block ?_
            refine Cw_seq ?_
            refine Cw_region ?_
            obtain ⟨x3722, hx3723, H⟩ := bnd H
            have hs3724 := (hR2149).mono hK3199
            obtain ⟨r3725, hq3726, hr3727⟩ := RowR.at hs3724 hx3723
            obtain ⟨v3728, rfl, hs3729⟩ := hr3727
            refine Ow_q rfl rfl rfl (Q_ixR (T := (Ty.sl TyEvent)) (.tail _ (.tail _ (.head _))) hs3724 hq3726 (getI_ix hx3723).1 rfl rfl rfl rfl rfl) ?_
            refine Ow_q rfl rfl rfl (Qt_load1 (v := (sv v3728)) rfl rfl rfl (Rd_row (T := (Ty.sl TyEvent)) (.tail _ (.tail _ (.head _))) hs3724 hq3726 rfl rfl)) ?_
            refine Ow_q rfl rfl rfl (Qt_assign rfl) ?_
            refine Ow_nil ?_
            refine Cw_seq ?_
            obtain ⟨x3730, hx3731, H⟩ := bnd H
            obtain ⟨x3738, hx3739, H⟩ := bnd H
            refine Cw_region_any [.blk b1073 36 (A2Int.cells p3), .blk b1072 36 (A2Int.cells p2), .row (sv v2148) 23 1 [[(sv v1094)], [(sv vp1)]].flatten] rfl (Inc.cons (.head _) (Inc.cons (.tail _ (.head _)) (Inc.cons (.tail _ (.tail _ (.head _))) Inc.nil))) ?_
            refine Aw_q 0 rfl (by kernel_rfl) (by kernel_rfl) (by kernel_rfl) rfl rfl rfl (Qt_move rfl) ?_
            refine Aw_q 2 rfl (by kernel_rfl) (by kernel_rfl) (by kernel_rfl) rfl rfl rfl (Qt_loadA (m := 2) (cs := (A2Int.cells p2)) rfl rfl rfl rfl ⟨rfl, Rdc.blk (.tail _ (.head _)) rfl⟩) ?_
            refine Aw_q 3 rfl (by kernel_rfl) (by kernel_rfl) (by kernel_rfl) rfl rfl rfl (Qt_loadA (m := 2) (cs := (A2Int.cells p3)) rfl rfl rfl rfl ⟨rfl, Rdc.blk (.head _) rfl⟩) ?_
            refine Aw_two 1 4 (by kernel_rfl) ?_ ?_
            · skip
              refine id (Ax_mk rfl rfl (OpW_call rfl Try.call19 rfl rfl (c_M_ref16_Calls x3722 v3728 x3730 hx3731 _ _ hs3729) ?_))
              rintro _ K3745 _ hK3746 ⟨v3744, rfl, rfl, hs3747⟩
              refine ⟨(Inc.cons (.tail _ (.head _)) (Inc.cons (.tail _ (.tail _ (.head _))) (Inc.cons (.tail _ (.tail _ (.tail _ (.head _)))) Inc.nil))), ?_⟩
              have hR3749 : RowR TyA2Int K3745 [(A2Int.cells p2), (A2Int.cells p3)] [p2, p3] := RowR.cons rfl (RowR.cons rfl (RowR.nil))
              refine Aw_one 4 (by kernel_rfl) (Ax_mk rfl rfl (O_lit (T := TyA2Int) (rows := [(A2Int.cells p2), (A2Int.cells p3)]) (l := [p2, p3]) rfl rfl rfl hR3749 rfl rfl rfl rfl rfl rfl rfl rfl (fun v3748 => ⟨(Inc.cons (.tail _ (.tail _ (.head _))) (Inc.cons (.tail _ (.tail _ (.tail _ (.head _)))) (Inc.cons (.tail _ (.tail _ (.tail _ (.tail _ (.head _))))) Inc.nil))), ?_⟩)))
              refine Aw_one 5 (by kernel_rfl) (Ax_mk rfl rfl (O_appTok (T := TyA2Int) (bytes := 16) (q := 0) rfl rfl rfl hs3747 (.tail _ (.head _)) rfl (SrcT.row (.head _) hR3749 rfl) hx3739 rfl rfl rfl rfl rfl rfl rfl rfl (fun v3750 K3751 hK3752 hs3753 => ⟨_, (.there .here), ⟨(Inc.cons (.tail _ (.tail _ (.head _))) (Inc.cons (.tail _ (.tail _ (.tail _ (.head _)))) (Inc.cons (.tail _ (.tail _ (.tail _ (.tail _ (.head _))))) Inc.nil))), ?_⟩⟩)))
              refine Aw.shift (Shift.rem .here (Shift.done ⟨(Inc.cons (.tail _ (.head _)) (Inc.cons (.tail _ (.tail _ (.head _))) (Inc.cons (.tail _ (.tail _ (.tail _ (.head _)))) Inc.nil))), ?_⟩))
              refine Aw_q 6 rfl (by kernel_rfl) (by kernel_rfl) (by kernel_rfl) rfl rfl rfl (Qt_assign rfl) ?_
              refine Aw_done (by kernel_rfl) ?_
              refine Cw_seq ?_
              refine Cw_region ?_
              refine Ow_q rfl rfl rfl (Qt_move rfl) ?_
              refine Ow_q rfl rfl rfl (Q_len (T := TyA2Int) hs3753 rfl rfl) ?_
              refine Ow_q rfl rfl rfl (Qt_move rfl) ?_
              refine Ow_nil ?_
              refine Cw_block ?_
              refine Cw_loopM (fun n3991 env' K' G' => ∃ (i3990 : Int), [(6, (.pointer (some ((⟨b1072, 0, none⟩ : Addr).add 0)))), (7, (.pointer (some ((⟨b1073, 0, none⟩ : Addr).add 0)))), (12, (sv v3728)), (13, (sv v3750)), (28, (sv v2148)), (29, (.int .i64 ([x1089, p1].length : Int))), (30, (.int .i64 i3196)), (41, (.int .i64 (x3738.length : Int))), (42, (.int .i64 i3990))] = env' ∧ (.blk b1073 36 (A2Int.cells p3)) :: (.blk b1072 36 (A2Int.cells p2)) :: (.tok 36 2 [(sv v3750)]) :: (.row (sv v2148) 23 1 [[(sv v1094)], [(sv vp1)]].flatten) :: G = G' ∧ lp1 (M_law16_HistoryPrecedes_L2 x3722 x3738 x1089 p1 i3196 p3 p2 k3201) n3991 i3990 = some y0) BIG ?_ ?_
              · skip
                refine Shift.pull (.there (.there (.there .here))) ?_
                refine Shift.pull (.there .here) ?_
                refine Shift.pull (.there (.there (.there .here))) ?_
                refine Shift.pull (.there (.there (.there .here))) ?_
                refine Shift.done ?_
                exact ⟨[(6, (.pointer (some ((⟨b1072, 0, none⟩ : Addr).add 0)))), (7, (.pointer (some ((⟨b1073, 0, none⟩ : Addr).add 0)))), (12, (sv v3728)), (13, (sv v3750)), (28, (sv v2148)), (29, (.int .i64 ([x1089, p1].length : Int))), (30, (.int .i64 i3196)), (41, (.int .i64 (x3738.length : Int))), (42, (.int .i64 0))], ⟨rfl, rfl, rfl, rfl, rfl, rfl, rfl, rfl, rfl, trivial⟩, 0, rfl, rfl, H⟩
              rintro n3991 _ K3992 _ hK3993 ⟨i3990, rfl, rfl, H⟩
              obtain ⟨m3994, k3995, rfl, hkk3996, H⟩ := lps1 H
              unfold M_law16_HistoryPrecedes_L2 at H
              refine Cw_seq ?_
              refine Cw_region ?_
              refine Ow_q rfl rfl rfl (Qt_cmp rfl rfl rfl) ?_
              refine Ow_nil ?_
              refine Cw_seq ?_
              refine Cw_cond rfl ?_ ?_
              · intro h3998
                have h3998 := dcd_t (h3998)
                have H := ift h3998 H
                refine Cw_skip ?_
                refine Cw_join (fun env' K' G' => [(6, (.pointer (some ((⟨b1072, 0, none⟩ : Addr).add 0)))), (7, (.pointer (some ((⟨b1073, 0, none⟩ : Addr).add 0)))), (12, (sv v3728)), (13, (sv v3750)), (28, (sv v2148)), (29, (.int .i64 ([x1089, p1].length : Int))), (30, (.int .i64 i3196)), (41, (.int .i64 (x3738.length : Int))), (42, (.int .i64 i3990))] = env' ∧ (.blk b1073 36 (A2Int.cells p3)) :: (.blk b1072 36 (A2Int.cells p2)) :: (.tok 36 2 [(sv v3750)]) :: (.row (sv v2148) 23 1 [[(sv v1094)], [(sv vp1)]].flatten) :: G = G' ∧ M_law16_HistoryPrecedes_J3 x3722 x3738 x1089 p1 i3196 i3990 p3 p2 k3201 k3995 = some y0) ?_ ?_
                · skip
                  refine Cw_block ?_
                  refine Cw_seq ?_
                  refine Cw_region ?_
                  refine Ow_q rfl rfl rfl (Qt_move rfl) ?_
                  refine Ow_q rfl rfl rfl (Qt_assign rfl) ?_
                  refine Ow_nil ?_
                  refine Cw_seq ?_
                  refine Cw_region ?_
                  refine Ow_q rfl rfl rfl (Qt_move rfl) ?_
                  have hs4112 := (hs3753).mono hK3993
                  refine Ow_q rfl rfl rfl (Q_len (T := TyA2Int) hs4112 rfl rfl) ?_
                  refine Ow_q rfl rfl rfl (Qt_move rfl) ?_
                  refine Ow_nil ?_
                  refine Cw_block ?_
                  refine Cw_loopM (fun n4225 env' K' G' => ∃ (i4224 : Int), [(6, (.pointer (some ((⟨b1072, 0, none⟩ : Addr).add 0)))), (7, (.pointer (some ((⟨b1073, 0, none⟩ : Addr).add 0)))), (12, (sv v3728)), (13, (sv v3750)), (14, (.int .i64 i3990)), (28, (sv v2148)), (29, (.int .i64 ([x1089, p1].length : Int))), (30, (.int .i64 i3196)), (41, (.int .i64 (x3738.length : Int))), (42, (.int .i64 i3990)), (46, (.int .i64 (x3738.length : Int))), (47, (.int .i64 i4224))] = env' ∧ (.blk b1073 36 (A2Int.cells p3)) :: (.blk b1072 36 (A2Int.cells p2)) :: (.tok 36 2 [(sv v3750)]) :: (.row (sv v2148) 23 1 [[(sv v1094)], [(sv vp1)]].flatten) :: G = G' ∧ lp1 (M_law16_HistoryPrecedes_L3 x3722 x3738 i3990 x1089 p1 i3196 p3 p2 k3201 k3995) n4225 i4224 = some y0) BIG ?_ ?_
                  · skip
                    refine Shift.pull (.there (.there (.there .here))) ?_
                    refine Shift.pull (.there (.there (.there .here))) ?_
                    refine Shift.pull (.there (.there (.there .here))) ?_
                    refine Shift.pull (.there (.there (.there .here))) ?_
                    refine Shift.done ?_
                    exact ⟨[(6, (.pointer (some ((⟨b1072, 0, none⟩ : Addr).add 0)))), (7, (.pointer (some ((⟨b1073, 0, none⟩ : Addr).add 0)))), (12, (sv v3728)), (13, (sv v3750)), (14, (.int .i64 i3990)), (28, (sv v2148)), (29, (.int .i64 ([x1089, p1].length : Int))), (30, (.int .i64 i3196)), (41, (.int .i64 (x3738.length : Int))), (42, (.int .i64 i3990)), (46, (.int .i64 (x3738.length : Int))), (47, (.int .i64 0))], ⟨rfl, rfl, rfl, rfl, rfl, rfl, rfl, rfl, rfl, rfl, rfl, rfl, trivial⟩, 0, rfl, rfl, H⟩
                  rintro n4225 _ K4226 _ hK4227 ⟨i4224, rfl, rfl, H⟩
                  obtain ⟨m4228, k4229, rfl, hkk4230, H⟩ := lps1 H
                  unfold M_law16_HistoryPrecedes_L3 at H
                  refine Cw_seq ?_
                  refine Cw_region ?_
                  refine Ow_q rfl rfl rfl (Qt_cmp rfl rfl rfl) ?_
                  refine Ow_nil ?_
                  refine Cw_seq ?_
                  refine Cw_cond rfl ?_ ?_
                  · intro h4232
                    have h4232 := dcd_t (h4232)
                    have H := ift h4232 H
                    refine Cw_skip ?_
                    refine Cw_seq ?_
                    refine Cw_block ?_
                    refine Cw_seq ?_
                    refine Cw_region ?_
                    refine Ow_q rfl rfl rfl (Qt_move rfl) ?_
                    refine Ow_q rfl rfl rfl (Qt_assign rfl) ?_
                    refine Ow_nil ?_
                    refine Cw_seq ?_
                    obtain ⟨x4285, hx4286, H⟩ := bnd H
                    obtain ⟨x4291, hx4292, H⟩ := bnd H
                    obtain ⟨x4296, hx4297, H⟩ := bnd H
                    obtain ⟨x4301, hx4302, H⟩ := bnd H
                    obtain ⟨x4307, hx4308, H⟩ := bnd H
                    obtain ⟨x4312, hx4313, H⟩ := bnd H
                    refine Cw_region_any [.blk b1073 36 (A2Int.cells p3), .blk b1072 36 (A2Int.cells p2), .tok 36 2 [(sv v3750)], .row (sv v2148) 23 1 [[(sv v1094)], [(sv vp1)]].flatten] rfl (Inc.cons (.head _) (Inc.cons (.tail _ (.head _)) (Inc.cons (.tail _ (.tail _ (.head _))) (Inc.cons (.tail _ (.tail _ (.tail _ (.head _)))) Inc.nil)))) ?_
                    refine Aw_q 0 rfl (by kernel_rfl) (by kernel_rfl) (by kernel_rfl) rfl rfl rfl (Qt_move rfl) ?_
                    refine Aw_q 1 rfl (by kernel_rfl) (by kernel_rfl) (by kernel_rfl) rfl rfl rfl (Qt_move rfl) ?_
                    refine Aw_q 2 rfl (by kernel_rfl) (by kernel_rfl) (by kernel_rfl) rfl rfl rfl (Qt_move rfl) ?_
                    have hs4317 := (hs4112).mono hK4227
                    obtain ⟨r4318, hr4319, hk4320⟩ := Slr.at hs4317 hx4286
                    obtain rfl := hr4319
                    refine Aw_q 3 rfl (by kernel_rfl) (by kernel_rfl) (by kernel_rfl) rfl rfl rfl (Q_ix (T := TyA2Int) hs4317 hx4286 rfl rfl rfl rfl rfl) ?_
                    refine Aw_q 4 rfl (by kernel_rfl) (by kernel_rfl) (by kernel_rfl) rfl rfl rfl (Qt_loadA (m := 2) (cs := (A2Int.cells x4285)) rfl rfl rfl rfl ⟨rfl, Rdc.k hk4320 rfl⟩) ?_
                    refine Aw_q 5 rfl (by kernel_rfl) (by kernel_rfl) (by kernel_rfl) rfl rfl rfl (Qt_move rfl) ?_
                    refine Aw_q 6 rfl (by kernel_rfl) (by kernel_rfl) (by kernel_rfl) rfl rfl rfl (Qt_move rfl) ?_
                    obtain ⟨r4321, hr4322, hk4323⟩ := Slr.at hs4317 hx4292
                    obtain rfl := hr4322
                    refine Aw_q 7 rfl (by kernel_rfl) (by kernel_rfl) (by kernel_rfl) rfl rfl rfl (Q_ix (T := TyA2Int) hs4317 hx4292 rfl rfl rfl rfl rfl) ?_
                    refine Aw_q 8 rfl (by kernel_rfl) (by kernel_rfl) (by kernel_rfl) rfl rfl rfl (Qt_loadA (m := 2) (cs := (A2Int.cells x4291)) rfl rfl rfl rfl ⟨rfl, Rdc.k hk4323 rfl⟩) ?_
                    refine Aw_q 10 rfl (by kernel_rfl) (by kernel_rfl) (by kernel_rfl) rfl rfl rfl (Qt_move rfl) ?_
                    refine Aw_q 11 rfl (by kernel_rfl) (by kernel_rfl) (by kernel_rfl) rfl rfl rfl (Qt_move rfl) ?_
                    refine Aw_q 12 rfl (by kernel_rfl) (by kernel_rfl) (by kernel_rfl) rfl rfl rfl (Qt_move rfl) ?_
                    obtain ⟨r4324, hr4325, hk4326⟩ := Slr.at hs4317 hx4302
                    obtain rfl := hr4325
                    refine Aw_q 13 rfl (by kernel_rfl) (by kernel_rfl) (by kernel_rfl) rfl rfl rfl (Q_ix (T := TyA2Int) hs4317 hx4302 rfl rfl rfl rfl rfl) ?_
                    refine Aw_q 14 rfl (by kernel_rfl) (by kernel_rfl) (by kernel_rfl) rfl rfl rfl (Qt_loadA (m := 2) (cs := (A2Int.cells x4301)) rfl rfl rfl rfl ⟨rfl, Rdc.k hk4326 rfl⟩) ?_
                    refine Aw_q 15 rfl (by kernel_rfl) (by kernel_rfl) (by kernel_rfl) rfl rfl rfl (Qt_move rfl) ?_
                    refine Aw_q 16 rfl (by kernel_rfl) (by kernel_rfl) (by kernel_rfl) rfl rfl rfl (Qt_move rfl) ?_
                    obtain ⟨r4327, hr4328, hk4329⟩ := Slr.at hs4317 hx4308
                    obtain rfl := hr4328
                    refine Aw_q 17 rfl (by kernel_rfl) (by kernel_rfl) (by kernel_rfl) rfl rfl rfl (Q_ix (T := TyA2Int) hs4317 hx4308 rfl rfl rfl rfl rfl) ?_
                    refine Aw_q 18 rfl (by kernel_rfl) (by kernel_rfl) (by kernel_rfl) rfl rfl rfl (Qt_loadA (m := 2) (cs := (A2Int.cells x4307)) rfl rfl rfl rfl ⟨rfl, Rdc.k hk4329 rfl⟩) ?_
                    have hs4330 := ((((hs3729).mono hK3746).mono hK3752).mono hK3993).mono hK4227
                    refine Aw_one 9 (by kernel_rfl) (Ax_mk rfl rfl (OpW_call rfl Try.call20 rfl rfl (c_M_history_Precedes x3722 v3728 x4285 x4291 x4296 hx4297 _ _ hs4330) ?_))
                    rintro _ K4331 _ hK4332 ⟨rfl, rfl⟩
                    refine ⟨(Inc.cons (.head _) (Inc.cons (.tail _ (.head _)) (Inc.cons (.tail _ (.tail _ (.head _))) (Inc.cons (.tail _ (.tail _ (.tail _ (.head _)))) Inc.nil)))), ?_⟩
                    have hs4333 := (hs4330).mono hK4332
                    refine Aw_one 19 (by kernel_rfl) (Ax_mk rfl rfl (OpW_call rfl Try.call21 rfl rfl (c_M_ref16_Precedes x3722 v3728 x4301 x4307 x4312 hx4313 _ _ hs4333) ?_))
                    rintro _ K4334 _ hK4335 ⟨rfl, rfl⟩
                    refine ⟨(Inc.cons (.head _) (Inc.cons (.tail _ (.head _)) (Inc.cons (.tail _ (.tail _ (.head _))) (Inc.cons (.tail _ (.tail _ (.tail _ (.head _)))) Inc.nil)))), ?_⟩
                    refine Aw_q 20 rfl (by kernel_rfl) (by kernel_rfl) (by kernel_rfl) rfl rfl rfl (Qt_neB rfl rfl rfl) ?_
                    refine Aw_done (by kernel_rfl) ?_
                    refine Cw_cond rfl ?_ ?_
                    · intro h4336
                      have h4336 := nt_t (h4336)
                      have H := iff_ (btf h4336) H
                      refine Cw_seq ?_
                      refine Cw_region ?_
                      refine Ow_q rfl rfl rfl (Qt_assign rfl) ?_
                      refine Ow_nil ?_
                      refine Cw_ret ?_
                      obtain ey0 := inj1 H
                      subst y0
                      refine ⟨(by first | exact .inl rfl | exact .inr rfl), [(.bool false)], ⟨(.bool false), _, rfl, rfl, rfl⟩, ?_⟩
                      refine Shift.rem .here ?_
                      refine Shift.rem .here ?_
                      refine Shift.rem .here ?_
                      refine Shift.rem .here ?_
                      refine Shift.done ?_
                      exact ⟨rfl, rfl⟩
                    · intro h4336
                      have h4336 := nt_f (h4336)
                      have H := ift h4336 H
                      refine Cw_skip ?_
                      refine Cw_region ?_
                      refine Ow_q rfl rfl rfl (Qt_arith (e := wI (i4224 + 1)) rfl rfl rfl rfl) ?_
                      refine Ow_q rfl rfl rfl (Qt_move rfl) ?_
                      refine Ow_nil ?_
                      refine Shift.pull (.there (.there (.there .here))) ?_
                      refine Shift.pull (.there (.there (.there .here))) ?_
                      refine Shift.pull (.there (.there (.there .here))) ?_
                      refine Shift.pull (.there (.there (.there .here))) ?_
                      refine Shift.done ?_
                      exact ⟨[(6, (.pointer (some ((⟨b1072, 0, none⟩ : Addr).add 0)))), (7, (.pointer (some ((⟨b1073, 0, none⟩ : Addr).add 0)))), (12, (sv v3728)), (13, (sv v3750)), (14, (.int .i64 i3990)), (28, (sv v2148)), (29, (.int .i64 ([x1089, p1].length : Int))), (30, (.int .i64 i3196)), (41, (.int .i64 (x3738.length : Int))), (42, (.int .i64 i3990)), (46, (.int .i64 (x3738.length : Int))), (47, (.int .i64 (wI (i4224 + 1))))], ⟨rfl, rfl, rfl, rfl, rfl, rfl, rfl, rfl, rfl, rfl, rfl, rfl, trivial⟩, _, Nat.lt_succ_self _, (wI (i4224 + 1)), rfl, rfl, (hkk4230 ▸ H)⟩
                  · intro h4232
                    have h4232 := dcd_f (h4232)
                    have H := iff_ h4232 H
                    refine Cw_exit ?_
                    refine Shift.pull (.there (.there (.there .here))) ?_
                    refine Shift.pull (.there (.there (.there .here))) ?_
                    refine Shift.pull (.there (.there (.there .here))) ?_
                    refine Shift.pull (.there (.there (.there .here))) ?_
                    refine Shift.done ?_
                    exact ⟨[(6, (.pointer (some ((⟨b1072, 0, none⟩ : Addr).add 0)))), (7, (.pointer (some ((⟨b1073, 0, none⟩ : Addr).add 0)))), (12, (sv v3728)), (13, (sv v3750)), (28, (sv v2148)), (29, (.int .i64 ([x1089, p1].length : Int))), (30, (.int .i64 i3196)), (41, (.int .i64 (x3738.length : Int))), (42, (.int .i64 i3990))], ⟨rfl, rfl, rfl, rfl, rfl, rfl, rfl, rfl, rfl, trivial⟩, rfl, rfl, H⟩
                rintro _ K4337 _ hK4338 ⟨rfl, rfl, H⟩
                unfold M_law16_HistoryPrecedes_J3 at H
                refine Cw_region ?_
                refine Ow_q rfl rfl rfl (Qt_arith (e := wI (i3990 + 1)) rfl rfl rfl rfl) ?_
                refine Ow_q rfl rfl rfl (Qt_move rfl) ?_
                refine Ow_nil ?_
                refine Shift.pull (.there (.there (.there .here))) ?_
                refine Shift.pull (.there (.there (.there .here))) ?_
                refine Shift.pull (.there (.there (.there .here))) ?_
                refine Shift.pull (.there (.there (.there .here))) ?_
                refine Shift.done ?_
                exact ⟨[(6, (.pointer (some ((⟨b1072, 0, none⟩ : Addr).add 0)))), (7, (.pointer (some ((⟨b1073, 0, none⟩ : Addr).add 0)))), (12, (sv v3728)), (13, (sv v3750)), (28, (sv v2148)), (29, (.int .i64 ([x1089, p1].length : Int))), (30, (.int .i64 i3196)), (41, (.int .i64 (x3738.length : Int))), (42, (.int .i64 (wI (i3990 + 1))))], ⟨rfl, rfl, rfl, rfl, rfl, rfl, rfl, rfl, rfl, trivial⟩, _, Nat.lt_succ_self _, (wI (i3990 + 1)), rfl, rfl, (hkk3996 ▸ H)⟩
              · intro h3998
                have h3998 := dcd_f (h3998)
                have H := iff_ h3998 H
                refine Cw_exit ?_
                refine Shift.pull (.there (.there (.there .here))) ?_
                refine Shift.pull (.there (.there .here)) ?_
                refine Shift.pull (.there (.there .here)) ?_
                refine Shift.rem (.there (.there (.there .here))) ?_
                refine Shift.done ?_
                exact ⟨[(6, (.pointer (some ((⟨b1072, 0, none⟩ : Addr).add 0)))), (7, (.pointer (some ((⟨b1073, 0, none⟩ : Addr).add 0)))), (28, (sv v2148)), (29, (.int .i64 ([x1089, p1].length : Int))), (30, (.int .i64 i3196))], ⟨rfl, rfl, rfl, rfl, rfl, trivial⟩, rfl, rfl, H⟩
            · skip
              have hR4340 : RowR TyA2Int K3198 [(A2Int.cells p2), (A2Int.cells p3)] [p2, p3] := RowR.cons rfl (RowR.cons rfl (RowR.nil))
              refine id (Ax_mk rfl rfl (O_lit (T := TyA2Int) (rows := [(A2Int.cells p2), (A2Int.cells p3)]) (l := [p2, p3]) rfl rfl rfl hR4340 rfl rfl rfl rfl rfl rfl rfl rfl (fun v4339 => ⟨(Inc.cons (.tail _ (.head _)) (Inc.cons (.tail _ (.tail _ (.head _))) (Inc.cons (.tail _ (.tail _ (.tail _ (.head _)))) Inc.nil))), ?_⟩)))
              refine Aw_one 1 (by kernel_rfl) (Ax_mk rfl rfl (OpW_call rfl Try.call19 rfl rfl (c_M_ref16_Calls x3722 v3728 x3730 hx3731 _ _ hs3729) ?_))
              rintro _ K4342 _ hK4343 ⟨v4341, rfl, rfl, hs4344⟩
              refine ⟨(Inc.cons (.tail _ (.tail _ (.head _))) (Inc.cons (.tail _ (.tail _ (.tail _ (.head _)))) (Inc.cons (.tail _ (.tail _ (.tail _ (.tail _ (.head _))))) Inc.nil))), ?_⟩
              have hs4345 := (hR4340).mono hK4343
              refine Aw_one 5 (by kernel_rfl) (Ax_mk rfl rfl (O_appTok (T := TyA2Int) (bytes := 16) (q := 0) rfl rfl rfl hs4344 (.head _) rfl (SrcT.row (.tail _ (.head _)) hs4345 rfl) hx3739 rfl rfl rfl rfl rfl rfl rfl rfl (fun v4346 K4347 hK4348 hs4349 => ⟨_, .here, ⟨(Inc.cons (.tail _ (.tail _ (.head _))) (Inc.cons (.tail _ (.tail _ (.tail _ (.head _)))) (Inc.cons (.tail _ (.tail _ (.tail _ (.tail _ (.head _))))) Inc.nil))), ?_⟩⟩)))
              refine Aw.shift (Shift.rem (.there .here) (Shift.done ⟨(Inc.cons (.tail _ (.head _)) (Inc.cons (.tail _ (.tail _ (.head _))) (Inc.cons (.tail _ (.tail _ (.tail _ (.head _)))) Inc.nil))), ?_⟩))
              refine Aw_q 6 rfl (by kernel_rfl) (by kernel_rfl) (by kernel_rfl) rfl rfl rfl (Qt_assign rfl) ?_
              refine Aw_done (by kernel_rfl) ?_
              refine Cw_seq ?_
              refine Cw_region ?_
              refine Ow_q rfl rfl rfl (Qt_move rfl) ?_
              refine Ow_q rfl rfl rfl (Q_len (T := TyA2Int) hs4349 rfl rfl) ?_
              refine Ow_q rfl rfl rfl (Qt_move rfl) ?_
              refine Ow_nil ?_
              refine Cw_block ?_
              refine Cw_loopM (fun n4587 env' K' G' => ∃ (i4586 : Int), [(6, (.pointer (some ((⟨b1072, 0, none⟩ : Addr).add 0)))), (7, (.pointer (some ((⟨b1073, 0, none⟩ : Addr).add 0)))), (12, (sv v3728)), (13, (sv v4346)), (28, (sv v2148)), (29, (.int .i64 ([x1089, p1].length : Int))), (30, (.int .i64 i3196)), (41, (.int .i64 (x3738.length : Int))), (42, (.int .i64 i4586))] = env' ∧ (.blk b1073 36 (A2Int.cells p3)) :: (.blk b1072 36 (A2Int.cells p2)) :: (.tok 36 2 [(sv v4346)]) :: (.row (sv v2148) 23 1 [[(sv v1094)], [(sv vp1)]].flatten) :: G = G' ∧ lp1 (M_law16_HistoryPrecedes_L4 x3722 x3738 x1089 p1 i3196 p3 p2 k3201) n4587 i4586 = some y0) BIG ?_ ?_
              · skip
                refine Shift.pull (.there (.there (.there .here))) ?_
                refine Shift.pull (.there .here) ?_
                refine Shift.pull (.there (.there (.there .here))) ?_
                refine Shift.pull (.there (.there (.there .here))) ?_
                refine Shift.done ?_
                exact ⟨[(6, (.pointer (some ((⟨b1072, 0, none⟩ : Addr).add 0)))), (7, (.pointer (some ((⟨b1073, 0, none⟩ : Addr).add 0)))), (12, (sv v3728)), (13, (sv v4346)), (28, (sv v2148)), (29, (.int .i64 ([x1089, p1].length : Int))), (30, (.int .i64 i3196)), (41, (.int .i64 (x3738.length : Int))), (42, (.int .i64 0))], ⟨rfl, rfl, rfl, rfl, rfl, rfl, rfl, rfl, rfl, trivial⟩, 0, rfl, rfl, H⟩
              rintro n4587 _ K4588 _ hK4589 ⟨i4586, rfl, rfl, H⟩
              obtain ⟨m4590, k4591, rfl, hkk4592, H⟩ := lps1 H
              unfold M_law16_HistoryPrecedes_L4 at H
              refine Cw_seq ?_
              refine Cw_region ?_
              refine Ow_q rfl rfl rfl (Qt_cmp rfl rfl rfl) ?_
              refine Ow_nil ?_
              refine Cw_seq ?_
              refine Cw_cond rfl ?_ ?_
              · intro h4594
                have h4594 := dcd_t (h4594)
                have H := ift h4594 H
                refine Cw_skip ?_
                refine Cw_join (fun env' K' G' => [(6, (.pointer (some ((⟨b1072, 0, none⟩ : Addr).add 0)))), (7, (.pointer (some ((⟨b1073, 0, none⟩ : Addr).add 0)))), (12, (sv v3728)), (13, (sv v4346)), (28, (sv v2148)), (29, (.int .i64 ([x1089, p1].length : Int))), (30, (.int .i64 i3196)), (41, (.int .i64 (x3738.length : Int))), (42, (.int .i64 i4586))] = env' ∧ (.blk b1073 36 (A2Int.cells p3)) :: (.blk b1072 36 (A2Int.cells p2)) :: (.tok 36 2 [(sv v4346)]) :: (.row (sv v2148) 23 1 [[(sv v1094)], [(sv vp1)]].flatten) :: G = G' ∧ M_law16_HistoryPrecedes_J4 x3722 x3738 x1089 p1 i3196 i4586 p3 p2 k3201 k4591 = some y0) ?_ ?_
                · skip
                  refine Cw_block ?_
                  refine Cw_seq ?_
                  refine Cw_region ?_
                  refine Ow_q rfl rfl rfl (Qt_move rfl) ?_
                  refine Ow_q rfl rfl rfl (Qt_assign rfl) ?_
                  refine Ow_nil ?_
                  refine Cw_seq ?_
                  refine Cw_region ?_
                  refine Ow_q rfl rfl rfl (Qt_move rfl) ?_
                  have hs4708 := (hs4349).mono hK4589
                  refine Ow_q rfl rfl rfl (Q_len (T := TyA2Int) hs4708 rfl rfl) ?_
                  refine Ow_q rfl rfl rfl (Qt_move rfl) ?_
                  refine Ow_nil ?_
                  refine Cw_block ?_
                  refine Cw_loopM (fun n4821 env' K' G' => ∃ (i4820 : Int), [(6, (.pointer (some ((⟨b1072, 0, none⟩ : Addr).add 0)))), (7, (.pointer (some ((⟨b1073, 0, none⟩ : Addr).add 0)))), (12, (sv v3728)), (13, (sv v4346)), (14, (.int .i64 i4586)), (28, (sv v2148)), (29, (.int .i64 ([x1089, p1].length : Int))), (30, (.int .i64 i3196)), (41, (.int .i64 (x3738.length : Int))), (42, (.int .i64 i4586)), (46, (.int .i64 (x3738.length : Int))), (47, (.int .i64 i4820))] = env' ∧ (.blk b1073 36 (A2Int.cells p3)) :: (.blk b1072 36 (A2Int.cells p2)) :: (.tok 36 2 [(sv v4346)]) :: (.row (sv v2148) 23 1 [[(sv v1094)], [(sv vp1)]].flatten) :: G = G' ∧ lp1 (M_law16_HistoryPrecedes_L5 x3722 x3738 i4586 x1089 p1 i3196 p3 p2 k3201 k4591) n4821 i4820 = some y0) BIG ?_ ?_
                  · skip
                    refine Shift.pull (.there (.there (.there .here))) ?_
                    refine Shift.pull (.there (.there (.there .here))) ?_
                    refine Shift.pull (.there (.there (.there .here))) ?_
                    refine Shift.pull (.there (.there (.there .here))) ?_
                    refine Shift.done ?_
                    exact ⟨[(6, (.pointer (some ((⟨b1072, 0, none⟩ : Addr).add 0)))), (7, (.pointer (some ((⟨b1073, 0, none⟩ : Addr).add 0)))), (12, (sv v3728)), (13, (sv v4346)), (14, (.int .i64 i4586)), (28, (sv v2148)), (29, (.int .i64 ([x1089, p1].length : Int))), (30, (.int .i64 i3196)), (41, (.int .i64 (x3738.length : Int))), (42, (.int .i64 i4586)), (46, (.int .i64 (x3738.length : Int))), (47, (.int .i64 0))], ⟨rfl, rfl, rfl, rfl, rfl, rfl, rfl, rfl, rfl, rfl, rfl, rfl, trivial⟩, 0, rfl, rfl, H⟩
                  rintro n4821 _ K4822 _ hK4823 ⟨i4820, rfl, rfl, H⟩
                  obtain ⟨m4824, k4825, rfl, hkk4826, H⟩ := lps1 H
                  unfold M_law16_HistoryPrecedes_L5 at H
                  refine Cw_seq ?_
                  refine Cw_region ?_
                  refine Ow_q rfl rfl rfl (Qt_cmp rfl rfl rfl) ?_
                  refine Ow_nil ?_
                  refine Cw_seq ?_
                  refine Cw_cond rfl ?_ ?_
                  · intro h4828
                    have h4828 := dcd_t (h4828)
                    have H := ift h4828 H
                    refine Cw_skip ?_
                    refine Cw_seq ?_
                    refine Cw_block ?_
                    refine Cw_seq ?_
                    refine Cw_region ?_
                    refine Ow_q rfl rfl rfl (Qt_move rfl) ?_
                    refine Ow_q rfl rfl rfl (Qt_assign rfl) ?_
                    refine Ow_nil ?_
                    refine Cw_seq ?_
                    obtain ⟨x4881, hx4882, H⟩ := bnd H
                    obtain ⟨x4887, hx4888, H⟩ := bnd H
                    obtain ⟨x4892, hx4893, H⟩ := bnd H
                    obtain ⟨x4897, hx4898, H⟩ := bnd H
                    obtain ⟨x4903, hx4904, H⟩ := bnd H
                    obtain ⟨x4908, hx4909, H⟩ := bnd H
                    refine Cw_region_any [.blk b1073 36 (A2Int.cells p3), .blk b1072 36 (A2Int.cells p2), .tok 36 2 [(sv v4346)], .row (sv v2148) 23 1 [[(sv v1094)], [(sv vp1)]].flatten] rfl (Inc.cons (.head _) (Inc.cons (.tail _ (.head _)) (Inc.cons (.tail _ (.tail _ (.head _))) (Inc.cons (.tail _ (.tail _ (.tail _ (.head _)))) Inc.nil)))) ?_
                    refine Aw_q 0 rfl (by kernel_rfl) (by kernel_rfl) (by kernel_rfl) rfl rfl rfl (Qt_move rfl) ?_
                    refine Aw_q 1 rfl (by kernel_rfl) (by kernel_rfl) (by kernel_rfl) rfl rfl rfl (Qt_move rfl) ?_
                    refine Aw_q 2 rfl (by kernel_rfl) (by kernel_rfl) (by kernel_rfl) rfl rfl rfl (Qt_move rfl) ?_
                    have hs4913 := (hs4708).mono hK4823
                    obtain ⟨r4914, hr4915, hk4916⟩ := Slr.at hs4913 hx4882
                    obtain rfl := hr4915
                    refine Aw_q 3 rfl (by kernel_rfl) (by kernel_rfl) (by kernel_rfl) rfl rfl rfl (Q_ix (T := TyA2Int) hs4913 hx4882 rfl rfl rfl rfl rfl) ?_
                    refine Aw_q 4 rfl (by kernel_rfl) (by kernel_rfl) (by kernel_rfl) rfl rfl rfl (Qt_loadA (m := 2) (cs := (A2Int.cells x4881)) rfl rfl rfl rfl ⟨rfl, Rdc.k hk4916 rfl⟩) ?_
                    refine Aw_q 5 rfl (by kernel_rfl) (by kernel_rfl) (by kernel_rfl) rfl rfl rfl (Qt_move rfl) ?_
                    refine Aw_q 6 rfl (by kernel_rfl) (by kernel_rfl) (by kernel_rfl) rfl rfl rfl (Qt_move rfl) ?_
                    obtain ⟨r4917, hr4918, hk4919⟩ := Slr.at hs4913 hx4888
                    obtain rfl := hr4918
                    refine Aw_q 7 rfl (by kernel_rfl) (by kernel_rfl) (by kernel_rfl) rfl rfl rfl (Q_ix (T := TyA2Int) hs4913 hx4888 rfl rfl rfl rfl rfl) ?_
                    refine Aw_q 8 rfl (by kernel_rfl) (by kernel_rfl) (by kernel_rfl) rfl rfl rfl (Qt_loadA (m := 2) (cs := (A2Int.cells x4887)) rfl rfl rfl rfl ⟨rfl, Rdc.k hk4919 rfl⟩) ?_
                    refine Aw_q 10 rfl (by kernel_rfl) (by kernel_rfl) (by kernel_rfl) rfl rfl rfl (Qt_move rfl) ?_
                    refine Aw_q 11 rfl (by kernel_rfl) (by kernel_rfl) (by kernel_rfl) rfl rfl rfl (Qt_move rfl) ?_
                    refine Aw_q 12 rfl (by kernel_rfl) (by kernel_rfl) (by kernel_rfl) rfl rfl rfl (Qt_move rfl) ?_
                    obtain ⟨r4920, hr4921, hk4922⟩ := Slr.at hs4913 hx4898
                    obtain rfl := hr4921
                    refine Aw_q 13 rfl (by kernel_rfl) (by kernel_rfl) (by kernel_rfl) rfl rfl rfl (Q_ix (T := TyA2Int) hs4913 hx4898 rfl rfl rfl rfl rfl) ?_
                    refine Aw_q 14 rfl (by kernel_rfl) (by kernel_rfl) (by kernel_rfl) rfl rfl rfl (Qt_loadA (m := 2) (cs := (A2Int.cells x4897)) rfl rfl rfl rfl ⟨rfl, Rdc.k hk4922 rfl⟩) ?_
                    refine Aw_q 15 rfl (by kernel_rfl) (by kernel_rfl) (by kernel_rfl) rfl rfl rfl (Qt_move rfl) ?_
                    refine Aw_q 16 rfl (by kernel_rfl) (by kernel_rfl) (by kernel_rfl) rfl rfl rfl (Qt_move rfl) ?_
                    obtain ⟨r4923, hr4924, hk4925⟩ := Slr.at hs4913 hx4904
                    obtain rfl := hr4924
                    refine Aw_q 17 rfl (by kernel_rfl) (by kernel_rfl) (by kernel_rfl) rfl rfl rfl (Q_ix (T := TyA2Int) hs4913 hx4904 rfl rfl rfl rfl rfl) ?_
                    refine Aw_q 18 rfl (by kernel_rfl) (by kernel_rfl) (by kernel_rfl) rfl rfl rfl (Qt_loadA (m := 2) (cs := (A2Int.cells x4903)) rfl rfl rfl rfl ⟨rfl, Rdc.k hk4925 rfl⟩) ?_
                    have hs4926 := ((((hs3729).mono hK4343).mono hK4348).mono hK4589).mono hK4823
                    refine Aw_one 9 (by kernel_rfl) (Ax_mk rfl rfl (OpW_call rfl Try.call20 rfl rfl (c_M_history_Precedes x3722 v3728 x4881 x4887 x4892 hx4893 _ _ hs4926) ?_))
                    rintro _ K4927 _ hK4928 ⟨rfl, rfl⟩
                    refine ⟨(Inc.cons (.head _) (Inc.cons (.tail _ (.head _)) (Inc.cons (.tail _ (.tail _ (.head _))) (Inc.cons (.tail _ (.tail _ (.tail _ (.head _)))) Inc.nil)))), ?_⟩
                    have hs4929 := (hs4926).mono hK4928
                    refine Aw_one 19 (by kernel_rfl) (Ax_mk rfl rfl (OpW_call rfl Try.call21 rfl rfl (c_M_ref16_Precedes x3722 v3728 x4897 x4903 x4908 hx4909 _ _ hs4929) ?_))
                    rintro _ K4930 _ hK4931 ⟨rfl, rfl⟩
                    refine ⟨(Inc.cons (.head _) (Inc.cons (.tail _ (.head _)) (Inc.cons (.tail _ (.tail _ (.head _))) (Inc.cons (.tail _ (.tail _ (.tail _ (.head _)))) Inc.nil)))), ?_⟩
                    refine Aw_q 20 rfl (by kernel_rfl) (by kernel_rfl) (by kernel_rfl) rfl rfl rfl (Qt_neB rfl rfl rfl) ?_
                    refine Aw_done (by kernel_rfl) ?_
                    refine Cw_cond rfl ?_ ?_
                    · intro h4932
                      have h4932 := nt_t (h4932)
                      have H := iff_ (btf h4932) H
                      refine Cw_seq ?_
                      refine Cw_region ?_
                      refine Ow_q rfl rfl rfl (Qt_assign rfl) ?_
                      refine Ow_nil ?_
                      refine Cw_ret ?_
                      obtain ey0 := inj1 H
                      subst y0
                      refine ⟨(by first | exact .inl rfl | exact .inr rfl), [(.bool false)], ⟨(.bool false), _, rfl, rfl, rfl⟩, ?_⟩
                      refine Shift.rem .here ?_
                      refine Shift.rem .here ?_
                      refine Shift.rem .here ?_
                      refine Shift.rem .here ?_
                      refine Shift.done ?_
                      exact ⟨rfl, rfl⟩
                    · intro h4932
                      have h4932 := nt_f (h4932)
                      have H := ift h4932 H
                      refine Cw_skip ?_
                      refine Cw_region ?_
                      refine Ow_q rfl rfl rfl (Qt_arith (e := wI (i4820 + 1)) rfl rfl rfl rfl) ?_
                      refine Ow_q rfl rfl rfl (Qt_move rfl) ?_
                      refine Ow_nil ?_
                      refine Shift.pull (.there (.there (.there .here))) ?_
                      refine Shift.pull (.there (.there (.there .here))) ?_
                      refine Shift.pull (.there (.there (.there .here))) ?_
                      refine Shift.pull (.there (.there (.there .here))) ?_
                      refine Shift.done ?_
                      exact ⟨[(6, (.pointer (some ((⟨b1072, 0, none⟩ : Addr).add 0)))), (7, (.pointer (some ((⟨b1073, 0, none⟩ : Addr).add 0)))), (12, (sv v3728)), (13, (sv v4346)), (14, (.int .i64 i4586)), (28, (sv v2148)), (29, (.int .i64 ([x1089, p1].length : Int))), (30, (.int .i64 i3196)), (41, (.int .i64 (x3738.length : Int))), (42, (.int .i64 i4586)), (46, (.int .i64 (x3738.length : Int))), (47, (.int .i64 (wI (i4820 + 1))))], ⟨rfl, rfl, rfl, rfl, rfl, rfl, rfl, rfl, rfl, rfl, rfl, rfl, trivial⟩, _, Nat.lt_succ_self _, (wI (i4820 + 1)), rfl, rfl, (hkk4826 ▸ H)⟩
                  · intro h4828
                    have h4828 := dcd_f (h4828)
                    have H := iff_ h4828 H
                    refine Cw_exit ?_
                    refine Shift.pull (.there (.there (.there .here))) ?_
                    refine Shift.pull (.there (.there (.there .here))) ?_
                    refine Shift.pull (.there (.there (.there .here))) ?_
                    refine Shift.pull (.there (.there (.there .here))) ?_
                    refine Shift.done ?_
                    exact ⟨[(6, (.pointer (some ((⟨b1072, 0, none⟩ : Addr).add 0)))), (7, (.pointer (some ((⟨b1073, 0, none⟩ : Addr).add 0)))), (12, (sv v3728)), (13, (sv v4346)), (28, (sv v2148)), (29, (.int .i64 ([x1089, p1].length : Int))), (30, (.int .i64 i3196)), (41, (.int .i64 (x3738.length : Int))), (42, (.int .i64 i4586))], ⟨rfl, rfl, rfl, rfl, rfl, rfl, rfl, rfl, rfl, trivial⟩, rfl, rfl, H⟩
                rintro _ K4933 _ hK4934 ⟨rfl, rfl, H⟩
                unfold M_law16_HistoryPrecedes_J4 at H
                refine Cw_region ?_
                refine Ow_q rfl rfl rfl (Qt_arith (e := wI (i4586 + 1)) rfl rfl rfl rfl) ?_
                refine Ow_q rfl rfl rfl (Qt_move rfl) ?_
                refine Ow_nil ?_
                refine Shift.pull (.there (.there (.there .here))) ?_
                refine Shift.pull (.there (.there (.there .here))) ?_
                refine Shift.pull (.there (.there (.there .here))) ?_
                refine Shift.pull (.there (.there (.there .here))) ?_
                refine Shift.done ?_
                exact ⟨[(6, (.pointer (some ((⟨b1072, 0, none⟩ : Addr).add 0)))), (7, (.pointer (some ((⟨b1073, 0, none⟩ : Addr).add 0)))), (12, (sv v3728)), (13, (sv v4346)), (28, (sv v2148)), (29, (.int .i64 ([x1089, p1].length : Int))), (30, (.int .i64 i3196)), (41, (.int .i64 (x3738.length : Int))), (42, (.int .i64 (wI (i4586 + 1))))], ⟨rfl, rfl, rfl, rfl, rfl, rfl, rfl, rfl, rfl, trivial⟩, _, Nat.lt_succ_self _, (wI (i4586 + 1)), rfl, rfl, (hkk4592 ▸ H)⟩
              · intro h4594
                have h4594 := dcd_f (h4594)
                have H := iff_ h4594 H
                refine Cw_exit ?_
                refine Shift.pull (.there (.there (.there .here))) ?_
                refine Shift.pull (.there (.there .here)) ?_
                refine Shift.pull (.there (.there .here)) ?_
                refine Shift.rem (.there (.there (.there .here))) ?_
                refine Shift.done ?_
                exact ⟨[(6, (.pointer (some ((⟨b1072, 0, none⟩ : Addr).add 0)))), (7, (.pointer (some ((⟨b1073, 0, none⟩ : Addr).add 0)))), (28, (sv v2148)), (29, (.int .i64 ([x1089, p1].length : Int))), (30, (.int .i64 i3196))], ⟨rfl, rfl, rfl, rfl, rfl, trivial⟩, rfl, rfl, H⟩
          rintro _ K4935 _ hK4936 ⟨rfl, rfl, H⟩
          unfold M_law16_HistoryPrecedes_J2 at H
          refine Cw_region ?_
          refine Ow_q rfl rfl rfl (Qt_arith (e := wI (i3196 + 1)) rfl rfl rfl rfl) ?_
          refine Ow_q rfl rfl rfl (Qt_move rfl) ?_
          refine Ow_nil ?_
          refine Shift.pull (.there (.there .here)) ?_
          refine Shift.pull (.there (.there .here)) ?_
          refine Shift.pull (.there (.there .here)) ?_
          refine Shift.done ?_
          exact ⟨[(6, (.pointer (some ((⟨b1072, 0, none⟩ : Addr).add 0)))), (7, (.pointer (some ((⟨b1073, 0, none⟩ : Addr).add 0)))), (28, (sv v2148)), (29, (.int .i64 ([x1089, p1].length : Int))), (30, (.int .i64 (wI (i3196 + 1))))], ⟨rfl, rfl, rfl, rfl, rfl, trivial⟩, _, Nat.lt_succ_self _, (wI (i3196 + 1)), rfl, rfl, (hkk3202 ▸ H)⟩
        · intro h3204
          have h3204 := dcd_f (h3204)
          have H := iff_ h3204 H
          refine Cw_exit ?_
          refine Shift.rem .here ?_
          refine Shift.rem .here ?_
          refine Shift.rem .here ?_
          refine Shift.done ?_
          exact ⟨[], trivial, rfl, rfl, H⟩
      rintro _ K4937 _ hK4938 ⟨rfl, rfl, H⟩
      unfold M_law16_HistoryPrecedes_J1 at H
      refine Cw_seq ?_
      refine Cw_region ?_
      refine Ow_q rfl rfl rfl (Qt_assign rfl) ?_
      refine Ow_nil ?_
      refine Cw_ret ?_
      obtain ey0 := inj1 H
      subst y0
      refine ⟨(by first | exact .inl rfl | exact .inr rfl), [(.bool true)], ⟨(.bool true), _, rfl, rfl, rfl⟩, ?_⟩
      refine Shift.done ?_
      exact ⟨rfl, rfl⟩


end Go.Hx
