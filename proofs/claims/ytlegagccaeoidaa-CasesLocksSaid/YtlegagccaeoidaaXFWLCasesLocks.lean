/- Printed by program. -/
import Derived.Test.YtlegagccaeoidaaXFM
import Derived.Test.YtlegagccaeoidaaXFWCases
import Derived.Test.YtlegagccaeoidaaXFWCases1
import Derived.Test.YtlegagccaeoidaaXFWDraw
import Derived.Test.YtlegagccaeoidaaXFWDraw1
import Derived.Test.YtlegagccaeoidaaXFWDraw2
import Derived.Test.YtlegagccaeoidaaXFWDraw3
import Derived.Test.YtlegagccaeoidaaXFWLaw3
import Derived.Test.YtlegagccaeoidaaXFWRef2
import Derived.Test.YtlegagccaeoidaaXFWRef3
namespace Go.Hx
open Go Go.Proofs
set_option linter.unusedSimpArgs false
set_option linter.unusedVariables false
set_option maxRecDepth 10000
set_option maxHeartbeats 1000000 in
theorem c_M_law3_CasesLocks (p0 : Op) (vp0_cases : SV) (vp0_draws : SV) (p1 : List Int) (vp1 : SV) (p2 : Int) (y0 : Bool) (H : M_law3_CasesLocks p0 p1 p2 = some y0) (K : Kp) (G : List Ent) (hp0_cases : Slr TyCase K (sv vp0_cases) p0.cases) (hp0_draws : Slr Ty.i64 K (sv vp0_draws) p0.draws) (hp1 : Slr Ty.u8 K (sv vp1) p1) :
    Fc Try.prog 4 #[(.agg (Op.cells p0 vp0_cases vp0_draws).toArray), (sv vp1), (.int .i64 p2)] K (G) (fun v K' G' => v = (.bool y0) ∧ G = G') := by
  refine Fc_body Try.func4 rfl Try.ntmps4 Try.results4 rfl ?_
  unfold M_law3_CasesLocks at H
  refine Cw_seq ?_
  refine Cw_region ?_
  refine Ow_cons rfl (OpW_box (cs := (Op.cells p0 vp0_cases vp0_draws)) rfl rfl rfl (fun b571 => ?_))
  refine Ow_q rfl rfl rfl (Qt_assign rfl) ?_
  refine Ow_nil ?_
  refine Cw_seq ?_
  refine Cw_seq ?_
  refine Cw_region ?_
  obtain ⟨x577, hx578, H⟩ := bnd H
  refine Ow_cons rfl (OpW_call rfl Try.call7 rfl rfl (c_M_law3_awake  x577 hx578 _ _ ) ?_)
  rintro _ K579 _ hK580 ⟨rfl, rfl⟩
  refine Ow_q rfl rfl rfl (Qt_not rfl) ?_
  refine Ow_nil ?_
  refine Cw_cond rfl ?_ ?_
  · intro h581
    have h581 := nt_t (h581)
    have H := iff_ (btf h581) H
    refine Cw_seq ?_
    refine Cw_region ?_
    refine Ow_q rfl rfl rfl (Qt_assign rfl) ?_
    refine Ow_nil ?_
    refine Cw_ret ?_
    obtain ey0 := inj1 H
    subst y0
    refine ⟨(by first | exact .inl rfl | exact .inr rfl), [(.bool false)], ⟨(.bool false), _, rfl, rfl, rfl⟩, ?_⟩
    refine Shift.rem .here ?_
    refine Shift.done ?_
    exact ⟨rfl, rfl⟩
  · intro h581
    have h581 := nt_f (h581)
    have H := ift h581 H
    refine Cw_skip ?_
    refine Cw_seq ?_
    refine Cw_seq ?_
    refine Cw_region ?_
    refine Ow_q rfl rfl rfl (Qt_loadA (m := 7) (cs := (Op.cells p0 vp0_cases vp0_draws)) rfl rfl rfl rfl ⟨rfl, Rdc.blk (.head _) rfl⟩) ?_
    obtain ⟨x587, hx588, H⟩ := bnd H
    have hs589 := (hp0_cases).mono hK580
    have hs590 := (hp0_draws).mono hK580
    refine Ow_cons rfl (OpW_call rfl Try.call8 rfl rfl (c_M_law3_big p0 vp0_cases vp0_draws x587 hx588 _ _ hs589 hs590) ?_)
    rintro _ _ _ - ⟨rfl, rfl, rfl⟩
    refine Ow_nil ?_
    refine Cw_cond rfl ?_ ?_
    · intro h591
      have H := ift h591 H
      refine Cw_seq ?_
      refine Cw_region ?_
      refine Ow_q rfl rfl rfl (Qt_assign rfl) ?_
      refine Ow_nil ?_
      refine Cw_ret ?_
      obtain ey0 := inj1 H
      subst y0
      refine ⟨(by first | exact .inl rfl | exact .inr rfl), [(.bool true)], ⟨(.bool true), _, rfl, rfl, rfl⟩, ?_⟩
      refine Shift.rem .here ?_
      refine Shift.done ?_
      exact ⟨rfl, rfl⟩
    · intro h591
      have H := iff_ (btf h591) H
      refine Cw_skip ?_
      refine Cw_seq ?_
      refine Cw_region ?_
      refine Ow_q rfl rfl rfl (Qt_move rfl) ?_
      obtain ⟨x592, hx593, H⟩ := bnd H
      have hs594 := (hp1).mono hK580
      refine Ow_cons rfl (OpW_call rfl Try.call9 rfl rfl (c_M_draw_New p1 vp1 60 x592 hx593 _ _ hs594) ?_)
      rintro _ _ _ - ⟨b595, v596, rfl, rfl, rfl, hs597⟩
      refine Ow_q rfl rfl rfl (Qt_assign rfl) ?_
      refine Ow_nil ?_
      refine Cw_seq ?_
      refine Cw_region ?_
      refine Ow_q rfl rfl rfl (Qt_move rfl) ?_
      obtain ⟨x598, x599, x600, hx601, H⟩ := bnd3 H
      refine Ow_cons rfl (OpW_call rfl Try.call10 rfl rfl (c_M_draw_Codes_Config b595 x592 v596 x598 x599 x600 hx601 _ _ hs597) ?_)
      rintro _ K604 _ hK605 ⟨v602, v603, rfl, rfl, hs606, hs607⟩
      refine Ow_q rfl rfl rfl (Qt_move rfl) ?_
      obtain ⟨x608, x609, x610, hx611, H⟩ := bnd3 H
      have hs612 := (hs597).mono hK605
      refine Ow_cons rfl (OpW_call rfl Try.call15 rfl rfl (c_M_draw_Codes_Wide b595 (Draw_Codes.mk x592.list x599 x600) v596 x608 x609 x610 hx611 _ _ hs612) ?_)
      rintro _ K615 _ hK616 ⟨v613, v614, rfl, rfl, hs617, hs618⟩
      refine Ow_cons rfl (OpW_alloc (cs := (Config.cells (Config.mk [] [] 0) nilS nilS)) rfl rfl rfl rfl (fun b619 => ?_))
      refine Ow_cons rfl (OpW_alloc (cs := (Config.cells (Config.mk [] [] 0) nilS nilS)) rfl rfl rfl rfl (fun b620 => ?_))
      refine Ow_cons rfl (OpW_store (vs := (Config.cells x598 v602 v603)) (all' := (Config.cells x598 v602 v603)) rfl rfl rfl rfl rfl (.there .here) rfl rfl rfl ?_)
      refine Ow_cons rfl (OpW_store (vs := (Config.cells x608 v613 v614)) (all' := (Config.cells x608 v613 v614)) rfl rfl rfl rfl rfl .here rfl rfl rfl ?_)
      refine Ow_nil ?_
      refine Cw_seq ?_
      refine Cw_region ?_
      refine Ow_q rfl rfl rfl (Qt_move rfl) ?_
      refine Ow_q rfl rfl rfl (Qt_loadA (m := 3) (cs := (Config.cells x598 v602 v603)) rfl rfl rfl rfl ⟨rfl, Rdc.blk (.tail _ (.head _)) rfl⟩) ?_
      obtain ⟨x621, x622, x623, hx624, H⟩ := bnd3 H
      refine Ow.shift (Shift.pull (.there (.there .here)) (Shift.done ?_))
      have hs625 := (hs612).mono hK616
      have hs626 := (hs606).mono hK616
      have hs627 := (hs607).mono hK616
      refine Ow_cons rfl (OpW_call rfl Try.call11 rfl rfl (c_M_draw_Codes_Op b595 (Draw_Codes.mk x592.list x609 x610) v596 x598 v602 v603 x621 x622 x623 hx624 _ _ hs625 hs626 hs627) ?_)
      rintro _ K630 _ hK631 ⟨v628, v629, rfl, rfl, hs632, hs633⟩
      refine Ow_cons rfl (OpW_alloc (cs := (Op.cells (Op.mk 0 0 0 0 0 [] []) nilS nilS)) rfl rfl rfl rfl (fun b634 => ?_))
      refine Ow_cons rfl (OpW_store (vs := (Op.cells x621 v628 v629)) (all' := (Op.cells x621 v628 v629)) rfl rfl rfl rfl rfl .here rfl rfl rfl ?_)
      refine Ow_nil ?_
      refine Cw_join (fun env' K' G' => [(2, (.int .i64 p2)), (8, (.pointer (some ((⟨b619, 0, none⟩ : Addr).add 0)))), (9, (.pointer (some ((⟨b620, 0, none⟩ : Addr).add 0))))] = env' ∧ (.blk b620 34 (Config.cells x608 v613 v614)) :: (.blk b619 34 (Config.cells x598 v602 v603)) :: (.tok 3 1 [(sv v613)]) :: (.tok 22 1 [(sv v614)]) :: (.tok 3 1 [(sv v602)]) :: (.tok 22 1 [(sv v603)]) :: G = G' ∧ M_law3_CasesLocks_J1 p2 x608 x598 = some y0) ?_ ?_
      · skip
        refine Cw_seq ?_
        obtain ⟨x1121, x1122, x1123, hx1124, H⟩ := bnd3 H
        refine Cw_region_any [.blk b634 26 (Op.cells x621 v628 v629), .blk b620 34 (Config.cells x608 v613 v614), .blk b619 34 (Config.cells x598 v602 v603), .tok 3 1 [(sv v613)], .tok 22 1 [(sv v614)], .tok 3 1 [(sv v602)], .tok 22 1 [(sv v603)], .blk b571 26 (Op.cells p0 vp0_cases vp0_draws)] rfl (Inc.cons (.head _) (Inc.cons (.tail _ (.tail _ (.head _))) (Inc.cons (.tail _ (.tail _ (.tail _ (.head _)))) (Inc.cons (.tail _ (.tail _ (.tail _ (.tail _ (.head _))))) (Inc.cons (.tail _ (.tail _ (.tail _ (.tail _ (.tail _ (.head _)))))) (Inc.cons (.tail _ (.tail _ (.tail _ (.tail _ (.tail _ (.tail _ (.head _))))))) (Inc.cons (.tail _ (.tail _ (.tail _ (.tail _ (.tail _ (.tail _ (.tail _ (.head _)))))))) (Inc.cons (.tail _ (.tail _ (.tail _ (.tail _ (.tail _ (.tail _ (.tail _ (.tail _ (.head _))))))))) Inc.nil)))))))) ?_
        refine Aw_q 0 rfl (by kernel_rfl) (by kernel_rfl) (by kernel_rfl) rfl rfl rfl (Qt_loadA (m := 7) (cs := (Op.cells p0 vp0_cases vp0_draws)) rfl rfl rfl rfl ⟨rfl, Rdc.blk (.tail _ (.tail _ (.tail _ (.tail _ (.tail _ (.tail _ (.tail _ (.head _)))))))) rfl⟩) ?_
        refine Aw_q 1 rfl (by kernel_rfl) (by kernel_rfl) (by kernel_rfl) rfl rfl rfl (Qt_loadA (m := 7) (cs := (Op.cells x621 v628 v629)) rfl rfl rfl rfl ⟨rfl, Rdc.blk (.head _) rfl⟩) ?_
        refine Aw_q 2 rfl (by kernel_rfl) (by kernel_rfl) (by kernel_rfl) rfl rfl rfl (Qt_move rfl) ?_
        refine Aw_q 3 rfl (by kernel_rfl) (by kernel_rfl) (by kernel_rfl) rfl rfl rfl (Qt_loadA (m := 7) (cs := (Op.cells x621 v628 v629)) rfl rfl rfl rfl ⟨rfl, Rdc.blk (.head _) rfl⟩) ?_
        refine Aw_q 7 rfl (by kernel_rfl) (by kernel_rfl) (by kernel_rfl) rfl rfl rfl (Qt_move rfl) ?_
        refine Aw_one 4 (by kernel_rfl) (Ax_mk rfl rfl ?_)
        refine OpW.shift (Shift.pull (.there .here) (Shift.done ?_))
        have hs1143 := (hs625).mono hK631
        refine OpW_call rfl Try.call13 rfl rfl (c_M_draw_Codes_Spoil b595 (Draw_Codes.mk x592.list x622 x623) v596 x621 v628 v629 x1121 x1122 x1123 hx1124 _ _ hs1143 hs632 hs633) ?_
        rintro _ K1147 _ hK1148 ⟨v1144, v1145, rs1146, rfl, rfl, hs1149, hs1150⟩
        refine ⟨(Inc.cons (.tail _ (.tail _ (.tail _ (.head _)))) (Inc.cons (.tail _ (.tail _ (.tail _ (.tail _ (.head _))))) (Inc.cons (.tail _ (.tail _ (.tail _ (.tail _ (.tail _ (.head _)))))) (Inc.cons (.tail _ (.tail _ (.tail _ (.tail _ (.tail _ (.tail _ (.head _))))))) (Inc.cons (.tail _ (.tail _ (.tail _ (.tail _ (.tail _ (.tail _ (.tail _ (.head _)))))))) (Inc.cons (.tail _ (.tail _ (.tail _ (.tail _ (.tail _ (.tail _ (.tail _ (.tail _ (.head _))))))))) (Inc.cons (.tail _ (.tail _ (.tail _ (.tail _ (.tail _ (.tail _ (.tail _ (.tail _ (.tail _ (.head _)))))))))) (Inc.cons (.tail _ (.tail _ (.tail _ (.tail _ (.tail _ (.tail _ (.tail _ (.tail _ (.tail _ (.tail _ (.head _))))))))))) Inc.nil)))))))), ?_⟩
        refine Aw_one 5 (by kernel_rfl) (Ax_mk rfl rfl ?_)
        refine OpW.shift (Shift.settle (T := Ty.i64) (.there (.there .here)) hs1150 rfl (fun K1151 hK1152 hs1153 => Shift.done ?_))
        have hs1156 := (hs1149).mono hK1152
        have hs1157 := ((hs632).mono hK1148).mono hK1152
        have hs1158 := ((hs633).mono hK1148).mono hK1152
        have hs1159 := (((((hs589).mono hK605).mono hK616).mono hK631).mono hK1148).mono hK1152
        have hs1160 := (((((hs590).mono hK605).mono hK616).mono hK631).mono hK1148).mono hK1152
        have hR1155 : RowR TyOp K1151 [(Op.cells p0 vp0_cases vp0_draws), (Op.cells x621 v628 v629), (Op.cells x1121 v1144 v1145)] [p0, x621, x1121] := RowR.cons ⟨vp0_cases, vp0_draws, rfl, hs1159, hs1160⟩ (RowR.cons ⟨v628, v629, rfl, hs1157, hs1158⟩ (RowR.cons ⟨v1144, v1145, rfl, hs1156, hs1153⟩ (RowR.nil)))
        refine O_lit (T := TyOp) (rows := [(Op.cells p0 vp0_cases vp0_draws), (Op.cells x621 v628 v629), (Op.cells x1121 v1144 v1145)]) (l := [p0, x621, x1121]) rfl rfl rfl hR1155 rfl rfl rfl rfl rfl rfl rfl rfl (fun v1154 => ⟨(Inc.cons (.tail _ (.tail _ (.tail _ (.tail _ (.head _))))) (Inc.cons (.tail _ (.tail _ (.tail _ (.tail _ (.tail _ (.head _)))))) (Inc.cons (.tail _ (.tail _ (.tail _ (.tail _ (.tail _ (.tail _ (.head _))))))) (Inc.cons (.tail _ (.tail _ (.tail _ (.tail _ (.tail _ (.tail _ (.tail _ (.head _)))))))) (Inc.cons (.tail _ (.tail _ (.tail _ (.tail _ (.tail _ (.tail _ (.tail _ (.tail _ (.head _))))))))) (Inc.cons (.tail _ (.tail _ (.tail _ (.tail _ (.tail _ (.tail _ (.tail _ (.tail _ (.tail _ (.head _)))))))))) (Inc.cons (.tail _ (.tail _ (.tail _ (.tail _ (.tail _ (.tail _ (.tail _ (.tail _ (.tail _ (.tail _ (.head _))))))))))) (Inc.cons (.tail _ (.tail _ (.tail _ (.tail _ (.tail _ (.tail _ (.tail _ (.tail _ (.tail _ (.tail _ (.tail _ (.head _)))))))))))) Inc.nil)))))))), ?_⟩)
        refine Aw_one 6 (by kernel_rfl) (Ax_mk rfl rfl (OpW_of_Qt rfl rfl (Q_lenR (T := TyOp) (.head _) hR1155 rfl rfl rfl) ⟨(Inc.cons (.tail _ (.tail _ (.tail _ (.tail _ (.head _))))) (Inc.cons (.tail _ (.tail _ (.tail _ (.tail _ (.tail _ (.head _)))))) (Inc.cons (.tail _ (.tail _ (.tail _ (.tail _ (.tail _ (.tail _ (.head _))))))) (Inc.cons (.tail _ (.tail _ (.tail _ (.tail _ (.tail _ (.tail _ (.tail _ (.head _)))))))) (Inc.cons (.tail _ (.tail _ (.tail _ (.tail _ (.tail _ (.tail _ (.tail _ (.tail _ (.head _))))))))) (Inc.cons (.tail _ (.tail _ (.tail _ (.tail _ (.tail _ (.tail _ (.tail _ (.tail _ (.tail _ (.head _)))))))))) (Inc.cons (.tail _ (.tail _ (.tail _ (.tail _ (.tail _ (.tail _ (.tail _ (.tail _ (.tail _ (.tail _ (.head _))))))))))) (Inc.cons (.tail _ (.tail _ (.tail _ (.tail _ (.tail _ (.tail _ (.tail _ (.tail _ (.tail _ (.tail _ (.tail _ (.head _)))))))))))) Inc.nil)))))))), ?_⟩))
        refine Aw_done (by kernel_rfl) ?_
        refine Cw_block ?_
        refine Cw_loopM (fun n1567 env' K' G' => ∃ (i1566 : Int), [(2, (.int .i64 p2)), (8, (.pointer (some ((⟨b619, 0, none⟩ : Addr).add 0)))), (9, (.pointer (some ((⟨b620, 0, none⟩ : Addr).add 0)))), (37, (sv v1154)), (38, (.int .i64 ([p0, x621, x1121].length : Int))), (39, (.int .i64 i1566))] = env' ∧ (.blk b620 34 (Config.cells x608 v613 v614)) :: (.blk b619 34 (Config.cells x598 v602 v603)) :: (.row (sv v1154) 26 7 [(Op.cells p0 vp0_cases vp0_draws), (Op.cells x621 v628 v629), (Op.cells x1121 v1144 v1145)].flatten) :: (.tok 3 1 [(sv v613)]) :: (.tok 22 1 [(sv v614)]) :: (.tok 3 1 [(sv v602)]) :: (.tok 22 1 [(sv v603)]) :: G = G' ∧ lp1 (M_law3_CasesLocks_L1 p2 p0 x621 x1121 x608 x598) n1567 i1566 = some y0) BIG ?_ ?_
        · skip
          refine Shift.pull (.there (.there (.there (.there (.there (.there (.there (.there (.there (.there .here)))))))))) ?_
          refine Shift.pull (.there (.there (.there (.there (.there (.there (.there (.there (.there (.there .here)))))))))) ?_
          refine Shift.pull (.there (.there (.there (.there (.there (.there (.there (.there (.there (.there .here)))))))))) ?_
          refine Shift.pull (.there (.there (.there (.there (.there (.there (.there (.there (.there (.there .here)))))))))) ?_
          refine Shift.pull (.there (.there (.there (.there .here)))) ?_
          refine Shift.pull (.there (.there (.there (.there (.there (.there (.there (.there (.there (.there .here)))))))))) ?_
          refine Shift.pull (.there (.there (.there (.there (.there (.there (.there (.there (.there (.there .here)))))))))) ?_
          refine Shift.rem (.there (.there (.there (.there (.there (.there (.there .here))))))) ?_
          refine Shift.rem (.there (.there (.there (.there (.there (.there (.there .here))))))) ?_
          refine Shift.rem (.there (.there (.there (.there (.there (.there (.there .here))))))) ?_
          refine Shift.rem (.there (.there (.there (.there (.there (.there (.there .here))))))) ?_
          refine Shift.rem (.there (.there (.there (.there (.there (.there (.there .here))))))) ?_
          refine Shift.done ?_
          exact ⟨[(2, (.int .i64 p2)), (8, (.pointer (some ((⟨b619, 0, none⟩ : Addr).add 0)))), (9, (.pointer (some ((⟨b620, 0, none⟩ : Addr).add 0)))), (37, (sv v1154)), (38, (.int .i64 ([p0, x621, x1121].length : Int))), (39, (.int .i64 0))], ⟨rfl, rfl, rfl, rfl, rfl, rfl, trivial⟩, 0, rfl, rfl, H⟩
        rintro n1567 _ K1568 _ hK1569 ⟨i1566, rfl, rfl, H⟩
        obtain ⟨m1570, k1571, rfl, hkk1572, H⟩ := lps1 H
        unfold M_law3_CasesLocks_L1 at H
        refine Cw_seq ?_
        refine Cw_region ?_
        refine Ow_q rfl rfl rfl (Qt_cmp rfl rfl rfl) ?_
        refine Ow_nil ?_
        refine Cw_seq ?_
        refine Cw_cond rfl ?_ ?_
        · intro h1574
          have h1574 := dcd_t (h1574)
          have H := ift h1574 H
          refine Cw_skip ?_
          refine Cw_join (fun env' K' G' => [(2, (.int .i64 p2)), (8, (.pointer (some ((⟨b619, 0, none⟩ : Addr).add 0)))), (9, (.pointer (some ((⟨b620, 0, none⟩ : Addr).add 0)))), (37, (sv v1154)), (38, (.int .i64 ([p0, x621, x1121].length : Int))), (39, (.int .i64 i1566))] = env' ∧ (.blk b620 34 (Config.cells x608 v613 v614)) :: (.blk b619 34 (Config.cells x598 v602 v603)) :: (.row (sv v1154) 26 7 [(Op.cells p0 vp0_cases vp0_draws), (Op.cells x621 v628 v629), (Op.cells x1121 v1144 v1145)].flatten) :: (.tok 3 1 [(sv v613)]) :: (.tok 22 1 [(sv v614)]) :: (.tok 3 1 [(sv v602)]) :: (.tok 22 1 [(sv v603)]) :: G = G' ∧ M_law3_CasesLocks_J2 p2 p0 x621 x1121 i1566 x608 x598 k1571 = some y0) ?_ ?_
          · skip
            refine Cw_block ?_
            refine Cw_seq ?_
            refine Cw_region ?_
            obtain ⟨x1772, hx1773, H⟩ := bnd H
            have hs1774 := (hR1155).mono hK1569
            obtain ⟨r1775, hq1776, hr1777⟩ := RowR.at hs1774 hx1773
            obtain ⟨v1778, v1779, rfl, hs1780, hs1781⟩ := hr1777
            refine Ow_q rfl rfl rfl (Q_ixR (T := TyOp) (.tail _ (.tail _ (.head _))) hs1774 hq1776 (getI_ix hx1773).1 rfl rfl rfl rfl rfl) ?_
            refine Ow_q rfl rfl rfl (Qt_loadA (m := 7) (cs := (Op.cells x1772 v1778 v1779)) rfl rfl rfl rfl ⟨rfl, Rd_row (T := TyOp) (.tail _ (.tail _ (.head _))) hs1774 hq1776 rfl rfl⟩) ?_
            refine Ow_cons rfl (OpW_alloc (cs := (Op.cells (Op.mk 0 0 0 0 0 [] []) nilS nilS)) rfl rfl rfl rfl (fun b1782 => ?_))
            refine Ow_cons rfl (OpW_store (vs := (Op.cells x1772 v1778 v1779)) (all' := (Op.cells x1772 v1778 v1779)) rfl rfl rfl rfl rfl .here rfl rfl rfl ?_)
            refine Ow_nil ?_
            refine Cw_seq ?_
            refine Cw_region ?_
            refine Ow_q rfl rfl rfl (Qt_loadA (m := 3) (cs := (Config.cells x598 v602 v603)) rfl rfl rfl rfl ⟨rfl, Rdc.blk (.tail _ (.tail _ (.head _))) rfl⟩) ?_
            refine Ow_q rfl rfl rfl (Qt_loadA (m := 3) (cs := (Config.cells x608 v613 v614)) rfl rfl rfl rfl ⟨rfl, Rdc.blk (.tail _ (.head _)) rfl⟩) ?_
            have hs1785 := ((((hs617).mono hK631).mono hK1148).mono hK1152).mono hK1569
            have hs1786 := ((((hs618).mono hK631).mono hK1148).mono hK1152).mono hK1569
            have hs1787 := ((((hs626).mono hK631).mono hK1148).mono hK1152).mono hK1569
            have hs1788 := ((((hs627).mono hK631).mono hK1148).mono hK1152).mono hK1569
            have hR1784 : RowR TyConfig K1568 [(Config.cells x598 v602 v603), (Config.cells x608 v613 v614)] [x598, x608] := RowR.cons ⟨v602, v603, rfl, hs1787, hs1788⟩ (RowR.cons ⟨v613, v614, rfl, hs1785, hs1786⟩ (RowR.nil))
            refine Ow_cons rfl (O_lit (T := TyConfig) (rows := [(Config.cells x598 v602 v603), (Config.cells x608 v613 v614)]) (l := [x598, x608]) rfl rfl rfl hR1784 rfl rfl rfl rfl rfl rfl rfl rfl (fun v1783 => ?_))
            refine Ow_q rfl rfl rfl (Q_lenR (T := TyConfig) (.head _) hR1784 rfl rfl rfl) ?_
            refine Ow_q rfl rfl rfl (Qt_move rfl) ?_
            refine Ow_nil ?_
            refine Cw_block ?_
            refine Cw_loopM (fun n1969 env' K' G' => ∃ (i1968 : Int), [(2, (.int .i64 p2)), (8, (.pointer (some ((⟨b619, 0, none⟩ : Addr).add 0)))), (9, (.pointer (some ((⟨b620, 0, none⟩ : Addr).add 0)))), (12, (.pointer (some ((⟨b1782, 0, none⟩ : Addr).add 0)))), (37, (sv v1154)), (38, (.int .i64 ([p0, x621, x1121].length : Int))), (39, (.int .i64 i1566)), (45, (sv v1783)), (46, (.int .i64 ([x598, x608].length : Int))), (47, (.int .i64 i1968))] = env' ∧ (.blk b1782 26 (Op.cells x1772 v1778 v1779)) :: (.blk b620 34 (Config.cells x608 v613 v614)) :: (.blk b619 34 (Config.cells x598 v602 v603)) :: (.row (sv v1783) 34 3 [(Config.cells x598 v602 v603), (Config.cells x608 v613 v614)].flatten) :: (.row (sv v1154) 26 7 [(Op.cells p0 vp0_cases vp0_draws), (Op.cells x621 v628 v629), (Op.cells x1121 v1144 v1145)].flatten) :: (.tok 3 1 [(sv v613)]) :: (.tok 22 1 [(sv v614)]) :: (.tok 3 1 [(sv v602)]) :: (.tok 22 1 [(sv v603)]) :: G = G' ∧ lp1 (M_law3_CasesLocks_L2 p2 p0 x621 x1121 i1566 x598 x608 x1772 k1571) n1969 i1968 = some y0) BIG ?_ ?_
            · skip
              refine Shift.pull (.there (.there (.there (.there (.there (.there (.there (.there .here)))))))) ?_
              refine Shift.pull (.there (.there (.there (.there (.there (.there (.there (.there .here)))))))) ?_
              refine Shift.pull (.there (.there (.there (.there (.there (.there (.there (.there .here)))))))) ?_
              refine Shift.pull (.there (.there (.there (.there (.there (.there (.there (.there .here)))))))) ?_
              refine Shift.pull (.there (.there (.there (.there (.there (.there (.there (.there .here)))))))) ?_
              refine Shift.pull (.there (.there (.there (.there (.there .here))))) ?_
              refine Shift.pull (.there (.there (.there (.there (.there (.there (.there (.there .here)))))))) ?_
              refine Shift.pull (.there (.there (.there (.there (.there (.there (.there (.there .here)))))))) ?_
              refine Shift.pull (.there (.there (.there (.there (.there (.there (.there (.there .here)))))))) ?_
              refine Shift.done ?_
              exact ⟨[(2, (.int .i64 p2)), (8, (.pointer (some ((⟨b619, 0, none⟩ : Addr).add 0)))), (9, (.pointer (some ((⟨b620, 0, none⟩ : Addr).add 0)))), (12, (.pointer (some ((⟨b1782, 0, none⟩ : Addr).add 0)))), (37, (sv v1154)), (38, (.int .i64 ([p0, x621, x1121].length : Int))), (39, (.int .i64 i1566)), (45, (sv v1783)), (46, (.int .i64 ([x598, x608].length : Int))), (47, (.int .i64 0))], ⟨rfl, rfl, rfl, rfl, rfl, rfl, rfl, rfl, rfl, rfl, trivial⟩, 0, rfl, rfl, H⟩
            rintro n1969 _ K1970 _ hK1971 ⟨i1968, rfl, rfl, H⟩
            obtain ⟨m1972, k1973, rfl, hkk1974, H⟩ := lps1 H
            unfold M_law3_CasesLocks_L2 at H
            refine Cw_seq ?_
            refine Cw_region ?_
            refine Ow_q rfl rfl rfl (Qt_cmp rfl rfl rfl) ?_
            refine Ow_nil ?_
            refine Cw_seq ?_
            refine Cw_cond rfl ?_ ?_
            · intro h1976
              have h1976 := dcd_t (h1976)
              have H := ift h1976 H
              refine Cw_skip ?_
              refine Cw_join (fun env' K' G' => [(2, (.int .i64 p2)), (8, (.pointer (some ((⟨b619, 0, none⟩ : Addr).add 0)))), (9, (.pointer (some ((⟨b620, 0, none⟩ : Addr).add 0)))), (12, (.pointer (some ((⟨b1782, 0, none⟩ : Addr).add 0)))), (37, (sv v1154)), (38, (.int .i64 ([p0, x621, x1121].length : Int))), (39, (.int .i64 i1566)), (45, (sv v1783)), (46, (.int .i64 ([x598, x608].length : Int))), (47, (.int .i64 i1968))] = env' ∧ (.blk b1782 26 (Op.cells x1772 v1778 v1779)) :: (.blk b620 34 (Config.cells x608 v613 v614)) :: (.blk b619 34 (Config.cells x598 v602 v603)) :: (.row (sv v1783) 34 3 [(Config.cells x598 v602 v603), (Config.cells x608 v613 v614)].flatten) :: (.row (sv v1154) 26 7 [(Op.cells p0 vp0_cases vp0_draws), (Op.cells x621 v628 v629), (Op.cells x1121 v1144 v1145)].flatten) :: (.tok 3 1 [(sv v613)]) :: (.tok 22 1 [(sv v614)]) :: (.tok 3 1 [(sv v602)]) :: (.tok 22 1 [(sv v603)]) :: G = G' ∧ M_law3_CasesLocks_J3 p2 p0 x621 x1121 i1566 x598 x608 i1968 x1772 k1571 k1973 = some y0) ?_ ?_
              · skip
                refine Cw_block ?_
                refine Cw_seq ?_
                refine Cw_region ?_
                obtain ⟨x2061, hx2062, H⟩ := bnd H
                have hs2063 := (hR1784).mono hK1971
                obtain ⟨r2064, hq2065, hr2066⟩ := RowR.at hs2063 hx2062
                obtain ⟨v2067, v2068, rfl, hs2069, hs2070⟩ := hr2066
                refine Ow_q rfl rfl rfl (Q_ixR (T := TyConfig) (.tail _ (.tail _ (.tail _ (.head _)))) hs2063 hq2065 (getI_ix hx2062).1 rfl rfl rfl rfl rfl) ?_
                refine Ow_q rfl rfl rfl (Qt_loadA (m := 3) (cs := (Config.cells x2061 v2067 v2068)) rfl rfl rfl rfl ⟨rfl, Rd_row (T := TyConfig) (.tail _ (.tail _ (.tail _ (.head _)))) hs2063 hq2065 rfl rfl⟩) ?_
                refine Ow_cons rfl (OpW_alloc (cs := (Config.cells (Config.mk [] [] 0) nilS nilS)) rfl rfl rfl rfl (fun b2071 => ?_))
                refine Ow_cons rfl (OpW_store (vs := (Config.cells x2061 v2067 v2068)) (all' := (Config.cells x2061 v2067 v2068)) rfl rfl rfl rfl rfl .here rfl rfl rfl ?_)
                refine Ow_nil ?_
                refine Cw_seq ?_
                refine Cw_region ?_
                refine Ow_q rfl rfl rfl (Qt_loadA (m := 3) (cs := (Config.cells x2061 v2067 v2068)) rfl rfl rfl rfl ⟨rfl, Rdc.blk (.head _) rfl⟩) ?_
                refine Ow_q rfl rfl rfl (Qt_loadA (m := 7) (cs := (Op.cells x1772 v1778 v1779)) rfl rfl rfl rfl ⟨rfl, Rdc.blk (.tail _ (.head _)) rfl⟩) ?_
                obtain ⟨x2072, hx2073, H⟩ := bnd H
                have hs2074 := (hs1780).mono hK1971
                have hs2075 := (hs1781).mono hK1971
                refine Ow_cons rfl (OpW_call rfl Try.call16 rfl rfl (c_M_cases_Locks x2061 v2067 v2068 x1772 v1778 v1779 x2072 hx2073 _ _ hs2069 hs2070 hs2074 hs2075) ?_)
                rintro _ K2078 _ hK2079 ⟨v2076, rs2077, rfl, rfl, hs2080⟩
                refine Ow_q rfl rfl rfl (Qt_assign rfl) ?_
                refine Ow_nil ?_
                refine Cw_seq ?_
                refine Cw_seq ?_
                refine Cw_region ?_
                refine Ow_q rfl rfl rfl (Qt_move rfl) ?_
                refine Ow_q rfl rfl rfl (Qt_loadA (m := 3) (cs := (Config.cells x2061 v2067 v2068)) rfl rfl rfl rfl ⟨rfl, Rdc.blk (.tail _ (.head _)) rfl⟩) ?_
                refine Ow_q rfl rfl rfl (Qt_loadA (m := 7) (cs := (Op.cells x1772 v1778 v1779)) rfl rfl rfl rfl ⟨rfl, Rdc.blk (.tail _ (.tail _ (.head _))) rfl⟩) ?_
                obtain ⟨x2101, hx2102, H⟩ := bnd H
                have hs2103 := (hs2069).mono hK2079
                have hs2104 := (hs2070).mono hK2079
                have hs2105 := (hs2074).mono hK2079
                have hs2106 := (hs2075).mono hK2079
                refine Ow_cons rfl (OpW_call rfl Try.call18 rfl rfl (c_M_ref3_Locks x2061 v2067 v2068 x1772 v1778 v1779 x2101 hx2102 _ _ hs2103 hs2104 hs2105 hs2106) ?_)
                rintro _ K2108 _ hK2109 ⟨v2107, rfl, rfl, hs2110⟩
                have hs2114 := (hs2080).mono hK2109
                refine Ow.shift (Shift.settle (T := Ty.i64) (.there .here) hs2114 rfl (fun K2111 hK2112 hs2113 => Shift.done ?_))
                obtain ⟨x2115, hx2116, H⟩ := bnd H
                have hs2117 := (hs2110).mono hK2112
                refine Ow_cons rfl (OpW_call rfl Try.call17 rfl rfl (c_M_ref2_Same x2072 v2076 x2101 v2107 x2115 hx2116 _ _ hs2113 hs2117) ?_)
                rintro _ K2118 _ hK2119 ⟨rfl, rfl⟩
                refine Ow_q rfl rfl rfl (Qt_not rfl) ?_
                refine Ow_nil ?_
                refine Cw_cond rfl ?_ ?_
                · intro h2120
                  have h2120 := nt_t (h2120)
                  have H := iff_ (btf h2120) H
                  refine Cw_seq ?_
                  refine Cw_region ?_
                  refine Ow_q rfl rfl rfl (Qt_assign rfl) ?_
                  refine Ow_nil ?_
                  refine Cw_ret ?_
                  obtain ey0 := inj1 H
                  subst y0
                  refine ⟨(by first | exact .inl rfl | exact .inr rfl), [(.bool false)], ⟨(.bool false), _, rfl, rfl, rfl⟩, ?_⟩
                  refine Shift.rem .here ?_
                  refine Shift.rem .here ?_
                  refine Shift.rem .here ?_
                  refine Shift.rem .here ?_
                  refine Shift.rem .here ?_
                  refine Shift.rem .here ?_
                  refine Shift.rem .here ?_
                  refine Shift.rem .here ?_
                  refine Shift.rem .here ?_
                  refine Shift.rem .here ?_
                  refine Shift.rem .here ?_
                  refine Shift.rem .here ?_
                  refine Shift.done ?_
                  exact ⟨rfl, rfl⟩
                · intro h2120
                  have h2120 := nt_f (h2120)
                  have H := ift h2120 H
                  refine Cw_skip ?_
                  refine Cw_seq ?_
                  refine Cw_region ?_
                  refine Ow_q rfl rfl rfl (Qt_assign rfl) ?_
                  refine Ow_nil ?_
                  refine Cw_block ?_
                  refine Cw_loopM (fun n2165 env' K' G' => ∃ (i2164 : Int), [(2, (.int .i64 p2)), (8, (.pointer (some ((⟨b619, 0, none⟩ : Addr).add 0)))), (9, (.pointer (some ((⟨b620, 0, none⟩ : Addr).add 0)))), (12, (.pointer (some ((⟨b1782, 0, none⟩ : Addr).add 0)))), (15, (sv v2076)), (16, (.int .i64 i2164)), (37, (sv v1154)), (38, (.int .i64 ([p0, x621, x1121].length : Int))), (39, (.int .i64 i1566)), (45, (sv v1783)), (46, (.int .i64 ([x598, x608].length : Int))), (47, (.int .i64 i1968))] = env' ∧ K2118 = K' ∧ (.blk b1782 26 (Op.cells x1772 v1778 v1779)) :: (.blk b620 34 (Config.cells x608 v613 v614)) :: (.blk b619 34 (Config.cells x598 v602 v603)) :: (.tok 3 1 [(sv v2076)]) :: (.row (sv v1783) 34 3 [(Config.cells x598 v602 v603), (Config.cells x608 v613 v614)].flatten) :: (.row (sv v1154) 26 7 [(Op.cells p0 vp0_cases vp0_draws), (Op.cells x621 v628 v629), (Op.cells x1121 v1144 v1145)].flatten) :: (.tok 3 1 [(sv v613)]) :: (.tok 22 1 [(sv v614)]) :: (.tok 3 1 [(sv v602)]) :: (.tok 22 1 [(sv v603)]) :: G = G' ∧ lp1 (M_law3_CasesLocks_L3 p2 x2072 p0 x621 x1121 i1566 x598 x608 i1968 x1772 k1571 k1973) n2165 i2164 = some y0) BIG ?_ ?_
                  · skip
                    refine Shift.pull (.there (.there (.there (.there (.there (.there (.there (.there (.there (.there (.there .here))))))))))) ?_
                    refine Shift.pull (.there (.there (.there (.there (.there (.there (.there (.there (.there (.there (.there .here))))))))))) ?_
                    refine Shift.pull (.there (.there (.there (.there (.there (.there (.there (.there (.there (.there (.there .here))))))))))) ?_
                    refine Shift.pull (.there (.there (.there (.there (.there (.there (.there (.there (.there (.there (.there .here))))))))))) ?_
                    refine Shift.pull (.there (.there (.there (.there (.there (.there (.there (.there (.there (.there (.there .here))))))))))) ?_
                    refine Shift.pull (.there (.there (.there (.there (.there (.there (.there (.there (.there (.there (.there .here))))))))))) ?_
                    refine Shift.pull (.there (.there (.there (.there (.there (.there (.there .here))))))) ?_
                    refine Shift.pull (.there (.there (.there (.there (.there (.there (.there (.there (.there (.there (.there .here))))))))))) ?_
                    refine Shift.pull (.there (.there (.there (.there (.there (.there (.there (.there (.there (.there (.there .here))))))))))) ?_
                    refine Shift.pull (.there (.there (.there (.there (.there (.there (.there (.there (.there (.there (.there .here))))))))))) ?_
                    refine Shift.rem (.there (.there (.there (.there (.there (.there (.there (.there (.there (.there .here)))))))))) ?_
                    refine Shift.rem (.there (.there (.there (.there (.there (.there (.there (.there (.there (.there .here)))))))))) ?_
                    refine Shift.done ?_
                    exact ⟨[(2, (.int .i64 p2)), (8, (.pointer (some ((⟨b619, 0, none⟩ : Addr).add 0)))), (9, (.pointer (some ((⟨b620, 0, none⟩ : Addr).add 0)))), (12, (.pointer (some ((⟨b1782, 0, none⟩ : Addr).add 0)))), (15, (sv v2076)), (16, (.int .i64 1)), (37, (sv v1154)), (38, (.int .i64 ([p0, x621, x1121].length : Int))), (39, (.int .i64 i1566)), (45, (sv v1783)), (46, (.int .i64 ([x598, x608].length : Int))), (47, (.int .i64 i1968))], ⟨rfl, rfl, rfl, rfl, rfl, rfl, rfl, rfl, rfl, rfl, rfl, rfl, trivial⟩, 1, rfl, rfl, rfl, H⟩
                  rintro n2165 _ _ _ - ⟨i2164, rfl, rfl, rfl, H⟩
                  obtain ⟨m2166, k2167, rfl, hkk2168, H⟩ := lps1 H
                  unfold M_law3_CasesLocks_L3 at H
                  refine Cw_seq ?_
                  refine Cw_seq ?_
                  refine Cw_region ?_
                  refine Ow_q rfl rfl rfl (Qt_move rfl) ?_
                  refine Ow_q rfl rfl rfl (Qt_move rfl) ?_
                  have hs2171 := (hs2113).mono hK2119
                  refine Ow_q rfl rfl rfl (Q_len (T := Ty.i64) hs2171 rfl rfl) ?_
                  refine Ow_q rfl rfl rfl (Qt_cmp rfl rfl rfl) ?_
                  refine Ow_nil ?_
                  refine Cw_cond rfl ?_ ?_
                  · intro h2172
                    have h2172 := dcd_t (h2172)
                    have H := ift h2172 H
                    refine Cw_skip ?_
                    refine Cw_seq ?_
                    refine Cw_block ?_
                    refine Cw_seq ?_
                    obtain ⟨x2190, hx2191, H⟩ := bnd H
                    obtain ⟨x2195, hx2196, H⟩ := bnd H
                    refine Cw_region_any [.blk b1782 26 (Op.cells x1772 v1778 v1779), .blk b620 34 (Config.cells x608 v613 v614), .blk b619 34 (Config.cells x598 v602 v603), .tok 3 1 [(sv v2076)], .row (sv v1783) 34 3 [(Config.cells x598 v602 v603), (Config.cells x608 v613 v614)].flatten, .row (sv v1154) 26 7 [(Op.cells p0 vp0_cases vp0_draws), (Op.cells x621 v628 v629), (Op.cells x1121 v1144 v1145)].flatten, .tok 3 1 [(sv v613)], .tok 22 1 [(sv v614)], .tok 3 1 [(sv v602)], .tok 22 1 [(sv v603)]] rfl (Inc.cons (.head _) (Inc.cons (.tail _ (.head _)) (Inc.cons (.tail _ (.tail _ (.head _))) (Inc.cons (.tail _ (.tail _ (.tail _ (.head _)))) (Inc.cons (.tail _ (.tail _ (.tail _ (.tail _ (.head _))))) (Inc.cons (.tail _ (.tail _ (.tail _ (.tail _ (.tail _ (.head _)))))) (Inc.cons (.tail _ (.tail _ (.tail _ (.tail _ (.tail _ (.tail _ (.head _))))))) (Inc.cons (.tail _ (.tail _ (.tail _ (.tail _ (.tail _ (.tail _ (.tail _ (.head _)))))))) (Inc.cons (.tail _ (.tail _ (.tail _ (.tail _ (.tail _ (.tail _ (.tail _ (.tail _ (.head _))))))))) (Inc.cons (.tail _ (.tail _ (.tail _ (.tail _ (.tail _ (.tail _ (.tail _ (.tail _ (.tail _ (.head _)))))))))) Inc.nil)))))))))) ?_
                    refine Aw_q 0 rfl (by kernel_rfl) (by kernel_rfl) (by kernel_rfl) rfl rfl rfl (Qt_move rfl) ?_
                    refine Aw_q 1 rfl (by kernel_rfl) (by kernel_rfl) (by kernel_rfl) rfl rfl rfl (Qt_move rfl) ?_
                    obtain ⟨r2200, hr2201, hk2202⟩ := Slr.at hs2171 hx2191
                    obtain rfl := hr2201
                    refine Aw_q 2 rfl (by kernel_rfl) (by kernel_rfl) (by kernel_rfl) rfl rfl rfl (Q_ix (T := Ty.i64) hs2171 hx2191 rfl rfl rfl rfl rfl) ?_
                    refine Aw_q 3 rfl (by kernel_rfl) (by kernel_rfl) (by kernel_rfl) rfl rfl rfl (Qt_load1 (v := (.int .i64 x2190)) rfl rfl rfl (Rdc.k hk2202 rfl)) ?_
                    refine Aw_q 4 rfl (by kernel_rfl) (by kernel_rfl) (by kernel_rfl) rfl rfl rfl (Qt_move rfl) ?_
                    refine Aw_q 5 rfl (by kernel_rfl) (by kernel_rfl) (by kernel_rfl) rfl rfl rfl (Qt_move rfl) ?_
                    refine Aw_q 6 rfl (by kernel_rfl) (by kernel_rfl) (by kernel_rfl) rfl rfl rfl (Qt_arith (e := wI (i2164 - 1)) rfl rfl rfl rfl) ?_
                    obtain ⟨r2203, hr2204, hk2205⟩ := Slr.at hs2171 hx2196
                    obtain rfl := hr2204
                    refine Aw_q 7 rfl (by kernel_rfl) (by kernel_rfl) (by kernel_rfl) rfl rfl rfl (Q_ix (T := Ty.i64) hs2171 hx2196 rfl rfl rfl rfl rfl) ?_
                    refine Aw_q 8 rfl (by kernel_rfl) (by kernel_rfl) (by kernel_rfl) rfl rfl rfl (Qt_load1 (v := (.int .i64 x2195)) rfl rfl rfl (Rdc.k hk2205 rfl)) ?_
                    refine Aw_q 9 rfl (by kernel_rfl) (by kernel_rfl) (by kernel_rfl) rfl rfl rfl (Qt_cmp rfl rfl rfl) ?_
                    refine Aw_done (by kernel_rfl) ?_
                    refine Cw_cond rfl ?_ ?_
                    · intro h2206
                      have h2206 := dcd_t (h2206)
                      have H := ift h2206 H
                      refine Cw_seq ?_
                      refine Cw_region ?_
                      refine Ow_q rfl rfl rfl (Qt_assign rfl) ?_
                      refine Ow_nil ?_
                      refine Cw_ret ?_
                      obtain ey0 := inj1 H
                      subst y0
                      refine ⟨(by first | exact .inl rfl | exact .inr rfl), [(.bool false)], ⟨(.bool false), _, rfl, rfl, rfl⟩, ?_⟩
                      refine Shift.rem .here ?_
                      refine Shift.rem .here ?_
                      refine Shift.rem .here ?_
                      refine Shift.rem .here ?_
                      refine Shift.rem .here ?_
                      refine Shift.rem .here ?_
                      refine Shift.rem .here ?_
                      refine Shift.rem .here ?_
                      refine Shift.rem .here ?_
                      refine Shift.rem .here ?_
                      refine Shift.done ?_
                      exact ⟨rfl, rfl⟩
                    · intro h2206
                      have h2206 := dcd_f (h2206)
                      have H := iff_ h2206 H
                      refine Cw_skip ?_
                      refine Cw_region ?_
                      refine Ow_q rfl rfl rfl (Qt_move rfl) ?_
                      refine Ow_q rfl rfl rfl (Qt_arith (e := wI (i2164 + 1)) rfl rfl rfl rfl) ?_
                      refine Ow_q rfl rfl rfl (Qt_assign rfl) ?_
                      refine Ow_nil ?_
                      refine Shift.pull (.there (.there (.there (.there (.there (.there (.there (.there (.there .here))))))))) ?_
                      refine Shift.pull (.there (.there (.there (.there (.there (.there (.there (.there (.there .here))))))))) ?_
                      refine Shift.pull (.there (.there (.there (.there (.there (.there (.there (.there (.there .here))))))))) ?_
                      refine Shift.pull (.there (.there (.there (.there (.there (.there (.there (.there (.there .here))))))))) ?_
                      refine Shift.pull (.there (.there (.there (.there (.there (.there (.there (.there (.there .here))))))))) ?_
                      refine Shift.pull (.there (.there (.there (.there (.there (.there (.there (.there (.there .here))))))))) ?_
                      refine Shift.pull (.there (.there (.there (.there (.there (.there (.there (.there (.there .here))))))))) ?_
                      refine Shift.pull (.there (.there (.there (.there (.there (.there (.there (.there (.there .here))))))))) ?_
                      refine Shift.pull (.there (.there (.there (.there (.there (.there (.there (.there (.there .here))))))))) ?_
                      refine Shift.pull (.there (.there (.there (.there (.there (.there (.there (.there (.there .here))))))))) ?_
                      refine Shift.done ?_
                      exact ⟨[(2, (.int .i64 p2)), (8, (.pointer (some ((⟨b619, 0, none⟩ : Addr).add 0)))), (9, (.pointer (some ((⟨b620, 0, none⟩ : Addr).add 0)))), (12, (.pointer (some ((⟨b1782, 0, none⟩ : Addr).add 0)))), (15, (sv v2076)), (16, (.int .i64 (wI (i2164 + 1)))), (37, (sv v1154)), (38, (.int .i64 ([p0, x621, x1121].length : Int))), (39, (.int .i64 i1566)), (45, (sv v1783)), (46, (.int .i64 ([x598, x608].length : Int))), (47, (.int .i64 i1968))], ⟨rfl, rfl, rfl, rfl, rfl, rfl, rfl, rfl, rfl, rfl, rfl, rfl, trivial⟩, _, Nat.lt_succ_self _, (wI (i2164 + 1)), rfl, rfl, rfl, (hkk2168 ▸ H)⟩
                  · intro h2172
                    have h2172 := dcd_f (h2172)
                    have H := iff_ h2172 H
                    refine Cw_exit ?_
                    refine Shift.pull (.there (.there (.there (.there (.there (.there (.there (.there (.there .here))))))))) ?_
                    refine Shift.pull (.there (.there (.there (.there (.there (.there (.there (.there (.there .here))))))))) ?_
                    refine Shift.pull (.there (.there (.there (.there (.there (.there (.there (.there (.there .here))))))))) ?_
                    refine Shift.pull (.there (.there (.there (.there (.there (.there (.there (.there (.there .here))))))))) ?_
                    refine Shift.pull (.there (.there (.there (.there (.there (.there (.there (.there (.there .here))))))))) ?_
                    refine Shift.pull (.there (.there (.there (.there (.there (.there (.there (.there (.there .here))))))))) ?_
                    refine Shift.pull (.there (.there (.there (.there (.there (.there (.there (.there .here)))))))) ?_
                    refine Shift.pull (.there (.there (.there (.there (.there (.there (.there (.there .here)))))))) ?_
                    refine Shift.pull (.there (.there (.there (.there (.there (.there (.there (.there .here)))))))) ?_
                    refine Shift.rem (.there (.there (.there (.there (.there (.there (.there (.there (.there .here))))))))) ?_
                    refine Shift.done ?_
                    exact ⟨[(2, (.int .i64 p2)), (8, (.pointer (some ((⟨b619, 0, none⟩ : Addr).add 0)))), (9, (.pointer (some ((⟨b620, 0, none⟩ : Addr).add 0)))), (12, (.pointer (some ((⟨b1782, 0, none⟩ : Addr).add 0)))), (37, (sv v1154)), (38, (.int .i64 ([p0, x621, x1121].length : Int))), (39, (.int .i64 i1566)), (45, (sv v1783)), (46, (.int .i64 ([x598, x608].length : Int))), (47, (.int .i64 i1968))], ⟨rfl, rfl, rfl, rfl, rfl, rfl, rfl, rfl, rfl, rfl, trivial⟩, rfl, rfl, H⟩
              rintro _ K2207 _ hK2208 ⟨rfl, rfl, H⟩
              unfold M_law3_CasesLocks_J3 at H
              refine Cw_region ?_
              refine Ow_q rfl rfl rfl (Qt_arith (e := wI (i1968 + 1)) rfl rfl rfl rfl) ?_
              refine Ow_q rfl rfl rfl (Qt_move rfl) ?_
              refine Ow_nil ?_
              refine Shift.pull (.there (.there (.there (.there (.there (.there (.there (.there .here)))))))) ?_
              refine Shift.pull (.there (.there (.there (.there (.there (.there (.there (.there .here)))))))) ?_
              refine Shift.pull (.there (.there (.there (.there (.there (.there (.there (.there .here)))))))) ?_
              refine Shift.pull (.there (.there (.there (.there (.there (.there (.there (.there .here)))))))) ?_
              refine Shift.pull (.there (.there (.there (.there (.there (.there (.there (.there .here)))))))) ?_
              refine Shift.pull (.there (.there (.there (.there (.there (.there (.there (.there .here)))))))) ?_
              refine Shift.pull (.there (.there (.there (.there (.there (.there (.there (.there .here)))))))) ?_
              refine Shift.pull (.there (.there (.there (.there (.there (.there (.there (.there .here)))))))) ?_
              refine Shift.pull (.there (.there (.there (.there (.there (.there (.there (.there .here)))))))) ?_
              refine Shift.done ?_
              exact ⟨[(2, (.int .i64 p2)), (8, (.pointer (some ((⟨b619, 0, none⟩ : Addr).add 0)))), (9, (.pointer (some ((⟨b620, 0, none⟩ : Addr).add 0)))), (12, (.pointer (some ((⟨b1782, 0, none⟩ : Addr).add 0)))), (37, (sv v1154)), (38, (.int .i64 ([p0, x621, x1121].length : Int))), (39, (.int .i64 i1566)), (45, (sv v1783)), (46, (.int .i64 ([x598, x608].length : Int))), (47, (.int .i64 (wI (i1968 + 1))))], ⟨rfl, rfl, rfl, rfl, rfl, rfl, rfl, rfl, rfl, rfl, trivial⟩, _, Nat.lt_succ_self _, (wI (i1968 + 1)), rfl, rfl, (hkk1974 ▸ H)⟩
            · intro h1976
              have h1976 := dcd_f (h1976)
              have H := iff_ h1976 H
              refine Cw_exit ?_
              refine Shift.pull (.there (.there (.there (.there (.there (.there (.there (.there .here)))))))) ?_
              refine Shift.pull (.there (.there (.there (.there (.there (.there (.there (.there .here)))))))) ?_
              refine Shift.pull (.there (.there (.there (.there (.there (.there (.there (.there .here)))))))) ?_
              refine Shift.pull (.there (.there (.there (.there (.there (.there (.there (.there .here)))))))) ?_
              refine Shift.pull (.there (.there (.there (.there (.there (.there (.there (.there .here)))))))) ?_
              refine Shift.pull (.there (.there (.there (.there (.there (.there (.there .here))))))) ?_
              refine Shift.pull (.there (.there (.there (.there (.there (.there (.there .here))))))) ?_
              refine Shift.rem (.there (.there (.there (.there (.there (.there (.there .here))))))) ?_
              refine Shift.rem (.there (.there (.there (.there (.there (.there (.there .here))))))) ?_
              refine Shift.done ?_
              exact ⟨[(2, (.int .i64 p2)), (8, (.pointer (some ((⟨b619, 0, none⟩ : Addr).add 0)))), (9, (.pointer (some ((⟨b620, 0, none⟩ : Addr).add 0)))), (37, (sv v1154)), (38, (.int .i64 ([p0, x621, x1121].length : Int))), (39, (.int .i64 i1566))], ⟨rfl, rfl, rfl, rfl, rfl, rfl, trivial⟩, rfl, rfl, H⟩
          rintro _ K2209 _ hK2210 ⟨rfl, rfl, H⟩
          unfold M_law3_CasesLocks_J2 at H
          refine Cw_region ?_
          refine Ow_q rfl rfl rfl (Qt_arith (e := wI (i1566 + 1)) rfl rfl rfl rfl) ?_
          refine Ow_q rfl rfl rfl (Qt_move rfl) ?_
          refine Ow_nil ?_
          refine Shift.pull (.there (.there (.there (.there (.there (.there .here)))))) ?_
          refine Shift.pull (.there (.there (.there (.there (.there (.there .here)))))) ?_
          refine Shift.pull (.there (.there (.there (.there (.there (.there .here)))))) ?_
          refine Shift.pull (.there (.there (.there (.there (.there (.there .here)))))) ?_
          refine Shift.pull (.there (.there (.there (.there (.there (.there .here)))))) ?_
          refine Shift.pull (.there (.there (.there (.there (.there (.there .here)))))) ?_
          refine Shift.pull (.there (.there (.there (.there (.there (.there .here)))))) ?_
          refine Shift.done ?_
          exact ⟨[(2, (.int .i64 p2)), (8, (.pointer (some ((⟨b619, 0, none⟩ : Addr).add 0)))), (9, (.pointer (some ((⟨b620, 0, none⟩ : Addr).add 0)))), (37, (sv v1154)), (38, (.int .i64 ([p0, x621, x1121].length : Int))), (39, (.int .i64 (wI (i1566 + 1))))], ⟨rfl, rfl, rfl, rfl, rfl, rfl, trivial⟩, _, Nat.lt_succ_self _, (wI (i1566 + 1)), rfl, rfl, (hkk1572 ▸ H)⟩
        · intro h1574
          have h1574 := dcd_f (h1574)
          have H := iff_ h1574 H
          refine Cw_exit ?_
          refine Shift.pull (.there (.there (.there (.there (.there (.there .here)))))) ?_
          refine Shift.pull (.there (.there (.there (.there (.there (.there .here)))))) ?_
          refine Shift.pull (.there (.there (.there (.there (.there (.there .here)))))) ?_
          refine Shift.pull (.there (.there (.there (.there (.there (.there .here)))))) ?_
          refine Shift.pull (.there (.there (.there (.there (.there .here))))) ?_
          refine Shift.pull (.there (.there (.there (.there (.there .here))))) ?_
          refine Shift.rem (.there (.there (.there (.there (.there (.there .here)))))) ?_
          refine Shift.done ?_
          exact ⟨[(2, (.int .i64 p2)), (8, (.pointer (some ((⟨b619, 0, none⟩ : Addr).add 0)))), (9, (.pointer (some ((⟨b620, 0, none⟩ : Addr).add 0))))], ⟨rfl, rfl, rfl, trivial⟩, rfl, rfl, H⟩
      rintro _ K2211 _ hK2212 ⟨rfl, rfl, H⟩
      unfold M_law3_CasesLocks_J1 at H
      refine Cw_join (fun env' K' G' => [] = env' ∧ G = G' ∧ M_law3_CasesLocks_J4 = some y0) ?_ ?_
      · skip
        refine Cw_seq ?_
        refine Cw_region ?_
        refine Ow_q rfl rfl rfl (Qt_move rfl) ?_
        refine Ow_q rfl rfl rfl (Qt_move rfl) ?_
        obtain ⟨x2279, hx2280, H⟩ := bnd H
        refine Ow_cons rfl (OpW_call rfl Try.call19 rfl rfl (c_M_draw_Mod p2 12 x2279 hx2280 _ _ ) ?_)
        rintro _ _ _ - ⟨rfl, rfl, rfl⟩
        refine Ow_q rfl rfl rfl (Qt_arith (e := wI (x2279 - 2)) rfl rfl rfl rfl) ?_
        have hR2282 : RowR Ty.i64 K2211 [[(.int .i64 p2)], [(.int .i64 (wI (x2279 - 2)))]] [p2, wI (x2279 - 2)] := RowR.cons rfl (RowR.cons rfl (RowR.nil))
        refine Ow_cons rfl (O_lit (T := Ty.i64) (rows := [[(.int .i64 p2)], [(.int .i64 (wI (x2279 - 2)))]]) (l := [p2, wI (x2279 - 2)]) rfl rfl rfl hR2282 rfl rfl rfl rfl rfl rfl rfl rfl (fun v2281 => ?_))
        refine Ow_q rfl rfl rfl (Q_lenR (T := Ty.i64) (.head _) hR2282 rfl rfl rfl) ?_
        refine Ow_q rfl rfl rfl (Qt_move rfl) ?_
        refine Ow_nil ?_
        refine Cw_block ?_
        refine Cw_loopM (fun n2345 env' K' G' => ∃ (i2344 : Int), [(8, (.pointer (some ((⟨b619, 0, none⟩ : Addr).add 0)))), (9, (.pointer (some ((⟨b620, 0, none⟩ : Addr).add 0)))), (82, (sv v2281)), (83, (.int .i64 ([p2, wI (x2279 - 2)].length : Int))), (84, (.int .i64 i2344))] = env' ∧ K2211 = K' ∧ (.blk b620 34 (Config.cells x608 v613 v614)) :: (.blk b619 34 (Config.cells x598 v602 v603)) :: (.row (sv v2281) 3 1 [[(.int .i64 p2)], [(.int .i64 (wI (x2279 - 2)))]].flatten) :: (.tok 3 1 [(sv v613)]) :: (.tok 22 1 [(sv v614)]) :: (.tok 3 1 [(sv v602)]) :: (.tok 22 1 [(sv v603)]) :: G = G' ∧ lp1 (M_law3_CasesLocks_L4 p2 x2279 x608 x598) n2345 i2344 = some y0) BIG ?_ ?_
        · skip
          refine Shift.pull (.there (.there (.there (.there (.there (.there .here)))))) ?_
          refine Shift.pull (.there (.there (.there (.there (.there (.there .here)))))) ?_
          refine Shift.pull (.there (.there (.there (.there (.there (.there .here)))))) ?_
          refine Shift.pull (.there (.there (.there (.there (.there (.there .here)))))) ?_
          refine Shift.pull (.there (.there (.there (.there .here)))) ?_
          refine Shift.pull (.there (.there (.there (.there (.there (.there .here)))))) ?_
          refine Shift.pull (.there (.there (.there (.there (.there (.there .here)))))) ?_
          refine Shift.done ?_
          exact ⟨[(8, (.pointer (some ((⟨b619, 0, none⟩ : Addr).add 0)))), (9, (.pointer (some ((⟨b620, 0, none⟩ : Addr).add 0)))), (82, (sv v2281)), (83, (.int .i64 ([p2, wI (x2279 - 2)].length : Int))), (84, (.int .i64 0))], ⟨rfl, rfl, rfl, rfl, rfl, trivial⟩, 0, rfl, rfl, rfl, H⟩
        rintro n2345 _ _ _ - ⟨i2344, rfl, rfl, rfl, H⟩
        obtain ⟨m2346, k2347, rfl, hkk2348, H⟩ := lps1 H
        unfold M_law3_CasesLocks_L4 at H
        refine Cw_seq ?_
        refine Cw_region ?_
        refine Ow_q rfl rfl rfl (Qt_cmp rfl rfl rfl) ?_
        refine Ow_nil ?_
        refine Cw_seq ?_
        refine Cw_cond rfl ?_ ?_
        · intro h2350
          have h2350 := dcd_t (h2350)
          have H := ift h2350 H
          refine Cw_skip ?_
          refine Cw_seq ?_
          refine Cw_block ?_
          refine Cw_seq ?_
          refine Cw_region ?_
          obtain ⟨x2377, hx2378, H⟩ := bnd H
          obtain ⟨r2379, hq2380, hr2381⟩ := RowR.at hR2282 hx2378
          obtain rfl := hr2381
          refine Ow_q rfl rfl rfl (Q_ixR (T := Ty.i64) (.tail _ (.tail _ (.head _))) hR2282 hq2380 (getI_ix hx2378).1 rfl rfl rfl rfl rfl) ?_
          refine Ow_q rfl rfl rfl (Qt_load1 (v := (.int .i64 x2377)) rfl rfl rfl (Rd_row (T := Ty.i64) (.tail _ (.tail _ (.head _))) hR2282 hq2380 rfl rfl)) ?_
          refine Ow_q rfl rfl rfl (Qt_assign rfl) ?_
          refine Ow_nil ?_
          refine Cw_join (fun env' K' G' => ∃ (t2401 : Bool), [(8, (.pointer (some ((⟨b619, 0, none⟩ : Addr).add 0)))), (9, (.pointer (some ((⟨b620, 0, none⟩ : Addr).add 0)))), (82, (sv v2281)), (83, (.int .i64 ([p2, wI (x2279 - 2)].length : Int))), (84, (.int .i64 i2344)), (103, (.bool t2401))] = env' ∧ K2211 = K' ∧ (.blk b620 34 (Config.cells x608 v613 v614)) :: (.blk b619 34 (Config.cells x598 v602 v603)) :: (.row (sv v2281) 3 1 [[(.int .i64 p2)], [(.int .i64 (wI (x2279 - 2)))]].flatten) :: (.tok 3 1 [(sv v613)]) :: (.tok 22 1 [(sv v614)]) :: (.tok 3 1 [(sv v602)]) :: (.tok 22 1 [(sv v603)]) :: G = G' ∧ M_law3_CasesLocks_J5 p2 x2279 i2344 x608 x598 k2347 t2401 = some y0) ?_ ?_
          · skip
            obtain ⟨x2402, hx2403, H⟩ := bnd H
            obtain ⟨x2406, hx2407, H⟩ := bnd H
            rcases bool_ct (!((x2402 == x2406))) with hb_ | hb_ <;> revert hb_
            · intro h2408
              have h2408 := nt_t (h2408)
              have H := iff_ (btf h2408) H
              refine Cw_region_any [.blk b620 34 (Config.cells x608 v613 v614), .blk b619 34 (Config.cells x598 v602 v603), .row (sv v2281) 3 1 [[(.int .i64 p2)], [(.int .i64 (wI (x2279 - 2)))]].flatten, .tok 3 1 [(sv v613)], .tok 22 1 [(sv v614)], .tok 3 1 [(sv v602)], .tok 22 1 [(sv v603)]] rfl (Inc.cons (.head _) (Inc.cons (.tail _ (.head _)) (Inc.cons (.tail _ (.tail _ (.head _))) (Inc.cons (.tail _ (.tail _ (.tail _ (.head _)))) (Inc.cons (.tail _ (.tail _ (.tail _ (.tail _ (.head _))))) (Inc.cons (.tail _ (.tail _ (.tail _ (.tail _ (.tail _ (.head _)))))) (Inc.cons (.tail _ (.tail _ (.tail _ (.tail _ (.tail _ (.tail _ (.head _))))))) Inc.nil))))))) ?_
              refine Aw_q 0 rfl (by kernel_rfl) (by kernel_rfl) (by kernel_rfl) rfl rfl rfl (Qt_loadA (m := 3) (cs := (Config.cells x598 v602 v603)) rfl rfl rfl rfl ⟨rfl, Rdc.blk (.tail _ (.head _)) rfl⟩) ?_
              refine Aw_q 1 rfl (by kernel_rfl) (by kernel_rfl) (by kernel_rfl) rfl rfl rfl (Qt_move rfl) ?_
              refine Aw_q 3 rfl (by kernel_rfl) (by kernel_rfl) (by kernel_rfl) rfl rfl rfl (Qt_loadA (m := 3) (cs := (Config.cells x598 v602 v603)) rfl rfl rfl rfl ⟨rfl, Rdc.blk (.tail _ (.head _)) rfl⟩) ?_
              refine Aw_q 4 rfl (by kernel_rfl) (by kernel_rfl) (by kernel_rfl) rfl rfl rfl (Qt_move rfl) ?_
              refine Aw_one 2 (by kernel_rfl) (Ax_mk rfl rfl ?_)
              have hs2409 := ((hs626).mono hK631).mono hK2212
              have hs2410 := ((hs627).mono hK631).mono hK2212
              refine OpW_call rfl Try.call20 rfl rfl (c_M_cases_Exists x598 v602 v603 x2377 x2402 hx2403 _ _ hs2409 hs2410) ?_
              rintro _ _ _ - ⟨rfl, rfl, rfl⟩
              refine ⟨(Inc.cons (.head _) (Inc.cons (.tail _ (.head _)) (Inc.cons (.tail _ (.tail _ (.head _))) (Inc.cons (.tail _ (.tail _ (.tail _ (.head _)))) (Inc.cons (.tail _ (.tail _ (.tail _ (.tail _ (.head _))))) (Inc.cons (.tail _ (.tail _ (.tail _ (.tail _ (.tail _ (.head _)))))) (Inc.cons (.tail _ (.tail _ (.tail _ (.tail _ (.tail _ (.tail _ (.head _))))))) Inc.nil))))))), ?_⟩
              refine Aw_one 5 (by kernel_rfl) (Ax_mk rfl rfl ?_)
              refine OpW_call rfl Try.call21 rfl rfl (c_M_ref3_Exists x598 v602 v603 x2377 x2406 hx2407 _ _ hs2409 hs2410) ?_
              rintro _ _ _ - ⟨rfl, rfl, rfl⟩
              refine ⟨(Inc.cons (.head _) (Inc.cons (.tail _ (.head _)) (Inc.cons (.tail _ (.tail _ (.head _))) (Inc.cons (.tail _ (.tail _ (.tail _ (.head _)))) (Inc.cons (.tail _ (.tail _ (.tail _ (.tail _ (.head _))))) (Inc.cons (.tail _ (.tail _ (.tail _ (.tail _ (.tail _ (.head _)))))) (Inc.cons (.tail _ (.tail _ (.tail _ (.tail _ (.tail _ (.tail _ (.head _))))))) Inc.nil))))))), ?_⟩
              refine Aw_q 6 rfl (by kernel_rfl) (by kernel_rfl) (by kernel_rfl) rfl rfl rfl (Qt_neB rfl rfl rfl) ?_
              refine Aw_q 7 rfl (by kernel_rfl) (by kernel_rfl) (by kernel_rfl) rfl rfl rfl (Qt_move rfl) ?_
              refine Aw.known (d := 95) rfl (nt_mt (h2408)) ?_
              refine Aw_pass 8 rfl (by kernel_rfl) (by kernel_rfl) (by kernel_rfl) rfl rfl rfl rfl rfl rfl rfl ?_
              refine Aw_pass 9 rfl (by kernel_rfl) (by kernel_rfl) (by kernel_rfl) rfl rfl rfl rfl rfl rfl rfl ?_
              refine Aw_pass 10 rfl (by kernel_rfl) (by kernel_rfl) (by kernel_rfl) rfl rfl rfl rfl rfl rfl rfl ?_
              refine Aw_pass 11 rfl (by kernel_rfl) (by kernel_rfl) (by kernel_rfl) rfl rfl rfl rfl rfl rfl rfl ?_
              refine Aw_pass 12 rfl (by kernel_rfl) (by kernel_rfl) (by kernel_rfl) rfl rfl rfl rfl rfl rfl rfl ?_
              refine Aw_pass 13 rfl (by kernel_rfl) (by kernel_rfl) (by kernel_rfl) rfl rfl rfl rfl rfl rfl rfl ?_
              refine Aw_pass 14 rfl (by kernel_rfl) (by kernel_rfl) (by kernel_rfl) rfl rfl rfl rfl rfl rfl rfl ?_
              refine Aw_q 15 rfl (by kernel_rfl) (by kernel_rfl) (by kernel_rfl) rfl rfl rfl (Qt_pick_t rfl rfl) ?_
              refine Aw_done (by kernel_rfl) ?_
              refine Shift.pull (.there (.there (.there (.there (.there (.there .here)))))) ?_
              refine Shift.pull (.there (.there (.there (.there (.there (.there .here)))))) ?_
              refine Shift.pull (.there (.there (.there (.there (.there (.there .here)))))) ?_
              refine Shift.pull (.there (.there (.there (.there (.there (.there .here)))))) ?_
              refine Shift.pull (.there (.there (.there (.there (.there (.there .here)))))) ?_
              refine Shift.pull (.there (.there (.there (.there (.there (.there .here)))))) ?_
              refine Shift.pull (.there (.there (.there (.there (.there (.there .here)))))) ?_
              refine Shift.done ?_
              exact ⟨[(8, (.pointer (some ((⟨b619, 0, none⟩ : Addr).add 0)))), (9, (.pointer (some ((⟨b620, 0, none⟩ : Addr).add 0)))), (82, (sv v2281)), (83, (.int .i64 ([p2, wI (x2279 - 2)].length : Int))), (84, (.int .i64 i2344)), (103, (.bool true))], ⟨rfl, rfl, rfl, rfl, rfl, rfl, trivial⟩, true, rfl, rfl, rfl, H⟩
            · intro h2408
              have h2408 := nt_f (h2408)
              have H := ift h2408 H
              obtain ⟨x2411, hx2412, H⟩ := bnd H
              obtain ⟨x2415, hx2416, H⟩ := bnd H
              refine Cw_region_any [.blk b620 34 (Config.cells x608 v613 v614), .blk b619 34 (Config.cells x598 v602 v603), .row (sv v2281) 3 1 [[(.int .i64 p2)], [(.int .i64 (wI (x2279 - 2)))]].flatten, .tok 3 1 [(sv v613)], .tok 22 1 [(sv v614)], .tok 3 1 [(sv v602)], .tok 22 1 [(sv v603)]] rfl (Inc.cons (.head _) (Inc.cons (.tail _ (.head _)) (Inc.cons (.tail _ (.tail _ (.head _))) (Inc.cons (.tail _ (.tail _ (.tail _ (.head _)))) (Inc.cons (.tail _ (.tail _ (.tail _ (.tail _ (.head _))))) (Inc.cons (.tail _ (.tail _ (.tail _ (.tail _ (.tail _ (.head _)))))) (Inc.cons (.tail _ (.tail _ (.tail _ (.tail _ (.tail _ (.tail _ (.head _))))))) Inc.nil))))))) ?_
              refine Aw_q 0 rfl (by kernel_rfl) (by kernel_rfl) (by kernel_rfl) rfl rfl rfl (Qt_loadA (m := 3) (cs := (Config.cells x598 v602 v603)) rfl rfl rfl rfl ⟨rfl, Rdc.blk (.tail _ (.head _)) rfl⟩) ?_
              refine Aw_q 1 rfl (by kernel_rfl) (by kernel_rfl) (by kernel_rfl) rfl rfl rfl (Qt_move rfl) ?_
              refine Aw_q 3 rfl (by kernel_rfl) (by kernel_rfl) (by kernel_rfl) rfl rfl rfl (Qt_loadA (m := 3) (cs := (Config.cells x598 v602 v603)) rfl rfl rfl rfl ⟨rfl, Rdc.blk (.tail _ (.head _)) rfl⟩) ?_
              refine Aw_q 4 rfl (by kernel_rfl) (by kernel_rfl) (by kernel_rfl) rfl rfl rfl (Qt_move rfl) ?_
              refine Aw_one 2 (by kernel_rfl) (Ax_mk rfl rfl ?_)
              have hs2417 := ((hs626).mono hK631).mono hK2212
              have hs2418 := ((hs627).mono hK631).mono hK2212
              refine OpW_call rfl Try.call20 rfl rfl (c_M_cases_Exists x598 v602 v603 x2377 x2402 hx2403 _ _ hs2417 hs2418) ?_
              rintro _ _ _ - ⟨rfl, rfl, rfl⟩
              refine ⟨(Inc.cons (.head _) (Inc.cons (.tail _ (.head _)) (Inc.cons (.tail _ (.tail _ (.head _))) (Inc.cons (.tail _ (.tail _ (.tail _ (.head _)))) (Inc.cons (.tail _ (.tail _ (.tail _ (.tail _ (.head _))))) (Inc.cons (.tail _ (.tail _ (.tail _ (.tail _ (.tail _ (.head _)))))) (Inc.cons (.tail _ (.tail _ (.tail _ (.tail _ (.tail _ (.tail _ (.head _))))))) Inc.nil))))))), ?_⟩
              refine Aw_one 5 (by kernel_rfl) (Ax_mk rfl rfl ?_)
              refine OpW_call rfl Try.call21 rfl rfl (c_M_ref3_Exists x598 v602 v603 x2377 x2406 hx2407 _ _ hs2417 hs2418) ?_
              rintro _ _ _ - ⟨rfl, rfl, rfl⟩
              refine ⟨(Inc.cons (.head _) (Inc.cons (.tail _ (.head _)) (Inc.cons (.tail _ (.tail _ (.head _))) (Inc.cons (.tail _ (.tail _ (.tail _ (.head _)))) (Inc.cons (.tail _ (.tail _ (.tail _ (.tail _ (.head _))))) (Inc.cons (.tail _ (.tail _ (.tail _ (.tail _ (.tail _ (.head _)))))) (Inc.cons (.tail _ (.tail _ (.tail _ (.tail _ (.tail _ (.tail _ (.head _))))))) Inc.nil))))))), ?_⟩
              refine Aw_q 6 rfl (by kernel_rfl) (by kernel_rfl) (by kernel_rfl) rfl rfl rfl (Qt_neB rfl rfl rfl) ?_
              refine Aw_q 7 rfl (by kernel_rfl) (by kernel_rfl) (by kernel_rfl) rfl rfl rfl (Qt_move rfl) ?_
              refine Aw.known (d := 95) rfl (nt_mf (h2408)) ?_
              refine Aw_qw 8 rfl (by kernel_rfl) (by kernel_rfl) (by kernel_rfl) rfl rfl rfl rfl rfl rfl (Qt_loadA (m := 3) (cs := (Config.cells x608 v613 v614)) rfl rfl rfl rfl ⟨rfl, Rdc.blk (.head _) rfl⟩) ?_
              refine Aw_qw 9 rfl (by kernel_rfl) (by kernel_rfl) (by kernel_rfl) rfl rfl rfl rfl rfl rfl (Qt_move rfl) ?_
              refine Aw_qw 11 rfl (by kernel_rfl) (by kernel_rfl) (by kernel_rfl) rfl rfl rfl rfl rfl rfl (Qt_loadA (m := 3) (cs := (Config.cells x608 v613 v614)) rfl rfl rfl rfl ⟨rfl, Rdc.blk (.head _) rfl⟩) ?_
              refine Aw_qw 12 rfl (by kernel_rfl) (by kernel_rfl) (by kernel_rfl) rfl rfl rfl rfl rfl rfl (Qt_move rfl) ?_
              refine Aw_one 10 (by kernel_rfl) (Ax_mkw rfl rfl rfl rfl rfl ?_)
              have hs2419 := ((hs617).mono hK631).mono hK2212
              have hs2420 := ((hs618).mono hK631).mono hK2212
              refine OpW_call rfl Try.call20 rfl rfl (c_M_cases_Exists x608 v613 v614 x2377 x2411 hx2412 _ _ hs2419 hs2420) ?_
              rintro _ _ _ - ⟨rfl, rfl, rfl⟩
              refine ⟨(Inc.cons (.head _) (Inc.cons (.tail _ (.head _)) (Inc.cons (.tail _ (.tail _ (.head _))) (Inc.cons (.tail _ (.tail _ (.tail _ (.head _)))) (Inc.cons (.tail _ (.tail _ (.tail _ (.tail _ (.head _))))) (Inc.cons (.tail _ (.tail _ (.tail _ (.tail _ (.tail _ (.head _)))))) (Inc.cons (.tail _ (.tail _ (.tail _ (.tail _ (.tail _ (.tail _ (.head _))))))) Inc.nil))))))), ?_⟩
              refine Aw_one 13 (by kernel_rfl) (Ax_mkw rfl rfl rfl rfl rfl ?_)
              refine OpW_call rfl Try.call21 rfl rfl (c_M_ref3_Exists x608 v613 v614 x2377 x2415 hx2416 _ _ hs2419 hs2420) ?_
              rintro _ _ _ - ⟨rfl, rfl, rfl⟩
              refine ⟨(Inc.cons (.head _) (Inc.cons (.tail _ (.head _)) (Inc.cons (.tail _ (.tail _ (.head _))) (Inc.cons (.tail _ (.tail _ (.tail _ (.head _)))) (Inc.cons (.tail _ (.tail _ (.tail _ (.tail _ (.head _))))) (Inc.cons (.tail _ (.tail _ (.tail _ (.tail _ (.tail _ (.head _)))))) (Inc.cons (.tail _ (.tail _ (.tail _ (.tail _ (.tail _ (.tail _ (.head _))))))) Inc.nil))))))), ?_⟩
              refine Aw_qw 14 rfl (by kernel_rfl) (by kernel_rfl) (by kernel_rfl) rfl rfl rfl rfl rfl rfl (Qt_neB rfl rfl rfl) ?_
              refine Aw_q 15 rfl (by kernel_rfl) (by kernel_rfl) (by kernel_rfl) rfl rfl rfl (Qt_pick_f rfl rfl) ?_
              refine Aw_done (by kernel_rfl) ?_
              refine Shift.pull (.there (.there (.there (.there (.there (.there .here)))))) ?_
              refine Shift.pull (.there (.there (.there (.there (.there (.there .here)))))) ?_
              refine Shift.pull (.there (.there (.there (.there (.there (.there .here)))))) ?_
              refine Shift.pull (.there (.there (.there (.there (.there (.there .here)))))) ?_
              refine Shift.pull (.there (.there (.there (.there (.there (.there .here)))))) ?_
              refine Shift.pull (.there (.there (.there (.there (.there (.there .here)))))) ?_
              refine Shift.pull (.there (.there (.there (.there (.there (.there .here)))))) ?_
              refine Shift.done ?_
              exact ⟨[(8, (.pointer (some ((⟨b619, 0, none⟩ : Addr).add 0)))), (9, (.pointer (some ((⟨b620, 0, none⟩ : Addr).add 0)))), (82, (sv v2281)), (83, (.int .i64 ([p2, wI (x2279 - 2)].length : Int))), (84, (.int .i64 i2344)), (103, (.bool (!((x2411 == x2415)))))], ⟨rfl, rfl, rfl, rfl, rfl, rfl, trivial⟩, (!((x2411 == x2415))), rfl, rfl, rfl, H⟩
          rintro _ _ _ - ⟨t2401, rfl, rfl, rfl, H⟩
          unfold M_law3_CasesLocks_J5 at H
          refine Cw_cond rfl ?_ ?_
          · intro h2421
            have H := ift h2421 H
            refine Cw_seq ?_
            refine Cw_region ?_
            refine Ow_q rfl rfl rfl (Qt_assign rfl) ?_
            refine Ow_nil ?_
            refine Cw_ret ?_
            obtain ey0 := inj1 H
            subst y0
            refine ⟨(by first | exact .inl rfl | exact .inr rfl), [(.bool false)], ⟨(.bool false), _, rfl, rfl, rfl⟩, ?_⟩
            refine Shift.rem .here ?_
            refine Shift.rem .here ?_
            refine Shift.rem .here ?_
            refine Shift.rem .here ?_
            refine Shift.rem .here ?_
            refine Shift.rem .here ?_
            refine Shift.rem .here ?_
            refine Shift.done ?_
            exact ⟨rfl, rfl⟩
          · intro h2421
            have H := iff_ (btf h2421) H
            refine Cw_skip ?_
            refine Cw_region ?_
            refine Ow_q rfl rfl rfl (Qt_arith (e := wI (i2344 + 1)) rfl rfl rfl rfl) ?_
            refine Ow_q rfl rfl rfl (Qt_move rfl) ?_
            refine Ow_nil ?_
            refine Shift.pull (.there (.there (.there (.there (.there (.there .here)))))) ?_
            refine Shift.pull (.there (.there (.there (.there (.there (.there .here)))))) ?_
            refine Shift.pull (.there (.there (.there (.there (.there (.there .here)))))) ?_
            refine Shift.pull (.there (.there (.there (.there (.there (.there .here)))))) ?_
            refine Shift.pull (.there (.there (.there (.there (.there (.there .here)))))) ?_
            refine Shift.pull (.there (.there (.there (.there (.there (.there .here)))))) ?_
            refine Shift.pull (.there (.there (.there (.there (.there (.there .here)))))) ?_
            refine Shift.done ?_
            exact ⟨[(8, (.pointer (some ((⟨b619, 0, none⟩ : Addr).add 0)))), (9, (.pointer (some ((⟨b620, 0, none⟩ : Addr).add 0)))), (82, (sv v2281)), (83, (.int .i64 ([p2, wI (x2279 - 2)].length : Int))), (84, (.int .i64 (wI (i2344 + 1))))], ⟨rfl, rfl, rfl, rfl, rfl, trivial⟩, _, Nat.lt_succ_self _, (wI (i2344 + 1)), rfl, rfl, rfl, (hkk2348 ▸ H)⟩
        · intro h2350
          have h2350 := dcd_f (h2350)
          have H := iff_ h2350 H
          refine Cw_exit ?_
          refine Shift.rem .here ?_
          refine Shift.rem .here ?_
          refine Shift.rem .here ?_
          refine Shift.rem .here ?_
          refine Shift.rem .here ?_
          refine Shift.rem .here ?_
          refine Shift.rem .here ?_
          refine Shift.done ?_
          exact ⟨[], trivial, rfl, rfl, H⟩
      rintro _ K2422 _ hK2423 ⟨rfl, rfl, H⟩
      unfold M_law3_CasesLocks_J4 at H
      refine Cw_seq ?_
      refine Cw_region ?_
      refine Ow_q rfl rfl rfl (Qt_assign rfl) ?_
      refine Ow_nil ?_
      refine Cw_ret ?_
      obtain ey0 := inj1 H
      subst y0
      refine ⟨(by first | exact .inl rfl | exact .inr rfl), [(.bool true)], ⟨(.bool true), _, rfl, rfl, rfl⟩, ?_⟩
      refine Shift.done ?_
      exact ⟨rfl, rfl⟩


end Go.Hx
