/- Printed by program. -/
import Derived.Test.YtlegagccaeoidaaDoorXRM
import Derived.Test.YtlegagccaeoidaaDoorXRWLaw26
import Derived.Test.YtlegagccaeoidaaDoorXRWRef23
import Derived.Test.YtlegagccaeoidaaDoorXRWReport
namespace Go.Hx
open Go Go.Proofs
set_option linter.unusedSimpArgs false
set_option linter.unusedVariables false
set_option maxRecDepth 10000
set_option maxHeartbeats 1000000 in
theorem c_M_law26_ReportResults (p0 : Result) (p1 : Int) (p2 : Int) (p3 : Bool) (y0 : Bool) (H : M_law26_ReportResults p0 p1 p2 p3 = some y0) (K : Kp) (G : List Ent) (hT : TabK K) :
    Fc Tryd.prog 3 #[(.agg (Result.cells p0).toArray), (.int .u8 p1), (.int .u8 p2), (.bool p3)] K (G) (fun v K' G' => v = (.bool y0) ∧ G = G') := by
  refine Fc_body Tryd.func3 rfl Tryd.ntmps3 Tryd.results3 rfl ?_
  unfold M_law26_ReportResults at H
  refine Cw_seq ?_
  refine Cw_region ?_
  refine Ow_cons rfl (OpW_box (cs := (Result.cells p0)) rfl rfl rfl (fun b53 => ?_))
  refine Ow_q rfl rfl rfl (Qt_assign rfl) ?_
  refine Ow_nil ?_
  refine Cw_seq ?_
  refine Cw_seq ?_
  refine Cw_region ?_
  obtain ⟨x57, hx58, H⟩ := bnd H
  refine Ow_cons rfl (OpW_call rfl Tryd.call6 rfl rfl (c_M_law26_awake  x57 hx58 _ _ hT) ?_)
  rintro _ _ _ - ⟨rfl, rfl, rfl⟩
  refine Ow_q rfl rfl rfl (Qt_not rfl) ?_
  refine Ow_nil ?_
  refine Cw_cond rfl ?_ ?_
  · intro h59
    have h59 := nt_t (h59)
    have H := iff_ (btf h59) H
    refine Cw_seq ?_
    refine Cw_region ?_
    refine Ow_q rfl rfl rfl (Qt_assign rfl) ?_
    refine Ow_nil ?_
    refine Cw_ret ?_
    obtain ey0 := inj1 H
    subst y0
    refine ⟨(by first | exact .inl rfl | exact .inr rfl), [(.bool false)], ⟨(.bool false), _, rfl, rfl, rfl⟩, ?_⟩
    refine Shift.rem .here ?_
    refine Shift.done ?_
    exact ⟨rfl, rfl⟩
  · intro h59
    have h59 := nt_f (h59)
    have H := ift h59 H
    refine Cw_skip ?_
    refine Cw_join (fun env' K' G' => [] = env' ∧ G = G' ∧ M_law26_ReportResults_J1 = some y0) ?_ ?_
    · skip
      refine Cw_seq ?_
      refine Cw_region ?_
      refine Ow_q rfl rfl rfl (Qt_loadA (m := 5) (cs := (Result.cells p0)) rfl rfl rfl rfl ⟨rfl, Rdc.blk (.head _) rfl⟩) ?_
      refine Ow_q rfl rfl rfl (Qt_move rfl) ?_
      refine Ow_q rfl rfl rfl (Qt_conv (c := wI p1) rfl rfl rfl rfl) ?_
      refine Ow_q rfl rfl rfl (Qt_rem rfl rfl (by decide)) ?_
      refine Ow_q rfl rfl rfl (Qt_move rfl) ?_
      refine Ow_q rfl rfl rfl (Qt_conv (c := wI p2) rfl rfl rfl rfl) ?_
      refine Ow_q rfl rfl rfl (Qt_rem rfl rfl (by decide)) ?_
      refine Ow_q rfl rfl rfl (Qt_arith (e := wI ((Int.tmod (wI p2) 8) - 1)) rfl rfl rfl rfl) ?_
      refine Ow_q rfl rfl rfl (Qt_fieldAddr (m := 2) rfl rfl rfl rfl rfl) ?_
      refine Ow_q rfl rfl rfl (Qt_load1 (v := (.int .u64 p0.value)) rfl rfl rfl (Rdc.blk (.head _) rfl)) ?_
      refine Ow_q rfl rfl rfl (Qt_move rfl) ?_
      refine Ow_q rfl rfl rfl (Qt_fieldAddr (m := 4) rfl rfl rfl rfl rfl) ?_
      refine Ow_q rfl rfl rfl (Qt_load1 (v := (.int .i64 p0.number)) rfl rfl rfl (Rdc.blk (.head _) rfl)) ?_
      refine Ow_q rfl rfl rfl (Qt_build (cs := (Result.cells (Result.mk (Int.tmod (wI p1) 9) (wI ((Int.tmod (wI p2) 8) - 1)) p0.value p3 p0.number))) rfl rfl rfl rfl rfl rfl) ?_
      refine Ow_q rfl rfl rfl (Qt_move rfl) ?_
      refine Ow_q rfl rfl rfl (Qt_conv (c := wI p2) rfl rfl rfl rfl) ?_
      refine Ow_q rfl rfl rfl (Qt_build (cs := (Result.cells (Result.mk 7 (-1) 0 false (wI p2)))) rfl rfl rfl rfl rfl rfl) ?_
      have hR107 : RowR TyResult K [(Result.cells p0), (Result.cells (Result.mk (Int.tmod (wI p1) 9) (wI ((Int.tmod (wI p2) 8) - 1)) p0.value p3 p0.number)), (Result.cells (Result.mk 7 (-1) 0 false (wI p2)))] [p0, (Result.mk (Int.tmod (wI p1) 9) (wI ((Int.tmod (wI p2) 8) - 1)) p0.value p3 p0.number), (Result.mk 7 (-1) 0 false (wI p2))] := RowR.cons rfl (RowR.cons rfl (RowR.cons rfl (RowR.nil)))
      refine Ow_cons rfl (O_lit (T := TyResult) (rows := [(Result.cells p0), (Result.cells (Result.mk (Int.tmod (wI p1) 9) (wI ((Int.tmod (wI p2) 8) - 1)) p0.value p3 p0.number)), (Result.cells (Result.mk 7 (-1) 0 false (wI p2)))]) (l := [p0, (Result.mk (Int.tmod (wI p1) 9) (wI ((Int.tmod (wI p2) 8) - 1)) p0.value p3 p0.number), (Result.mk 7 (-1) 0 false (wI p2))]) rfl rfl rfl hR107 rfl rfl rfl rfl rfl rfl rfl rfl (fun v106 => ?_))
      refine Ow_q rfl rfl rfl (Q_lenR (T := TyResult) (.head _) hR107 rfl rfl rfl) ?_
      refine Ow_q rfl rfl rfl (Qt_move rfl) ?_
      refine Ow_nil ?_
      refine Cw_block ?_
      refine Cw_loopM (fun n152 env' K' G' => ∃ (i151 : Int), [(30, (sv v106)), (31, (.int .i64 ([p0, (Result.mk (Int.tmod (wI p1) 9) (wI ((Int.tmod (wI p2) 8) - 1)) p0.value p3 p0.number), (Result.mk 7 (-1) 0 false (wI p2))].length : Int))), (32, (.int .i64 i151))] = env' ∧ (.row (sv v106) 24 5 [(Result.cells p0), (Result.cells (Result.mk (Int.tmod (wI p1) 9) (wI ((Int.tmod (wI p2) 8) - 1)) p0.value p3 p0.number)), (Result.cells (Result.mk 7 (-1) 0 false (wI p2)))].flatten) :: G = G' ∧ lp1 (M_law26_ReportResults_L1 p0 p1 p2 p3) n152 i151 = some y0) BIG ?_ ?_
      · skip
        refine Shift.rem (.there .here) ?_
        refine Shift.done ?_
        exact ⟨[(30, (sv v106)), (31, (.int .i64 ([p0, (Result.mk (Int.tmod (wI p1) 9) (wI ((Int.tmod (wI p2) 8) - 1)) p0.value p3 p0.number), (Result.mk 7 (-1) 0 false (wI p2))].length : Int))), (32, (.int .i64 0))], ⟨rfl, rfl, rfl, trivial⟩, 0, rfl, rfl, H⟩
      rintro n152 _ K153 _ hK154 ⟨i151, rfl, rfl, H⟩
      obtain ⟨m155, k156, rfl, hkk157, H⟩ := lps1 H
      unfold M_law26_ReportResults_L1 at H
      refine Cw_seq ?_
      refine Cw_region ?_
      refine Ow_q rfl rfl rfl (Qt_cmp rfl rfl rfl) ?_
      refine Ow_nil ?_
      refine Cw_seq ?_
      refine Cw_cond rfl ?_ ?_
      · intro h159
        have h159 := dcd_t (h159)
        have H := ift h159 H
        refine Cw_skip ?_
        refine Cw_seq ?_
        refine Cw_block ?_
        refine Cw_seq ?_
        refine Cw_region ?_
        obtain ⟨x178, hx179, H⟩ := bnd H
        have hs180 := (hR107).mono hK154
        obtain ⟨r181, hq182, hr183⟩ := RowR.at hs180 hx179
        obtain rfl := hr183
        refine Ow_q rfl rfl rfl (Q_ixR (T := TyResult) (.head _) hs180 hq182 (getI_ix hx179).1 rfl rfl rfl rfl rfl) ?_
        refine Ow_q rfl rfl rfl (Qt_loadA (m := 5) (cs := (Result.cells x178)) rfl rfl rfl rfl ⟨rfl, Rd_row (T := TyResult) (.head _) hs180 hq182 rfl rfl⟩) ?_
        refine Ow_cons rfl (OpW_alloc (cs := (Result.cells (Result.mk 0 0 0 false 0))) rfl rfl rfl rfl (fun b184 => ?_))
        refine Ow_cons rfl (OpW_store (vs := (Result.cells x178)) (all' := (Result.cells x178)) rfl rfl rfl rfl rfl .here rfl rfl rfl ?_)
        refine Ow_nil ?_
        refine Cw_seq ?_
        obtain ⟨x195, hx196, H⟩ := bnd H
        obtain ⟨x198, hx199, H⟩ := bnd H
        refine Cw_region_any [.blk b184 24 (Result.cells x178), .row (sv v106) 24 5 [(Result.cells p0), (Result.cells (Result.mk (Int.tmod (wI p1) 9) (wI ((Int.tmod (wI p2) 8) - 1)) p0.value p3 p0.number)), (Result.cells (Result.mk 7 (-1) 0 false (wI p2)))].flatten] rfl (Inc.cons (.head _) (Inc.cons (.tail _ (.head _)) Inc.nil)) ?_
        refine Aw_q 0 rfl (by kernel_rfl) (by kernel_rfl) (by kernel_rfl) rfl rfl rfl (Qt_loadA (m := 5) (cs := (Result.cells x178)) rfl rfl rfl rfl ⟨rfl, Rdc.blk (.head _) rfl⟩) ?_
        refine Aw_q 2 rfl (by kernel_rfl) (by kernel_rfl) (by kernel_rfl) rfl rfl rfl (Qt_loadA (m := 5) (cs := (Result.cells x178)) rfl rfl rfl rfl ⟨rfl, Rdc.blk (.head _) rfl⟩) ?_
        refine Aw_one 1 (by kernel_rfl) (Ax_mk rfl rfl ?_)
        have hs202 := (hT).mono hK154
        refine OpW_call rfl Tryd.call7 rfl rfl (c_M_report_Result x178 x195 hx196 _ _ hs202) ?_
        rintro _ _ _ - ⟨rfl, rfl, rfl⟩
        refine ⟨(Inc.cons (.head _) (Inc.cons (.tail _ (.head _)) Inc.nil)), ?_⟩
        refine Aw_one 3 (by kernel_rfl) (Ax_mk rfl rfl ?_)
        refine OpW_call rfl Tryd.call8 rfl rfl (c_M_ref23_Result x178 x198 hx199 _ _ ) ?_
        rintro _ K203 _ hK204 ⟨rfl, rfl⟩
        refine ⟨(Inc.cons (.head _) (Inc.cons (.tail _ (.head _)) Inc.nil)), ?_⟩
        refine Aw_q 4 rfl (by kernel_rfl) (by kernel_rfl) (by kernel_rfl) rfl rfl rfl (Qt_neStr rfl rfl) ?_
        refine Aw_done (by kernel_rfl) ?_
        refine Cw_cond rfl ?_ ?_
        · intro h205
          have h205 := dcd_f (nt_t (h205))
          have H := iff_ h205 H
          refine Cw_seq ?_
          refine Cw_region ?_
          refine Ow_q rfl rfl rfl (Qt_assign rfl) ?_
          refine Ow_nil ?_
          refine Cw_ret ?_
          obtain ey0 := inj1 H
          subst y0
          refine ⟨(by first | exact .inl rfl | exact .inr rfl), [(.bool false)], ⟨(.bool false), _, rfl, rfl, rfl⟩, ?_⟩
          refine Shift.rem .here ?_
          refine Shift.rem .here ?_
          refine Shift.done ?_
          exact ⟨rfl, rfl⟩
        · intro h205
          have h205 := dcd_t (nt_f (h205))
          have H := ift h205 H
          refine Cw_skip ?_
          refine Cw_region ?_
          refine Ow_q rfl rfl rfl (Qt_arith (e := wI (i151 + 1)) rfl rfl rfl rfl) ?_
          refine Ow_q rfl rfl rfl (Qt_move rfl) ?_
          refine Ow_nil ?_
          refine Shift.pull (.there .here) ?_
          refine Shift.rem (.there .here) ?_
          refine Shift.done ?_
          exact ⟨[(30, (sv v106)), (31, (.int .i64 ([p0, (Result.mk (Int.tmod (wI p1) 9) (wI ((Int.tmod (wI p2) 8) - 1)) p0.value p3 p0.number), (Result.mk 7 (-1) 0 false (wI p2))].length : Int))), (32, (.int .i64 (wI (i151 + 1))))], ⟨rfl, rfl, rfl, trivial⟩, _, Nat.lt_succ_self _, (wI (i151 + 1)), rfl, rfl, (hkk157 ▸ H)⟩
      · intro h159
        have h159 := dcd_f (h159)
        have H := iff_ h159 H
        refine Cw_exit ?_
        refine Shift.rem .here ?_
        refine Shift.done ?_
        exact ⟨[], trivial, rfl, rfl, H⟩
    rintro _ K206 _ hK207 ⟨rfl, rfl, H⟩
    unfold M_law26_ReportResults_J1 at H
    refine Cw_seq ?_
    refine Cw_region ?_
    refine Ow_q rfl rfl rfl (Qt_assign rfl) ?_
    refine Ow_nil ?_
    refine Cw_ret ?_
    obtain ey0 := inj1 H
    subst y0
    refine ⟨(by first | exact .inl rfl | exact .inr rfl), [(.bool true)], ⟨(.bool true), _, rfl, rfl, rfl⟩, ?_⟩
    refine Shift.done ?_
    exact ⟨rfl, rfl⟩


end Go.Hx
