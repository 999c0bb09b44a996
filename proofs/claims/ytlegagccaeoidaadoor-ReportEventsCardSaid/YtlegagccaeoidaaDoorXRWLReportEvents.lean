/- Printed by program. -/
import Derived.Test.YtlegagccaeoidaaDoorXRM
import Derived.Test.YtlegagccaeoidaaDoorXRWLaw26
import Derived.Test.YtlegagccaeoidaaDoorXRWRef23
import Derived.Test.YtlegagccaeoidaaDoorXRWReport
namespace Go.Hx
open Go Go.Proofs
set_option linter.unusedSimpArgs false
set_option linter.unusedVariables false
set_option maxRecDepth 10000
set_option maxHeartbeats 1000000 in
theorem c_M_law26_ReportEvents (p0 : Event) (p1 : Int) (p2 : Int) (y0 : Bool) (H : M_law26_ReportEvents p0 p1 p2 = some y0) (K : Kp) (G : List Ent) (hT : TabK K) :
    Fc Tryd.prog 5 #[(.agg (Event.cells p0).toArray), (.int .u8 p1), (.int .u8 p2)] K (G) (fun v K' G' => v = (.bool y0) ∧ G = G') := by
  refine Fc_body Tryd.func5 rfl Tryd.ntmps5 Tryd.results5 rfl ?_
  unfold M_law26_ReportEvents at H
  refine Cw_seq ?_
  refine Cw_region ?_
  refine Ow_cons rfl (OpW_box (cs := (Event.cells p0)) rfl rfl rfl (fun b27 => ?_))
  refine Ow_q rfl rfl rfl (Qt_assign rfl) ?_
  refine Ow_nil ?_
  refine Cw_seq ?_
  refine Cw_seq ?_
  refine Cw_region ?_
  obtain ⟨x31, hx32, H⟩ := bnd H
  refine Ow_cons rfl (OpW_call rfl Tryd.call6 rfl rfl (c_M_law26_awake  x31 hx32 _ _ hT) ?_)
  rintro _ _ _ - ⟨rfl, rfl, rfl⟩
  refine Ow_q rfl rfl rfl (Qt_not rfl) ?_
  refine Ow_nil ?_
  refine Cw_cond rfl ?_ ?_
  · intro h33
    have h33 := nt_t (h33)
    have H := iff_ (btf h33) H
    refine Cw_seq ?_
    refine Cw_region ?_
    refine Ow_q rfl rfl rfl (Qt_assign rfl) ?_
    refine Ow_nil ?_
    refine Cw_ret ?_
    obtain ey0 := inj1 H
    subst y0
    refine ⟨(by first | exact .inl rfl | exact .inr rfl), [(.bool false)], ⟨(.bool false), _, rfl, rfl, rfl⟩, ?_⟩
    refine Shift.rem .here ?_
    refine Shift.done ?_
    exact ⟨rfl, rfl⟩
  · intro h33
    have h33 := nt_f (h33)
    have H := ift h33 H
    refine Cw_skip ?_
    refine Cw_seq ?_
    refine Cw_region ?_
    refine Ow_q rfl rfl rfl (Qt_loadA (m := 8) (cs := (Event.cells p0)) rfl rfl rfl rfl ⟨rfl, Rdc.blk (.head _) rfl⟩) ?_
    refine Ow_cons rfl (OpW_alloc (cs := (Event.cells (Event.mk 0 0 false (Result.mk 0 0 0 false 0)))) rfl rfl rfl rfl (fun b34 => ?_))
    refine Ow_cons rfl (OpW_store (vs := (Event.cells p0)) (all' := (Event.cells p0)) rfl rfl rfl rfl rfl .here rfl rfl rfl ?_)
    refine Ow_nil ?_
    refine Cw_seq ?_
    refine Cw_region ?_
    refine Ow_q rfl rfl rfl (Qt_move rfl) ?_
    refine Ow_q rfl rfl rfl (Qt_conv (c := wI p1) rfl rfl rfl rfl) ?_
    refine Ow_q rfl rfl rfl (Qt_move rfl) ?_
    refine Ow_q rfl rfl rfl (Qt_conv (c := wI p2) rfl rfl rfl rfl) ?_
    refine Ow_q rfl rfl rfl (Qt_fieldAddr (m := 0) rfl rfl rfl rfl rfl) ?_
    refine Ow_cons rfl (OpW_store (vs := [(.int .i64 (wI p1))]) (all' := (Event.cells (Event.mk (wI p1) p0.op p0.ret p0.result))) rfl rfl rfl rfl rfl .here rfl rfl rfl ?_)
    refine Ow_q rfl rfl rfl (Qt_fieldAddr (m := 1) rfl rfl rfl rfl rfl) ?_
    refine Ow_cons rfl (OpW_store (vs := [(.int .i64 (wI p2))]) (all' := (Event.cells (Event.mk (wI p1) (wI p2) p0.ret p0.result))) rfl rfl rfl rfl rfl .here rfl rfl rfl ?_)
    refine Ow_nil ?_
    refine Cw_seq ?_
    obtain ⟨x56, hx57, H⟩ := bnd H
    obtain ⟨x58, hx59, H⟩ := bnd H
    rcases bool_ct (dcd (x56 = x58)) with hb_ | hb_ <;> revert hb_
    · intro h62
      have h62 := dcd_t (h62)
      have H := ift h62 H
      obtain ⟨x63, hx64, H⟩ := bnd H
      obtain ⟨x66, hx67, H⟩ := bnd H
      refine Cw_region_any [.blk b34 32 (Event.cells (Event.mk (wI p1) (wI p2) p0.ret p0.result)), .blk b27 32 (Event.cells p0)] rfl (Inc.cons (.head _) (Inc.cons (.tail _ (.head _)) Inc.nil)) ?_
      refine Aw_q 0 rfl (by kernel_rfl) (by kernel_rfl) (by kernel_rfl) rfl rfl rfl (Qt_loadA (m := 8) (cs := (Event.cells p0)) rfl rfl rfl rfl ⟨rfl, Rdc.blk (.tail _ (.head _)) rfl⟩) ?_
      refine Aw_q 2 rfl (by kernel_rfl) (by kernel_rfl) (by kernel_rfl) rfl rfl rfl (Qt_loadA (m := 8) (cs := (Event.cells p0)) rfl rfl rfl rfl ⟨rfl, Rdc.blk (.tail _ (.head _)) rfl⟩) ?_
      refine Aw_one 1 (by kernel_rfl) (Ax_mk rfl rfl ?_)
      refine OpW_call rfl Tryd.call10 rfl rfl (c_M_report_Event p0 x56 hx57 _ _ hT) ?_
      rintro _ _ _ - ⟨rfl, rfl, rfl⟩
      refine ⟨(Inc.cons (.head _) (Inc.cons (.tail _ (.head _)) Inc.nil)), ?_⟩
      refine Aw_one 3 (by kernel_rfl) (Ax_mk rfl rfl ?_)
      refine OpW_call rfl Tryd.call11 rfl rfl (c_M_ref23_Event p0 x58 hx59 _ _ ) ?_
      rintro _ K70 _ hK71 ⟨rfl, rfl⟩
      refine ⟨(Inc.cons (.head _) (Inc.cons (.tail _ (.head _)) Inc.nil)), ?_⟩
      refine Aw_q 4 rfl (by kernel_rfl) (by kernel_rfl) (by kernel_rfl) rfl rfl rfl (Qt_eqStr rfl rfl) ?_
      refine Aw_q 5 rfl (by kernel_rfl) (by kernel_rfl) (by kernel_rfl) rfl rfl rfl (Qt_move rfl) ?_
      refine Aw.known (d := 22) rfl (dcd_pos h62) ?_
      refine Aw_qw 6 rfl (by kernel_rfl) (by kernel_rfl) (by kernel_rfl) rfl rfl rfl rfl rfl rfl (Qt_loadA (m := 8) (cs := (Event.cells (Event.mk (wI p1) (wI p2) p0.ret p0.result))) rfl rfl rfl rfl ⟨rfl, Rdc.blk (.head _) rfl⟩) ?_
      refine Aw_qw 8 rfl (by kernel_rfl) (by kernel_rfl) (by kernel_rfl) rfl rfl rfl rfl rfl rfl (Qt_loadA (m := 8) (cs := (Event.cells (Event.mk (wI p1) (wI p2) p0.ret p0.result))) rfl rfl rfl rfl ⟨rfl, Rdc.blk (.head _) rfl⟩) ?_
      refine Aw_one 7 (by kernel_rfl) (Ax_mkw rfl rfl rfl rfl rfl ?_)
      have hs72 := (hT).mono hK71
      refine OpW_call rfl Tryd.call10 rfl rfl (c_M_report_Event (Event.mk (wI p1) (wI p2) p0.ret p0.result) x63 hx64 _ _ hs72) ?_
      rintro _ _ _ - ⟨rfl, rfl, rfl⟩
      refine ⟨(Inc.cons (.head _) (Inc.cons (.tail _ (.head _)) Inc.nil)), ?_⟩
      refine Aw_one 9 (by kernel_rfl) (Ax_mkw rfl rfl rfl rfl rfl ?_)
      refine OpW_call rfl Tryd.call11 rfl rfl (c_M_ref23_Event (Event.mk (wI p1) (wI p2) p0.ret p0.result) x66 hx67 _ _ ) ?_
      rintro _ K73 _ hK74 ⟨rfl, rfl⟩
      refine ⟨(Inc.cons (.head _) (Inc.cons (.tail _ (.head _)) Inc.nil)), ?_⟩
      refine Aw_qw 10 rfl (by kernel_rfl) (by kernel_rfl) (by kernel_rfl) rfl rfl rfl rfl rfl rfl (Qt_eqStr rfl rfl) ?_
      refine Aw_q 11 rfl (by kernel_rfl) (by kernel_rfl) (by kernel_rfl) rfl rfl rfl (Qt_pick_t rfl rfl) ?_
      refine Aw_q 12 rfl (by kernel_rfl) (by kernel_rfl) (by kernel_rfl) rfl rfl rfl (Qt_assign rfl) ?_
      refine Aw_done (by kernel_rfl) ?_
      refine Cw_ret ?_
      obtain ey0 := inj1 H
      subst y0
      refine ⟨(by first | exact .inl rfl | exact .inr rfl), [(.bool (dcd (x63 = x66)))], ⟨(.bool (dcd (x63 = x66))), _, rfl, rfl, rfl⟩, ?_⟩
      refine Shift.rem .here ?_
      refine Shift.rem .here ?_
      refine Shift.done ?_
      exact ⟨rfl, rfl⟩
    · intro h62
      have h62 := dcd_f (h62)
      have H := iff_ h62 H
      refine Cw_region_any [.blk b34 32 (Event.cells (Event.mk (wI p1) (wI p2) p0.ret p0.result)), .blk b27 32 (Event.cells p0)] rfl (Inc.cons (.head _) (Inc.cons (.tail _ (.head _)) Inc.nil)) ?_
      refine Aw_q 0 rfl (by kernel_rfl) (by kernel_rfl) (by kernel_rfl) rfl rfl rfl (Qt_loadA (m := 8) (cs := (Event.cells p0)) rfl rfl rfl rfl ⟨rfl, Rdc.blk (.tail _ (.head _)) rfl⟩) ?_
      refine Aw_q 2 rfl (by kernel_rfl) (by kernel_rfl) (by kernel_rfl) rfl rfl rfl (Qt_loadA (m := 8) (cs := (Event.cells p0)) rfl rfl rfl rfl ⟨rfl, Rdc.blk (.tail _ (.head _)) rfl⟩) ?_
      refine Aw_one 1 (by kernel_rfl) (Ax_mk rfl rfl ?_)
      refine OpW_call rfl Tryd.call10 rfl rfl (c_M_report_Event p0 x56 hx57 _ _ hT) ?_
      rintro _ _ _ - ⟨rfl, rfl, rfl⟩
      refine ⟨(Inc.cons (.head _) (Inc.cons (.tail _ (.head _)) Inc.nil)), ?_⟩
      refine Aw_one 3 (by kernel_rfl) (Ax_mk rfl rfl ?_)
      refine OpW_call rfl Tryd.call11 rfl rfl (c_M_ref23_Event p0 x58 hx59 _ _ ) ?_
      rintro _ K75 _ hK76 ⟨rfl, rfl⟩
      refine ⟨(Inc.cons (.head _) (Inc.cons (.tail _ (.head _)) Inc.nil)), ?_⟩
      refine Aw_q 4 rfl (by kernel_rfl) (by kernel_rfl) (by kernel_rfl) rfl rfl rfl (Qt_eqStr rfl rfl) ?_
      refine Aw_q 5 rfl (by kernel_rfl) (by kernel_rfl) (by kernel_rfl) rfl rfl rfl (Qt_move rfl) ?_
      refine Aw.known (d := 22) rfl (dcd_neg h62) ?_
      refine Aw_pass 6 rfl (by kernel_rfl) (by kernel_rfl) (by kernel_rfl) rfl rfl rfl rfl rfl rfl rfl ?_
      refine Aw_pass 7 rfl (by kernel_rfl) (by kernel_rfl) (by kernel_rfl) rfl rfl rfl rfl rfl rfl rfl ?_
      refine Aw_pass 8 rfl (by kernel_rfl) (by kernel_rfl) (by kernel_rfl) rfl rfl rfl rfl rfl rfl rfl ?_
      refine Aw_pass 9 rfl (by kernel_rfl) (by kernel_rfl) (by kernel_rfl) rfl rfl rfl rfl rfl rfl rfl ?_
      refine Aw_pass 10 rfl (by kernel_rfl) (by kernel_rfl) (by kernel_rfl) rfl rfl rfl rfl rfl rfl rfl ?_
      refine Aw_q 11 rfl (by kernel_rfl) (by kernel_rfl) (by kernel_rfl) rfl rfl rfl (Qt_pick_f rfl rfl) ?_
      refine Aw_q 12 rfl (by kernel_rfl) (by kernel_rfl) (by kernel_rfl) rfl rfl rfl (Qt_assign rfl) ?_
      refine Aw_done (by kernel_rfl) ?_
      refine Cw_ret ?_
      obtain ey0 := inj1 H
      subst y0
      refine ⟨(by first | exact .inl rfl | exact .inr rfl), [(.bool false)], ⟨(.bool false), _, rfl, rfl, rfl⟩, ?_⟩
      refine Shift.rem .here ?_
      refine Shift.rem .here ?_
      refine Shift.done ?_
      exact ⟨rfl, rfl⟩


end Go.Hx
