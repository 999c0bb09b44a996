/- Printed by program. -/
import Derived.Test.YtgkmiemclhaahaaXAM
import Derived.Test.YtgkmiemclhaahaaXAWMemory1
namespace Go.Hx
open Go Go.Proofs
set_option linter.unusedSimpArgs false
set_option linter.unusedVariables false
set_option maxRecDepth 10000
set_option maxHeartbeats 1000000 in
theorem c_M_trace_plain (p0 : Item) (y0 : Bool) (H : M_trace_plain p0 = some y0) (K : Kp) (G : List Ent)  :
    Fc Try.prog 51 #[(.agg (Item.cells p0).toArray)] K (G) (fun v K' G' => v = (.bool y0) ∧ K = K' ∧ G = G') := by
  refine Fc_body Try.func51 rfl Try.ntmps51 Try.results51 rfl ?_
  unfold M_trace_plain at H
  refine Cw_seq ?_
  refine Cw_region ?_
  refine Ow_cons rfl (OpW_box (cs := (Item.cells p0)) rfl rfl rfl (fun b3 => ?_))
  refine Ow_q rfl rfl rfl (Qt_assign rfl) ?_
  refine Ow_nil ?_
  refine Cw_seq ?_
  refine Cw_region ?_
  refine Ow_q rfl rfl rfl (Qt_fieldAddr (m := 1) rfl rfl rfl rfl rfl) ?_
  refine Ow_q rfl rfl rfl (Qt_fieldAddr (m := 1) rfl rfl rfl rfl rfl) ?_
  refine Ow_q rfl rfl rfl (Qt_load1 (v := (.int .i64 p0.access.kind)) rfl rfl rfl (Rdc.blk (.head _) rfl)) ?_
  refine Ow_q rfl rfl rfl (Qt_cmp rfl rfl rfl) ?_
  refine Ow_q rfl rfl rfl (Qt_move rfl) ?_
  refine Ow_caseG rfl rfl rfl ?_ ?_
  · intro h5
    have h5 := dcd_t (h5)
    have H := ift h5 H
    refine Ow_qw rfl rfl rfl rfl rfl rfl (Qt_fieldAddr (m := 1) rfl rfl rfl rfl rfl) ?_
    refine Ow_qw rfl rfl rfl rfl rfl rfl (Qt_fieldAddr (m := 1) rfl rfl rfl rfl rfl) ?_
    refine Ow_qw rfl rfl rfl rfl rfl rfl (Qt_load1 (v := (.int .i64 p0.access.kind)) rfl rfl rfl (Rdc.blk (.head _) rfl)) ?_
    refine Ow_qw rfl rfl rfl rfl rfl rfl (Qt_cmp rfl rfl rfl) ?_
    refine Ow_q rfl rfl rfl (Qt_pick_t rfl rfl) ?_
    refine Ow_q rfl rfl rfl (Qt_assign rfl) ?_
    refine Ow_nil ?_
    refine Cw_ret ?_
    obtain ey0 := inj1 H
    subst y0
    refine ⟨(by first | exact .inl rfl | exact .inr rfl), [(.bool (dcd (p0.access.kind ≤ 9)))], ⟨(.bool (dcd (p0.access.kind ≤ 9))), _, rfl, rfl, rfl⟩, ?_⟩
    refine Shift.rem .here ?_
    refine Shift.done ?_
    exact ⟨rfl, rfl, rfl⟩
  · intro h5
    have h5 := dcd_f (h5)
    have H := iff_ h5 H
    refine Ow_pass rfl rfl rfl rfl rfl rfl rfl ?_
    refine Ow_pass rfl rfl rfl rfl rfl rfl rfl ?_
    refine Ow_pass rfl rfl rfl rfl rfl rfl rfl ?_
    refine Ow_pass rfl rfl rfl rfl rfl rfl rfl ?_
    refine Ow_q rfl rfl rfl (Qt_pick_f rfl rfl) ?_
    refine Ow_q rfl rfl rfl (Qt_assign rfl) ?_
    refine Ow_nil ?_
    refine Cw_ret ?_
    obtain ey0 := inj1 H
    subst y0
    refine ⟨(by first | exact .inl rfl | exact .inr rfl), [(.bool false)], ⟨(.bool false), _, rfl, rfl, rfl⟩, ?_⟩
    refine Shift.rem .here ?_
    refine Shift.done ?_
    exact ⟨rfl, rfl, rfl⟩

set_option maxHeartbeats 1000000 in
theorem c_M_trace_Place (p0 : Item) (y0 : Int) (H : M_trace_Place p0 = some y0) (K : Kp) (G : List Ent)  :
    Fc Try.prog 24 #[(.agg (Item.cells p0).toArray)] K (G) (fun v K' G' => v = (.int .i64 y0) ∧ K = K' ∧ G = G') := by
  refine Fc_body Try.func24 rfl Try.ntmps24 Try.results24 rfl ?_
  unfold M_trace_Place at H
  refine Cw_seq ?_
  refine Cw_region ?_
  refine Ow_cons rfl (OpW_box (cs := (Item.cells p0)) rfl rfl rfl (fun b9 => ?_))
  refine Ow_q rfl rfl rfl (Qt_assign rfl) ?_
  refine Ow_nil ?_
  refine Cw_seq ?_
  refine Cw_region_any [.blk b9 26 (Item.cells p0)] rfl (Inc.cons (.head _) Inc.nil) ?_
  refine Aw_q 0 rfl (by kernel_rfl) (by kernel_rfl) (by kernel_rfl) rfl rfl rfl (Qt_fieldAddr (m := 1) rfl rfl rfl rfl rfl) ?_
  refine Aw_q 1 rfl (by kernel_rfl) (by kernel_rfl) (by kernel_rfl) rfl rfl rfl (Qt_fieldAddr (m := 1) rfl rfl rfl rfl rfl) ?_
  refine Aw_q 2 rfl (by kernel_rfl) (by kernel_rfl) (by kernel_rfl) rfl rfl rfl (Qt_load1 (v := (.int .i64 p0.access.kind)) rfl rfl rfl (Rdc.blk (.head _) rfl)) ?_
  refine Aw_q 3 rfl (by kernel_rfl) (by kernel_rfl) (by kernel_rfl) rfl rfl rfl (Qt_fieldAddr (m := 1) rfl rfl rfl rfl rfl) ?_
  refine Aw_q 4 rfl (by kernel_rfl) (by kernel_rfl) (by kernel_rfl) rfl rfl rfl (Qt_fieldAddr (m := 2) rfl rfl rfl rfl rfl) ?_
  refine Aw_q 5 rfl (by kernel_rfl) (by kernel_rfl) (by kernel_rfl) rfl rfl rfl (Qt_load1 (v := (.int .i64 p0.access.address)) rfl rfl rfl (Rdc.blk (.head _) rfl)) ?_
  refine Aw_q 6 rfl (by kernel_rfl) (by kernel_rfl) (by kernel_rfl) rfl rfl rfl (Qt_assign rfl) ?_
  refine Aw_q 7 rfl (by kernel_rfl) (by kernel_rfl) (by kernel_rfl) rfl rfl rfl (Qt_assign rfl) ?_
  refine Aw_done (by kernel_rfl) ?_
  refine Cw_seq ?_
  refine Cw_block ?_
  refine Cw_join (fun env' K' G' => ∃ (i19 : Int) (i20 : Int) (t21 : Bool), [(3, (.int .i64 i19)), (4, (.int .i64 i20)), (11, (.bool t21))] = env' ∧ K = K' ∧ G = G' ∧ M_trace_Place_J1 i19 i20 t21 = some y0) ?_ ?_
  · skip
    refine Cw_region ?_
    refine Ow_q rfl rfl rfl (Qt_move rfl) ?_
    refine Ow_q rfl rfl rfl (Qt_cmp rfl rfl rfl) ?_
    refine Ow_q rfl rfl rfl (Qt_move rfl) ?_
    refine Ow_caseG rfl rfl rfl ?_ ?_
    · intro h22
      have h22 := dcd_t (h22)
      have H := ift h22 H
      refine Ow_pass rfl rfl rfl rfl rfl rfl rfl ?_
      refine Ow_pass rfl rfl rfl rfl rfl rfl rfl ?_
      refine Ow_q rfl rfl rfl (Qt_pick_t rfl rfl) ?_
      refine Ow_q rfl rfl rfl (Qt_move rfl) ?_
      refine Ow_pass rfl rfl rfl rfl rfl rfl rfl ?_
      refine Ow_pass rfl rfl rfl rfl rfl rfl rfl ?_
      refine Ow_q rfl rfl rfl (Qt_pick_t rfl rfl) ?_
      refine Ow_q rfl rfl rfl (Qt_assign rfl) ?_
      refine Ow_nil ?_
      refine Shift.rem .here ?_
      refine Shift.done ?_
      exact ⟨[(3, (.int .i64 p0.access.kind)), (4, (.int .i64 p0.access.address)), (11, (.bool true))], ⟨rfl, rfl, rfl, trivial⟩, p0.access.kind, p0.access.address, true, rfl, rfl, rfl, H⟩
    · intro h22
      have h22 := dcd_f (h22)
      have H := iff_ h22 H
      refine Ow_qw rfl rfl rfl rfl rfl rfl (Qt_move rfl) ?_
      refine Ow_qw rfl rfl rfl rfl rfl rfl (Qt_cmp rfl rfl rfl) ?_
      refine Ow_q rfl rfl rfl (Qt_pick_f rfl rfl) ?_
      refine Ow_q rfl rfl rfl (Qt_move rfl) ?_
      refine Ow_caseG rfl rfl rfl ?_ ?_
      · intro h23
        have h23 := dcd_t (h23)
        have H := ift h23 H
        refine Ow_pass rfl rfl rfl rfl rfl rfl rfl ?_
        refine Ow_pass rfl rfl rfl rfl rfl rfl rfl ?_
        refine Ow_q rfl rfl rfl (Qt_pick_t rfl rfl) ?_
        refine Ow_q rfl rfl rfl (Qt_assign rfl) ?_
        refine Ow_nil ?_
        refine Shift.rem .here ?_
        refine Shift.done ?_
        exact ⟨[(3, (.int .i64 p0.access.kind)), (4, (.int .i64 p0.access.address)), (11, (.bool true))], ⟨rfl, rfl, rfl, trivial⟩, p0.access.kind, p0.access.address, true, rfl, rfl, rfl, H⟩
      · intro h23
        have h23 := dcd_f (h23)
        have H := iff_ h23 H
        refine Ow_qw rfl rfl rfl rfl rfl rfl (Qt_move rfl) ?_
        refine Ow_qw rfl rfl rfl rfl rfl rfl (Qt_cmp rfl rfl rfl) ?_
        refine Ow_q rfl rfl rfl (Qt_pick_f rfl rfl) ?_
        refine Ow_q rfl rfl rfl (Qt_assign rfl) ?_
        refine Ow_nil ?_
        refine Shift.rem .here ?_
        refine Shift.done ?_
        exact ⟨[(3, (.int .i64 p0.access.kind)), (4, (.int .i64 p0.access.address)), (11, (.bool (dcd (p0.access.kind > 9))))], ⟨rfl, rfl, rfl, trivial⟩, p0.access.kind, p0.access.address, (dcd (p0.access.kind > 9)), rfl, rfl, rfl, H⟩
  rintro _ _ _ - ⟨i19, i20, t21, rfl, rfl, rfl, H⟩
  unfold M_trace_Place_J1 at H
  refine Cw_cond rfl ?_ ?_
  · intro h24
    have H := ift h24 H
    refine Cw_seq ?_
    refine Cw_region ?_
    refine Ow_q rfl rfl rfl (Qt_assign rfl) ?_
    refine Ow_nil ?_
    refine Cw_ret ?_
    obtain ey0 := inj1 H
    subst y0
    refine ⟨(by first | exact .inl rfl | exact .inr rfl), [(.int .i64 1099511627776)], ⟨(.int .i64 1099511627776), _, rfl, rfl, rfl⟩, ?_⟩
    refine Shift.done ?_
    exact ⟨rfl, rfl, rfl⟩
  · intro h24
    have H := iff_ (btf h24) H
    refine Cw_seq ?_
    refine Cw_region ?_
    refine Ow_q rfl rfl rfl (Qt_move rfl) ?_
    refine Ow_q rfl rfl rfl (Qt_cmp rfl rfl rfl) ?_
    refine Ow_q rfl rfl rfl (Qt_assign rfl) ?_
    refine Ow_nil ?_
    refine Cw_cond rfl ?_ ?_
    · intro h25
      have h25 := dcd_t (h25)
      have H := ift h25 H
      refine Cw_seq ?_
      refine Cw_region ?_
      refine Ow_q rfl rfl rfl (Qt_move rfl) ?_
      refine Ow_q rfl rfl rfl (Qt_arith (e := wI ((-1) - i20)) rfl rfl rfl rfl) ?_
      refine Ow_q rfl rfl rfl (Qt_assign rfl) ?_
      refine Ow_nil ?_
      refine Cw_ret ?_
      obtain ey0 := inj1 H
      subst y0
      refine ⟨(by first | exact .inl rfl | exact .inr rfl), [(.int .i64 (wI ((-1) - i20)))], ⟨(.int .i64 (wI ((-1) - i20))), _, rfl, rfl, rfl⟩, ?_⟩
      refine Shift.done ?_
      exact ⟨rfl, rfl, rfl⟩
    · intro h25
      have h25 := dcd_f (h25)
      have H := iff_ h25 H
      refine Cw_skip ?_
      refine Cw_seq ?_
      refine Cw_region ?_
      refine Ow_q rfl rfl rfl (Qt_move rfl) ?_
      refine Ow_q rfl rfl rfl (Qt_assign rfl) ?_
      refine Ow_nil ?_
      refine Cw_ret ?_
      obtain ey0 := inj1 H
      subst y0
      refine ⟨(by first | exact .inl rfl | exact .inr rfl), [(.int .i64 i20)], ⟨(.int .i64 i20), _, rfl, rfl, rfl⟩, ?_⟩
      refine Shift.done ?_
      exact ⟨rfl, rfl, rfl⟩

set_option maxHeartbeats 1000000 in
theorem c_M_trace_Changes (p0 : Item) (y0 : Bool) (H : M_trace_Changes p0 = some y0) (K : Kp) (G : List Ent)  :
    Fc Try.prog 28 #[(.agg (Item.cells p0).toArray)] K (G) (fun v K' G' => v = (.bool y0) ∧ K = K' ∧ G = G') := by
  refine Fc_body Try.func28 rfl Try.ntmps28 Try.results28 rfl ?_
  unfold M_trace_Changes at H
  refine Cw_seq ?_
  refine Cw_region ?_
  refine Ow_cons rfl (OpW_box (cs := (Item.cells p0)) rfl rfl rfl (fun b7 => ?_))
  refine Ow_q rfl rfl rfl (Qt_assign rfl) ?_
  refine Ow_nil ?_
  refine Cw_join (fun env' K' G' => ∃ (t12 : Bool), [(2, (.bool t12))] = env' ∧ K = K' ∧ G = G' ∧ M_trace_Changes_J1 t12 = some y0) ?_ ?_
  · skip
    refine Cw_region ?_
    refine Ow_q rfl rfl rfl (Qt_fieldAddr (m := 1) rfl rfl rfl rfl rfl) ?_
    refine Ow_q rfl rfl rfl (Qt_fieldAddr (m := 1) rfl rfl rfl rfl rfl) ?_
    refine Ow_q rfl rfl rfl (Qt_load1 (v := (.int .i64 p0.access.kind)) rfl rfl rfl (Rdc.blk (.head _) rfl)) ?_
    obtain ⟨x13, hx14, H⟩ := bnd H
    refine Ow_cons rfl (OpW_call rfl Try.call42 rfl rfl (c_M_memory_Writes p0.access.kind x13 hx14 _ _ ) ?_)
    rintro _ _ _ - ⟨rfl, rfl, rfl⟩
    refine Ow_q rfl rfl rfl (Qt_move rfl) ?_
    refine Ow_caseG rfl rfl rfl ?_ ?_
    · intro h15
      have H := ift h15 H
      refine Ow_qw rfl rfl rfl rfl rfl rfl (Qt_fieldAddr (m := 1) rfl rfl rfl rfl rfl) ?_
      refine Ow_qw rfl rfl rfl rfl rfl rfl (Qt_fieldAddr (m := 1) rfl rfl rfl rfl rfl) ?_
      refine Ow_qw rfl rfl rfl rfl rfl rfl (Qt_load1 (v := (.int .i64 p0.access.kind)) rfl rfl rfl (Rdc.blk (.head _) rfl)) ?_
      refine Ow_qw rfl rfl rfl rfl rfl rfl (Qt_cmp rfl rfl rfl) ?_
      refine Ow_qw rfl rfl rfl rfl rfl rfl (Qt_move rfl) ?_
      refine Ow_caseG rfl rfl rfl ?_ ?_
      · intro h16
        have h16 := dcd_f (nt_t (h16))
        have H := iff_ h16 H
        refine Ow_pass rfl rfl rfl rfl rfl rfl rfl ?_
        refine Ow_pass rfl rfl rfl rfl rfl rfl rfl ?_
        refine Ow_qw rfl rfl rfl rfl rfl rfl (Qt_pick_t rfl rfl) ?_
        refine Ow_q rfl rfl rfl (Qt_pick_t rfl rfl) ?_
        refine Ow_q rfl rfl rfl (Qt_assign rfl) ?_
        refine Ow_nil ?_
        refine Shift.rem .here ?_
        refine Shift.done ?_
        exact ⟨[(2, (.bool true))], ⟨rfl, trivial⟩, true, rfl, rfl, rfl, H⟩
      · intro h16
        have h16 := dcd_t (nt_f (h16))
        have H := ift h16 H
        refine Ow_qw rfl rfl rfl rfl rfl rfl (Qt_fieldAddr (m := 7) rfl rfl rfl rfl rfl) ?_
        refine Ow_qw rfl rfl rfl rfl rfl rfl (Qt_load1 (v := (.bool p0.ok)) rfl rfl rfl (Rdc.blk (.head _) rfl)) ?_
        refine Ow_qw rfl rfl rfl rfl rfl rfl (Qt_pick_f rfl rfl) ?_
        refine Ow_q rfl rfl rfl (Qt_pick_t rfl rfl) ?_
        refine Ow_q rfl rfl rfl (Qt_assign rfl) ?_
        refine Ow_nil ?_
        refine Shift.rem .here ?_
        refine Shift.done ?_
        exact ⟨[(2, (.bool p0.ok))], ⟨rfl, trivial⟩, p0.ok, rfl, rfl, rfl, H⟩
    · intro h15
      have H := iff_ (btf h15) H
      refine Ow_pass rfl rfl rfl rfl rfl rfl rfl ?_
      refine Ow_pass rfl rfl rfl rfl rfl rfl rfl ?_
      refine Ow_pass rfl rfl rfl rfl rfl rfl rfl ?_
      refine Ow_pass rfl rfl rfl rfl rfl rfl rfl ?_
      refine Ow_pass rfl rfl rfl rfl rfl rfl rfl ?_
      refine Ow_passU rfl rfl rfl rfl rfl ?_
      refine Ow_passU rfl rfl rfl rfl rfl ?_
      refine Ow_pass rfl rfl rfl rfl rfl rfl rfl ?_
      refine Ow_q rfl rfl rfl (Qt_pick_f rfl rfl) ?_
      refine Ow_q rfl rfl rfl (Qt_assign rfl) ?_
      refine Ow_nil ?_
      refine Shift.rem .here ?_
      refine Shift.done ?_
      exact ⟨[(2, (.bool false))], ⟨rfl, trivial⟩, false, rfl, rfl, rfl, H⟩
  rintro _ _ _ - ⟨t12, rfl, rfl, rfl, H⟩
  unfold M_trace_Changes_J1 at H
  refine Cw_ret ?_
  obtain ey0 := inj1 H
  subst y0
  refine ⟨(by first | exact .inl rfl | exact .inr rfl), [(.bool t12)], ⟨(.bool t12), _, rfl, rfl, rfl⟩, ?_⟩
  refine Shift.done ?_
  exact ⟨rfl, rfl, rfl⟩

set_option maxHeartbeats 1000000 in
theorem c_M_trace_Conflict (p0 : Item) (p1 : Item) (y0 : Bool) (H : M_trace_Conflict p0 p1 = some y0) (K : Kp) (G : List Ent)  :
    Fc Try.prog 16 #[(.agg (Item.cells p0).toArray), (.agg (Item.cells p1).toArray)] K (G) (fun v K' G' => v = (.bool y0) ∧ K = K' ∧ G = G') := by
  refine Fc_body Try.func16 rfl Try.ntmps16 Try.results16 rfl ?_
  unfold M_trace_Conflict at H
  refine Cw_seq ?_
  refine Cw_region ?_
  refine Ow_cons rfl (OpW_box (cs := (Item.cells p0)) rfl rfl rfl (fun b21 => ?_))
  refine Ow_cons rfl (OpW_box (cs := (Item.cells p1)) rfl rfl rfl (fun b22 => ?_))
  refine Ow_q rfl rfl rfl (Qt_assign rfl) ?_
  refine Ow_nil ?_
  refine Cw_join (fun env' K' G' => ∃ (t40 : Bool), [(4, (.bool t40))] = env' ∧ K = K' ∧ G = G' ∧ M_trace_Conflict_J1 t40 = some y0) ?_ ?_
  · skip
    rcases bool_ct (!(dcd (p0.thread = p1.thread))) with hb_ | hb_ <;> revert hb_
    · intro h41
      have h41 := dcd_f (nt_t (h41))
      have H := iff_ h41 H
      obtain ⟨x42, hx43, H⟩ := bnd H
      rcases bool_ct x42 with hb_ | hb_ <;> revert hb_
      · intro h44
        have H := ift h44 H
        obtain ⟨x45, hx46, H⟩ := bnd H
        rcases bool_ct x45 with hb_ | hb_ <;> revert hb_
        · intro h47
          have H := ift h47 H
          obtain ⟨x48, hx49, H⟩ := bnd H
          obtain ⟨x50, hx51, H⟩ := bnd H
          rcases bool_ct (dcd (x48 = x50)) with hb_ | hb_ <;> revert hb_
          · intro h52
            have h52 := dcd_t (h52)
            have H := ift h52 H
            obtain ⟨x53, hx54, H⟩ := bnd H
            rcases bool_ct x53 with hb_ | hb_ <;> revert hb_
            · intro h55
              have H := ift h55 H
              refine Cw_region_any [.blk b22 26 (Item.cells p1), .blk b21 26 (Item.cells p0)] rfl (Inc.cons (.head _) (Inc.cons (.tail _ (.head _)) Inc.nil)) ?_
              refine Aw_q 0 rfl (by kernel_rfl) (by kernel_rfl) (by kernel_rfl) rfl rfl rfl (Qt_fieldAddr (m := 0) rfl rfl rfl rfl rfl) ?_
              refine Aw_q 1 rfl (by kernel_rfl) (by kernel_rfl) (by kernel_rfl) rfl rfl rfl (Qt_load1 (v := (.int .i64 p0.thread)) rfl rfl rfl (Rdc.blk (.tail _ (.head _)) rfl)) ?_
              refine Aw_q 2 rfl (by kernel_rfl) (by kernel_rfl) (by kernel_rfl) rfl rfl rfl (Qt_fieldAddr (m := 0) rfl rfl rfl rfl rfl) ?_
              refine Aw_q 3 rfl (by kernel_rfl) (by kernel_rfl) (by kernel_rfl) rfl rfl rfl (Qt_load1 (v := (.int .i64 p1.thread)) rfl rfl rfl (Rdc.blk (.head _) rfl)) ?_
              refine Aw_q 4 rfl (by kernel_rfl) (by kernel_rfl) (by kernel_rfl) rfl rfl rfl (Qt_cmp rfl rfl rfl) ?_
              refine Aw_q 5 rfl (by kernel_rfl) (by kernel_rfl) (by kernel_rfl) rfl rfl rfl (Qt_move rfl) ?_
              refine Aw.known (d := 10) rfl (nt_mt (dcd_neg h41)) ?_
              refine Aw_qw 6 rfl (by kernel_rfl) (by kernel_rfl) (by kernel_rfl) rfl rfl rfl rfl rfl rfl (Qt_loadA (m := 8) (cs := (Item.cells p0)) rfl rfl rfl rfl ⟨rfl, Rdc.blk (.tail _ (.head _)) rfl⟩) ?_
              refine Aw_one 7 (by kernel_rfl) (Ax_mkw rfl rfl rfl rfl rfl ?_)
              refine OpW_call rfl Try.call51 rfl rfl (c_M_trace_plain p0 x42 hx43 _ _ ) ?_
              rintro _ _ _ - ⟨rfl, rfl, rfl⟩
              refine ⟨(Inc.cons (.head _) (Inc.cons (.tail _ (.head _)) Inc.nil)), ?_⟩
              refine Aw_q 8 rfl (by kernel_rfl) (by kernel_rfl) (by kernel_rfl) rfl rfl rfl (Qt_pick_t rfl rfl) ?_
              refine Aw_q 9 rfl (by kernel_rfl) (by kernel_rfl) (by kernel_rfl) rfl rfl rfl (Qt_move rfl) ?_
              refine Aw.known (d := 14) rfl (h44) ?_
              refine Aw_qw 10 rfl (by kernel_rfl) (by kernel_rfl) (by kernel_rfl) rfl rfl rfl rfl rfl rfl (Qt_loadA (m := 8) (cs := (Item.cells p1)) rfl rfl rfl rfl ⟨rfl, Rdc.blk (.head _) rfl⟩) ?_
              refine Aw_one 11 (by kernel_rfl) (Ax_mkw rfl rfl rfl rfl rfl ?_)
              refine OpW_call rfl Try.call51 rfl rfl (c_M_trace_plain p1 x45 hx46 _ _ ) ?_
              rintro _ _ _ - ⟨rfl, rfl, rfl⟩
              refine ⟨(Inc.cons (.head _) (Inc.cons (.tail _ (.head _)) Inc.nil)), ?_⟩
              refine Aw_q 12 rfl (by kernel_rfl) (by kernel_rfl) (by kernel_rfl) rfl rfl rfl (Qt_pick_t rfl rfl) ?_
              refine Aw_q 13 rfl (by kernel_rfl) (by kernel_rfl) (by kernel_rfl) rfl rfl rfl (Qt_move rfl) ?_
              refine Aw.known (d := 18) rfl (h47) ?_
              refine Aw_qw 14 rfl (by kernel_rfl) (by kernel_rfl) (by kernel_rfl) rfl rfl rfl rfl rfl rfl (Qt_loadA (m := 8) (cs := (Item.cells p0)) rfl rfl rfl rfl ⟨rfl, Rdc.blk (.tail _ (.head _)) rfl⟩) ?_
              refine Aw_qw 16 rfl (by kernel_rfl) (by kernel_rfl) (by kernel_rfl) rfl rfl rfl rfl rfl rfl (Qt_loadA (m := 8) (cs := (Item.cells p1)) rfl rfl rfl rfl ⟨rfl, Rdc.blk (.head _) rfl⟩) ?_
              refine Aw_one 15 (by kernel_rfl) (Ax_mkw rfl rfl rfl rfl rfl ?_)
              refine OpW_call rfl Try.call24 rfl rfl (c_M_trace_Place p0 x48 hx49 _ _ ) ?_
              rintro _ _ _ - ⟨rfl, rfl, rfl⟩
              refine ⟨(Inc.cons (.head _) (Inc.cons (.tail _ (.head _)) Inc.nil)), ?_⟩
              refine Aw_one 17 (by kernel_rfl) (Ax_mkw rfl rfl rfl rfl rfl ?_)
              refine OpW_call rfl Try.call24 rfl rfl (c_M_trace_Place p1 x50 hx51 _ _ ) ?_
              rintro _ _ _ - ⟨rfl, rfl, rfl⟩
              refine ⟨(Inc.cons (.head _) (Inc.cons (.tail _ (.head _)) Inc.nil)), ?_⟩
              refine Aw_qw 18 rfl (by kernel_rfl) (by kernel_rfl) (by kernel_rfl) rfl rfl rfl rfl rfl rfl (Qt_cmp rfl rfl rfl) ?_
              refine Aw_q 19 rfl (by kernel_rfl) (by kernel_rfl) (by kernel_rfl) rfl rfl rfl (Qt_pick_t rfl rfl) ?_
              refine Aw_q 20 rfl (by kernel_rfl) (by kernel_rfl) (by kernel_rfl) rfl rfl rfl (Qt_move rfl) ?_
              refine Aw.known (d := 25) rfl (dcd_pos h52) ?_
              refine Aw_qw 21 rfl (by kernel_rfl) (by kernel_rfl) (by kernel_rfl) rfl rfl rfl rfl rfl rfl (Qt_loadA (m := 8) (cs := (Item.cells p0)) rfl rfl rfl rfl ⟨rfl, Rdc.blk (.tail _ (.head _)) rfl⟩) ?_
              refine Aw_one 22 (by kernel_rfl) (Ax_mkw rfl rfl rfl rfl rfl ?_)
              refine OpW_call rfl Try.call28 rfl rfl (c_M_trace_Changes p0 x53 hx54 _ _ ) ?_
              rintro _ _ _ - ⟨rfl, rfl, rfl⟩
              refine ⟨(Inc.cons (.head _) (Inc.cons (.tail _ (.head _)) Inc.nil)), ?_⟩
              refine Aw_qw 23 rfl (by kernel_rfl) (by kernel_rfl) (by kernel_rfl) rfl rfl rfl rfl rfl rfl (Qt_move rfl) ?_
              refine Aw.known (d := 28) rfl (h55) ?_
              refine Aw_pass 24 rfl (by kernel_rfl) (by kernel_rfl) (by kernel_rfl) rfl rfl rfl rfl rfl rfl rfl ?_
              refine Aw_pass 25 rfl (by kernel_rfl) (by kernel_rfl) (by kernel_rfl) rfl rfl rfl rfl rfl rfl rfl ?_
              refine Aw_qw 26 rfl (by kernel_rfl) (by kernel_rfl) (by kernel_rfl) rfl rfl rfl rfl rfl rfl (Qt_pick_t rfl rfl) ?_
              refine Aw_q 27 rfl (by kernel_rfl) (by kernel_rfl) (by kernel_rfl) rfl rfl rfl (Qt_pick_t rfl rfl) ?_
              refine Aw_q 28 rfl (by kernel_rfl) (by kernel_rfl) (by kernel_rfl) rfl rfl rfl (Qt_assign rfl) ?_
              refine Aw_done (by kernel_rfl) ?_
              refine Shift.rem .here ?_
              refine Shift.rem .here ?_
              refine Shift.done ?_
              exact ⟨[(4, (.bool true))], ⟨rfl, trivial⟩, true, rfl, rfl, rfl, H⟩
            · intro h55
              have H := iff_ (btf h55) H
              obtain ⟨x56, hx57, H⟩ := bnd H
              refine Cw_region_any [.blk b22 26 (Item.cells p1), .blk b21 26 (Item.cells p0)] rfl (Inc.cons (.head _) (Inc.cons (.tail _ (.head _)) Inc.nil)) ?_
              refine Aw_q 0 rfl (by kernel_rfl) (by kernel_rfl) (by kernel_rfl) rfl rfl rfl (Qt_fieldAddr (m := 0) rfl rfl rfl rfl rfl) ?_
              refine Aw_q 1 rfl (by kernel_rfl) (by kernel_rfl) (by kernel_rfl) rfl rfl rfl (Qt_load1 (v := (.int .i64 p0.thread)) rfl rfl rfl (Rdc.blk (.tail _ (.head _)) rfl)) ?_
              refine Aw_q 2 rfl (by kernel_rfl) (by kernel_rfl) (by kernel_rfl) rfl rfl rfl (Qt_fieldAddr (m := 0) rfl rfl rfl rfl rfl) ?_
              refine Aw_q 3 rfl (by kernel_rfl) (by kernel_rfl) (by kernel_rfl) rfl rfl rfl (Qt_load1 (v := (.int .i64 p1.thread)) rfl rfl rfl (Rdc.blk (.head _) rfl)) ?_
              refine Aw_q 4 rfl (by kernel_rfl) (by kernel_rfl) (by kernel_rfl) rfl rfl rfl (Qt_cmp rfl rfl rfl) ?_
              refine Aw_q 5 rfl (by kernel_rfl) (by kernel_rfl) (by kernel_rfl) rfl rfl rfl (Qt_move rfl) ?_
              refine Aw.known (d := 10) rfl (nt_mt (dcd_neg h41)) ?_
              refine Aw_qw 6 rfl (by kernel_rfl) (by kernel_rfl) (by kernel_rfl) rfl rfl rfl rfl rfl rfl (Qt_loadA (m := 8) (cs := (Item.cells p0)) rfl rfl rfl rfl ⟨rfl, Rdc.blk (.tail _ (.head _)) rfl⟩) ?_
              refine Aw_one 7 (by kernel_rfl) (Ax_mkw rfl rfl rfl rfl rfl ?_)
              refine OpW_call rfl Try.call51 rfl rfl (c_M_trace_plain p0 x42 hx43 _ _ ) ?_
              rintro _ _ _ - ⟨rfl, rfl, rfl⟩
              refine ⟨(Inc.cons (.head _) (Inc.cons (.tail _ (.head _)) Inc.nil)), ?_⟩
              refine Aw_q 8 rfl (by kernel_rfl) (by kernel_rfl) (by kernel_rfl) rfl rfl rfl (Qt_pick_t rfl rfl) ?_
              refine Aw_q 9 rfl (by kernel_rfl) (by kernel_rfl) (by kernel_rfl) rfl rfl rfl (Qt_move rfl) ?_
              refine Aw.known (d := 14) rfl (h44) ?_
              refine Aw_qw 10 rfl (by kernel_rfl) (by kernel_rfl) (by kernel_rfl) rfl rfl rfl rfl rfl rfl (Qt_loadA (m := 8) (cs := (Item.cells p1)) rfl rfl rfl rfl ⟨rfl, Rdc.blk (.head _) rfl⟩) ?_
              refine Aw_one 11 (by kernel_rfl) (Ax_mkw rfl rfl rfl rfl rfl ?_)
              refine OpW_call rfl Try.call51 rfl rfl (c_M_trace_plain p1 x45 hx46 _ _ ) ?_
              rintro _ _ _ - ⟨rfl, rfl, rfl⟩
              refine ⟨(Inc.cons (.head _) (Inc.cons (.tail _ (.head _)) Inc.nil)), ?_⟩
              refine Aw_q 12 rfl (by kernel_rfl) (by kernel_rfl) (by kernel_rfl) rfl rfl rfl (Qt_pick_t rfl rfl) ?_
              refine Aw_q 13 rfl (by kernel_rfl) (by kernel_rfl) (by kernel_rfl) rfl rfl rfl (Qt_move rfl) ?_
              refine Aw.known (d := 18) rfl (h47) ?_
              refine Aw_qw 14 rfl (by kernel_rfl) (by kernel_rfl) (by kernel_rfl) rfl rfl rfl rfl rfl rfl (Qt_loadA (m := 8) (cs := (Item.cells p0)) rfl rfl rfl rfl ⟨rfl, Rdc.blk (.tail _ (.head _)) rfl⟩) ?_
              refine Aw_qw 16 rfl (by kernel_rfl) (by kernel_rfl) (by kernel_rfl) rfl rfl rfl rfl rfl rfl (Qt_loadA (m := 8) (cs := (Item.cells p1)) rfl rfl rfl rfl ⟨rfl, Rdc.blk (.head _) rfl⟩) ?_
              refine Aw_one 15 (by kernel_rfl) (Ax_mkw rfl rfl rfl rfl rfl ?_)
              refine OpW_call rfl Try.call24 rfl rfl (c_M_trace_Place p0 x48 hx49 _ _ ) ?_
              rintro _ _ _ - ⟨rfl, rfl, rfl⟩
              refine ⟨(Inc.cons (.head _) (Inc.cons (.tail _ (.head _)) Inc.nil)), ?_⟩
              refine Aw_one 17 (by kernel_rfl) (Ax_mkw rfl rfl rfl rfl rfl ?_)
              refine OpW_call rfl Try.call24 rfl rfl (c_M_trace_Place p1 x50 hx51 _ _ ) ?_
              rintro _ _ _ - ⟨rfl, rfl, rfl⟩
              refine ⟨(Inc.cons (.head _) (Inc.cons (.tail _ (.head _)) Inc.nil)), ?_⟩
              refine Aw_qw 18 rfl (by kernel_rfl) (by kernel_rfl) (by kernel_rfl) rfl rfl rfl rfl rfl rfl (Qt_cmp rfl rfl rfl) ?_
              refine Aw_q 19 rfl (by kernel_rfl) (by kernel_rfl) (by kernel_rfl) rfl rfl rfl (Qt_pick_t rfl rfl) ?_
              refine Aw_q 20 rfl (by kernel_rfl) (by kernel_rfl) (by kernel_rfl) rfl rfl rfl (Qt_move rfl) ?_
              refine Aw.known (d := 25) rfl (dcd_pos h52) ?_
              refine Aw_qw 21 rfl (by kernel_rfl) (by kernel_rfl) (by kernel_rfl) rfl rfl rfl rfl rfl rfl (Qt_loadA (m := 8) (cs := (Item.cells p0)) rfl rfl rfl rfl ⟨rfl, Rdc.blk (.tail _ (.head _)) rfl⟩) ?_
              refine Aw_one 22 (by kernel_rfl) (Ax_mkw rfl rfl rfl rfl rfl ?_)
              refine OpW_call rfl Try.call28 rfl rfl (c_M_trace_Changes p0 x53 hx54 _ _ ) ?_
              rintro _ _ _ - ⟨rfl, rfl, rfl⟩
              refine ⟨(Inc.cons (.head _) (Inc.cons (.tail _ (.head _)) Inc.nil)), ?_⟩
              refine Aw_qw 23 rfl (by kernel_rfl) (by kernel_rfl) (by kernel_rfl) rfl rfl rfl rfl rfl rfl (Qt_move rfl) ?_
              refine Aw.known (d := 28) rfl (h55) ?_
              refine Aw_qw 24 rfl (by kernel_rfl) (by kernel_rfl) (by kernel_rfl) rfl rfl rfl rfl rfl rfl (Qt_loadA (m := 8) (cs := (Item.cells p1)) rfl rfl rfl rfl ⟨rfl, Rdc.blk (.head _) rfl⟩) ?_
              refine Aw_one 25 (by kernel_rfl) (Ax_mkw rfl rfl rfl rfl rfl ?_)
              refine OpW_call rfl Try.call28 rfl rfl (c_M_trace_Changes p1 x56 hx57 _ _ ) ?_
              rintro _ _ _ - ⟨rfl, rfl, rfl⟩
              refine ⟨(Inc.cons (.head _) (Inc.cons (.tail _ (.head _)) Inc.nil)), ?_⟩
              refine Aw_qw 26 rfl (by kernel_rfl) (by kernel_rfl) (by kernel_rfl) rfl rfl rfl rfl rfl rfl (Qt_pick_f rfl rfl) ?_
              refine Aw_q 27 rfl (by kernel_rfl) (by kernel_rfl) (by kernel_rfl) rfl rfl rfl (Qt_pick_t rfl rfl) ?_
              refine Aw_q 28 rfl (by kernel_rfl) (by kernel_rfl) (by kernel_rfl) rfl rfl rfl (Qt_assign rfl) ?_
              refine Aw_done (by kernel_rfl) ?_
              refine Shift.rem .here ?_
              refine Shift.rem .here ?_
              refine Shift.done ?_
              exact ⟨[(4, (.bool x56))], ⟨rfl, trivial⟩, x56, rfl, rfl, rfl, H⟩
          · intro h52
            have h52 := dcd_f (h52)
            have H := iff_ h52 H
            refine Cw_region_any [.blk b22 26 (Item.cells p1), .blk b21 26 (Item.cells p0)] rfl (Inc.cons (.head _) (Inc.cons (.tail _ (.head _)) Inc.nil)) ?_
            refine Aw_q 0 rfl (by kernel_rfl) (by kernel_rfl) (by kernel_rfl) rfl rfl rfl (Qt_fieldAddr (m := 0) rfl rfl rfl rfl rfl) ?_
            refine Aw_q 1 rfl (by kernel_rfl) (by kernel_rfl) (by kernel_rfl) rfl rfl rfl (Qt_load1 (v := (.int .i64 p0.thread)) rfl rfl rfl (Rdc.blk (.tail _ (.head _)) rfl)) ?_
            refine Aw_q 2 rfl (by kernel_rfl) (by kernel_rfl) (by kernel_rfl) rfl rfl rfl (Qt_fieldAddr (m := 0) rfl rfl rfl rfl rfl) ?_
            refine Aw_q 3 rfl (by kernel_rfl) (by kernel_rfl) (by kernel_rfl) rfl rfl rfl (Qt_load1 (v := (.int .i64 p1.thread)) rfl rfl rfl (Rdc.blk (.head _) rfl)) ?_
            refine Aw_q 4 rfl (by kernel_rfl) (by kernel_rfl) (by kernel_rfl) rfl rfl rfl (Qt_cmp rfl rfl rfl) ?_
            refine Aw_q 5 rfl (by kernel_rfl) (by kernel_rfl) (by kernel_rfl) rfl rfl rfl (Qt_move rfl) ?_
            refine Aw.known (d := 10) rfl (nt_mt (dcd_neg h41)) ?_
            refine Aw_qw 6 rfl (by kernel_rfl) (by kernel_rfl) (by kernel_rfl) rfl rfl rfl rfl rfl rfl (Qt_loadA (m := 8) (cs := (Item.cells p0)) rfl rfl rfl rfl ⟨rfl, Rdc.blk (.tail _ (.head _)) rfl⟩) ?_
            refine Aw_one 7 (by kernel_rfl) (Ax_mkw rfl rfl rfl rfl rfl ?_)
            refine OpW_call rfl Try.call51 rfl rfl (c_M_trace_plain p0 x42 hx43 _ _ ) ?_
            rintro _ _ _ - ⟨rfl, rfl, rfl⟩
            refine ⟨(Inc.cons (.head _) (Inc.cons (.tail _ (.head _)) Inc.nil)), ?_⟩
            refine Aw_q 8 rfl (by kernel_rfl) (by kernel_rfl) (by kernel_rfl) rfl rfl rfl (Qt_pick_t rfl rfl) ?_
            refine Aw_q 9 rfl (by kernel_rfl) (by kernel_rfl) (by kernel_rfl) rfl rfl rfl (Qt_move rfl) ?_
            refine Aw.known (d := 14) rfl (h44) ?_
            refine Aw_qw 10 rfl (by kernel_rfl) (by kernel_rfl) (by kernel_rfl) rfl rfl rfl rfl rfl rfl (Qt_loadA (m := 8) (cs := (Item.cells p1)) rfl rfl rfl rfl ⟨rfl, Rdc.blk (.head _) rfl⟩) ?_
            refine Aw_one 11 (by kernel_rfl) (Ax_mkw rfl rfl rfl rfl rfl ?_)
            refine OpW_call rfl Try.call51 rfl rfl (c_M_trace_plain p1 x45 hx46 _ _ ) ?_
            rintro _ _ _ - ⟨rfl, rfl, rfl⟩
            refine ⟨(Inc.cons (.head _) (Inc.cons (.tail _ (.head _)) Inc.nil)), ?_⟩
            refine Aw_q 12 rfl (by kernel_rfl) (by kernel_rfl) (by kernel_rfl) rfl rfl rfl (Qt_pick_t rfl rfl) ?_
            refine Aw_q 13 rfl (by kernel_rfl) (by kernel_rfl) (by kernel_rfl) rfl rfl rfl (Qt_move rfl) ?_
            refine Aw.known (d := 18) rfl (h47) ?_
            refine Aw_qw 14 rfl (by kernel_rfl) (by kernel_rfl) (by kernel_rfl) rfl rfl rfl rfl rfl rfl (Qt_loadA (m := 8) (cs := (Item.cells p0)) rfl rfl rfl rfl ⟨rfl, Rdc.blk (.tail _ (.head _)) rfl⟩) ?_
            refine Aw_qw 16 rfl (by kernel_rfl) (by kernel_rfl) (by kernel_rfl) rfl rfl rfl rfl rfl rfl (Qt_loadA (m := 8) (cs := (Item.cells p1)) rfl rfl rfl rfl ⟨rfl, Rdc.blk (.head _) rfl⟩) ?_
            refine Aw_one 15 (by kernel_rfl) (Ax_mkw rfl rfl rfl rfl rfl ?_)
            refine OpW_call rfl Try.call24 rfl rfl (c_M_trace_Place p0 x48 hx49 _ _ ) ?_
            rintro _ _ _ - ⟨rfl, rfl, rfl⟩
            refine ⟨(Inc.cons (.head _) (Inc.cons (.tail _ (.head _)) Inc.nil)), ?_⟩
            refine Aw_one 17 (by kernel_rfl) (Ax_mkw rfl rfl rfl rfl rfl ?_)
            refine OpW_call rfl Try.call24 rfl rfl (c_M_trace_Place p1 x50 hx51 _ _ ) ?_
            rintro _ _ _ - ⟨rfl, rfl, rfl⟩
            refine ⟨(Inc.cons (.head _) (Inc.cons (.tail _ (.head _)) Inc.nil)), ?_⟩
            refine Aw_qw 18 rfl (by kernel_rfl) (by kernel_rfl) (by kernel_rfl) rfl rfl rfl rfl rfl rfl (Qt_cmp rfl rfl rfl) ?_
            refine Aw_q 19 rfl (by kernel_rfl) (by kernel_rfl) (by kernel_rfl) rfl rfl rfl (Qt_pick_t rfl rfl) ?_
            refine Aw_q 20 rfl (by kernel_rfl) (by kernel_rfl) (by kernel_rfl) rfl rfl rfl (Qt_move rfl) ?_
            refine Aw.known (d := 25) rfl (dcd_neg h52) ?_
            refine Aw_pass 21 rfl (by kernel_rfl) (by kernel_rfl) (by kernel_rfl) rfl rfl rfl rfl rfl rfl rfl ?_
            refine Aw_pass 22 rfl (by kernel_rfl) (by kernel_rfl) (by kernel_rfl) rfl rfl rfl rfl rfl rfl rfl ?_
            refine Aw_pass 23 rfl (by kernel_rfl) (by kernel_rfl) (by kernel_rfl) rfl rfl rfl rfl rfl rfl rfl ?_
            refine Aw_passU 24 rfl (by kernel_rfl) (by kernel_rfl) (by kernel_rfl) rfl rfl rfl rfl rfl ?_
            refine Aw_passU 25 rfl (by kernel_rfl) (by kernel_rfl) (by kernel_rfl) rfl rfl rfl rfl rfl ?_
            refine Aw_pass 26 rfl (by kernel_rfl) (by kernel_rfl) (by kernel_rfl) rfl rfl rfl rfl rfl rfl rfl ?_
            refine Aw_q 27 rfl (by kernel_rfl) (by kernel_rfl) (by kernel_rfl) rfl rfl rfl (Qt_pick_f rfl rfl) ?_
            refine Aw_q 28 rfl (by kernel_rfl) (by kernel_rfl) (by kernel_rfl) rfl rfl rfl (Qt_assign rfl) ?_
            refine Aw_done (by kernel_rfl) ?_
            refine Shift.rem .here ?_
            refine Shift.rem .here ?_
            refine Shift.done ?_
            exact ⟨[(4, (.bool false))], ⟨rfl, trivial⟩, false, rfl, rfl, rfl, H⟩
        · intro h47
          have H := iff_ (btf h47) H
          refine Cw_region_any [.blk b22 26 (Item.cells p1), .blk b21 26 (Item.cells p0)] rfl (Inc.cons (.head _) (Inc.cons (.tail _ (.head _)) Inc.nil)) ?_
          refine Aw_q 0 rfl (by kernel_rfl) (by kernel_rfl) (by kernel_rfl) rfl rfl rfl (Qt_fieldAddr (m := 0) rfl rfl rfl rfl rfl) ?_
          refine Aw_q 1 rfl (by kernel_rfl) (by kernel_rfl) (by kernel_rfl) rfl rfl rfl (Qt_load1 (v := (.int .i64 p0.thread)) rfl rfl rfl (Rdc.blk (.tail _ (.head _)) rfl)) ?_
          refine Aw_q 2 rfl (by kernel_rfl) (by kernel_rfl) (by kernel_rfl) rfl rfl rfl (Qt_fieldAddr (m := 0) rfl rfl rfl rfl rfl) ?_
          refine Aw_q 3 rfl (by kernel_rfl) (by kernel_rfl) (by kernel_rfl) rfl rfl rfl (Qt_load1 (v := (.int .i64 p1.thread)) rfl rfl rfl (Rdc.blk (.head _) rfl)) ?_
          refine Aw_q 4 rfl (by kernel_rfl) (by kernel_rfl) (by kernel_rfl) rfl rfl rfl (Qt_cmp rfl rfl rfl) ?_
          refine Aw_q 5 rfl (by kernel_rfl) (by kernel_rfl) (by kernel_rfl) rfl rfl rfl (Qt_move rfl) ?_
          refine Aw.known (d := 10) rfl (nt_mt (dcd_neg h41)) ?_
          refine Aw_qw 6 rfl (by kernel_rfl) (by kernel_rfl) (by kernel_rfl) rfl rfl rfl rfl rfl rfl (Qt_loadA (m := 8) (cs := (Item.cells p0)) rfl rfl rfl rfl ⟨rfl, Rdc.blk (.tail _ (.head _)) rfl⟩) ?_
          refine Aw_one 7 (by kernel_rfl) (Ax_mkw rfl rfl rfl rfl rfl ?_)
          refine OpW_call rfl Try.call51 rfl rfl (c_M_trace_plain p0 x42 hx43 _ _ ) ?_
          rintro _ _ _ - ⟨rfl, rfl, rfl⟩
          refine ⟨(Inc.cons (.head _) (Inc.cons (.tail _ (.head _)) Inc.nil)), ?_⟩
          refine Aw_q 8 rfl (by kernel_rfl) (by kernel_rfl) (by kernel_rfl) rfl rfl rfl (Qt_pick_t rfl rfl) ?_
          refine Aw_q 9 rfl (by kernel_rfl) (by kernel_rfl) (by kernel_rfl) rfl rfl rfl (Qt_move rfl) ?_
          refine Aw.known (d := 14) rfl (h44) ?_
          refine Aw_qw 10 rfl (by kernel_rfl) (by kernel_rfl) (by kernel_rfl) rfl rfl rfl rfl rfl rfl (Qt_loadA (m := 8) (cs := (Item.cells p1)) rfl rfl rfl rfl ⟨rfl, Rdc.blk (.head _) rfl⟩) ?_
          refine Aw_one 11 (by kernel_rfl) (Ax_mkw rfl rfl rfl rfl rfl ?_)
          refine OpW_call rfl Try.call51 rfl rfl (c_M_trace_plain p1 x45 hx46 _ _ ) ?_
          rintro _ _ _ - ⟨rfl, rfl, rfl⟩
          refine ⟨(Inc.cons (.head _) (Inc.cons (.tail _ (.head _)) Inc.nil)), ?_⟩
          refine Aw_q 12 rfl (by kernel_rfl) (by kernel_rfl) (by kernel_rfl) rfl rfl rfl (Qt_pick_t rfl rfl) ?_
          refine Aw_q 13 rfl (by kernel_rfl) (by kernel_rfl) (by kernel_rfl) rfl rfl rfl (Qt_move rfl) ?_
          refine Aw.known (d := 18) rfl (h47) ?_
          refine Aw_pass 14 rfl (by kernel_rfl) (by kernel_rfl) (by kernel_rfl) rfl rfl rfl rfl rfl rfl rfl ?_
          refine Aw_pass 15 rfl (by kernel_rfl) (by kernel_rfl) (by kernel_rfl) rfl rfl rfl rfl rfl rfl rfl ?_
          refine Aw_pass 16 rfl (by kernel_rfl) (by kernel_rfl) (by kernel_rfl) rfl rfl rfl rfl rfl rfl rfl ?_
          refine Aw_pass 17 rfl (by kernel_rfl) (by kernel_rfl) (by kernel_rfl) rfl rfl rfl rfl rfl rfl rfl ?_
          refine Aw_pass 18 rfl (by kernel_rfl) (by kernel_rfl) (by kernel_rfl) rfl rfl rfl rfl rfl rfl rfl ?_
          refine Aw_q 19 rfl (by kernel_rfl) (by kernel_rfl) (by kernel_rfl) rfl rfl rfl (Qt_pick_f rfl rfl) ?_
          refine Aw_q 20 rfl (by kernel_rfl) (by kernel_rfl) (by kernel_rfl) rfl rfl rfl (Qt_move rfl) ?_
          refine Aw_pass 21 rfl (by kernel_rfl) (by kernel_rfl) (by kernel_rfl) rfl rfl rfl rfl rfl rfl rfl ?_
          refine Aw_pass 22 rfl (by kernel_rfl) (by kernel_rfl) (by kernel_rfl) rfl rfl rfl rfl rfl rfl rfl ?_
          refine Aw_pass 23 rfl (by kernel_rfl) (by kernel_rfl) (by kernel_rfl) rfl rfl rfl rfl rfl rfl rfl ?_
          refine Aw_passU 24 rfl (by kernel_rfl) (by kernel_rfl) (by kernel_rfl) rfl rfl rfl rfl rfl ?_
          refine Aw_passU 25 rfl (by kernel_rfl) (by kernel_rfl) (by kernel_rfl) rfl rfl rfl rfl rfl ?_
          refine Aw_pass 26 rfl (by kernel_rfl) (by kernel_rfl) (by kernel_rfl) rfl rfl rfl rfl rfl rfl rfl ?_
          refine Aw_q 27 rfl (by kernel_rfl) (by kernel_rfl) (by kernel_rfl) rfl rfl rfl (Qt_pick_f rfl rfl) ?_
          refine Aw_q 28 rfl (by kernel_rfl) (by kernel_rfl) (by kernel_rfl) rfl rfl rfl (Qt_assign rfl) ?_
          refine Aw_done (by kernel_rfl) ?_
          refine Shift.rem .here ?_
          refine Shift.rem .here ?_
          refine Shift.done ?_
          exact ⟨[(4, (.bool false))], ⟨rfl, trivial⟩, false, rfl, rfl, rfl, H⟩
      · intro h44
        have H := iff_ (btf h44) H
        refine Cw_region_any [.blk b22 26 (Item.cells p1), .blk b21 26 (Item.cells p0)] rfl (Inc.cons (.head _) (Inc.cons (.tail _ (.head _)) Inc.nil)) ?_
        refine Aw_q 0 rfl (by kernel_rfl) (by kernel_rfl) (by kernel_rfl) rfl rfl rfl (Qt_fieldAddr (m := 0) rfl rfl rfl rfl rfl) ?_
        refine Aw_q 1 rfl (by kernel_rfl) (by kernel_rfl) (by kernel_rfl) rfl rfl rfl (Qt_load1 (v := (.int .i64 p0.thread)) rfl rfl rfl (Rdc.blk (.tail _ (.head _)) rfl)) ?_
        refine Aw_q 2 rfl (by kernel_rfl) (by kernel_rfl) (by kernel_rfl) rfl rfl rfl (Qt_fieldAddr (m := 0) rfl rfl rfl rfl rfl) ?_
        refine Aw_q 3 rfl (by kernel_rfl) (by kernel_rfl) (by kernel_rfl) rfl rfl rfl (Qt_load1 (v := (.int .i64 p1.thread)) rfl rfl rfl (Rdc.blk (.head _) rfl)) ?_
        refine Aw_q 4 rfl (by kernel_rfl) (by kernel_rfl) (by kernel_rfl) rfl rfl rfl (Qt_cmp rfl rfl rfl) ?_
        refine Aw_q 5 rfl (by kernel_rfl) (by kernel_rfl) (by kernel_rfl) rfl rfl rfl (Qt_move rfl) ?_
        refine Aw.known (d := 10) rfl (nt_mt (dcd_neg h41)) ?_
        refine Aw_qw 6 rfl (by kernel_rfl) (by kernel_rfl) (by kernel_rfl) rfl rfl rfl rfl rfl rfl (Qt_loadA (m := 8) (cs := (Item.cells p0)) rfl rfl rfl rfl ⟨rfl, Rdc.blk (.tail _ (.head _)) rfl⟩) ?_
        refine Aw_one 7 (by kernel_rfl) (Ax_mkw rfl rfl rfl rfl rfl ?_)
        refine OpW_call rfl Try.call51 rfl rfl (c_M_trace_plain p0 x42 hx43 _ _ ) ?_
        rintro _ _ _ - ⟨rfl, rfl, rfl⟩
        refine ⟨(Inc.cons (.head _) (Inc.cons (.tail _ (.head _)) Inc.nil)), ?_⟩
        refine Aw_q 8 rfl (by kernel_rfl) (by kernel_rfl) (by kernel_rfl) rfl rfl rfl (Qt_pick_t rfl rfl) ?_
        refine Aw_q 9 rfl (by kernel_rfl) (by kernel_rfl) (by kernel_rfl) rfl rfl rfl (Qt_move rfl) ?_
        refine Aw.known (d := 14) rfl (h44) ?_
        refine Aw_pass 10 rfl (by kernel_rfl) (by kernel_rfl) (by kernel_rfl) rfl rfl rfl rfl rfl rfl rfl ?_
        refine Aw_pass 11 rfl (by kernel_rfl) (by kernel_rfl) (by kernel_rfl) rfl rfl rfl rfl rfl rfl rfl ?_
        refine Aw_q 12 rfl (by kernel_rfl) (by kernel_rfl) (by kernel_rfl) rfl rfl rfl (Qt_pick_f rfl rfl) ?_
        refine Aw_q 13 rfl (by kernel_rfl) (by kernel_rfl) (by kernel_rfl) rfl rfl rfl (Qt_move rfl) ?_
        refine Aw_pass 14 rfl (by kernel_rfl) (by kernel_rfl) (by kernel_rfl) rfl rfl rfl rfl rfl rfl rfl ?_
        refine Aw_pass 15 rfl (by kernel_rfl) (by kernel_rfl) (by kernel_rfl) rfl rfl rfl rfl rfl rfl rfl ?_
        refine Aw_pass 16 rfl (by kernel_rfl) (by kernel_rfl) (by kernel_rfl) rfl rfl rfl rfl rfl rfl rfl ?_
        refine Aw_pass 17 rfl (by kernel_rfl) (by kernel_rfl) (by kernel_rfl) rfl rfl rfl rfl rfl rfl rfl ?_
        refine Aw_pass 18 rfl (by kernel_rfl) (by kernel_rfl) (by kernel_rfl) rfl rfl rfl rfl rfl rfl rfl ?_
        refine Aw_q 19 rfl (by kernel_rfl) (by kernel_rfl) (by kernel_rfl) rfl rfl rfl (Qt_pick_f rfl rfl) ?_
        refine Aw_q 20 rfl (by kernel_rfl) (by kernel_rfl) (by kernel_rfl) rfl rfl rfl (Qt_move rfl) ?_
        refine Aw_pass 21 rfl (by kernel_rfl) (by kernel_rfl) (by kernel_rfl) rfl rfl rfl rfl rfl rfl rfl ?_
        refine Aw_pass 22 rfl (by kernel_rfl) (by kernel_rfl) (by kernel_rfl) rfl rfl rfl rfl rfl rfl rfl ?_
        refine Aw_pass 23 rfl (by kernel_rfl) (by kernel_rfl) (by kernel_rfl) rfl rfl rfl rfl rfl rfl rfl ?_
        refine Aw_passU 24 rfl (by kernel_rfl) (by kernel_rfl) (by kernel_rfl) rfl rfl rfl rfl rfl ?_
        refine Aw_passU 25 rfl (by kernel_rfl) (by kernel_rfl) (by kernel_rfl) rfl rfl rfl rfl rfl ?_
        refine Aw_pass 26 rfl (by kernel_rfl) (by kernel_rfl) (by kernel_rfl) rfl rfl rfl rfl rfl rfl rfl ?_
        refine Aw_q 27 rfl (by kernel_rfl) (by kernel_rfl) (by kernel_rfl) rfl rfl rfl (Qt_pick_f rfl rfl) ?_
        refine Aw_q 28 rfl (by kernel_rfl) (by kernel_rfl) (by kernel_rfl) rfl rfl rfl (Qt_assign rfl) ?_
        refine Aw_done (by kernel_rfl) ?_
        refine Shift.rem .here ?_
        refine Shift.rem .here ?_
        refine Shift.done ?_
        exact ⟨[(4, (.bool false))], ⟨rfl, trivial⟩, false, rfl, rfl, rfl, H⟩
    · intro h41
      have h41 := dcd_t (nt_f (h41))
      have H := ift h41 H
      refine Cw_region_any [.blk b22 26 (Item.cells p1), .blk b21 26 (Item.cells p0)] rfl (Inc.cons (.head _) (Inc.cons (.tail _ (.head _)) Inc.nil)) ?_
      refine Aw_q 0 rfl (by kernel_rfl) (by kernel_rfl) (by kernel_rfl) rfl rfl rfl (Qt_fieldAddr (m := 0) rfl rfl rfl rfl rfl) ?_
      refine Aw_q 1 rfl (by kernel_rfl) (by kernel_rfl) (by kernel_rfl) rfl rfl rfl (Qt_load1 (v := (.int .i64 p0.thread)) rfl rfl rfl (Rdc.blk (.tail _ (.head _)) rfl)) ?_
      refine Aw_q 2 rfl (by kernel_rfl) (by kernel_rfl) (by kernel_rfl) rfl rfl rfl (Qt_fieldAddr (m := 0) rfl rfl rfl rfl rfl) ?_
      refine Aw_q 3 rfl (by kernel_rfl) (by kernel_rfl) (by kernel_rfl) rfl rfl rfl (Qt_load1 (v := (.int .i64 p1.thread)) rfl rfl rfl (Rdc.blk (.head _) rfl)) ?_
      refine Aw_q 4 rfl (by kernel_rfl) (by kernel_rfl) (by kernel_rfl) rfl rfl rfl (Qt_cmp rfl rfl rfl) ?_
      refine Aw_q 5 rfl (by kernel_rfl) (by kernel_rfl) (by kernel_rfl) rfl rfl rfl (Qt_move rfl) ?_
      refine Aw.known (d := 10) rfl (nt_mf (dcd_pos h41)) ?_
      refine Aw_pass 6 rfl (by kernel_rfl) (by kernel_rfl) (by kernel_rfl) rfl rfl rfl rfl rfl rfl rfl ?_
      refine Aw_pass 7 rfl (by kernel_rfl) (by kernel_rfl) (by kernel_rfl) rfl rfl rfl rfl rfl rfl rfl ?_
      refine Aw_q 8 rfl (by kernel_rfl) (by kernel_rfl) (by kernel_rfl) rfl rfl rfl (Qt_pick_f rfl rfl) ?_
      refine Aw_q 9 rfl (by kernel_rfl) (by kernel_rfl) (by kernel_rfl) rfl rfl rfl (Qt_move rfl) ?_
      refine Aw_pass 10 rfl (by kernel_rfl) (by kernel_rfl) (by kernel_rfl) rfl rfl rfl rfl rfl rfl rfl ?_
      refine Aw_pass 11 rfl (by kernel_rfl) (by kernel_rfl) (by kernel_rfl) rfl rfl rfl rfl rfl rfl rfl ?_
      refine Aw_q 12 rfl (by kernel_rfl) (by kernel_rfl) (by kernel_rfl) rfl rfl rfl (Qt_pick_f rfl rfl) ?_
      refine Aw_q 13 rfl (by kernel_rfl) (by kernel_rfl) (by kernel_rfl) rfl rfl rfl (Qt_move rfl) ?_
      refine Aw_pass 14 rfl (by kernel_rfl) (by kernel_rfl) (by kernel_rfl) rfl rfl rfl rfl rfl rfl rfl ?_
      refine Aw_pass 15 rfl (by kernel_rfl) (by kernel_rfl) (by kernel_rfl) rfl rfl rfl rfl rfl rfl rfl ?_
      refine Aw_pass 16 rfl (by kernel_rfl) (by kernel_rfl) (by kernel_rfl) rfl rfl rfl rfl rfl rfl rfl ?_
      refine Aw_pass 17 rfl (by kernel_rfl) (by kernel_rfl) (by kernel_rfl) rfl rfl rfl rfl rfl rfl rfl ?_
      refine Aw_pass 18 rfl (by kernel_rfl) (by kernel_rfl) (by kernel_rfl) rfl rfl rfl rfl rfl rfl rfl ?_
      refine Aw_q 19 rfl (by kernel_rfl) (by kernel_rfl) (by kernel_rfl) rfl rfl rfl (Qt_pick_f rfl rfl) ?_
      refine Aw_q 20 rfl (by kernel_rfl) (by kernel_rfl) (by kernel_rfl) rfl rfl rfl (Qt_move rfl) ?_
      refine Aw_pass 21 rfl (by kernel_rfl) (by kernel_rfl) (by kernel_rfl) rfl rfl rfl rfl rfl rfl rfl ?_
      refine Aw_pass 22 rfl (by kernel_rfl) (by kernel_rfl) (by kernel_rfl) rfl rfl rfl rfl rfl rfl rfl ?_
      refine Aw_pass 23 rfl (by kernel_rfl) (by kernel_rfl) (by kernel_rfl) rfl rfl rfl rfl rfl rfl rfl ?_
      refine Aw_passU 24 rfl (by kernel_rfl) (by kernel_rfl) (by kernel_rfl) rfl rfl rfl rfl rfl ?_
      refine Aw_passU 25 rfl (by kernel_rfl) (by kernel_rfl) (by kernel_rfl) rfl rfl rfl rfl rfl ?_
      refine Aw_pass 26 rfl (by kernel_rfl) (by kernel_rfl) (by kernel_rfl) rfl rfl rfl rfl rfl rfl rfl ?_
      refine Aw_q 27 rfl (by kernel_rfl) (by kernel_rfl) (by kernel_rfl) rfl rfl rfl (Qt_pick_f rfl rfl) ?_
      refine Aw_q 28 rfl (by kernel_rfl) (by kernel_rfl) (by kernel_rfl) rfl rfl rfl (Qt_assign rfl) ?_
      refine Aw_done (by kernel_rfl) ?_
      refine Shift.rem .here ?_
      refine Shift.rem .here ?_
      refine Shift.done ?_
      exact ⟨[(4, (.bool false))], ⟨rfl, trivial⟩, false, rfl, rfl, rfl, H⟩
  rintro _ _ _ - ⟨t40, rfl, rfl, rfl, H⟩
  unfold M_trace_Conflict_J1 at H
  refine Cw_ret ?_
  obtain ey0 := inj1 H
  subst y0
  refine ⟨(by first | exact .inl rfl | exact .inr rfl), [(.bool t40)], ⟨(.bool t40), _, rfl, rfl, rfl⟩, ?_⟩
  refine Shift.done ?_
  exact ⟨rfl, rfl, rfl⟩

set_option maxHeartbeats 1000000 in
theorem c_M_trace_Replay (p0 : Memory) (vp0_words : SV) (vp0_lists : SV) (p1 : List Item) (vp1 : SV) (y0 : Memory) (y1 : Bool) (H : M_trace_Replay p0 p1 = some (y0, y1)) (K : Kp) (G : List Ent) (hp0_words : Slr Ty.u64 K (sv vp0_words) p0.words) (hp0_lists : Slr (Ty.sl Ty.i64) K (sv vp0_lists) p0.lists) (hp1 : Slr TyItem K (sv vp1) p1) :
    Fc Try.prog 48 #[(.agg (Memory.cells p0 vp0_words vp0_lists).toArray), (sv vp1)] K (G) (fun v K' G' => ∃ (wy0_words : SV) (wy0_lists : SV), v = (.tuple #[(.agg (Memory.cells y0 wy0_words wy0_lists).toArray), (.bool y1)]) ∧ G = G' ∧ Slr Ty.u64 K' (sv wy0_words) y0.words ∧ Slr (Ty.sl Ty.i64) K' (sv wy0_lists) y0.lists) := by
  refine Fc_body Try.func48 rfl Try.ntmps48 Try.results48 rfl ?_
  unfold M_trace_Replay at H
  refine Cw_seq ?_
  refine Cw_region ?_
  refine Ow_cons rfl (OpW_box (cs := (Memory.cells p0 vp0_words vp0_lists)) rfl rfl rfl (fun b95 => ?_))
  refine Ow_cons rfl (OpW_alloc (cs := (Memory.cells (Memory.mk [] [] 0) nilS nilS)) rfl rfl rfl rfl (fun b96 => ?_))
  refine Ow_q rfl rfl rfl (Qt_assign rfl) ?_
  refine Ow_nil ?_
  refine Cw_join (fun env' K' G' => ∃ (v171 : SV) (l172 : List Int) (v174 : SV) (l175 : List (List Int)) (i177 : Int), [(2, (.pointer (some ((⟨b95, 0, none⟩ : Addr).add 0)))), (4, (.pointer (some ((⟨b96, 0, none⟩ : Addr).add 0))))] = env' ∧ (.blk b96 49 (Memory.cells (Memory.mk [] [] 0) nilS nilS)) :: (.blk b95 49 (Memory.cells (Memory.mk l172 l175 i177) v171 v174)) :: G = G' ∧ M_trace_Replay_J1 l172 l175 i177 = some (y0, y1) ∧ Slr Ty.u64 K' (sv v171) l172 ∧ Slr (Ty.sl Ty.i64) K' (sv v174) l175) ?_ ?_
  · skip
    refine Cw_seq ?_
    refine Cw_region ?_
    refine Ow_q rfl rfl rfl (Qt_move rfl) ?_
    refine Ow_q rfl rfl rfl (Q_len (T := TyItem) hp1 rfl rfl) ?_
    refine Ow_q rfl rfl rfl (Qt_move rfl) ?_
    refine Ow_nil ?_
    refine Cw_block ?_
    refine Cw_loopM (fun n252 env' K' G' => ∃ (i244 : Int) (v245 : SV) (l246 : List Int) (v248 : SV) (l249 : List (List Int)) (i251 : Int), [(2, (.pointer (some ((⟨b95, 0, none⟩ : Addr).add 0)))), (4, (.pointer (some ((⟨b96, 0, none⟩ : Addr).add 0)))), (11, (sv vp1)), (12, (.int .i64 (p1.length : Int))), (13, (.int .i64 i244))] = env' ∧ (.blk b96 49 (Memory.cells (Memory.mk [] [] 0) nilS nilS)) :: (.blk b95 49 (Memory.cells (Memory.mk l246 l249 i251) v245 v248)) :: G = G' ∧ lp4 (M_trace_Replay_L1 p1) n252 i244 l246 l249 i251 = some (y0, y1) ∧ Slr Ty.u64 K' (sv v245) l246 ∧ Slr (Ty.sl Ty.i64) K' (sv v248) l249) BIG ?_ ?_
    · skip
      refine Shift.pull (.there .here) ?_
      refine Shift.pull (.there .here) ?_
      refine Shift.done ?_
      exact ⟨[(2, (.pointer (some ((⟨b95, 0, none⟩ : Addr).add 0)))), (4, (.pointer (some ((⟨b96, 0, none⟩ : Addr).add 0)))), (11, (sv vp1)), (12, (.int .i64 (p1.length : Int))), (13, (.int .i64 0))], ⟨rfl, rfl, rfl, rfl, rfl, trivial⟩, 0, vp0_words, p0.words, vp0_lists, p0.lists, p0.tick, rfl, rfl, H, hp0_words, hp0_lists⟩
    rintro n252 _ K253 _ hK254 ⟨i244, v245, l246, v248, l249, i251, rfl, rfl, H, hs247, hs250⟩
    obtain ⟨m255, k256, rfl, hkk257, H⟩ := lps4 H
    unfold M_trace_Replay_L1 at H
    refine Cw_seq ?_
    refine Cw_region ?_
    refine Ow_q rfl rfl rfl (Qt_cmp rfl rfl rfl) ?_
    refine Ow_nil ?_
    refine Cw_seq ?_
    refine Cw_cond rfl ?_ ?_
    · intro h259
      have h259 := dcd_t (h259)
      have H := ift h259 H
      refine Cw_skip ?_
      refine Cw_seq ?_
      refine Cw_block ?_
      refine Cw_seq ?_
      refine Cw_region ?_
      obtain ⟨x285, hx286, H⟩ := bnd H
      have hs287 := (hp1).mono hK254
      obtain ⟨r288, hr289, hk290⟩ := Slr.at hs287 hx286
      obtain rfl := hr289
      refine Ow_q rfl rfl rfl (Q_ix (T := TyItem) hs287 hx286 rfl rfl rfl rfl rfl) ?_
      refine Ow_q rfl rfl rfl (Qt_loadA (m := 8) (cs := (Item.cells x285)) rfl rfl rfl rfl ⟨rfl, Rdc.k hk290 rfl⟩) ?_
      refine Ow_cons rfl (OpW_alloc (cs := (Item.cells (Item.mk 0 (Access.mk 0 0 0 0 0) 0 false))) rfl rfl rfl rfl (fun b291 => ?_))
      refine Ow_cons rfl (OpW_store (vs := (Item.cells x285)) (all' := (Item.cells x285)) rfl rfl rfl rfl rfl .here rfl rfl rfl ?_)
      refine Ow_nil ?_
      refine Cw_seq ?_
      refine Cw_region ?_
      refine Ow_q rfl rfl rfl (Qt_loadA (m := 3) (cs := (Memory.cells (Memory.mk l246 l249 i251) v245 v248)) rfl rfl rfl rfl ⟨rfl, Rdc.blk (.tail _ (.tail _ (.head _))) rfl⟩) ?_
      refine Ow_q rfl rfl rfl (Qt_fieldAddr (m := 1) rfl rfl rfl rfl rfl) ?_
      refine Ow_q rfl rfl rfl (Qt_loadA (m := 5) (cs := (Access.cells x285.access)) rfl rfl rfl rfl ⟨rfl, Rdc.blk (.head _) rfl⟩) ?_
      obtain ⟨x292, x293, x294, hx295, H⟩ := bnd3 H
      refine Ow_cons rfl (OpW_call rfl Try.call34 rfl rfl (c_M_memory_Apply (Memory.mk l246 l249 i251) v245 v248 x285.access x292 x293 x294 hx295 _ _ hs247 hs250) ?_)
      rintro _ K299 _ hK300 ⟨v296, v297, v298, rfl, rfl, hs301, hs302, hs303⟩
      refine Ow_q rfl rfl rfl (Qt_move rfl) ?_
      refine Ow_q rfl rfl rfl (Qt_extract rfl rfl) ?_
      refine Ow_q rfl rfl rfl (Qt_extract rfl rfl) ?_
      refine Ow_q rfl rfl rfl (Qt_extract rfl rfl) ?_
      refine Ow_cons rfl (OpW_alloc (cs := (Memory.cells (Memory.mk [] [] 0) nilS nilS)) rfl rfl rfl rfl (fun b304 => ?_))
      refine Ow_cons rfl (OpW_alloc (cs := (Answer.cells (Answer.mk 0 false false []) nilS)) rfl rfl rfl rfl (fun b305 => ?_))
      refine Ow_cons rfl (OpW_store (vs := (Memory.cells x292 v296 v297)) (all' := (Memory.cells x292 v296 v297)) rfl rfl rfl rfl rfl (.there .here) rfl rfl rfl ?_)
      refine Ow_cons rfl (OpW_store (vs := (Answer.cells x293 v298)) (all' := (Answer.cells x293 v298)) rfl rfl rfl rfl rfl .here rfl rfl rfl ?_)
      refine Ow_q rfl rfl rfl (Qt_assign rfl) ?_
      refine Ow_nil ?_
      refine Cw_seq ?_
      refine Cw_join (fun env' K' G' => ∃ (t312 : Bool), [(2, (.pointer (some ((⟨b95, 0, none⟩ : Addr).add 0)))), (4, (.pointer (some ((⟨b96, 0, none⟩ : Addr).add 0)))), (8, (.pointer (some ((⟨b304, 0, none⟩ : Addr).add 0)))), (11, (sv vp1)), (12, (.int .i64 (p1.length : Int))), (13, (.int .i64 i244)), (40, (.bool t312))] = env' ∧ K299 = K' ∧ (.blk b304 49 (Memory.cells x292 v296 v297)) :: (.blk b96 49 (Memory.cells (Memory.mk [] [] 0) nilS nilS)) :: (.blk b95 49 (Memory.cells (Memory.mk l246 l249 i251) v245 v248)) :: G = G' ∧ M_trace_Replay_J2 p1 i244 x292 l246 l249 i251 k256 t312 = some (y0, y1)) ?_ ?_
      · skip
        refine Cw_region ?_
        refine Ow_q rfl rfl rfl (Qt_move rfl) ?_
        refine Ow_q rfl rfl rfl (Qt_not rfl) ?_
        refine Ow_q rfl rfl rfl (Qt_move rfl) ?_
        refine Ow_caseG rfl rfl rfl ?_ ?_
        · intro h313
          have h313 := nt_t (h313)
          have H := iff_ (btf h313) H
          refine Ow_pass rfl rfl rfl rfl rfl rfl rfl ?_
          refine Ow_pass rfl rfl rfl rfl rfl rfl rfl ?_
          refine Ow_pass rfl rfl rfl rfl rfl rfl rfl ?_
          refine Ow_pass rfl rfl rfl rfl rfl rfl rfl ?_
          refine Ow_pass rfl rfl rfl rfl rfl rfl rfl ?_
          refine Ow_q rfl rfl rfl (Qt_pick_t rfl rfl) ?_
          refine Ow_q rfl rfl rfl (Qt_move rfl) ?_
          refine Ow_pass rfl rfl rfl rfl rfl rfl rfl ?_
          refine Ow_pass rfl rfl rfl rfl rfl rfl rfl ?_
          refine Ow_pass rfl rfl rfl rfl rfl rfl rfl ?_
          refine Ow_pass rfl rfl rfl rfl rfl rfl rfl ?_
          refine Ow_pass rfl rfl rfl rfl rfl rfl rfl ?_
          refine Ow_q rfl rfl rfl (Qt_pick_t rfl rfl) ?_
          refine Ow_nil ?_
          refine Shift.pull (.there (.there (.there (.there .here)))) ?_
          refine Shift.pull (.there (.there (.there (.there .here)))) ?_
          refine Shift.pull (.there (.there (.there .here))) ?_
          refine Shift.rem (.there (.there (.there .here))) ?_
          refine Shift.rem (.there (.there (.there .here))) ?_
          refine Shift.done ?_
          exact ⟨[(2, (.pointer (some ((⟨b95, 0, none⟩ : Addr).add 0)))), (4, (.pointer (some ((⟨b96, 0, none⟩ : Addr).add 0)))), (8, (.pointer (some ((⟨b304, 0, none⟩ : Addr).add 0)))), (11, (sv vp1)), (12, (.int .i64 (p1.length : Int))), (13, (.int .i64 i244)), (40, (.bool true))], ⟨rfl, rfl, rfl, rfl, rfl, rfl, rfl, trivial⟩, true, rfl, rfl, rfl, H⟩
        · intro h313
          have h313 := nt_f (h313)
          have H := ift h313 H
          refine Ow_qw rfl rfl rfl rfl rfl rfl (Qt_fieldAddr (m := 0) rfl rfl rfl rfl rfl) ?_
          refine Ow_qw rfl rfl rfl rfl rfl rfl (Qt_load1 (v := (.int .u64 x293.value)) rfl rfl rfl (Rdc.blk (.head _) rfl)) ?_
          refine Ow_qw rfl rfl rfl rfl rfl rfl (Qt_fieldAddr (m := 6) rfl rfl rfl rfl rfl) ?_
          refine Ow_qw rfl rfl rfl rfl rfl rfl (Qt_load1 (v := (.int .u64 x285.value)) rfl rfl rfl (Rdc.blk (.tail _ (.tail _ (.head _))) rfl)) ?_
          refine Ow_qw rfl rfl rfl rfl rfl rfl (Qt_cmp rfl rfl rfl) ?_
          refine Ow_q rfl rfl rfl (Qt_pick_f rfl rfl) ?_
          refine Ow_q rfl rfl rfl (Qt_move rfl) ?_
          refine Ow_caseG rfl rfl rfl ?_ ?_
          · intro h314
            have h314 := dcd_f (nt_t (h314))
            have H := iff_ h314 H
            refine Ow_pass rfl rfl rfl rfl rfl rfl rfl ?_
            refine Ow_pass rfl rfl rfl rfl rfl rfl rfl ?_
            refine Ow_pass rfl rfl rfl rfl rfl rfl rfl ?_
            refine Ow_pass rfl rfl rfl rfl rfl rfl rfl ?_
            refine Ow_pass rfl rfl rfl rfl rfl rfl rfl ?_
            refine Ow_q rfl rfl rfl (Qt_pick_t rfl rfl) ?_
            refine Ow_nil ?_
            refine Shift.pull (.there (.there (.there (.there .here)))) ?_
            refine Shift.pull (.there (.there (.there (.there .here)))) ?_
            refine Shift.pull (.there (.there (.there .here))) ?_
            refine Shift.rem (.there (.there (.there .here))) ?_
            refine Shift.rem (.there (.there (.there .here))) ?_
            refine Shift.done ?_
            exact ⟨[(2, (.pointer (some ((⟨b95, 0, none⟩ : Addr).add 0)))), (4, (.pointer (some ((⟨b96, 0, none⟩ : Addr).add 0)))), (8, (.pointer (some ((⟨b304, 0, none⟩ : Addr).add 0)))), (11, (sv vp1)), (12, (.int .i64 (p1.length : Int))), (13, (.int .i64 i244)), (40, (.bool true))], ⟨rfl, rfl, rfl, rfl, rfl, rfl, rfl, trivial⟩, true, rfl, rfl, rfl, H⟩
          · intro h314
            have h314 := dcd_t (nt_f (h314))
            have H := ift h314 H
            refine Ow_qw rfl rfl rfl rfl rfl rfl (Qt_fieldAddr (m := 1) rfl rfl rfl rfl rfl) ?_
            refine Ow_qw rfl rfl rfl rfl rfl rfl (Qt_load1 (v := (.bool x293.ok)) rfl rfl rfl (Rdc.blk (.head _) rfl)) ?_
            refine Ow_qw rfl rfl rfl rfl rfl rfl (Qt_fieldAddr (m := 7) rfl rfl rfl rfl rfl) ?_
            refine Ow_qw rfl rfl rfl rfl rfl rfl (Qt_load1 (v := (.bool x285.ok)) rfl rfl rfl (Rdc.blk (.tail _ (.tail _ (.head _))) rfl)) ?_
            refine Ow_qw rfl rfl rfl rfl rfl rfl (Qt_neB rfl rfl rfl) ?_
            refine Ow_q rfl rfl rfl (Qt_pick_f rfl rfl) ?_
            refine Ow_nil ?_
            refine Shift.pull (.there (.there (.there (.there .here)))) ?_
            refine Shift.pull (.there (.there (.there (.there .here)))) ?_
            refine Shift.pull (.there (.there (.there .here))) ?_
            refine Shift.rem (.there (.there (.there .here))) ?_
            refine Shift.rem (.there (.there (.there .here))) ?_
            refine Shift.done ?_
            exact ⟨[(2, (.pointer (some ((⟨b95, 0, none⟩ : Addr).add 0)))), (4, (.pointer (some ((⟨b96, 0, none⟩ : Addr).add 0)))), (8, (.pointer (some ((⟨b304, 0, none⟩ : Addr).add 0)))), (11, (sv vp1)), (12, (.int .i64 (p1.length : Int))), (13, (.int .i64 i244)), (40, (.bool (!((x293.ok == x285.ok)))))], ⟨rfl, rfl, rfl, rfl, rfl, rfl, rfl, trivial⟩, (!((x293.ok == x285.ok))), rfl, rfl, rfl, H⟩
      rintro _ _ _ - ⟨t312, rfl, rfl, rfl, H⟩
      unfold M_trace_Replay_J2 at H
      refine Cw_cond rfl ?_ ?_
      · intro h315
        have H := ift h315 H
        refine Cw_seq ?_
        refine Cw_region ?_
        refine Ow_q rfl rfl rfl (Qt_build (cs := (Memory.cells (Memory.mk [] [] 0) nilS nilS)) rfl rfl rfl rfl rfl rfl) ?_
        refine Ow_cons rfl (OpW_store (vs := (Memory.cells (Memory.mk [] [] 0) nilS nilS)) (all' := (Memory.cells (Memory.mk [] [] 0) nilS nilS)) rfl rfl rfl rfl rfl (.there .here) rfl rfl rfl ?_)
        refine Ow_q rfl rfl rfl (Qt_assign rfl) ?_
        refine Ow_nil ?_
        refine Cw_ret ?_
        obtain ⟨ey0, ey1⟩ := inj2 H
        subst y0 y1
        refine ⟨(by first | exact .inl rfl | exact .inr rfl), [(.agg (Memory.cells (Memory.mk [] [] 0) nilS nilS).toArray), (.bool false)], ⟨(.agg (Memory.cells (Memory.mk [] [] 0) nilS nilS).toArray), _, rfl, ⟨_, 3, (Memory.cells (Memory.mk [] [] 0) nilS nilS), rfl, rfl, rfl, rfl, ⟨rfl, Rdc.blk (.tail _ (.head _)) rfl⟩, rfl⟩, ⟨(.bool false), _, rfl, rfl, rfl⟩⟩, ?_⟩
        refine Shift.rem .here ?_
        refine Shift.rem .here ?_
        refine Shift.rem .here ?_
        refine Shift.done ?_
        exact ⟨nilS, nilS, rfl, rfl, (Slr.nil Ty.u64 _), (Slr.nil (Ty.sl Ty.i64) _)⟩
      · intro h315
        have H := iff_ (btf h315) H
        refine Cw_skip ?_
        refine Cw_region ?_
        refine Ow_q rfl rfl rfl (Qt_loadA (m := 3) (cs := (Memory.cells x292 v296 v297)) rfl rfl rfl rfl ⟨rfl, Rdc.blk (.head _) rfl⟩) ?_
        refine Ow_cons rfl (OpW_store (vs := (Memory.cells x292 v296 v297)) (all' := (Memory.cells x292 v296 v297)) rfl rfl rfl rfl rfl (.there (.there .here)) rfl rfl rfl ?_)
        refine Ow_nil ?_
        refine Cw_region ?_
        refine Ow_q rfl rfl rfl (Qt_arith (e := wI (i244 + 1)) rfl rfl rfl rfl) ?_
        refine Ow_q rfl rfl rfl (Qt_move rfl) ?_
        refine Ow_nil ?_
        refine Shift.pull (.there (.there .here)) ?_
        refine Shift.pull (.there (.there .here)) ?_
        refine Shift.rem (.there (.there .here)) ?_
        refine Shift.done ?_
        exact ⟨[(2, (.pointer (some ((⟨b95, 0, none⟩ : Addr).add 0)))), (4, (.pointer (some ((⟨b96, 0, none⟩ : Addr).add 0)))), (11, (sv vp1)), (12, (.int .i64 (p1.length : Int))), (13, (.int .i64 (wI (i244 + 1))))], ⟨rfl, rfl, rfl, rfl, rfl, trivial⟩, _, Nat.lt_succ_self _, (wI (i244 + 1)), v296, x292.words, v297, x292.lists, x292.tick, rfl, rfl, (hkk257 ▸ H), hs301, hs302⟩
    · intro h259
      have h259 := dcd_f (h259)
      have H := iff_ h259 H
      refine Cw_exit ?_
      refine Shift.pull (.there .here) ?_
      refine Shift.pull (.there .here) ?_
      refine Shift.done ?_
      exact ⟨[(2, (.pointer (some ((⟨b95, 0, none⟩ : Addr).add 0)))), (4, (.pointer (some ((⟨b96, 0, none⟩ : Addr).add 0))))], ⟨rfl, rfl, trivial⟩, v245, l246, v248, l249, i251, rfl, rfl, H, hs247, hs250⟩
  rintro _ K316 _ hK317 ⟨v171, l172, v174, l175, i177, rfl, rfl, H, hs173, hs176⟩
  unfold M_trace_Replay_J1 at H
  refine Cw_seq ?_
  refine Cw_region ?_
  refine Ow_q rfl rfl rfl (Qt_loadA (m := 3) (cs := (Memory.cells (Memory.mk l172 l175 i177) v171 v174)) rfl rfl rfl rfl ⟨rfl, Rdc.blk (.tail _ (.head _)) rfl⟩) ?_
  refine Ow_cons rfl (OpW_store (vs := (Memory.cells (Memory.mk l172 l175 i177) v171 v174)) (all' := (Memory.cells (Memory.mk l172 l175 i177) v171 v174)) rfl rfl rfl rfl rfl .here rfl rfl rfl ?_)
  refine Ow_q rfl rfl rfl (Qt_assign rfl) ?_
  refine Ow_nil ?_
  refine Cw_ret ?_
  obtain ⟨ey0, ey1⟩ := inj2 H
  subst y0 y1
  refine ⟨(by first | exact .inl rfl | exact .inr rfl), [(.agg (Memory.cells (Memory.mk l172 l175 i177) v171 v174).toArray), (.bool true)], ⟨(.agg (Memory.cells (Memory.mk l172 l175 i177) v171 v174).toArray), _, rfl, ⟨_, 3, (Memory.cells (Memory.mk l172 l175 i177) v171 v174), rfl, rfl, rfl, rfl, ⟨rfl, Rdc.blk (.head _) rfl⟩, rfl⟩, ⟨(.bool true), _, rfl, rfl, rfl⟩⟩, ?_⟩
  refine Shift.rem .here ?_
  refine Shift.rem .here ?_
  refine Shift.done ?_
  exact ⟨v171, v174, rfl, rfl, hs173, hs176⟩


end Go.Hx
