/- Printed by program. -/
import Derived.Test.YthpjaddchdnejaaXBM
namespace Go.Hx
open Go Go.Proofs
set_option linter.unusedSimpArgs false
set_option linter.unusedVariables false
set_option maxRecDepth 10000
set_option maxHeartbeats 1000000 in
theorem c_M_ref4_Place (p0 : Item) (y0 : Int) (H : M_ref4_Place p0 = some y0) (K : Kp) (G : List Ent)  :
    Fc Try.prog 62 #[(.agg (Item.cells p0).toArray)] K (G) (fun v K' G' => v = (.int .i64 y0) ∧ K = K' ∧ G = G') := by
  refine Fc_body Try.func62 rfl Try.ntmps62 Try.results62 rfl ?_
  unfold M_ref4_Place at H
  refine Cw_seq ?_
  refine Cw_region ?_
  refine Ow_cons rfl (OpW_box (cs := (Item.cells p0)) rfl rfl rfl (fun b13 => ?_))
  refine Ow_q rfl rfl rfl (Qt_assign rfl) ?_
  refine Ow_nil ?_
  refine Cw_seq ?_
  refine Cw_region ?_
  refine Ow_q rfl rfl rfl (Qt_fieldAddr (m := 1) rfl rfl rfl rfl rfl) ?_
  refine Ow_q rfl rfl rfl (Qt_loadA (m := 5) (cs := (Access.cells p0.access)) rfl rfl rfl rfl ⟨rfl, Rdc.blk (.head _) rfl⟩) ?_
  refine Ow_cons rfl (OpW_alloc (cs := (Access.cells (Access.mk 0 0 0 0 0))) rfl rfl rfl rfl (fun b14 => ?_))
  refine Ow_cons rfl (OpW_store (vs := (Access.cells p0.access)) (all' := (Access.cells p0.access)) rfl rfl rfl rfl rfl .here rfl rfl rfl ?_)
  refine Ow_nil ?_
  refine Cw_seq ?_
  refine Cw_block ?_
  refine Cw_join (fun env' K' G' => ∃ (t27 : Bool) (i28 : Int) (i29 : Int) (i30 : Int) (i31 : Int) (i32 : Int), [(3, (.pointer (some ((⟨b14, 0, none⟩ : Addr).add 0)))), (6, (.bool t27))] = env' ∧ K = K' ∧ (.blk b14 54 (Access.cells (Access.mk i28 i29 i30 i31 i32))) :: G = G' ∧ M_ref4_Place_J1 t27 i28 i29 i30 i31 i32 = some y0) ?_ ?_
  · skip
    refine Cw_region ?_
    refine Ow_q rfl rfl rfl (Qt_fieldAddr (m := 1) rfl rfl rfl rfl rfl) ?_
    refine Ow_q rfl rfl rfl (Qt_load1 (v := (.int .i64 p0.access.address)) rfl rfl rfl (Rdc.blk (.head _) rfl)) ?_
    refine Ow_q rfl rfl rfl (Qt_cmp rfl rfl rfl) ?_
    refine Ow_q rfl rfl rfl (Qt_move rfl) ?_
    refine Ow_caseG rfl rfl rfl ?_ ?_
    · intro h33
      have h33 := dcd_t (h33)
      have H := ift h33 H
      refine Ow_pass rfl rfl rfl rfl rfl rfl rfl ?_
      refine Ow_pass rfl rfl rfl rfl rfl rfl rfl ?_
      refine Ow_pass rfl rfl rfl rfl rfl rfl rfl ?_
      refine Ow_q rfl rfl rfl (Qt_pick_t rfl rfl) ?_
      refine Ow_q rfl rfl rfl (Qt_move rfl) ?_
      refine Ow_pass rfl rfl rfl rfl rfl rfl rfl ?_
      refine Ow_pass rfl rfl rfl rfl rfl rfl rfl ?_
      refine Ow_pass rfl rfl rfl rfl rfl rfl rfl ?_
      refine Ow_q rfl rfl rfl (Qt_pick_t rfl rfl) ?_
      refine Ow_q rfl rfl rfl (Qt_assign rfl) ?_
      refine Ow_nil ?_
      refine Shift.rem (.there .here) ?_
      refine Shift.done ?_
      exact ⟨[(3, (.pointer (some ((⟨b14, 0, none⟩ : Addr).add 0)))), (6, (.bool true))], ⟨rfl, rfl, trivial⟩, true, p0.access.kind, p0.access.address, p0.access.old, p0.access.new, p0.access.until_, rfl, rfl, rfl, H⟩
    · intro h33
      have h33 := dcd_f (h33)
      have H := iff_ h33 H
      refine Ow_qw rfl rfl rfl rfl rfl rfl (Qt_fieldAddr (m := 0) rfl rfl rfl rfl rfl) ?_
      refine Ow_qw rfl rfl rfl rfl rfl rfl (Qt_load1 (v := (.int .i64 p0.access.kind)) rfl rfl rfl (Rdc.blk (.head _) rfl)) ?_
      refine Ow_qw rfl rfl rfl rfl rfl rfl (Qt_cmp rfl rfl rfl) ?_
      refine Ow_q rfl rfl rfl (Qt_pick_f rfl rfl) ?_
      refine Ow_q rfl rfl rfl (Qt_move rfl) ?_
      refine Ow_caseG rfl rfl rfl ?_ ?_
      · intro h34
        have h34 := dcd_t (h34)
        have H := ift h34 H
        refine Ow_pass rfl rfl rfl rfl rfl rfl rfl ?_
        refine Ow_pass rfl rfl rfl rfl rfl rfl rfl ?_
        refine Ow_pass rfl rfl rfl rfl rfl rfl rfl ?_
        refine Ow_q rfl rfl rfl (Qt_pick_t rfl rfl) ?_
        refine Ow_q rfl rfl rfl (Qt_assign rfl) ?_
        refine Ow_nil ?_
        refine Shift.rem (.there .here) ?_
        refine Shift.done ?_
        exact ⟨[(3, (.pointer (some ((⟨b14, 0, none⟩ : Addr).add 0)))), (6, (.bool true))], ⟨rfl, rfl, trivial⟩, true, p0.access.kind, p0.access.address, p0.access.old, p0.access.new, p0.access.until_, rfl, rfl, rfl, H⟩
      · intro h34
        have h34 := dcd_f (h34)
        have H := iff_ h34 H
        refine Ow_qw rfl rfl rfl rfl rfl rfl (Qt_fieldAddr (m := 0) rfl rfl rfl rfl rfl) ?_
        refine Ow_qw rfl rfl rfl rfl rfl rfl (Qt_load1 (v := (.int .i64 p0.access.kind)) rfl rfl rfl (Rdc.blk (.head _) rfl)) ?_
        refine Ow_qw rfl rfl rfl rfl rfl rfl (Qt_cmp rfl rfl rfl) ?_
        refine Ow_q rfl rfl rfl (Qt_pick_f rfl rfl) ?_
        refine Ow_q rfl rfl rfl (Qt_assign rfl) ?_
        refine Ow_nil ?_
        refine Shift.rem (.there .here) ?_
        refine Shift.done ?_
        exact ⟨[(3, (.pointer (some ((⟨b14, 0, none⟩ : Addr).add 0)))), (6, (.bool (dcd (p0.access.kind > 9))))], ⟨rfl, rfl, trivial⟩, (dcd (p0.access.kind > 9)), p0.access.kind, p0.access.address, p0.access.old, p0.access.new, p0.access.until_, rfl, rfl, rfl, H⟩
  rintro _ _ _ - ⟨t27, i28, i29, i30, i31, i32, rfl, rfl, rfl, H⟩
  unfold M_ref4_Place_J1 at H
  refine Cw_cond rfl ?_ ?_
  · intro h35
    have H := ift h35 H
    refine Cw_seq ?_
    refine Cw_region ?_
    refine Ow_q rfl rfl rfl (Qt_assign rfl) ?_
    refine Ow_nil ?_
    refine Cw_ret ?_
    obtain ey0 := inj1 H
    subst y0
    refine ⟨(by first | exact .inl rfl | exact .inr rfl), [(.int .i64 1099511627776)], ⟨(.int .i64 1099511627776), _, rfl, rfl, rfl⟩, ?_⟩
    refine Shift.rem .here ?_
    refine Shift.done ?_
    exact ⟨rfl, rfl, rfl⟩
  · intro h35
    have H := iff_ (btf h35) H
    refine Cw_seq ?_
    refine Cw_region ?_
    refine Ow_q rfl rfl rfl (Qt_fieldAddr (m := 0) rfl rfl rfl rfl rfl) ?_
    refine Ow_q rfl rfl rfl (Qt_load1 (v := (.int .i64 i28)) rfl rfl rfl (Rdc.blk (.head _) rfl)) ?_
    refine Ow_q rfl rfl rfl (Qt_cmp rfl rfl rfl) ?_
    refine Ow_q rfl rfl rfl (Qt_assign rfl) ?_
    refine Ow_nil ?_
    refine Cw_cond rfl ?_ ?_
    · intro h36
      have h36 := dcd_t (h36)
      have H := ift h36 H
      refine Cw_seq ?_
      refine Cw_region ?_
      refine Ow_q rfl rfl rfl (Qt_fieldAddr (m := 1) rfl rfl rfl rfl rfl) ?_
      refine Ow_q rfl rfl rfl (Qt_load1 (v := (.int .i64 i29)) rfl rfl rfl (Rdc.blk (.head _) rfl)) ?_
      refine Ow_q rfl rfl rfl (Qt_arith (e := wI ((-1) - i29)) rfl rfl rfl rfl) ?_
      refine Ow_q rfl rfl rfl (Qt_assign rfl) ?_
      refine Ow_nil ?_
      refine Cw_ret ?_
      obtain ey0 := inj1 H
      subst y0
      refine ⟨(by first | exact .inl rfl | exact .inr rfl), [(.int .i64 (wI ((-1) - i29)))], ⟨(.int .i64 (wI ((-1) - i29))), _, rfl, rfl, rfl⟩, ?_⟩
      refine Shift.rem .here ?_
      refine Shift.done ?_
      exact ⟨rfl, rfl, rfl⟩
    · intro h36
      have h36 := dcd_f (h36)
      have H := iff_ h36 H
      refine Cw_skip ?_
      refine Cw_seq ?_
      refine Cw_region ?_
      refine Ow_q rfl rfl rfl (Qt_fieldAddr (m := 1) rfl rfl rfl rfl rfl) ?_
      refine Ow_q rfl rfl rfl (Qt_load1 (v := (.int .i64 i29)) rfl rfl rfl (Rdc.blk (.head _) rfl)) ?_
      refine Ow_q rfl rfl rfl (Qt_assign rfl) ?_
      refine Ow_nil ?_
      refine Cw_ret ?_
      obtain ey0 := inj1 H
      subst y0
      refine ⟨(by first | exact .inl rfl | exact .inr rfl), [(.int .i64 i29)], ⟨(.int .i64 i29), _, rfl, rfl, rfl⟩, ?_⟩
      refine Shift.rem .here ?_
      refine Shift.done ?_
      exact ⟨rfl, rfl, rfl⟩

set_option maxHeartbeats 1000000 in
theorem c_M_ref4_Writes (p0 : Int) (y0 : Bool) (H : M_ref4_Writes p0 = some y0) (K : Kp) (G : List Ent)  :
    Fc Try.prog 69 #[(.int .i64 p0)] K (G) (fun v K' G' => v = (.bool y0) ∧ K = K' ∧ G = G') := by
  refine Fc_body Try.func69 rfl Try.ntmps69 Try.results69 rfl ?_
  unfold M_ref4_Writes at H
  refine Cw_seq ?_
  refine Cw_region ?_
  refine Ow_q rfl rfl rfl (Qt_assign rfl) ?_
  refine Ow_nil ?_
  refine Cw_join (fun env' K' G' => ∃ (t10 : Bool), [(2, (.bool t10))] = env' ∧ K = K' ∧ G = G' ∧ M_ref4_Writes_J1 t10 = some y0) ?_ ?_
  · skip
    refine Cw_region ?_
    refine Ow_q rfl rfl rfl (Qt_move rfl) ?_
    refine Ow_q rfl rfl rfl (Qt_cmp rfl rfl rfl) ?_
    refine Ow_q rfl rfl rfl (Qt_move rfl) ?_
    refine Ow_caseG rfl rfl rfl ?_ ?_
    · intro h11
      have h11 := dcd_t (h11)
      have H := ift h11 H
      refine Ow_pass rfl rfl rfl rfl rfl rfl rfl ?_
      refine Ow_pass rfl rfl rfl rfl rfl rfl rfl ?_
      refine Ow_q rfl rfl rfl (Qt_pick_t rfl rfl) ?_
      refine Ow_q rfl rfl rfl (Qt_move rfl) ?_
      refine Ow_pass rfl rfl rfl rfl rfl rfl rfl ?_
      refine Ow_pass rfl rfl rfl rfl rfl rfl rfl ?_
      refine Ow_q rfl rfl rfl (Qt_pick_t rfl rfl) ?_
      refine Ow_q rfl rfl rfl (Qt_move rfl) ?_
      refine Ow_pass rfl rfl rfl rfl rfl rfl rfl ?_
      refine Ow_pass rfl rfl rfl rfl rfl rfl rfl ?_
      refine Ow_q rfl rfl rfl (Qt_pick_t rfl rfl) ?_
      refine Ow_q rfl rfl rfl (Qt_move rfl) ?_
      refine Ow_pass rfl rfl rfl rfl rfl rfl rfl ?_
      refine Ow_pass rfl rfl rfl rfl rfl rfl rfl ?_
      refine Ow_q rfl rfl rfl (Qt_pick_t rfl rfl) ?_
      refine Ow_q rfl rfl rfl (Qt_assign rfl) ?_
      refine Ow_nil ?_
      refine Shift.done ?_
      exact ⟨[(2, (.bool true))], ⟨rfl, trivial⟩, true, rfl, rfl, rfl, H⟩
    · intro h11
      have h11 := dcd_f (h11)
      have H := iff_ h11 H
      refine Ow_qw rfl rfl rfl rfl rfl rfl (Qt_move rfl) ?_
      refine Ow_qw rfl rfl rfl rfl rfl rfl (Qt_cmp rfl rfl rfl) ?_
      refine Ow_q rfl rfl rfl (Qt_pick_f rfl rfl) ?_
      refine Ow_q rfl rfl rfl (Qt_move rfl) ?_
      refine Ow_caseG rfl rfl rfl ?_ ?_
      · intro h12
        have h12 := dcd_t (h12)
        have H := ift h12 H
        refine Ow_pass rfl rfl rfl rfl rfl rfl rfl ?_
        refine Ow_pass rfl rfl rfl rfl rfl rfl rfl ?_
        refine Ow_q rfl rfl rfl (Qt_pick_t rfl rfl) ?_
        refine Ow_q rfl rfl rfl (Qt_move rfl) ?_
        refine Ow_pass rfl rfl rfl rfl rfl rfl rfl ?_
        refine Ow_pass rfl rfl rfl rfl rfl rfl rfl ?_
        refine Ow_q rfl rfl rfl (Qt_pick_t rfl rfl) ?_
        refine Ow_q rfl rfl rfl (Qt_move rfl) ?_
        refine Ow_pass rfl rfl rfl rfl rfl rfl rfl ?_
        refine Ow_pass rfl rfl rfl rfl rfl rfl rfl ?_
        refine Ow_q rfl rfl rfl (Qt_pick_t rfl rfl) ?_
        refine Ow_q rfl rfl rfl (Qt_assign rfl) ?_
        refine Ow_nil ?_
        refine Shift.done ?_
        exact ⟨[(2, (.bool true))], ⟨rfl, trivial⟩, true, rfl, rfl, rfl, H⟩
      · intro h12
        have h12 := dcd_f (h12)
        have H := iff_ h12 H
        refine Ow_qw rfl rfl rfl rfl rfl rfl (Qt_move rfl) ?_
        refine Ow_qw rfl rfl rfl rfl rfl rfl (Qt_cmp rfl rfl rfl) ?_
        refine Ow_q rfl rfl rfl (Qt_pick_f rfl rfl) ?_
        refine Ow_q rfl rfl rfl (Qt_move rfl) ?_
        refine Ow_caseG rfl rfl rfl ?_ ?_
        · intro h13
          have h13 := dcd_t (h13)
          have H := ift h13 H
          refine Ow_pass rfl rfl rfl rfl rfl rfl rfl ?_
          refine Ow_pass rfl rfl rfl rfl rfl rfl rfl ?_
          refine Ow_q rfl rfl rfl (Qt_pick_t rfl rfl) ?_
          refine Ow_q rfl rfl rfl (Qt_move rfl) ?_
          refine Ow_pass rfl rfl rfl rfl rfl rfl rfl ?_
          refine Ow_pass rfl rfl rfl rfl rfl rfl rfl ?_
          refine Ow_q rfl rfl rfl (Qt_pick_t rfl rfl) ?_
          refine Ow_q rfl rfl rfl (Qt_assign rfl) ?_
          refine Ow_nil ?_
          refine Shift.done ?_
          exact ⟨[(2, (.bool true))], ⟨rfl, trivial⟩, true, rfl, rfl, rfl, H⟩
        · intro h13
          have h13 := dcd_f (h13)
          have H := iff_ h13 H
          refine Ow_qw rfl rfl rfl rfl rfl rfl (Qt_move rfl) ?_
          refine Ow_qw rfl rfl rfl rfl rfl rfl (Qt_cmp rfl rfl rfl) ?_
          refine Ow_q rfl rfl rfl (Qt_pick_f rfl rfl) ?_
          refine Ow_q rfl rfl rfl (Qt_move rfl) ?_
          refine Ow_caseG rfl rfl rfl ?_ ?_
          · intro h14
            have h14 := dcd_t (h14)
            have H := ift h14 H
            refine Ow_pass rfl rfl rfl rfl rfl rfl rfl ?_
            refine Ow_pass rfl rfl rfl rfl rfl rfl rfl ?_
            refine Ow_q rfl rfl rfl (Qt_pick_t rfl rfl) ?_
            refine Ow_q rfl rfl rfl (Qt_assign rfl) ?_
            refine Ow_nil ?_
            refine Shift.done ?_
            exact ⟨[(2, (.bool true))], ⟨rfl, trivial⟩, true, rfl, rfl, rfl, H⟩
          · intro h14
            have h14 := dcd_f (h14)
            have H := iff_ h14 H
            refine Ow_qw rfl rfl rfl rfl rfl rfl (Qt_move rfl) ?_
            refine Ow_qw rfl rfl rfl rfl rfl rfl (Qt_cmp rfl rfl rfl) ?_
            refine Ow_q rfl rfl rfl (Qt_pick_f rfl rfl) ?_
            refine Ow_q rfl rfl rfl (Qt_assign rfl) ?_
            refine Ow_nil ?_
            refine Shift.done ?_
            exact ⟨[(2, (.bool (dcd (p0 = 9))))], ⟨rfl, trivial⟩, (dcd (p0 = 9)), rfl, rfl, rfl, H⟩
  rintro _ _ _ - ⟨t10, rfl, rfl, rfl, H⟩
  unfold M_ref4_Writes_J1 at H
  refine Cw_ret ?_
  obtain ey0 := inj1 H
  subst y0
  refine ⟨(by first | exact .inl rfl | exact .inr rfl), [(.bool t10)], ⟨(.bool t10), _, rfl, rfl, rfl⟩, ?_⟩
  refine Shift.done ?_
  exact ⟨rfl, rfl, rfl⟩

set_option maxHeartbeats 1000000 in
theorem c_M_ref4_Changes (p0 : Item) (y0 : Bool) (H : M_ref4_Changes p0 = some y0) (K : Kp) (G : List Ent)  :
    Fc Try.prog 63 #[(.agg (Item.cells p0).toArray)] K (G) (fun v K' G' => v = (.bool y0) ∧ K = K' ∧ G = G') := by
  refine Fc_body Try.func63 rfl Try.ntmps63 Try.results63 rfl ?_
  unfold M_ref4_Changes at H
  refine Cw_seq ?_
  refine Cw_region ?_
  refine Ow_cons rfl (OpW_box (cs := (Item.cells p0)) rfl rfl rfl (fun b7 => ?_))
  refine Ow_q rfl rfl rfl (Qt_assign rfl) ?_
  refine Ow_nil ?_
  refine Cw_join (fun env' K' G' => ∃ (t12 : Bool), [(2, (.bool t12))] = env' ∧ K = K' ∧ G = G' ∧ M_ref4_Changes_J1 t12 = some y0) ?_ ?_
  · skip
    refine Cw_region ?_
    refine Ow_q rfl rfl rfl (Qt_fieldAddr (m := 1) rfl rfl rfl rfl rfl) ?_
    refine Ow_q rfl rfl rfl (Qt_fieldAddr (m := 1) rfl rfl rfl rfl rfl) ?_
    refine Ow_q rfl rfl rfl (Qt_load1 (v := (.int .i64 p0.access.kind)) rfl rfl rfl (Rdc.blk (.head _) rfl)) ?_
    obtain ⟨x13, hx14, H⟩ := bnd H
    refine Ow_cons rfl (OpW_call rfl Try.call69 rfl rfl (c_M_ref4_Writes p0.access.kind x13 hx14 _ _ ) ?_)
    rintro _ _ _ - ⟨rfl, rfl, rfl⟩
    refine Ow_q rfl rfl rfl (Qt_move rfl) ?_
    refine Ow_caseG rfl rfl rfl ?_ ?_
    · intro h15
      have H := ift h15 H
      refine Ow_qw rfl rfl rfl rfl rfl rfl (Qt_fieldAddr (m := 1) rfl rfl rfl rfl rfl) ?_
      refine Ow_qw rfl rfl rfl rfl rfl rfl (Qt_fieldAddr (m := 1) rfl rfl rfl rfl rfl) ?_
      refine Ow_qw rfl rfl rfl rfl rfl rfl (Qt_load1 (v := (.int .i64 p0.access.kind)) rfl rfl rfl (Rdc.blk (.head _) rfl)) ?_
      refine Ow_qw rfl rfl rfl rfl rfl rfl (Qt_cmp rfl rfl rfl) ?_
      refine Ow_qw rfl rfl rfl rfl rfl rfl (Qt_move rfl) ?_
      refine Ow_caseG rfl rfl rfl ?_ ?_
      · intro h16
        have h16 := dcd_f (nt_t (h16))
        have H := iff_ h16 H
        refine Ow_pass rfl rfl rfl rfl rfl rfl rfl ?_
        refine Ow_pass rfl rfl rfl rfl rfl rfl rfl ?_
        refine Ow_qw rfl rfl rfl rfl rfl rfl (Qt_pick_t rfl rfl) ?_
        refine Ow_q rfl rfl rfl (Qt_pick_t rfl rfl) ?_
        refine Ow_q rfl rfl rfl (Qt_assign rfl) ?_
        refine Ow_nil ?_
        refine Shift.rem .here ?_
        refine Shift.done ?_
        exact ⟨[(2, (.bool true))], ⟨rfl, trivial⟩, true, rfl, rfl, rfl, H⟩
      · intro h16
        have h16 := dcd_t (nt_f (h16))
        have H := ift h16 H
        refine Ow_qw rfl rfl rfl rfl rfl rfl (Qt_fieldAddr (m := 7) rfl rfl rfl rfl rfl) ?_
        refine Ow_qw rfl rfl rfl rfl rfl rfl (Qt_load1 (v := (.bool p0.ok)) rfl rfl rfl (Rdc.blk (.head _) rfl)) ?_
        refine Ow_qw rfl rfl rfl rfl rfl rfl (Qt_pick_f rfl rfl) ?_
        refine Ow_q rfl rfl rfl (Qt_pick_t rfl rfl) ?_
        refine Ow_q rfl rfl rfl (Qt_assign rfl) ?_
        refine Ow_nil ?_
        refine Shift.rem .here ?_
        refine Shift.done ?_
        exact ⟨[(2, (.bool p0.ok))], ⟨rfl, trivial⟩, p0.ok, rfl, rfl, rfl, H⟩
    · intro h15
      have H := iff_ (btf h15) H
      refine Ow_pass rfl rfl rfl rfl rfl rfl rfl ?_
      refine Ow_pass rfl rfl rfl rfl rfl rfl rfl ?_
      refine Ow_pass rfl rfl rfl rfl rfl rfl rfl ?_
      refine Ow_pass rfl rfl rfl rfl rfl rfl rfl ?_
      refine Ow_pass rfl rfl rfl rfl rfl rfl rfl ?_
      refine Ow_passU rfl rfl rfl rfl rfl ?_
      refine Ow_passU rfl rfl rfl rfl rfl ?_
      refine Ow_pass rfl rfl rfl rfl rfl rfl rfl ?_
      refine Ow_q rfl rfl rfl (Qt_pick_f rfl rfl) ?_
      refine Ow_q rfl rfl rfl (Qt_assign rfl) ?_
      refine Ow_nil ?_
      refine Shift.rem .here ?_
      refine Shift.done ?_
      exact ⟨[(2, (.bool false))], ⟨rfl, trivial⟩, false, rfl, rfl, rfl, H⟩
  rintro _ _ _ - ⟨t12, rfl, rfl, rfl, H⟩
  unfold M_ref4_Changes_J1 at H
  refine Cw_ret ?_
  obtain ey0 := inj1 H
  subst y0
  refine ⟨(by first | exact .inl rfl | exact .inr rfl), [(.bool t12)], ⟨(.bool t12), _, rfl, rfl, rfl⟩, ?_⟩
  refine Shift.done ?_
  exact ⟨rfl, rfl, rfl⟩

set_option maxHeartbeats 1000000 in
theorem c_M_ref4_Conflict (p0 : Item) (p1 : Item) (y0 : Bool) (H : M_ref4_Conflict p0 p1 = some y0) (K : Kp) (G : List Ent)  :
    Fc Try.prog 57 #[(.agg (Item.cells p0).toArray), (.agg (Item.cells p1).toArray)] K (G) (fun v K' G' => v = (.bool y0) ∧ K = K' ∧ G = G') := by
  refine Fc_body Try.func57 rfl Try.ntmps57 Try.results57 rfl ?_
  unfold M_ref4_Conflict at H
  refine Cw_seq ?_
  refine Cw_region ?_
  refine Ow_cons rfl (OpW_box (cs := (Item.cells p0)) rfl rfl rfl (fun b34 => ?_))
  refine Ow_cons rfl (OpW_box (cs := (Item.cells p1)) rfl rfl rfl (fun b35 => ?_))
  refine Ow_q rfl rfl rfl (Qt_assign rfl) ?_
  refine Ow_nil ?_
  refine Cw_join (fun env' K' G' => ∃ (t39 : Bool) (i40 : Int) (i41 : Int) (i42 : Int) (i43 : Int) (i44 : Int) (i45 : Int) (i46 : Int) (i47 : Int) (i48 : Int) (i49 : Int) (i50 : Int) (i51 : Int) (i52 : Int) (i53 : Int), [(2, (.pointer (some ((⟨b34, 0, none⟩ : Addr).add 0)))), (3, (.pointer (some ((⟨b35, 0, none⟩ : Addr).add 0)))), (5, (.bool t39))] = env' ∧ K = K' ∧ (.blk b35 56 (Item.cells (Item.mk i40 (Access.mk i41 i42 i43 i44 i45) i46 p1.ok))) :: (.blk b34 56 (Item.cells (Item.mk i47 (Access.mk i48 i49 i50 i51 i52) i53 p0.ok))) :: G = G' ∧ M_ref4_Conflict_J1 p1 p0 t39 i40 i41 i42 i43 i44 i45 i46 i47 i48 i49 i50 i51 i52 i53 = some y0) ?_ ?_
  · skip
    refine Cw_region ?_
    refine Ow_q rfl rfl rfl (Qt_fieldAddr (m := 1) rfl rfl rfl rfl rfl) ?_
    refine Ow_q rfl rfl rfl (Qt_fieldAddr (m := 1) rfl rfl rfl rfl rfl) ?_
    refine Ow_q rfl rfl rfl (Qt_load1 (v := (.int .i64 p0.access.kind)) rfl rfl rfl (Rdc.blk (.tail _ (.head _)) rfl)) ?_
    refine Ow_q rfl rfl rfl (Qt_cmp rfl rfl rfl) ?_
    refine Ow_q rfl rfl rfl (Qt_move rfl) ?_
    refine Ow_caseG rfl rfl rfl ?_ ?_
    · intro h54
      have h54 := dcd_t (h54)
      have H := ift h54 H
      refine Ow_qw rfl rfl rfl rfl rfl rfl (Qt_fieldAddr (m := 1) rfl rfl rfl rfl rfl) ?_
      refine Ow_qw rfl rfl rfl rfl rfl rfl (Qt_fieldAddr (m := 1) rfl rfl rfl rfl rfl) ?_
      refine Ow_qw rfl rfl rfl rfl rfl rfl (Qt_load1 (v := (.int .i64 p0.access.kind)) rfl rfl rfl (Rdc.blk (.tail _ (.head _)) rfl)) ?_
      refine Ow_qw rfl rfl rfl rfl rfl rfl (Qt_cmp rfl rfl rfl) ?_
      refine Ow_q rfl rfl rfl (Qt_pick_t rfl rfl) ?_
      refine Ow_q rfl rfl rfl (Qt_move rfl) ?_
      refine Ow_caseG rfl rfl rfl ?_ ?_
      · intro h55
        have h55 := dcd_t (h55)
        have H := ift h55 H
        refine Ow_qw rfl rfl rfl rfl rfl rfl (Qt_fieldAddr (m := 1) rfl rfl rfl rfl rfl) ?_
        refine Ow_qw rfl rfl rfl rfl rfl rfl (Qt_fieldAddr (m := 1) rfl rfl rfl rfl rfl) ?_
        refine Ow_qw rfl rfl rfl rfl rfl rfl (Qt_load1 (v := (.int .i64 p1.access.kind)) rfl rfl rfl (Rdc.blk (.head _) rfl)) ?_
        refine Ow_qw rfl rfl rfl rfl rfl rfl (Qt_cmp rfl rfl rfl) ?_
        refine Ow_q rfl rfl rfl (Qt_pick_t rfl rfl) ?_
        refine Ow_q rfl rfl rfl (Qt_move rfl) ?_
        refine Ow_caseG rfl rfl rfl ?_ ?_
        · intro h56
          have h56 := dcd_t (h56)
          have H := ift h56 H
          refine Ow_qw rfl rfl rfl rfl rfl rfl (Qt_fieldAddr (m := 1) rfl rfl rfl rfl rfl) ?_
          refine Ow_qw rfl rfl rfl rfl rfl rfl (Qt_fieldAddr (m := 1) rfl rfl rfl rfl rfl) ?_
          refine Ow_qw rfl rfl rfl rfl rfl rfl (Qt_load1 (v := (.int .i64 p1.access.kind)) rfl rfl rfl (Rdc.blk (.head _) rfl)) ?_
          refine Ow_qw rfl rfl rfl rfl rfl rfl (Qt_cmp rfl rfl rfl) ?_
          refine Ow_q rfl rfl rfl (Qt_pick_t rfl rfl) ?_
          refine Ow_q rfl rfl rfl (Qt_assign rfl) ?_
          refine Ow_nil ?_
          refine Shift.pull (.there .here) ?_
          refine Shift.pull (.there .here) ?_
          refine Shift.done ?_
          exact ⟨[(2, (.pointer (some ((⟨b34, 0, none⟩ : Addr).add 0)))), (3, (.pointer (some ((⟨b35, 0, none⟩ : Addr).add 0)))), (5, (.bool (dcd (p1.access.kind ≤ 9))))], ⟨rfl, rfl, rfl, trivial⟩, (dcd (p1.access.kind ≤ 9)), p1.thread, p1.access.kind, p1.access.address, p1.access.old, p1.access.new, p1.access.until_, p1.value, p0.thread, p0.access.kind, p0.access.address, p0.access.old, p0.access.new, p0.access.until_, p0.value, rfl, rfl, rfl, H⟩
        · intro h56
          have h56 := dcd_f (h56)
          have H := iff_ h56 H
          refine Ow_pass rfl rfl rfl rfl rfl rfl rfl ?_
          refine Ow_pass rfl rfl rfl rfl rfl rfl rfl ?_
          refine Ow_pass rfl rfl rfl rfl rfl rfl rfl ?_
          refine Ow_pass rfl rfl rfl rfl rfl rfl rfl ?_
          refine Ow_q rfl rfl rfl (Qt_pick_f rfl rfl) ?_
          refine Ow_q rfl rfl rfl (Qt_assign rfl) ?_
          refine Ow_nil ?_
          refine Shift.pull (.there .here) ?_
          refine Shift.pull (.there .here) ?_
          refine Shift.done ?_
          exact ⟨[(2, (.pointer (some ((⟨b34, 0, none⟩ : Addr).add 0)))), (3, (.pointer (some ((⟨b35, 0, none⟩ : Addr).add 0)))), (5, (.bool false))], ⟨rfl, rfl, rfl, trivial⟩, false, p1.thread, p1.access.kind, p1.access.address, p1.access.old, p1.access.new, p1.access.until_, p1.value, p0.thread, p0.access.kind, p0.access.address, p0.access.old, p0.access.new, p0.access.until_, p0.value, rfl, rfl, rfl, H⟩
      · intro h55
        have h55 := dcd_f (h55)
        have H := iff_ h55 H
        refine Ow_pass rfl rfl rfl rfl rfl rfl rfl ?_
        refine Ow_pass rfl rfl rfl rfl rfl rfl rfl ?_
        refine Ow_pass rfl rfl rfl rfl rfl rfl rfl ?_
        refine Ow_pass rfl rfl rfl rfl rfl rfl rfl ?_
        refine Ow_q rfl rfl rfl (Qt_pick_f rfl rfl) ?_
        refine Ow_q rfl rfl rfl (Qt_move rfl) ?_
        refine Ow_pass rfl rfl rfl rfl rfl rfl rfl ?_
        refine Ow_pass rfl rfl rfl rfl rfl rfl rfl ?_
        refine Ow_pass rfl rfl rfl rfl rfl rfl rfl ?_
        refine Ow_pass rfl rfl rfl rfl rfl rfl rfl ?_
        refine Ow_q rfl rfl rfl (Qt_pick_f rfl rfl) ?_
        refine Ow_q rfl rfl rfl (Qt_assign rfl) ?_
        refine Ow_nil ?_
        refine Shift.pull (.there .here) ?_
        refine Shift.pull (.there .here) ?_
        refine Shift.done ?_
        exact ⟨[(2, (.pointer (some ((⟨b34, 0, none⟩ : Addr).add 0)))), (3, (.pointer (some ((⟨b35, 0, none⟩ : Addr).add 0)))), (5, (.bool false))], ⟨rfl, rfl, rfl, trivial⟩, false, p1.thread, p1.access.kind, p1.access.address, p1.access.old, p1.access.new, p1.access.until_, p1.value, p0.thread, p0.access.kind, p0.access.address, p0.access.old, p0.access.new, p0.access.until_, p0.value, rfl, rfl, rfl, H⟩
    · intro h54
      have h54 := dcd_f (h54)
      have H := iff_ h54 H
      refine Ow_pass rfl rfl rfl rfl rfl rfl rfl ?_
      refine Ow_pass rfl rfl rfl rfl rfl rfl rfl ?_
      refine Ow_pass rfl rfl rfl rfl rfl rfl rfl ?_
      refine Ow_pass rfl rfl rfl rfl rfl rfl rfl ?_
      refine Ow_q rfl rfl rfl (Qt_pick_f rfl rfl) ?_
      refine Ow_q rfl rfl rfl (Qt_move rfl) ?_
      refine Ow_pass rfl rfl rfl rfl rfl rfl rfl ?_
      refine Ow_pass rfl rfl rfl rfl rfl rfl rfl ?_
      refine Ow_pass rfl rfl rfl rfl rfl rfl rfl ?_
      refine Ow_pass rfl rfl rfl rfl rfl rfl rfl ?_
      refine Ow_q rfl rfl rfl (Qt_pick_f rfl rfl) ?_
      refine Ow_q rfl rfl rfl (Qt_move rfl) ?_
      refine Ow_pass rfl rfl rfl rfl rfl rfl rfl ?_
      refine Ow_pass rfl rfl rfl rfl rfl rfl rfl ?_
      refine Ow_pass rfl rfl rfl rfl rfl rfl rfl ?_
      refine Ow_pass rfl rfl rfl rfl rfl rfl rfl ?_
      refine Ow_q rfl rfl rfl (Qt_pick_f rfl rfl) ?_
      refine Ow_q rfl rfl rfl (Qt_assign rfl) ?_
      refine Ow_nil ?_
      refine Shift.pull (.there .here) ?_
      refine Shift.pull (.there .here) ?_
      refine Shift.done ?_
      exact ⟨[(2, (.pointer (some ((⟨b34, 0, none⟩ : Addr).add 0)))), (3, (.pointer (some ((⟨b35, 0, none⟩ : Addr).add 0)))), (5, (.bool false))], ⟨rfl, rfl, rfl, trivial⟩, false, p1.thread, p1.access.kind, p1.access.address, p1.access.old, p1.access.new, p1.access.until_, p1.value, p0.thread, p0.access.kind, p0.access.address, p0.access.old, p0.access.new, p0.access.until_, p0.value, rfl, rfl, rfl, H⟩
  rintro _ _ _ - ⟨t39, i40, i41, i42, i43, i44, i45, i46, i47, i48, i49, i50, i51, i52, i53, rfl, rfl, rfl, H⟩
  unfold M_ref4_Conflict_J1 at H
  refine Cw_join (fun env' K' G' => ∃ (t69 : Bool), [(4, (.bool t69))] = env' ∧ K = K' ∧ G = G' ∧ M_ref4_Conflict_J2 t69 = some y0) ?_ ?_
  · skip
    rcases bool_ct t39 with hb_ | hb_ <;> revert hb_
    · intro h70
      have H := ift h70 H
      rcases bool_ct (!(dcd (i47 = i40))) with hb_ | hb_ <;> revert hb_
      · intro h71
        have h71 := dcd_f (nt_t (h71))
        have H := iff_ h71 H
        obtain ⟨x72, hx73, H⟩ := bnd H
        obtain ⟨x74, hx75, H⟩ := bnd H
        rcases bool_ct (dcd (x72 = x74)) with hb_ | hb_ <;> revert hb_
        · intro h76
          have h76 := dcd_t (h76)
          have H := ift h76 H
          obtain ⟨x77, hx78, H⟩ := bnd H
          rcases bool_ct x77 with hb_ | hb_ <;> revert hb_
          · intro h79
            have H := ift h79 H
            refine Cw_region_any [.blk b35 56 (Item.cells (Item.mk i40 (Access.mk i41 i42 i43 i44 i45) i46 p1.ok)), .blk b34 56 (Item.cells (Item.mk i47 (Access.mk i48 i49 i50 i51 i52) i53 p0.ok))] rfl (Inc.cons (.head _) (Inc.cons (.tail _ (.head _)) Inc.nil)) ?_
            refine Aw_q 0 rfl (by kernel_rfl) (by kernel_rfl) (by kernel_rfl) rfl rfl rfl (Qt_move rfl) ?_
            refine Aw_q 1 rfl (by kernel_rfl) (by kernel_rfl) (by kernel_rfl) rfl rfl rfl (Qt_move rfl) ?_
            refine Aw.known (d := 29) rfl (h70) ?_
            refine Aw_qw 2 rfl (by kernel_rfl) (by kernel_rfl) (by kernel_rfl) rfl rfl rfl rfl rfl rfl (Qt_fieldAddr (m := 0) rfl rfl rfl rfl rfl) ?_
            refine Aw_qw 3 rfl (by kernel_rfl) (by kernel_rfl) (by kernel_rfl) rfl rfl rfl rfl rfl rfl (Qt_load1 (v := (.int .i64 i47)) rfl rfl rfl (Rdc.blk (.tail _ (.head _)) rfl)) ?_
            refine Aw_qw 4 rfl (by kernel_rfl) (by kernel_rfl) (by kernel_rfl) rfl rfl rfl rfl rfl rfl (Qt_fieldAddr (m := 0) rfl rfl rfl rfl rfl) ?_
            refine Aw_qw 5 rfl (by kernel_rfl) (by kernel_rfl) (by kernel_rfl) rfl rfl rfl rfl rfl rfl (Qt_load1 (v := (.int .i64 i40)) rfl rfl rfl (Rdc.blk (.head _) rfl)) ?_
            refine Aw_qw 6 rfl (by kernel_rfl) (by kernel_rfl) (by kernel_rfl) rfl rfl rfl rfl rfl rfl (Qt_cmp rfl rfl rfl) ?_
            refine Aw_q 7 rfl (by kernel_rfl) (by kernel_rfl) (by kernel_rfl) rfl rfl rfl (Qt_pick_t rfl rfl) ?_
            refine Aw_q 8 rfl (by kernel_rfl) (by kernel_rfl) (by kernel_rfl) rfl rfl rfl (Qt_move rfl) ?_
            refine Aw.known (d := 36) rfl (nt_mt (dcd_neg h71)) ?_
            refine Aw_qw 9 rfl (by kernel_rfl) (by kernel_rfl) (by kernel_rfl) rfl rfl rfl rfl rfl rfl (Qt_loadA (m := 8) (cs := (Item.cells (Item.mk i47 (Access.mk i48 i49 i50 i51 i52) i53 p0.ok))) rfl rfl rfl rfl ⟨rfl, Rdc.blk (.tail _ (.head _)) rfl⟩) ?_
            refine Aw_qw 11 rfl (by kernel_rfl) (by kernel_rfl) (by kernel_rfl) rfl rfl rfl rfl rfl rfl (Qt_loadA (m := 8) (cs := (Item.cells (Item.mk i40 (Access.mk i41 i42 i43 i44 i45) i46 p1.ok))) rfl rfl rfl rfl ⟨rfl, Rdc.blk (.head _) rfl⟩) ?_
            refine Aw_one 10 (by kernel_rfl) (Ax_mkw rfl rfl rfl rfl rfl ?_)
            refine OpW_call rfl Try.call62 rfl rfl (c_M_ref4_Place (Item.mk i47 (Access.mk i48 i49 i50 i51 i52) i53 p0.ok) x72 hx73 _ _ ) ?_
            rintro _ _ _ - ⟨rfl, rfl, rfl⟩
            refine ⟨(Inc.cons (.head _) (Inc.cons (.tail _ (.head _)) Inc.nil)), ?_⟩
            refine Aw_one 12 (by kernel_rfl) (Ax_mkw rfl rfl rfl rfl rfl ?_)
            refine OpW_call rfl Try.call62 rfl rfl (c_M_ref4_Place (Item.mk i40 (Access.mk i41 i42 i43 i44 i45) i46 p1.ok) x74 hx75 _ _ ) ?_
            rintro _ _ _ - ⟨rfl, rfl, rfl⟩
            refine ⟨(Inc.cons (.head _) (Inc.cons (.tail _ (.head _)) Inc.nil)), ?_⟩
            refine Aw_qw 13 rfl (by kernel_rfl) (by kernel_rfl) (by kernel_rfl) rfl rfl rfl rfl rfl rfl (Qt_cmp rfl rfl rfl) ?_
            refine Aw_q 14 rfl (by kernel_rfl) (by kernel_rfl) (by kernel_rfl) rfl rfl rfl (Qt_pick_t rfl rfl) ?_
            refine Aw_q 15 rfl (by kernel_rfl) (by kernel_rfl) (by kernel_rfl) rfl rfl rfl (Qt_move rfl) ?_
            refine Aw.known (d := 43) rfl (dcd_pos h76) ?_
            refine Aw_qw 16 rfl (by kernel_rfl) (by kernel_rfl) (by kernel_rfl) rfl rfl rfl rfl rfl rfl (Qt_loadA (m := 8) (cs := (Item.cells (Item.mk i47 (Access.mk i48 i49 i50 i51 i52) i53 p0.ok))) rfl rfl rfl rfl ⟨rfl, Rdc.blk (.tail _ (.head _)) rfl⟩) ?_
            refine Aw_one 17 (by kernel_rfl) (Ax_mkw rfl rfl rfl rfl rfl ?_)
            refine OpW_call rfl Try.call63 rfl rfl (c_M_ref4_Changes (Item.mk i47 (Access.mk i48 i49 i50 i51 i52) i53 p0.ok) x77 hx78 _ _ ) ?_
            rintro _ _ _ - ⟨rfl, rfl, rfl⟩
            refine ⟨(Inc.cons (.head _) (Inc.cons (.tail _ (.head _)) Inc.nil)), ?_⟩
            refine Aw_qw 18 rfl (by kernel_rfl) (by kernel_rfl) (by kernel_rfl) rfl rfl rfl rfl rfl rfl (Qt_move rfl) ?_
            refine Aw.known (d := 46) rfl (h79) ?_
            refine Aw_pass 19 rfl (by kernel_rfl) (by kernel_rfl) (by kernel_rfl) rfl rfl rfl rfl rfl rfl rfl ?_
            refine Aw_pass 20 rfl (by kernel_rfl) (by kernel_rfl) (by kernel_rfl) rfl rfl rfl rfl rfl rfl rfl ?_
            refine Aw_qw 21 rfl (by kernel_rfl) (by kernel_rfl) (by kernel_rfl) rfl rfl rfl rfl rfl rfl (Qt_pick_t rfl rfl) ?_
            refine Aw_q 22 rfl (by kernel_rfl) (by kernel_rfl) (by kernel_rfl) rfl rfl rfl (Qt_pick_t rfl rfl) ?_
            refine Aw_q 23 rfl (by kernel_rfl) (by kernel_rfl) (by kernel_rfl) rfl rfl rfl (Qt_assign rfl) ?_
            refine Aw_done (by kernel_rfl) ?_
            refine Shift.rem .here ?_
            refine Shift.rem .here ?_
            refine Shift.done ?_
            exact ⟨[(4, (.bool true))], ⟨rfl, trivial⟩, true, rfl, rfl, rfl, H⟩
          · intro h79
            have H := iff_ (btf h79) H
            obtain ⟨x80, hx81, H⟩ := bnd H
            refine Cw_region_any [.blk b35 56 (Item.cells (Item.mk i40 (Access.mk i41 i42 i43 i44 i45) i46 p1.ok)), .blk b34 56 (Item.cells (Item.mk i47 (Access.mk i48 i49 i50 i51 i52) i53 p0.ok))] rfl (Inc.cons (.head _) (Inc.cons (.tail _ (.head _)) Inc.nil)) ?_
            refine Aw_q 0 rfl (by kernel_rfl) (by kernel_rfl) (by kernel_rfl) rfl rfl rfl (Qt_move rfl) ?_
            refine Aw_q 1 rfl (by kernel_rfl) (by kernel_rfl) (by kernel_rfl) rfl rfl rfl (Qt_move rfl) ?_
            refine Aw.known (d := 29) rfl (h70) ?_
            refine Aw_qw 2 rfl (by kernel_rfl) (by kernel_rfl) (by kernel_rfl) rfl rfl rfl rfl rfl rfl (Qt_fieldAddr (m := 0) rfl rfl rfl rfl rfl) ?_
            refine Aw_qw 3 rfl (by kernel_rfl) (by kernel_rfl) (by kernel_rfl) rfl rfl rfl rfl rfl rfl (Qt_load1 (v := (.int .i64 i47)) rfl rfl rfl (Rdc.blk (.tail _ (.head _)) rfl)) ?_
            refine Aw_qw 4 rfl (by kernel_rfl) (by kernel_rfl) (by kernel_rfl) rfl rfl rfl rfl rfl rfl (Qt_fieldAddr (m := 0) rfl rfl rfl rfl rfl) ?_
            refine Aw_qw 5 rfl (by kernel_rfl) (by kernel_rfl) (by kernel_rfl) rfl rfl rfl rfl rfl rfl (Qt_load1 (v := (.int .i64 i40)) rfl rfl rfl (Rdc.blk (.head _) rfl)) ?_
            refine Aw_qw 6 rfl (by kernel_rfl) (by kernel_rfl) (by kernel_rfl) rfl rfl rfl rfl rfl rfl (Qt_cmp rfl rfl rfl) ?_
            refine Aw_q 7 rfl (by kernel_rfl) (by kernel_rfl) (by kernel_rfl) rfl rfl rfl (Qt_pick_t rfl rfl) ?_
            refine Aw_q 8 rfl (by kernel_rfl) (by kernel_rfl) (by kernel_rfl) rfl rfl rfl (Qt_move rfl) ?_
            refine Aw.known (d := 36) rfl (nt_mt (dcd_neg h71)) ?_
            refine Aw_qw 9 rfl (by kernel_rfl) (by kernel_rfl) (by kernel_rfl) rfl rfl rfl rfl rfl rfl (Qt_loadA (m := 8) (cs := (Item.cells (Item.mk i47 (Access.mk i48 i49 i50 i51 i52) i53 p0.ok))) rfl rfl rfl rfl ⟨rfl, Rdc.blk (.tail _ (.head _)) rfl⟩) ?_
            refine Aw_qw 11 rfl (by kernel_rfl) (by kernel_rfl) (by kernel_rfl) rfl rfl rfl rfl rfl rfl (Qt_loadA (m := 8) (cs := (Item.cells (Item.mk i40 (Access.mk i41 i42 i43 i44 i45) i46 p1.ok))) rfl rfl rfl rfl ⟨rfl, Rdc.blk (.head _) rfl⟩) ?_
            refine Aw_one 10 (by kernel_rfl) (Ax_mkw rfl rfl rfl rfl rfl ?_)
            refine OpW_call rfl Try.call62 rfl rfl (c_M_ref4_Place (Item.mk i47 (Access.mk i48 i49 i50 i51 i52) i53 p0.ok) x72 hx73 _ _ ) ?_
            rintro _ _ _ - ⟨rfl, rfl, rfl⟩
            refine ⟨(Inc.cons (.head _) (Inc.cons (.tail _ (.head _)) Inc.nil)), ?_⟩
            refine Aw_one 12 (by kernel_rfl) (Ax_mkw rfl rfl rfl rfl rfl ?_)
            refine OpW_call rfl Try.call62 rfl rfl (c_M_ref4_Place (Item.mk i40 (Access.mk i41 i42 i43 i44 i45) i46 p1.ok) x74 hx75 _ _ ) ?_
            rintro _ _ _ - ⟨rfl, rfl, rfl⟩
            refine ⟨(Inc.cons (.head _) (Inc.cons (.tail _ (.head _)) Inc.nil)), ?_⟩
            refine Aw_qw 13 rfl (by kernel_rfl) (by kernel_rfl) (by kernel_rfl) rfl rfl rfl rfl rfl rfl (Qt_cmp rfl rfl rfl) ?_
            refine Aw_q 14 rfl (by kernel_rfl) (by kernel_rfl) (by kernel_rfl) rfl rfl rfl (Qt_pick_t rfl rfl) ?_
            refine Aw_q 15 rfl (by kernel_rfl) (by kernel_rfl) (by kernel_rfl) rfl rfl rfl (Qt_move rfl) ?_
            refine Aw.known (d := 43) rfl (dcd_pos h76) ?_
            refine Aw_qw 16 rfl (by kernel_rfl) (by kernel_rfl) (by kernel_rfl) rfl rfl rfl rfl rfl rfl (Qt_loadA (m := 8) (cs := (Item.cells (Item.mk i47 (Access.mk i48 i49 i50 i51 i52) i53 p0.ok))) rfl rfl rfl rfl ⟨rfl, Rdc.blk (.tail _ (.head _)) rfl⟩) ?_
            refine Aw_one 17 (by kernel_rfl) (Ax_mkw rfl rfl rfl rfl rfl ?_)
            refine OpW_call rfl Try.call63 rfl rfl (c_M_ref4_Changes (Item.mk i47 (Access.mk i48 i49 i50 i51 i52) i53 p0.ok) x77 hx78 _ _ ) ?_
            rintro _ _ _ - ⟨rfl, rfl, rfl⟩
            refine ⟨(Inc.cons (.head _) (Inc.cons (.tail _ (.head _)) Inc.nil)), ?_⟩
            refine Aw_qw 18 rfl (by kernel_rfl) (by kernel_rfl) (by kernel_rfl) rfl rfl rfl rfl rfl rfl (Qt_move rfl) ?_
            refine Aw.known (d := 46) rfl (h79) ?_
            refine Aw_qw 19 rfl (by kernel_rfl) (by kernel_rfl) (by kernel_rfl) rfl rfl rfl rfl rfl rfl (Qt_loadA (m := 8) (cs := (Item.cells (Item.mk i40 (Access.mk i41 i42 i43 i44 i45) i46 p1.ok))) rfl rfl rfl rfl ⟨rfl, Rdc.blk (.head _) rfl⟩) ?_
            refine Aw_one 20 (by kernel_rfl) (Ax_mkw rfl rfl rfl rfl rfl ?_)
            refine OpW_call rfl Try.call63 rfl rfl (c_M_ref4_Changes (Item.mk i40 (Access.mk i41 i42 i43 i44 i45) i46 p1.ok) x80 hx81 _ _ ) ?_
            rintro _ _ _ - ⟨rfl, rfl, rfl⟩
            refine ⟨(Inc.cons (.head _) (Inc.cons (.tail _ (.head _)) Inc.nil)), ?_⟩
            refine Aw_qw 21 rfl (by kernel_rfl) (by kernel_rfl) (by kernel_rfl) rfl rfl rfl rfl rfl rfl (Qt_pick_f rfl rfl) ?_
            refine Aw_q 22 rfl (by kernel_rfl) (by kernel_rfl) (by kernel_rfl) rfl rfl rfl (Qt_pick_t rfl rfl) ?_
            refine Aw_q 23 rfl (by kernel_rfl) (by kernel_rfl) (by kernel_rfl) rfl rfl rfl (Qt_assign rfl) ?_
            refine Aw_done (by kernel_rfl) ?_
            refine Shift.rem .here ?_
            refine Shift.rem .here ?_
            refine Shift.done ?_
            exact ⟨[(4, (.bool x80))], ⟨rfl, trivial⟩, x80, rfl, rfl, rfl, H⟩
        · intro h76
          have h76 := dcd_f (h76)
          have H := iff_ h76 H
          refine Cw_region_any [.blk b35 56 (Item.cells (Item.mk i40 (Access.mk i41 i42 i43 i44 i45) i46 p1.ok)), .blk b34 56 (Item.cells (Item.mk i47 (Access.mk i48 i49 i50 i51 i52) i53 p0.ok))] rfl (Inc.cons (.head _) (Inc.cons (.tail _ (.head _)) Inc.nil)) ?_
          refine Aw_q 0 rfl (by kernel_rfl) (by kernel_rfl) (by kernel_rfl) rfl rfl rfl (Qt_move rfl) ?_
          refine Aw_q 1 rfl (by kernel_rfl) (by kernel_rfl) (by kernel_rfl) rfl rfl rfl (Qt_move rfl) ?_
          refine Aw.known (d := 29) rfl (h70) ?_
          refine Aw_qw 2 rfl (by kernel_rfl) (by kernel_rfl) (by kernel_rfl) rfl rfl rfl rfl rfl rfl (Qt_fieldAddr (m := 0) rfl rfl rfl rfl rfl) ?_
          refine Aw_qw 3 rfl (by kernel_rfl) (by kernel_rfl) (by kernel_rfl) rfl rfl rfl rfl rfl rfl (Qt_load1 (v := (.int .i64 i47)) rfl rfl rfl (Rdc.blk (.tail _ (.head _)) rfl)) ?_
          refine Aw_qw 4 rfl (by kernel_rfl) (by kernel_rfl) (by kernel_rfl) rfl rfl rfl rfl rfl rfl (Qt_fieldAddr (m := 0) rfl rfl rfl rfl rfl) ?_
          refine Aw_qw 5 rfl (by kernel_rfl) (by kernel_rfl) (by kernel_rfl) rfl rfl rfl rfl rfl rfl (Qt_load1 (v := (.int .i64 i40)) rfl rfl rfl (Rdc.blk (.head _) rfl)) ?_
          refine Aw_qw 6 rfl (by kernel_rfl) (by kernel_rfl) (by kernel_rfl) rfl rfl rfl rfl rfl rfl (Qt_cmp rfl rfl rfl) ?_
          refine Aw_q 7 rfl (by kernel_rfl) (by kernel_rfl) (by kernel_rfl) rfl rfl rfl (Qt_pick_t rfl rfl) ?_
          refine Aw_q 8 rfl (by kernel_rfl) (by kernel_rfl) (by kernel_rfl) rfl rfl rfl (Qt_move rfl) ?_
          refine Aw.known (d := 36) rfl (nt_mt (dcd_neg h71)) ?_
          refine Aw_qw 9 rfl (by kernel_rfl) (by kernel_rfl) (by kernel_rfl) rfl rfl rfl rfl rfl rfl (Qt_loadA (m := 8) (cs := (Item.cells (Item.mk i47 (Access.mk i48 i49 i50 i51 i52) i53 p0.ok))) rfl rfl rfl rfl ⟨rfl, Rdc.blk (.tail _ (.head _)) rfl⟩) ?_
          refine Aw_qw 11 rfl (by kernel_rfl) (by kernel_rfl) (by kernel_rfl) rfl rfl rfl rfl rfl rfl (Qt_loadA (m := 8) (cs := (Item.cells (Item.mk i40 (Access.mk i41 i42 i43 i44 i45) i46 p1.ok))) rfl rfl rfl rfl ⟨rfl, Rdc.blk (.head _) rfl⟩) ?_
          refine Aw_one 10 (by kernel_rfl) (Ax_mkw rfl rfl rfl rfl rfl ?_)
          refine OpW_call rfl Try.call62 rfl rfl (c_M_ref4_Place (Item.mk i47 (Access.mk i48 i49 i50 i51 i52) i53 p0.ok) x72 hx73 _ _ ) ?_
          rintro _ _ _ - ⟨rfl, rfl, rfl⟩
          refine ⟨(Inc.cons (.head _) (Inc.cons (.tail _ (.head _)) Inc.nil)), ?_⟩
          refine Aw_one 12 (by kernel_rfl) (Ax_mkw rfl rfl rfl rfl rfl ?_)
          refine OpW_call rfl Try.call62 rfl rfl (c_M_ref4_Place (Item.mk i40 (Access.mk i41 i42 i43 i44 i45) i46 p1.ok) x74 hx75 _ _ ) ?_
          rintro _ _ _ - ⟨rfl, rfl, rfl⟩
          refine ⟨(Inc.cons (.head _) (Inc.cons (.tail _ (.head _)) Inc.nil)), ?_⟩
          refine Aw_qw 13 rfl (by kernel_rfl) (by kernel_rfl) (by kernel_rfl) rfl rfl rfl rfl rfl rfl (Qt_cmp rfl rfl rfl) ?_
          refine Aw_q 14 rfl (by kernel_rfl) (by kernel_rfl) (by kernel_rfl) rfl rfl rfl (Qt_pick_t rfl rfl) ?_
          refine Aw_q 15 rfl (by kernel_rfl) (by kernel_rfl) (by kernel_rfl) rfl rfl rfl (Qt_move rfl) ?_
          refine Aw.known (d := 43) rfl (dcd_neg h76) ?_
          refine Aw_pass 16 rfl (by kernel_rfl) (by kernel_rfl) (by kernel_rfl) rfl rfl rfl rfl rfl rfl rfl ?_
          refine Aw_pass 17 rfl (by kernel_rfl) (by kernel_rfl) (by kernel_rfl) rfl rfl rfl rfl rfl rfl rfl ?_
          refine Aw_pass 18 rfl (by kernel_rfl) (by kernel_rfl) (by kernel_rfl) rfl rfl rfl rfl rfl rfl rfl ?_
          refine Aw_passU 19 rfl (by kernel_rfl) (by kernel_rfl) (by kernel_rfl) rfl rfl rfl rfl rfl ?_
          refine Aw_passU 20 rfl (by kernel_rfl) (by kernel_rfl) (by kernel_rfl) rfl rfl rfl rfl rfl ?_
          refine Aw_pass 21 rfl (by kernel_rfl) (by kernel_rfl) (by kernel_rfl) rfl rfl rfl rfl rfl rfl rfl ?_
          refine Aw_q 22 rfl (by kernel_rfl) (by kernel_rfl) (by kernel_rfl) rfl rfl rfl (Qt_pick_f rfl rfl) ?_
          refine Aw_q 23 rfl (by kernel_rfl) (by kernel_rfl) (by kernel_rfl) rfl rfl rfl (Qt_assign rfl) ?_
          refine Aw_done (by kernel_rfl) ?_
          refine Shift.rem .here ?_
          refine Shift.rem .here ?_
          refine Shift.done ?_
          exact ⟨[(4, (.bool false))], ⟨rfl, trivial⟩, false, rfl, rfl, rfl, H⟩
      · intro h71
        have h71 := dcd_t (nt_f (h71))
        have H := ift h71 H
        refine Cw_region_any [.blk b35 56 (Item.cells (Item.mk i40 (Access.mk i41 i42 i43 i44 i45) i46 p1.ok)), .blk b34 56 (Item.cells (Item.mk i47 (Access.mk i48 i49 i50 i51 i52) i53 p0.ok))] rfl (Inc.cons (.head _) (Inc.cons (.tail _ (.head _)) Inc.nil)) ?_
        refine Aw_q 0 rfl (by kernel_rfl) (by kernel_rfl) (by kernel_rfl) rfl rfl rfl (Qt_move rfl) ?_
        refine Aw_q 1 rfl (by kernel_rfl) (by kernel_rfl) (by kernel_rfl) rfl rfl rfl (Qt_move rfl) ?_
        refine Aw.known (d := 29) rfl (h70) ?_
        refine Aw_qw 2 rfl (by kernel_rfl) (by kernel_rfl) (by kernel_rfl) rfl rfl rfl rfl rfl rfl (Qt_fieldAddr (m := 0) rfl rfl rfl rfl rfl) ?_
        refine Aw_qw 3 rfl (by kernel_rfl) (by kernel_rfl) (by kernel_rfl) rfl rfl rfl rfl rfl rfl (Qt_load1 (v := (.int .i64 i47)) rfl rfl rfl (Rdc.blk (.tail _ (.head _)) rfl)) ?_
        refine Aw_qw 4 rfl (by kernel_rfl) (by kernel_rfl) (by kernel_rfl) rfl rfl rfl rfl rfl rfl (Qt_fieldAddr (m := 0) rfl rfl rfl rfl rfl) ?_
        refine Aw_qw 5 rfl (by kernel_rfl) (by kernel_rfl) (by kernel_rfl) rfl rfl rfl rfl rfl rfl (Qt_load1 (v := (.int .i64 i40)) rfl rfl rfl (Rdc.blk (.head _) rfl)) ?_
        refine Aw_qw 6 rfl (by kernel_rfl) (by kernel_rfl) (by kernel_rfl) rfl rfl rfl rfl rfl rfl (Qt_cmp rfl rfl rfl) ?_
        refine Aw_q 7 rfl (by kernel_rfl) (by kernel_rfl) (by kernel_rfl) rfl rfl rfl (Qt_pick_t rfl rfl) ?_
        refine Aw_q 8 rfl (by kernel_rfl) (by kernel_rfl) (by kernel_rfl) rfl rfl rfl (Qt_move rfl) ?_
        refine Aw.known (d := 36) rfl (nt_mf (dcd_pos h71)) ?_
        refine Aw_pass 9 rfl (by kernel_rfl) (by kernel_rfl) (by kernel_rfl) rfl rfl rfl rfl rfl rfl rfl ?_
        refine Aw_pass 10 rfl (by kernel_rfl) (by kernel_rfl) (by kernel_rfl) rfl rfl rfl rfl rfl rfl rfl ?_
        refine Aw_pass 11 rfl (by kernel_rfl) (by kernel_rfl) (by kernel_rfl) rfl rfl rfl rfl rfl rfl rfl ?_
        refine Aw_pass 12 rfl (by kernel_rfl) (by kernel_rfl) (by kernel_rfl) rfl rfl rfl rfl rfl rfl rfl ?_
        refine Aw_pass 13 rfl (by kernel_rfl) (by kernel_rfl) (by kernel_rfl) rfl rfl rfl rfl rfl rfl rfl ?_
        refine Aw_q 14 rfl (by kernel_rfl) (by kernel_rfl) (by kernel_rfl) rfl rfl rfl (Qt_pick_f rfl rfl) ?_
        refine Aw_q 15 rfl (by kernel_rfl) (by kernel_rfl) (by kernel_rfl) rfl rfl rfl (Qt_move rfl) ?_
        refine Aw_pass 16 rfl (by kernel_rfl) (by kernel_rfl) (by kernel_rfl) rfl rfl rfl rfl rfl rfl rfl ?_
        refine Aw_pass 17 rfl (by kernel_rfl) (by kernel_rfl) (by kernel_rfl) rfl rfl rfl rfl rfl rfl rfl ?_
        refine Aw_pass 18 rfl (by kernel_rfl) (by kernel_rfl) (by kernel_rfl) rfl rfl rfl rfl rfl rfl rfl ?_
        refine Aw_passU 19 rfl (by kernel_rfl) (by kernel_rfl) (by kernel_rfl) rfl rfl rfl rfl rfl ?_
        refine Aw_passU 20 rfl (by kernel_rfl) (by kernel_rfl) (by kernel_rfl) rfl rfl rfl rfl rfl ?_
        refine Aw_pass 21 rfl (by kernel_rfl) (by kernel_rfl) (by kernel_rfl) rfl rfl rfl rfl rfl rfl rfl ?_
        refine Aw_q 22 rfl (by kernel_rfl) (by kernel_rfl) (by kernel_rfl) rfl rfl rfl (Qt_pick_f rfl rfl) ?_
        refine Aw_q 23 rfl (by kernel_rfl) (by kernel_rfl) (by kernel_rfl) rfl rfl rfl (Qt_assign rfl) ?_
        refine Aw_done (by kernel_rfl) ?_
        refine Shift.rem .here ?_
        refine Shift.rem .here ?_
        refine Shift.done ?_
        exact ⟨[(4, (.bool false))], ⟨rfl, trivial⟩, false, rfl, rfl, rfl, H⟩
    · intro h70
      have H := iff_ (btf h70) H
      refine Cw_region_any [.blk b35 56 (Item.cells (Item.mk i40 (Access.mk i41 i42 i43 i44 i45) i46 p1.ok)), .blk b34 56 (Item.cells (Item.mk i47 (Access.mk i48 i49 i50 i51 i52) i53 p0.ok))] rfl (Inc.cons (.head _) (Inc.cons (.tail _ (.head _)) Inc.nil)) ?_
      refine Aw_q 0 rfl (by kernel_rfl) (by kernel_rfl) (by kernel_rfl) rfl rfl rfl (Qt_move rfl) ?_
      refine Aw_q 1 rfl (by kernel_rfl) (by kernel_rfl) (by kernel_rfl) rfl rfl rfl (Qt_move rfl) ?_
      refine Aw.known (d := 29) rfl (h70) ?_
      refine Aw_pass 2 rfl (by kernel_rfl) (by kernel_rfl) (by kernel_rfl) rfl rfl rfl rfl rfl rfl rfl ?_
      refine Aw_pass 3 rfl (by kernel_rfl) (by kernel_rfl) (by kernel_rfl) rfl rfl rfl rfl rfl rfl rfl ?_
      refine Aw_pass 4 rfl (by kernel_rfl) (by kernel_rfl) (by kernel_rfl) rfl rfl rfl rfl rfl rfl rfl ?_
      refine Aw_pass 5 rfl (by kernel_rfl) (by kernel_rfl) (by kernel_rfl) rfl rfl rfl rfl rfl rfl rfl ?_
      refine Aw_pass 6 rfl (by kernel_rfl) (by kernel_rfl) (by kernel_rfl) rfl rfl rfl rfl rfl rfl rfl ?_
      refine Aw_q 7 rfl (by kernel_rfl) (by kernel_rfl) (by kernel_rfl) rfl rfl rfl (Qt_pick_f rfl rfl) ?_
      refine Aw_q 8 rfl (by kernel_rfl) (by kernel_rfl) (by kernel_rfl) rfl rfl rfl (Qt_move rfl) ?_
      refine Aw_pass 9 rfl (by kernel_rfl) (by kernel_rfl) (by kernel_rfl) rfl rfl rfl rfl rfl rfl rfl ?_
      refine Aw_pass 10 rfl (by kernel_rfl) (by kernel_rfl) (by kernel_rfl) rfl rfl rfl rfl rfl rfl rfl ?_
      refine Aw_pass 11 rfl (by kernel_rfl) (by kernel_rfl) (by kernel_rfl) rfl rfl rfl rfl rfl rfl rfl ?_
      refine Aw_pass 12 rfl (by kernel_rfl) (by kernel_rfl) (by kernel_rfl) rfl rfl rfl rfl rfl rfl rfl ?_
      refine Aw_pass 13 rfl (by kernel_rfl) (by kernel_rfl) (by kernel_rfl) rfl rfl rfl rfl rfl rfl rfl ?_
      refine Aw_q 14 rfl (by kernel_rfl) (by kernel_rfl) (by kernel_rfl) rfl rfl rfl (Qt_pick_f rfl rfl) ?_
      refine Aw_q 15 rfl (by kernel_rfl) (by kernel_rfl) (by kernel_rfl) rfl rfl rfl (Qt_move rfl) ?_
      refine Aw_pass 16 rfl (by kernel_rfl) (by kernel_rfl) (by kernel_rfl) rfl rfl rfl rfl rfl rfl rfl ?_
      refine Aw_pass 17 rfl (by kernel_rfl) (by kernel_rfl) (by kernel_rfl) rfl rfl rfl rfl rfl rfl rfl ?_
      refine Aw_pass 18 rfl (by kernel_rfl) (by kernel_rfl) (by kernel_rfl) rfl rfl rfl rfl rfl rfl rfl ?_
      refine Aw_passU 19 rfl (by kernel_rfl) (by kernel_rfl) (by kernel_rfl) rfl rfl rfl rfl rfl ?_
      refine Aw_passU 20 rfl (by kernel_rfl) (by kernel_rfl) (by kernel_rfl) rfl rfl rfl rfl rfl ?_
      refine Aw_pass 21 rfl (by kernel_rfl) (by kernel_rfl) (by kernel_rfl) rfl rfl rfl rfl rfl rfl rfl ?_
      refine Aw_q 22 rfl (by kernel_rfl) (by kernel_rfl) (by kernel_rfl) rfl rfl rfl (Qt_pick_f rfl rfl) ?_
      refine Aw_q 23 rfl (by kernel_rfl) (by kernel_rfl) (by kernel_rfl) rfl rfl rfl (Qt_assign rfl) ?_
      refine Aw_done (by kernel_rfl) ?_
      refine Shift.rem .here ?_
      refine Shift.rem .here ?_
      refine Shift.done ?_
      exact ⟨[(4, (.bool false))], ⟨rfl, trivial⟩, false, rfl, rfl, rfl, H⟩
  rintro _ _ _ - ⟨t69, rfl, rfl, rfl, H⟩
  unfold M_ref4_Conflict_J2 at H
  refine Cw_ret ?_
  obtain ey0 := inj1 H
  subst y0
  refine ⟨(by first | exact .inl rfl | exact .inr rfl), [(.bool t69)], ⟨(.bool t69), _, rfl, rfl, rfl⟩, ?_⟩
  refine Shift.done ?_
  exact ⟨rfl, rfl, rfl⟩


end Go.Hx
