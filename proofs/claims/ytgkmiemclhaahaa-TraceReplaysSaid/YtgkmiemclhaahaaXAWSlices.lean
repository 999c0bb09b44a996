/- Printed by program. -/
import Derived.Test.YtgkmiemclhaahaaXAM
namespace Go.Hx
open Go Go.Proofs
set_option linter.unusedSimpArgs false
set_option linter.unusedVariables false
set_option maxRecDepth 10000
set_option maxHeartbeats 1000000 in
theorem c_M_slices_Index_int_int (p0 : List Int) (vp0 : SV) (p1 : Int) (y0 : Int) (H : M_slices_Index_int_int p0 p1 = some y0) (K : Kp) (G : List Ent) (hp0 : Slr Ty.i64 K (sv vp0) p0) :
    Fc Try.prog 61 #[(sv vp0), (.int .i64 p1)] K (G) (fun v K' G' => v = (.int .i64 y0) ∧ G = G') := by
  refine Fc_body Try.func61 rfl Try.ntmps61 Try.results61 rfl ?_
  unfold M_slices_Index_int_int at H
  refine Cw_seq ?_
  refine Cw_region ?_
  refine Ow_q rfl rfl rfl (Qt_assign rfl) ?_
  refine Ow_nil ?_
  refine Cw_join (fun env' K' G' => [] = env' ∧ G = G' ∧ M_slices_Index_int_int_J1 = some y0) ?_ ?_
  · skip
    refine Cw_seq ?_
    refine Cw_region ?_
    refine Ow_q rfl rfl rfl (Qt_move rfl) ?_
    refine Ow_q rfl rfl rfl (Q_len (T := Ty.i64) hp0 rfl rfl) ?_
    refine Ow_q rfl rfl rfl (Qt_move rfl) ?_
    refine Ow_nil ?_
    refine Cw_block ?_
    refine Cw_loopM (fun n69 env' K' G' => ∃ (i68 : Int), [(0, (sv vp0)), (1, (.int .i64 p1)), (7, (.int .i64 (p0.length : Int))), (8, (.int .i64 i68))] = env' ∧ K = K' ∧ G = G' ∧ lp1 (M_slices_Index_int_int_L1 p0 p1) n69 i68 = some y0) BIG ?_ ?_
    · skip
      refine Shift.done ?_
      exact ⟨[(0, (sv vp0)), (1, (.int .i64 p1)), (7, (.int .i64 (p0.length : Int))), (8, (.int .i64 0))], ⟨rfl, rfl, rfl, rfl, trivial⟩, 0, rfl, rfl, rfl, H⟩
    rintro n69 _ _ _ - ⟨i68, rfl, rfl, rfl, H⟩
    obtain ⟨m70, k71, rfl, hkk72, H⟩ := lps1 H
    unfold M_slices_Index_int_int_L1 at H
    refine Cw_seq ?_
    refine Cw_region ?_
    refine Ow_q rfl rfl rfl (Qt_cmp rfl rfl rfl) ?_
    refine Ow_nil ?_
    refine Cw_seq ?_
    refine Cw_cond rfl ?_ ?_
    · intro h74
      have h74 := dcd_t (h74)
      have H := ift h74 H
      refine Cw_skip ?_
      refine Cw_seq ?_
      refine Cw_block ?_
      refine Cw_seq ?_
      refine Cw_region ?_
      refine Ow_q rfl rfl rfl (Qt_move rfl) ?_
      refine Ow_q rfl rfl rfl (Qt_assign rfl) ?_
      refine Ow_nil ?_
      refine Cw_seq ?_
      refine Cw_region ?_
      refine Ow_q rfl rfl rfl (Qt_move rfl) ?_
      refine Ow_q rfl rfl rfl (Qt_move rfl) ?_
      refine Ow_q rfl rfl rfl (Qt_move rfl) ?_
      obtain ⟨x81, hx82, H⟩ := bnd H
      obtain ⟨r83, hr84, hk85⟩ := Slr.at hp0 hx82
      obtain rfl := hr84
      refine Ow_q rfl rfl rfl (Q_ix (T := Ty.i64) hp0 hx82 rfl rfl rfl rfl rfl) ?_
      refine Ow_q rfl rfl rfl (Qt_load1 (v := (.int .i64 x81)) rfl rfl rfl (Rdc.k hk85 rfl)) ?_
      refine Ow_q rfl rfl rfl (Qt_cmp rfl rfl rfl) ?_
      refine Ow_nil ?_
      refine Cw_cond rfl ?_ ?_
      · intro h86
        have h86 := dcd_t (h86)
        have H := ift h86 H
        refine Cw_seq ?_
        refine Cw_region ?_
        refine Ow_q rfl rfl rfl (Qt_move rfl) ?_
        refine Ow_q rfl rfl rfl (Qt_assign rfl) ?_
        refine Ow_nil ?_
        refine Cw_ret ?_
        obtain ey0 := inj1 H
        subst y0
        refine ⟨(by first | exact .inl rfl | exact .inr rfl), [(.int .i64 i68)], ⟨(.int .i64 i68), _, rfl, rfl, rfl⟩, ?_⟩
        refine Shift.done ?_
        exact ⟨rfl, rfl⟩
      · intro h86
        have h86 := dcd_f (h86)
        have H := iff_ h86 H
        refine Cw_skip ?_
        refine Cw_region ?_
        refine Ow_q rfl rfl rfl (Qt_arith (e := wI (i68 + 1)) rfl rfl rfl rfl) ?_
        refine Ow_q rfl rfl rfl (Qt_move rfl) ?_
        refine Ow_nil ?_
        refine Shift.done ?_
        exact ⟨[(0, (sv vp0)), (1, (.int .i64 p1)), (7, (.int .i64 (p0.length : Int))), (8, (.int .i64 (wI (i68 + 1))))], ⟨rfl, rfl, rfl, rfl, trivial⟩, _, Nat.lt_succ_self _, (wI (i68 + 1)), rfl, rfl, rfl, (hkk72 ▸ H)⟩
    · intro h74
      have h74 := dcd_f (h74)
      have H := iff_ h74 H
      refine Cw_exit ?_
      refine Shift.done ?_
      exact ⟨[], trivial, rfl, rfl, H⟩
  rintro _ K87 _ hK88 ⟨rfl, rfl, H⟩
  unfold M_slices_Index_int_int_J1 at H
  refine Cw_seq ?_
  refine Cw_region ?_
  refine Ow_q rfl rfl rfl (Qt_assign rfl) ?_
  refine Ow_nil ?_
  refine Cw_ret ?_
  obtain ey0 := inj1 H
  subst y0
  refine ⟨(by first | exact .inl rfl | exact .inr rfl), [(.int .i64 (-1))], ⟨(.int .i64 (-1)), _, rfl, rfl, rfl⟩, ?_⟩
  refine Shift.done ?_
  exact ⟨rfl, rfl⟩

set_option maxHeartbeats 1000000 in
theorem c_M_slices_Clone_int_int (p0 : List Int) (vp0 : SV) (y0 : List Int) (H : M_slices_Clone_int_int p0 = some y0) (K : Kp) (G : List Ent) (hp0 : Slr Ty.i64 K (sv vp0) p0) :
    Fc Try.prog 62 #[(sv vp0)] K (G) (fun v K' G' => ∃ (wy0 : SV) (rswy0 : List (List Value)), v = (sv wy0) ∧ K = K' ∧ (.row (sv wy0) 3 1 rswy0.flatten) :: G = G' ∧ RowR Ty.i64 K' rswy0 y0) := by
  refine Fc_body Try.func62 rfl Try.ntmps62 Try.results62 rfl ?_
  unfold M_slices_Clone_int_int at H
  refine Cw_seq ?_
  refine Cw_region ?_
  refine Ow_q rfl rfl rfl (Qt_assign rfl) ?_
  refine Ow_nil ?_
  refine Cw_seq ?_
  refine Cw_seq ?_
  refine Cw_region ?_
  refine Ow_q rfl rfl rfl (Qt_move rfl) ?_
  refine Ow_q rfl rfl rfl (Qt_eqNilS rfl rfl rfl) ?_
  refine Ow_nil ?_
  refine Cw_cond rfl ?_ ?_
  · intro h15
    have hl16 := Slr.nil_of hp0 h15
    have H : some [] = some y0 := by rw [hl16] at H; simpa [app] using H
    refine Cw_seq ?_
    refine Cw_region ?_
    refine Ow_q rfl rfl rfl (Qt_assign rfl) ?_
    refine Ow_nil ?_
    refine Cw_ret ?_
    obtain ey0 := inj1 H
    subst y0
    refine ⟨(by first | exact .inl rfl | exact .inr rfl), [(sv nilS)], ⟨(sv nilS), _, rfl, rfl, rfl⟩, ?_⟩
    have hR17 : RowR Ty.i64 K [] [] := RowR.nil
    refine Shift.nilRow 3 1 ?_
    refine Shift.done ?_
    exact ⟨nilS, ([] : List (List Value)), rfl, rfl, rfl, hR17⟩
  · intro h15
    refine Cw_skip ?_
    refine Cw_seq ?_
    refine Cw_region ?_
    have hR19 : RowR Ty.i64 K [] [] := RowR.nil
    refine Ow_cons rfl (O_lit0 (T := Ty.i64) rfl rfl rfl rfl rfl (fun v18 => ?_))
    refine Ow_q rfl rfl rfl (Qt_move rfl) ?_
    obtain ⟨x20, hx21, H⟩ := bnd H
    refine Ow_cons rfl (O_appRow (T := Ty.i64) (bytes := 8) rfl rfl rfl (.head _) hR19 (SrcT.sl hp0) hx21 rfl rfl rfl rfl rfl rfl rfl rfl (fun v22 rs23 hR24 => ⟨_, .here, ?_⟩))
    refine Ow_q rfl rfl rfl (Qt_assign rfl) ?_
    refine Ow_nil ?_
    refine Cw_ret ?_
    obtain ey0 := inj1 H
    subst y0
    refine ⟨(by first | exact .inl rfl | exact .inr rfl), [(sv v22)], ⟨(sv v22), _, rfl, rfl, rfl⟩, ?_⟩
    refine Shift.done ?_
    exact ⟨v22, rs23, rfl, rfl, rfl, hR24⟩

set_option maxHeartbeats 1000000 in
theorem c_M_slices_Delete_int_int (p0 : List Int) (vp0 : SV) (rsp0 : List (List Value)) (p1 : Int) (p2 : Int) (y0 : List Int) (H : M_slices_Delete_int_int p0 p1 p2 = some y0) (K : Kp) (G : List Ent) (hp0 : RowR Ty.i64 K rsp0 p0) :
    Fc Try.prog 63 #[(sv vp0), (.int .i64 p1), (.int .i64 p2)] K ((.row (sv vp0) 3 1 rsp0.flatten) :: G) (fun v K' G' => ∃ (wy0 : SV) (rswy0 : List (List Value)), v = (sv wy0) ∧ K = K' ∧ (.row (sv wy0) 3 1 rswy0.flatten) :: G = G' ∧ RowR Ty.i64 K' rswy0 y0) := by
  refine Fc_body Try.func63 rfl Try.ntmps63 Try.results63 rfl ?_
  unfold M_slices_Delete_int_int at H
  refine Cw_seq ?_
  refine Cw_region ?_
  refine Ow_q rfl rfl rfl (Qt_assign rfl) ?_
  refine Ow_nil ?_
  refine Cw_seq ?_
  refine Cw_region ?_
  refine Ow_q rfl rfl rfl (Qt_move rfl) ?_
  refine Ow_q rfl rfl rfl (Qt_move rfl) ?_
  refine Ow_q rfl rfl rfl (Qt_move rfl) ?_
  refine Ow_q rfl rfl rfl (Qt_move rfl) ?_
  refine Ow_q rfl rfl rfl (Q_lenR (T := Ty.i64) (.head _) hp0 rfl rfl rfl) ?_
  obtain ⟨x22, hx23, H⟩ := bnd H
  refine Ow_q rfl rfl rfl (Q_cutR3 (T := Ty.i64) (.head _) hp0 rfl hx23 rfl rfl rfl rfl rfl rfl rfl) ?_
  refine Ow_nil ?_
  refine Cw_seq ?_
  refine Cw_seq ?_
  refine Cw_region ?_
  refine Ow_q rfl rfl rfl (Qt_move rfl) ?_
  refine Ow_q rfl rfl rfl (Qt_move rfl) ?_
  refine Ow_q rfl rfl rfl (Qt_cmp rfl rfl rfl) ?_
  refine Ow_nil ?_
  refine Cw_cond rfl ?_ ?_
  · intro h25
    have h25 := dcd_t (h25)
    have H := ift h25 H
    refine Cw_seq ?_
    refine Cw_region ?_
    refine Ow_q rfl rfl rfl (Qt_move rfl) ?_
    refine Ow_q rfl rfl rfl (Qt_assign rfl) ?_
    refine Ow_nil ?_
    refine Cw_ret ?_
    obtain ey0 := inj1 H
    subst y0
    refine ⟨(by first | exact .inl rfl | exact .inr rfl), [(sv vp0)], ⟨(sv vp0), _, rfl, rfl, rfl⟩, ?_⟩
    refine Shift.done ?_
    exact ⟨vp0, rsp0, rfl, rfl, rfl, hp0⟩
  · intro h25
    have h25 := dcd_f (h25)
    have H := iff_ h25 H
    refine Cw_skip ?_
    refine Cw_seq ?_
    refine Cw_region ?_
    refine Ow_q rfl rfl rfl (Qt_move rfl) ?_
    refine Ow_q rfl rfl rfl (Q_lenR (T := Ty.i64) (.head _) hp0 rfl rfl rfl) ?_
    refine Ow_q rfl rfl rfl (Qt_assign rfl) ?_
    refine Ow_nil ?_
    refine Cw_seq ?_
    obtain ⟨x26, hx27, H⟩ := bnd H
    obtain ⟨x28, hx29, H⟩ := bnd H
    obtain ⟨x30, hx31, H⟩ := bnd H
    refine Cw_region_any [] rfl Inc.nil ?_
    refine Aw_q 0 rfl (by kernel_rfl) (by kernel_rfl) (by kernel_rfl) rfl rfl rfl (Qt_move rfl) ?_
    refine Aw_q 1 rfl (by kernel_rfl) (by kernel_rfl) (by kernel_rfl) rfl rfl rfl (Qt_move rfl) ?_
    refine Aw_q 3 rfl (by kernel_rfl) (by kernel_rfl) (by kernel_rfl) rfl rfl rfl (Qt_move rfl) ?_
    refine Aw_q 4 rfl (by kernel_rfl) (by kernel_rfl) (by kernel_rfl) rfl rfl rfl (Qt_move rfl) ?_
    refine Aw_two 2 5 (by kernel_rfl) ?_ ?_
    · skip
      refine id (Ax_mk rfl rfl (OpW_of_Qt rfl rfl (Q_cutRH (T := Ty.i64) (.head _) hp0 rfl hx27 rfl rfl rfl rfl) ⟨Inc.nil, ?_⟩))
      refine Aw_one 5 (by kernel_rfl) (Ax_mk rfl rfl (OpW_of_Qt rfl rfl (Q_cutRL (T := Ty.i64) (.head _) hp0 rfl hx29 rfl rfl rfl rfl rfl) ⟨Inc.nil, ?_⟩))
      refine Aw_one 6 (by kernel_rfl) (Ax_mk rfl rfl ?_)
      refine O_appCut (T := Ty.i64) rfl rfl rfl (.head _) hp0 hx27 (SrcT.cutL (.head _) hp0 rfl hx29) ⟨_, _, _, rfl, cutS_some⟩ hx31 rfl rfl rfl rfl (fun hc36 hl37 rs38 hR39 => ⟨_, .here, ⟨Inc.nil, ?_⟩⟩)
      refine Aw_q 7 rfl (by kernel_rfl) (by kernel_rfl) (by kernel_rfl) rfl rfl rfl (Qt_assign rfl) ?_
      refine Aw_done (by kernel_rfl) ?_
      refine Cw_seq ?_
      refine Cw_region ?_
      refine Ow_q rfl rfl rfl (Qt_move rfl) ?_
      refine Ow_q rfl rfl rfl (Qt_move rfl) ?_
      refine Ow_q rfl rfl rfl (Q_lenR (T := Ty.i64) (.head _) hR39 rfl rfl rfl) ?_
      refine Ow_q rfl rfl rfl (Qt_move rfl) ?_
      refine Ow_q rfl rfl rfl (Q_tail (T := Ty.i64) hc36 hl37 rfl rfl rfl rfl rfl rfl) ?_
      refine Ow_cons rfl (O_clearTail (T := Ty.i64) rfl rfl rfl rfl rfl rfl rfl (by first | rfl | kernel_rfl | decide) (.head _) hR39 hl37 hc36 ?_)
      refine Ow_nil ?_
      refine Cw_seq ?_
      refine Cw_region ?_
      refine Ow_q rfl rfl rfl (Qt_move rfl) ?_
      refine Ow_q rfl rfl rfl (Qt_assign rfl) ?_
      refine Ow_nil ?_
      refine Cw_ret ?_
      obtain ey0 := inj1 H
      subst y0
      refine ⟨(by first | exact .inl rfl | exact .inr rfl), [(sv (cutA vp0 x30.length))], ⟨(sv (cutA vp0 x30.length)), _, rfl, rfl, rfl⟩, ?_⟩
      refine Shift.done ?_
      exact ⟨(cutA vp0 x30.length), rs38, rfl, rfl, rfl, hR39⟩
    · skip
      refine id (Ax_mk rfl rfl (OpW_of_Qt rfl rfl (Q_cutRL (T := Ty.i64) (.head _) hp0 rfl hx29 rfl rfl rfl rfl rfl) ⟨Inc.nil, ?_⟩))
      refine Aw_one 2 (by kernel_rfl) (Ax_mk rfl rfl (OpW_of_Qt rfl rfl (Q_cutRH (T := Ty.i64) (.head _) hp0 rfl hx27 rfl rfl rfl rfl) ⟨Inc.nil, ?_⟩))
      refine Aw_one 6 (by kernel_rfl) (Ax_mk rfl rfl ?_)
      refine O_appCut (T := Ty.i64) rfl rfl rfl (.head _) hp0 hx27 (SrcT.cutL (.head _) hp0 rfl hx29) ⟨_, _, _, rfl, cutS_some⟩ hx31 rfl rfl rfl rfl (fun hc40 hl41 rs42 hR43 => ⟨_, .here, ⟨Inc.nil, ?_⟩⟩)
      refine Aw_q 7 rfl (by kernel_rfl) (by kernel_rfl) (by kernel_rfl) rfl rfl rfl (Qt_assign rfl) ?_
      refine Aw_done (by kernel_rfl) ?_
      refine Cw_seq ?_
      refine Cw_region ?_
      refine Ow_q rfl rfl rfl (Qt_move rfl) ?_
      refine Ow_q rfl rfl rfl (Qt_move rfl) ?_
      refine Ow_q rfl rfl rfl (Q_lenR (T := Ty.i64) (.head _) hR43 rfl rfl rfl) ?_
      refine Ow_q rfl rfl rfl (Qt_move rfl) ?_
      refine Ow_q rfl rfl rfl (Q_tail (T := Ty.i64) hc40 hl41 rfl rfl rfl rfl rfl rfl) ?_
      refine Ow_cons rfl (O_clearTail (T := Ty.i64) rfl rfl rfl rfl rfl rfl rfl (by first | rfl | kernel_rfl | decide) (.head _) hR43 hl41 hc40 ?_)
      refine Ow_nil ?_
      refine Cw_seq ?_
      refine Cw_region ?_
      refine Ow_q rfl rfl rfl (Qt_move rfl) ?_
      refine Ow_q rfl rfl rfl (Qt_assign rfl) ?_
      refine Ow_nil ?_
      refine Cw_ret ?_
      obtain ey0 := inj1 H
      subst y0
      refine ⟨(by first | exact .inl rfl | exact .inr rfl), [(sv (cutA vp0 x30.length))], ⟨(sv (cutA vp0 x30.length)), _, rfl, rfl, rfl⟩, ?_⟩
      refine Shift.done ?_
      exact ⟨(cutA vp0 x30.length), rs42, rfl, rfl, rfl, hR43⟩

set_option maxHeartbeats 1000000 in
theorem c_M_slices_Clone_int_int_b (p0 : List (List Int)) (vp0 : SV) (y0 : List (List Int)) (H : M_slices_Clone_int_int_b p0 = some y0) (K : Kp) (G : List Ent) (hp0 : Slr (Ty.sl Ty.i64) K (sv vp0) p0) :
    Fc Try.prog 64 #[(sv vp0)] K (G) (fun v K' G' => ∃ (wy0 : SV) (rswy0 : List (List Value)), v = (sv wy0) ∧ K = K' ∧ (.row (sv wy0) 38 1 rswy0.flatten) :: G = G' ∧ RowR (Ty.sl Ty.i64) K' rswy0 y0) := by
  refine Fc_body Try.func64 rfl Try.ntmps64 Try.results64 rfl ?_
  unfold M_slices_Clone_int_int_b at H
  refine Cw_seq ?_
  refine Cw_region ?_
  refine Ow_q rfl rfl rfl (Qt_assign rfl) ?_
  refine Ow_nil ?_
  refine Cw_seq ?_
  refine Cw_seq ?_
  refine Cw_region ?_
  refine Ow_q rfl rfl rfl (Qt_move rfl) ?_
  refine Ow_q rfl rfl rfl (Qt_eqNilS rfl rfl rfl) ?_
  refine Ow_nil ?_
  refine Cw_cond rfl ?_ ?_
  · intro h15
    have hl16 := Slr.nil_of hp0 h15
    have H : some [] = some y0 := by rw [hl16] at H; simpa [app] using H
    refine Cw_seq ?_
    refine Cw_region ?_
    refine Ow_q rfl rfl rfl (Qt_assign rfl) ?_
    refine Ow_nil ?_
    refine Cw_ret ?_
    obtain ey0 := inj1 H
    subst y0
    refine ⟨(by first | exact .inl rfl | exact .inr rfl), [(sv nilS)], ⟨(sv nilS), _, rfl, rfl, rfl⟩, ?_⟩
    have hR17 : RowR (Ty.sl Ty.i64) K [] [] := RowR.nil
    refine Shift.nilRow 38 1 ?_
    refine Shift.done ?_
    exact ⟨nilS, ([] : List (List Value)), rfl, rfl, rfl, hR17⟩
  · intro h15
    refine Cw_skip ?_
    refine Cw_seq ?_
    refine Cw_region ?_
    have hR19 : RowR (Ty.sl Ty.i64) K [] [] := RowR.nil
    refine Ow_cons rfl (O_lit0 (T := (Ty.sl Ty.i64)) rfl rfl rfl rfl rfl (fun v18 => ?_))
    refine Ow_q rfl rfl rfl (Qt_move rfl) ?_
    obtain ⟨x20, hx21, H⟩ := bnd H
    refine Ow_cons rfl (O_appRow (T := (Ty.sl Ty.i64)) (bytes := 24) rfl rfl rfl (.head _) hR19 (SrcT.sl hp0) hx21 rfl rfl rfl rfl rfl rfl rfl rfl (fun v22 rs23 hR24 => ⟨_, .here, ?_⟩))
    refine Ow_q rfl rfl rfl (Qt_assign rfl) ?_
    refine Ow_nil ?_
    refine Cw_ret ?_
    obtain ey0 := inj1 H
    subst y0
    refine ⟨(by first | exact .inl rfl | exact .inr rfl), [(sv v22)], ⟨(sv v22), _, rfl, rfl, rfl⟩, ?_⟩
    refine Shift.done ?_
    exact ⟨v22, rs23, rfl, rfl, rfl, hR24⟩

set_option maxHeartbeats 1000000 in
theorem c_M_slices_Clone_uint64_uint64 (p0 : List Int) (vp0 : SV) (y0 : List Int) (H : M_slices_Clone_uint64_uint64 p0 = some y0) (K : Kp) (G : List Ent) (hp0 : Slr Ty.u64 K (sv vp0) p0) :
    Fc Try.prog 65 #[(sv vp0)] K (G) (fun v K' G' => ∃ (wy0 : SV) (rswy0 : List (List Value)), v = (sv wy0) ∧ K = K' ∧ (.row (sv wy0) 22 1 rswy0.flatten) :: G = G' ∧ RowR Ty.u64 K' rswy0 y0) := by
  refine Fc_body Try.func65 rfl Try.ntmps65 Try.results65 rfl ?_
  unfold M_slices_Clone_uint64_uint64 at H
  refine Cw_seq ?_
  refine Cw_region ?_
  refine Ow_q rfl rfl rfl (Qt_assign rfl) ?_
  refine Ow_nil ?_
  refine Cw_seq ?_
  refine Cw_seq ?_
  refine Cw_region ?_
  refine Ow_q rfl rfl rfl (Qt_move rfl) ?_
  refine Ow_q rfl rfl rfl (Qt_eqNilS rfl rfl rfl) ?_
  refine Ow_nil ?_
  refine Cw_cond rfl ?_ ?_
  · intro h15
    have hl16 := Slr.nil_of hp0 h15
    have H : some [] = some y0 := by rw [hl16] at H; simpa [app] using H
    refine Cw_seq ?_
    refine Cw_region ?_
    refine Ow_q rfl rfl rfl (Qt_assign rfl) ?_
    refine Ow_nil ?_
    refine Cw_ret ?_
    obtain ey0 := inj1 H
    subst y0
    refine ⟨(by first | exact .inl rfl | exact .inr rfl), [(sv nilS)], ⟨(sv nilS), _, rfl, rfl, rfl⟩, ?_⟩
    have hR17 : RowR Ty.u64 K [] [] := RowR.nil
    refine Shift.nilRow 22 1 ?_
    refine Shift.done ?_
    exact ⟨nilS, ([] : List (List Value)), rfl, rfl, rfl, hR17⟩
  · intro h15
    refine Cw_skip ?_
    refine Cw_seq ?_
    refine Cw_region ?_
    have hR19 : RowR Ty.u64 K [] [] := RowR.nil
    refine Ow_cons rfl (O_lit0 (T := Ty.u64) rfl rfl rfl rfl rfl (fun v18 => ?_))
    refine Ow_q rfl rfl rfl (Qt_move rfl) ?_
    obtain ⟨x20, hx21, H⟩ := bnd H
    refine Ow_cons rfl (O_appRow (T := Ty.u64) (bytes := 8) rfl rfl rfl (.head _) hR19 (SrcT.sl hp0) hx21 rfl rfl rfl rfl rfl rfl rfl rfl (fun v22 rs23 hR24 => ⟨_, .here, ?_⟩))
    refine Ow_q rfl rfl rfl (Qt_assign rfl) ?_
    refine Ow_nil ?_
    refine Cw_ret ?_
    obtain ey0 := inj1 H
    subst y0
    refine ⟨(by first | exact .inl rfl | exact .inr rfl), [(sv v22)], ⟨(sv v22), _, rfl, rfl, rfl⟩, ?_⟩
    refine Shift.done ?_
    exact ⟨v22, rs23, rfl, rfl, rfl, hR24⟩


end Go.Hx
