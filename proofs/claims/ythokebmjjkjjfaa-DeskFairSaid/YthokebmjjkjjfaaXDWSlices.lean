/- Printed by program. -/
import Derived.Test.YthokebmjjkjjfaaXDM
import Derived.Test.YthokebmjjkjjfaaXDShelf
namespace Go.Hx
open Go Go.Proofs
set_option linter.unusedSimpArgs false
set_option linter.unusedVariables false
set_option maxRecDepth 10000
set_option maxHeartbeats 1000000 in
theorem c_M_129z (p0 : List Chan) (vp0 : SV) (y0 : List Chan) (H : M_129z p0 = some y0) (K : Kp) (G : List Ent) (hp0 : Slr TyChan K (sv vp0) p0) :
  Fc Try.prog 74 #[(sv vp0)] K (G) (fun v K' G' => ∃ (wy0 : SV) (rswy0 : List (List Value)), v = (sv wy0) ∧ K = K' ∧ (.row (sv wy0) 71 3 rswy0.flatten) :: G = G' ∧ RowR TyChan K' rswy0 y0) := by
 refine Fc_body Try.func74 rfl Try.ntmps74 Try.results74 rfl ?_
 unfold M_129z at H
 refine Cw_seq ?_
 refine Cw_region ?_
 refine Ow_q rfl rfl rfl (Qt_assign rfl) ?_
 refine Ow_nil ?_
 refine Cw_seq ?_
 refine Cw_seq ?_
 refine Cw_region ?_
 refine Ow_q rfl rfl rfl (Qt_move rfl) ?_
 refine Ow_q rfl rfl rfl (Qt_eqNilS rfl rfl rfl) ?_
 refine Ow_nil ?_
 refine Cw_cond rfl ?_ ?_
 ·intro h15
  have hl16 := Slr.nil_of hp0 h15
  have H : some [] = some y0 := by rw [hl16] at H; simpa [app] using H
  refine Cw_seq ?_
  refine Cw_region ?_
  refine Ow_q rfl rfl rfl (Qt_assign rfl) ?_
  refine Ow_nil ?_
  refine Cw_ret ?_
  obtain ey0 := inj1 H
  subst y0
  refine ⟨(by first | exact .inl rfl | exact .inr rfl), [(sv nilS)], ⟨(sv nilS), _, rfl, rfl, rfl⟩, ?_⟩
  have hR17 : RowR TyChan K [] [] := RowR.nil
  refine Shift.nilRow 71 3 ?_
  refine Shift.done ?_
  exact ⟨nilS, ([] : List (List Value)), rfl, rfl, rfl, hR17⟩
 ·intro h15
  refine Cw_skip ?_
  refine Cw_seq ?_
  refine Cw_region ?_
  have hR19 : RowR TyChan K [] [] := RowR.nil
  refine Ow_cons rfl (O_lit0 (T := TyChan) rfl rfl rfl rfl rfl (fun v18 => ?_))
  refine Ow_q rfl rfl rfl (Qt_move rfl) ?_
  obtain ⟨x20, hx21, H⟩ := bnd H
  refine Ow_cons rfl (O_appRow (T := TyChan) (bytes := 40) rfl rfl rfl (.head _) hR19 (SrcT.sl hp0) hx21 rfl rfl rfl rfl rfl rfl rfl rfl (fun v22 rs23 hR24 => ⟨_, .here, ?_⟩))
  refine Ow_q rfl rfl rfl (Qt_assign rfl) ?_
  refine Ow_nil ?_
  refine Cw_ret ?_
  obtain ey0 := inj1 H
  subst y0
  refine ⟨(by first | exact .inl rfl | exact .inr rfl), [(sv v22)], ⟨(sv v22), _, rfl, rfl, rfl⟩, ?_⟩
  refine Shift.done ?_
  exact ⟨v22, rs23, rfl, rfl, rfl, hR24⟩

set_option maxHeartbeats 1000000 in
theorem c_M_130z (p0 : List Waiter) (vp0 : SV) (y0 : List Waiter) (H : M_130z p0 = some y0) (K : Kp) (G : List Ent) (hp0 : Slr TyWaiter K (sv vp0) p0) :
  Fc Try.prog 75 #[(sv vp0)] K (G) (fun v K' G' => ∃ (wy0 : SV) (rswy0 : List (List Value)), v = (sv wy0) ∧ K = K' ∧ (.row (sv wy0) 52 8 rswy0.flatten) :: G = G' ∧ RowR TyWaiter K' rswy0 y0) := by
 refine Fc_body Try.func75 rfl Try.ntmps75 Try.results75 rfl ?_
 unfold M_130z at H
 refine Cw_seq ?_
 refine Cw_region ?_
 refine Ow_q rfl rfl rfl (Qt_assign rfl) ?_
 refine Ow_nil ?_
 refine Cw_seq ?_
 refine Cw_seq ?_
 refine Cw_region ?_
 refine Ow_q rfl rfl rfl (Qt_move rfl) ?_
 refine Ow_q rfl rfl rfl (Qt_eqNilS rfl rfl rfl) ?_
 refine Ow_nil ?_
 refine Cw_cond rfl ?_ ?_
 ·intro h15
  have hl16 := Slr.nil_of hp0 h15
  have H : some [] = some y0 := by rw [hl16] at H; simpa [app] using H
  refine Cw_seq ?_
  refine Cw_region ?_
  refine Ow_q rfl rfl rfl (Qt_assign rfl) ?_
  refine Ow_nil ?_
  refine Cw_ret ?_
  obtain ey0 := inj1 H
  subst y0
  refine ⟨(by first | exact .inl rfl | exact .inr rfl), [(sv nilS)], ⟨(sv nilS), _, rfl, rfl, rfl⟩, ?_⟩
  have hR17 : RowR TyWaiter K [] [] := RowR.nil
  refine Shift.nilRow 52 8 ?_
  refine Shift.done ?_
  exact ⟨nilS, ([] : List (List Value)), rfl, rfl, rfl, hR17⟩
 ·intro h15
  refine Cw_skip ?_
  refine Cw_seq ?_
  refine Cw_region ?_
  have hR19 : RowR TyWaiter K [] [] := RowR.nil
  refine Ow_cons rfl (O_lit0 (T := TyWaiter) rfl rfl rfl rfl rfl (fun v18 => ?_))
  refine Ow_q rfl rfl rfl (Qt_move rfl) ?_
  obtain ⟨x20, hx21, H⟩ := bnd H
  refine Ow_cons rfl (O_appRow (T := TyWaiter) (bytes := 96) rfl rfl rfl (.head _) hR19 (SrcT.sl hp0) hx21 rfl rfl rfl rfl rfl rfl rfl rfl (fun v22 rs23 hR24 => ⟨_, .here, ?_⟩))
  refine Ow_q rfl rfl rfl (Qt_assign rfl) ?_
  refine Ow_nil ?_
  refine Cw_ret ?_
  obtain ey0 := inj1 H
  subst y0
  refine ⟨(by first | exact .inl rfl | exact .inr rfl), [(sv v22)], ⟨(sv v22), _, rfl, rfl, rfl⟩, ?_⟩
  refine Shift.done ?_
  exact ⟨v22, rs23, rfl, rfl, rfl, hR24⟩

set_option maxHeartbeats 1000000 in
theorem c_M_75z (p0 : List Waiter) (vp0 : SV) (rsp0 : List (List Value)) (p1 : Int) (p2 : Int) (y0 : List Waiter) (H : M_75z p0 p1 p2 = some y0) (K : Kp) (G : List Ent) (hp0 : RowR TyWaiter K rsp0 p0) :
  Fc Try.prog 89 #[(sv vp0), (.int .i64 p1), (.int .i64 p2)] K ((.row (sv vp0) 52 8 rsp0.flatten) :: G) (fun v K' G' => ∃ (wy0 : SV) (rswy0 : List (List Value)), v = (sv wy0) ∧ K = K' ∧ (.row (sv wy0) 52 8 rswy0.flatten) :: G = G' ∧ RowR TyWaiter K' rswy0 y0) := by
 refine Fc_body Try.func89 rfl Try.ntmps89 Try.results89 rfl ?_
 unfold M_75z at H
 refine Cw_seq ?_
 refine Cw_region ?_
 refine Ow_q rfl rfl rfl (Qt_assign rfl) ?_
 refine Ow_nil ?_
 refine Cw_seq ?_
 refine Cw_region ?_
 refine Ow_q rfl rfl rfl (Qt_move rfl) ?_
 refine Ow_q rfl rfl rfl (Qt_move rfl) ?_
 refine Ow_q rfl rfl rfl (Qt_move rfl) ?_
 refine Ow_q rfl rfl rfl (Qt_move rfl) ?_
 refine Ow_q rfl rfl rfl (Q_lenR (T := TyWaiter) (.head _) hp0 rfl rfl rfl) ?_
 obtain ⟨x22, hx23, H⟩ := bnd H
 refine Ow_q rfl rfl rfl (Q_cutR3 (T := TyWaiter) (.head _) hp0 rfl hx23 rfl rfl rfl rfl rfl rfl rfl) ?_
 refine Ow_nil ?_
 refine Cw_seq ?_
 refine Cw_seq ?_
 refine Cw_region ?_
 refine Ow_q rfl rfl rfl (Qt_move rfl) ?_
 refine Ow_q rfl rfl rfl (Qt_move rfl) ?_
 refine Ow_q rfl rfl rfl (Qt_cmp rfl rfl rfl) ?_
 refine Ow_nil ?_
 refine Cw_cond rfl ?_ ?_
 ·intro h25
  have h25 := dcd_t (h25)
  have H := ift h25 H
  refine Cw_seq ?_
  refine Cw_region ?_
  refine Ow_q rfl rfl rfl (Qt_move rfl) ?_
  refine Ow_q rfl rfl rfl (Qt_assign rfl) ?_
  refine Ow_nil ?_
  refine Cw_ret ?_
  obtain ey0 := inj1 H
  subst y0
  refine ⟨(by first | exact .inl rfl | exact .inr rfl), [(sv vp0)], ⟨(sv vp0), _, rfl, rfl, rfl⟩, ?_⟩
  refine Shift.done ?_
  exact ⟨vp0, rsp0, rfl, rfl, rfl, hp0⟩
 ·intro h25
  have h25 := dcd_f (h25)
  have H := iff_ h25 H
  refine Cw_skip ?_
  refine Cw_seq ?_
  refine Cw_region ?_
  refine Ow_q rfl rfl rfl (Qt_move rfl) ?_
  refine Ow_q rfl rfl rfl (Q_lenR (T := TyWaiter) (.head _) hp0 rfl rfl rfl) ?_
  refine Ow_q rfl rfl rfl (Qt_assign rfl) ?_
  refine Ow_nil ?_
  refine Cw_seq ?_
  obtain ⟨x26, hx27, H⟩ := bnd H
  obtain ⟨x28, hx29, H⟩ := bnd H
  obtain ⟨x30, hx31, H⟩ := bnd H
  refine Cw_region_any [] rfl Inc.nil ?_
  refine Aw_q 0 rfl (by kernel_rfl) (by kernel_rfl) (by kernel_rfl) rfl rfl rfl (Qt_move rfl) ?_
  refine Aw_q 1 rfl (by kernel_rfl) (by kernel_rfl) (by kernel_rfl) rfl rfl rfl (Qt_move rfl) ?_
  refine Aw_q 3 rfl (by kernel_rfl) (by kernel_rfl) (by kernel_rfl) rfl rfl rfl (Qt_move rfl) ?_
  refine Aw_q 4 rfl (by kernel_rfl) (by kernel_rfl) (by kernel_rfl) rfl rfl rfl (Qt_move rfl) ?_
  refine Aw_two 2 5 (by kernel_rfl) ?_ ?_
  ·skip
   refine id (Ax_mk rfl rfl (OpW_of_Qt rfl rfl (Q_cutRH (T := TyWaiter) (.head _) hp0 rfl hx27 rfl rfl rfl rfl) ⟨Inc.nil, ?_⟩))
   refine Aw_one 5 (by kernel_rfl) (Ax_mk rfl rfl (OpW_of_Qt rfl rfl (Q_cutRL (T := TyWaiter) (.head _) hp0 rfl hx29 rfl rfl rfl rfl rfl) ⟨Inc.nil, ?_⟩))
   refine Aw_one 6 (by kernel_rfl) (Ax_mk rfl rfl ?_)
   refine O_appCut (T := TyWaiter) rfl rfl rfl (.head _) hp0 hx27 (SrcT.cutL (.head _) hp0 rfl hx29) ⟨_, _, _, rfl, cutS_some⟩ hx31 rfl rfl rfl rfl (fun hc36 hl37 rs38 hR39 => ⟨_, .here, ⟨Inc.nil, ?_⟩⟩)
   refine Aw_q 7 rfl (by kernel_rfl) (by kernel_rfl) (by kernel_rfl) rfl rfl rfl (Qt_assign rfl) ?_
   refine Aw_done (by kernel_rfl) ?_
   refine Cw_seq ?_
   refine Cw_region ?_
   refine Ow_q rfl rfl rfl (Qt_move rfl) ?_
   refine Ow_q rfl rfl rfl (Qt_move rfl) ?_
   refine Ow_q rfl rfl rfl (Q_lenR (T := TyWaiter) (.head _) hR39 rfl rfl rfl) ?_
   refine Ow_q rfl rfl rfl (Qt_move rfl) ?_
   refine Ow_q rfl rfl rfl (Q_tail (T := TyWaiter) hc36 hl37 rfl rfl rfl rfl rfl rfl) ?_
   refine Ow_cons rfl (O_clearTail (T := TyWaiter) rfl rfl rfl rfl rfl rfl rfl (by first | rfl | kernel_rfl | decide) (.head _) hR39 hl37 hc36 ?_)
   refine Ow_nil ?_
   refine Cw_seq ?_
   refine Cw_region ?_
   refine Ow_q rfl rfl rfl (Qt_move rfl) ?_
   refine Ow_q rfl rfl rfl (Qt_assign rfl) ?_
   refine Ow_nil ?_
   refine Cw_ret ?_
   obtain ey0 := inj1 H
   subst y0
   refine ⟨(by first | exact .inl rfl | exact .inr rfl), [(sv (cutA vp0 x30.length))], ⟨(sv (cutA vp0 x30.length)), _, rfl, rfl, rfl⟩, ?_⟩
   refine Shift.done ?_
   exact ⟨(cutA vp0 x30.length), rs38, rfl, rfl, rfl, hR39⟩
  ·skip
   refine id (Ax_mk rfl rfl (OpW_of_Qt rfl rfl (Q_cutRL (T := TyWaiter) (.head _) hp0 rfl hx29 rfl rfl rfl rfl rfl) ⟨Inc.nil, ?_⟩))
   refine Aw_one 2 (by kernel_rfl) (Ax_mk rfl rfl (OpW_of_Qt rfl rfl (Q_cutRH (T := TyWaiter) (.head _) hp0 rfl hx27 rfl rfl rfl rfl) ⟨Inc.nil, ?_⟩))
   refine Aw_one 6 (by kernel_rfl) (Ax_mk rfl rfl ?_)
   refine O_appCut (T := TyWaiter) rfl rfl rfl (.head _) hp0 hx27 (SrcT.cutL (.head _) hp0 rfl hx29) ⟨_, _, _, rfl, cutS_some⟩ hx31 rfl rfl rfl rfl (fun hc40 hl41 rs42 hR43 => ⟨_, .here, ⟨Inc.nil, ?_⟩⟩)
   refine Aw_q 7 rfl (by kernel_rfl) (by kernel_rfl) (by kernel_rfl) rfl rfl rfl (Qt_assign rfl) ?_
   refine Aw_done (by kernel_rfl) ?_
   refine Cw_seq ?_
   refine Cw_region ?_
   refine Ow_q rfl rfl rfl (Qt_move rfl) ?_
   refine Ow_q rfl rfl rfl (Qt_move rfl) ?_
   refine Ow_q rfl rfl rfl (Q_lenR (T := TyWaiter) (.head _) hR43 rfl rfl rfl) ?_
   refine Ow_q rfl rfl rfl (Qt_move rfl) ?_
   refine Ow_q rfl rfl rfl (Q_tail (T := TyWaiter) hc40 hl41 rfl rfl rfl rfl rfl rfl) ?_
   refine Ow_cons rfl (O_clearTail (T := TyWaiter) rfl rfl rfl rfl rfl rfl rfl (by first | rfl | kernel_rfl | decide) (.head _) hR43 hl41 hc40 ?_)
   refine Ow_nil ?_
   refine Cw_seq ?_
   refine Cw_region ?_
   refine Ow_q rfl rfl rfl (Qt_move rfl) ?_
   refine Ow_q rfl rfl rfl (Qt_assign rfl) ?_
   refine Ow_nil ?_
   refine Cw_ret ?_
   obtain ey0 := inj1 H
   subst y0
   refine ⟨(by first | exact .inl rfl | exact .inr rfl), [(sv (cutA vp0 x30.length))], ⟨(sv (cutA vp0 x30.length)), _, rfl, rfl, rfl⟩, ?_⟩
   refine Shift.done ?_
   exact ⟨(cutA vp0 x30.length), rs42, rfl, rfl, rfl, hR43⟩

set_option maxHeartbeats 1000000 in
theorem c_M_168z (p0 : List Done) (vp0 : SV) (rsp0 : List (List Value)) (p1 : Int) (p2 : List Done) (vp2 : SV) (rsp2 : List (List Value)) (y0 : List Done) (H : M_168z p0 p1 p2 = some y0) (K : Kp) (G : List Ent) (hp0 : RowR TyDone K rsp0 p0) (hp2 : RowR TyDone K rsp2 p2) :
  Fc Try.prog 79 #[(sv vp0), (.int .i64 p1), (sv vp2)] K ((.row (sv vp0) 75 6 rsp0.flatten) :: (.row (sv vp2) 75 6 rsp2.flatten) :: G) (fun v K' G' => ∃ (wy0 : SV) (rswy0 : List (List Value)), v = (sv wy0) ∧ K = K' ∧ (.row (sv wy0) 75 6 rswy0.flatten) :: G = G' ∧ RowR TyDone K' rswy0 y0) :=
 Fc_insert H hp0 hp2



end Go.Hx
