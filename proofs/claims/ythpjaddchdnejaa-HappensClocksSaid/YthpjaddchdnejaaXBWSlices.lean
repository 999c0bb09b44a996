/- Printed by program. -/
import Derived.Test.YthpjaddchdnejaaXBM
namespace Go.Hx
open Go Go.Proofs
set_option linter.unusedSimpArgs false
set_option linter.unusedVariables false
set_option maxRecDepth 10000
set_option maxHeartbeats 1000000 in
theorem c_M_slices_Clone_int_int_m0row (p0 : List Int) (vp0 : SV) (rsp0 : List (List Value)) (y0 : List Int) (H : M_slices_Clone_int_int_m0row p0 = some y0) (K : Kp) (G : List Ent) (hp0 : RowR Ty.i64 K rsp0 p0) :
    Fc Try.prog 51 #[(sv vp0)] K ((.row (sv vp0) 3 1 rsp0.flatten) :: G) (fun v K' G' => ∃ (wy0 : SV) (rswy0 : List (List Value)), v = (sv wy0) ∧ K = K' ∧ (.row (sv wy0) 3 1 rswy0.flatten) :: (.row (sv vp0) 3 1 rsp0.flatten) :: G = G' ∧ RowR Ty.i64 K' rswy0 y0) := by
  refine Fc_body Try.func51 rfl Try.ntmps51 Try.results51 rfl ?_
  unfold M_slices_Clone_int_int_m0row at H
  refine Cw_seq ?_
  refine Cw_region ?_
  refine Ow_q rfl rfl rfl (Qt_assign rfl) ?_
  refine Ow_nil ?_
  refine Cw_seq ?_
  refine Cw_seq ?_
  refine Cw_region ?_
  refine Ow_q rfl rfl rfl (Qt_move rfl) ?_
  refine Ow_q rfl rfl rfl (Qt_eqNilS rfl rfl rfl) ?_
  refine Ow_nil ?_
  refine Cw_cond rfl ?_ ?_
  · intro h15
    refine Cw.know (fun _ _ hs => row_nil (T := Ty.i64) (hs.g _ (.head _)) hp0 rfl h15) (fun hl16 => ?_)
    have H : some [] = some y0 := by rw [hl16] at H; simpa [app] using H
    refine Cw_seq ?_
    refine Cw_region ?_
    refine Ow_q rfl rfl rfl (Qt_assign rfl) ?_
    refine Ow_nil ?_
    refine Cw_ret ?_
    obtain ey0 := inj1 H
    subst y0
    refine ⟨(by first | exact .inl rfl | exact .inr rfl), [(sv nilS)], ⟨(sv nilS), _, rfl, rfl, rfl⟩, ?_⟩
    have hR17 : RowR Ty.i64 K [] [] := RowR.nil
    refine Shift.nilRow 3 1 ?_
    refine Shift.pull (.there .here) ?_
    refine Shift.pull (.there .here) ?_
    refine Shift.done ?_
    exact ⟨nilS, ([] : List (List Value)), rfl, rfl, rfl, hR17⟩
  · intro h15
    refine Cw_skip ?_
    refine Cw_seq ?_
    refine Cw_region ?_
    have hR19 : RowR Ty.i64 K [] [] := RowR.nil
    refine Ow_cons rfl (O_lit0 (T := Ty.i64) rfl rfl rfl rfl rfl (fun v18 => ?_))
    refine Ow_q rfl rfl rfl (Qt_move rfl) ?_
    obtain ⟨x20, hx21, H⟩ := bnd H
    refine Ow_cons rfl (O_appRow (T := Ty.i64) (bytes := 8) rfl rfl rfl (.head _) hR19 (SrcT.row (.tail _ (.head _)) hp0 rfl) hx21 rfl rfl rfl rfl rfl rfl rfl rfl (fun v22 rs23 hR24 => ⟨_, .here, ?_⟩))
    refine Ow_q rfl rfl rfl (Qt_assign rfl) ?_
    refine Ow_nil ?_
    refine Cw_ret ?_
    obtain ey0 := inj1 H
    subst y0
    refine ⟨(by first | exact .inl rfl | exact .inr rfl), [(sv v22)], ⟨(sv v22), _, rfl, rfl, rfl⟩, ?_⟩
    refine Shift.pull (.there .here) ?_
    refine Shift.pull (.there .here) ?_
    refine Shift.done ?_
    exact ⟨v22, rs23, rfl, rfl, rfl, hR24⟩


end Go.Hx
