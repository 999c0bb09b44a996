/- Printed by program. -/
import Derived.Test.YtgpoanmjkggijaaXCM
namespace Go.Hx
open Go Go.Proofs
set_option linter.unusedSimpArgs false
set_option linter.unusedVariables false
set_option maxRecDepth 10000
set_option maxHeartbeats 1000000 in
theorem c_M_slices_Clone_uint64_uint64 (p0 : List Int) (vp0 : SV) (y0 : List Int) (H : M_slices_Clone_uint64_uint64 p0 = some y0) (K : Kp) (G : List Ent) (hp0 : Slr Ty.u64 K (sv vp0) p0) :
    Fc Try.prog 57 #[(sv vp0)] K (G) (fun v K' G' => ∃ (wy0 : SV) (rswy0 : List (List Value)), v = (sv wy0) ∧ K = K' ∧ (.row (sv wy0) 23 1 rswy0.flatten) :: G = G' ∧ RowR Ty.u64 K' rswy0 y0) := by
  refine Fc_body Try.func57 rfl Try.ntmps57 Try.results57 rfl ?_
  unfold M_slices_Clone_uint64_uint64 at H
  refine Cw_seq ?_
  refine Cw_region ?_
  refine Ow_q rfl rfl rfl (Qt_assign rfl) ?_
  refine Ow_nil ?_
  refine Cw_seq ?_
  refine Cw_seq ?_
  refine Cw_region ?_
  refine Ow_q rfl rfl rfl (Qt_move rfl) ?_
  refine Ow_q rfl rfl rfl (Qt_eqNilS rfl rfl rfl) ?_
  refine Ow_nil ?_
  refine Cw_cond rfl ?_ ?_
  · intro h15
    have hl16 := Slr.nil_of hp0 h15
    have H : some [] = some y0 := by rw [hl16] at H; simpa [app] using H
    refine Cw_seq ?_
    refine Cw_region ?_
    refine Ow_q rfl rfl rfl (Qt_assign rfl) ?_
    refine Ow_nil ?_
    refine Cw_ret ?_
    obtain ey0 := inj1 H
    subst y0
    refine ⟨(by first | exact .inl rfl | exact .inr rfl), [(sv nilS)], ⟨(sv nilS), _, rfl, rfl, rfl⟩, ?_⟩
    have hR17 : RowR Ty.u64 K [] [] := RowR.nil
    refine Shift.nilRow 23 1 ?_
    refine Shift.done ?_
    exact ⟨nilS, ([] : List (List Value)), rfl, rfl, rfl, hR17⟩
  · intro h15
    refine Cw_skip ?_
    refine Cw_seq ?_
    refine Cw_region ?_
    have hR19 : RowR Ty.u64 K [] [] := RowR.nil
    refine Ow_cons rfl (O_lit0 (T := Ty.u64) rfl rfl rfl rfl rfl (fun v18 => ?_))
    refine Ow_q rfl rfl rfl (Qt_move rfl) ?_
    obtain ⟨x20, hx21, H⟩ := bnd H
    refine Ow_cons rfl (O_appRow (T := Ty.u64) (bytes := 8) rfl rfl rfl (.head _) hR19 (SrcT.sl hp0) hx21 rfl rfl rfl rfl rfl rfl rfl rfl (fun v22 rs23 hR24 => ⟨_, .here, ?_⟩))
    refine Ow_q rfl rfl rfl (Qt_assign rfl) ?_
    refine Ow_nil ?_
    refine Cw_ret ?_
    obtain ey0 := inj1 H
    subst y0
    refine ⟨(by first | exact .inl rfl | exact .inr rfl), [(sv v22)], ⟨(sv v22), _, rfl, rfl, rfl⟩, ?_⟩
    refine Shift.done ?_
    exact ⟨v22, rs23, rfl, rfl, rfl, hR24⟩

set_option maxHeartbeats 1000000 in
theorem c_M_slices_Clone_api_Chan_api_Chan (p0 : List Chan) (vp0 : SV) (y0 : List Chan) (H : M_slices_Clone_api_Chan_api_Chan p0 = some y0) (K : Kp) (G : List Ent) (hp0 : Slr TyChan K (sv vp0) p0) :
    Fc Try.prog 93 #[(sv vp0)] K (G) (fun v K' G' => ∃ (wy0 : SV) (rswy0 : List (List Value)), v = (sv wy0) ∧ K = K' ∧ (.row (sv wy0) 83 3 rswy0.flatten) :: G = G' ∧ RowR TyChan K' rswy0 y0) := by
  refine Fc_body Try.func93 rfl Try.ntmps93 Try.results93 rfl ?_
  unfold M_slices_Clone_api_Chan_api_Chan at H
  refine Cw_seq ?_
  refine Cw_region ?_
  refine Ow_q rfl rfl rfl (Qt_assign rfl) ?_
  refine Ow_nil ?_
  refine Cw_seq ?_
  refine Cw_seq ?_
  refine Cw_region ?_
  refine Ow_q rfl rfl rfl (Qt_move rfl) ?_
  refine Ow_q rfl rfl rfl (Qt_eqNilS rfl rfl rfl) ?_
  refine Ow_nil ?_
  refine Cw_cond rfl ?_ ?_
  · intro h15
    have hl16 := Slr.nil_of hp0 h15
    have H : some [] = some y0 := by rw [hl16] at H; simpa [app] using H
    refine Cw_seq ?_
    refine Cw_region ?_
    refine Ow_q rfl rfl rfl (Qt_assign rfl) ?_
    refine Ow_nil ?_
    refine Cw_ret ?_
    obtain ey0 := inj1 H
    subst y0
    refine ⟨(by first | exact .inl rfl | exact .inr rfl), [(sv nilS)], ⟨(sv nilS), _, rfl, rfl, rfl⟩, ?_⟩
    have hR17 : RowR TyChan K [] [] := RowR.nil
    refine Shift.nilRow 83 3 ?_
    refine Shift.done ?_
    exact ⟨nilS, ([] : List (List Value)), rfl, rfl, rfl, hR17⟩
  · intro h15
    refine Cw_skip ?_
    refine Cw_seq ?_
    refine Cw_region ?_
    have hR19 : RowR TyChan K [] [] := RowR.nil
    refine Ow_cons rfl (O_lit0 (T := TyChan) rfl rfl rfl rfl rfl (fun v18 => ?_))
    refine Ow_q rfl rfl rfl (Qt_move rfl) ?_
    obtain ⟨x20, hx21, H⟩ := bnd H
    refine Ow_cons rfl (O_appRow (T := TyChan) (bytes := 40) rfl rfl rfl (.head _) hR19 (SrcT.sl hp0) hx21 rfl rfl rfl rfl rfl rfl rfl rfl (fun v22 rs23 hR24 => ⟨_, .here, ?_⟩))
    refine Ow_q rfl rfl rfl (Qt_assign rfl) ?_
    refine Ow_nil ?_
    refine Cw_ret ?_
    obtain ey0 := inj1 H
    subst y0
    refine ⟨(by first | exact .inl rfl | exact .inr rfl), [(sv v22)], ⟨(sv v22), _, rfl, rfl, rfl⟩, ?_⟩
    refine Shift.done ?_
    exact ⟨v22, rs23, rfl, rfl, rfl, hR24⟩


end Go.Hx
