/- Printed by program. -/
import Derived.Test.YthpjaddchdnejaaXBM
import Derived.Test.YthpjaddchdnejaaXBWDraw
namespace Go.Hx
open Go Go.Proofs
set_option linter.unusedSimpArgs false
set_option linter.unusedVariables false
set_option maxRecDepth 10000
set_option maxHeartbeats 1000000 in
theorem c_M_law18_items (p0 : List Int) (vp0 : SV) (p1 : Int) (p2 : Int) (y0 : List Item) (H : M_law18_items p0 p1 p2 = some y0) (K : Kp) (G : List Ent) (hp0 : Slr Ty.u8 K (sv vp0) p0) :
    Fc Try.prog 34 #[(sv vp0), (.int .i64 p1), (.int .i64 p2)] K (G) (fun v K' G' => ∃ (wy0 : SV), v = (sv wy0) ∧ (.tok 56 8 [(sv wy0)]) :: G = G' ∧ Slr TyItem K' (sv wy0) y0) := by
  refine Fc_body Try.func34 rfl Try.ntmps34 Try.results34 rfl ?_
  unfold M_law18_items at H
  refine Cw_seq ?_
  refine Cw_region ?_
  refine Ow_q rfl rfl rfl (Qt_assign rfl) ?_
  refine Ow_nil ?_
  refine Cw_seq ?_
  refine Cw_region ?_
  refine Ow_q rfl rfl rfl (Qt_move rfl) ?_
  obtain ⟨x14, hx15, H⟩ := bnd H
  refine Ow_cons rfl (OpW_call rfl Try.call38 rfl rfl (c_M_draw_New p0 vp0 200 x14 hx15 _ _ hp0) ?_)
  rintro _ _ _ - ⟨b16, v17, rfl, rfl, rfl, hs18⟩
  refine Ow_q rfl rfl rfl (Qt_move rfl) ?_
  refine Ow_q rfl rfl rfl (Qt_move rfl) ?_
  obtain ⟨x19, x20, x21, hx22, H⟩ := bnd3 H
  refine Ow_cons rfl (OpW_call rfl Try.call49 rfl rfl (c_M_draw_Codes_Items b16 x14 v17 p1 p2 x19 x20 x21 hx22 _ _ hs18) ?_)
  rintro _ K24 _ hK25 ⟨v23, rfl, rfl, hs26⟩
  refine Ow_q rfl rfl rfl (Qt_assign rfl) ?_
  refine Ow_nil ?_
  refine Cw_ret ?_
  obtain ey0 := inj1 H
  subst y0
  refine ⟨(by first | exact .inl rfl | exact .inr rfl), [(sv v23)], ⟨(sv v23), _, rfl, rfl, rfl⟩, ?_⟩
  refine Shift.pull (.there .here) ?_
  refine Shift.rem (.there .here) ?_
  refine Shift.done ?_
  exact ⟨v23, rfl, rfl, hs26⟩


end Go.Hx
