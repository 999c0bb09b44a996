/- Printed by program. -/
import Derived.Test.YtlegagccaeoidaaDoorXRM
import Derived.Test.YtlegagccaeoidaaDoorXRWReport
namespace Go.Hx
open Go Go.Proofs
set_option linter.unusedSimpArgs false
set_option linter.unusedVariables false
set_option maxRecDepth 10000
set_option maxHeartbeats 1000000 in
theorem c_M_law26_awake  (y0 : Bool) (H : M_law26_awake = some y0) (K : Kp) (G : List Ent) (hT : TabK K) :
    Fc Tryd.prog 6 #[] K (G) (fun v K' G' => v = (.bool y0) ∧ K = K' ∧ G = G') := by
  refine Fc_body Tryd.func6 rfl Tryd.ntmps6 Tryd.results6 rfl ?_
  unfold M_law26_awake at H
  refine Cw_seq ?_
  refine Cw_region ?_
  refine Ow_q rfl rfl rfl (Qt_assign rfl) ?_
  refine Ow_nil ?_
  refine Cw_seq ?_
  refine Cw_region ?_
  refine Ow_q rfl rfl rfl (Qt_build (cs := (Result.cells (Result.mk 2 1 5 true 0))) rfl rfl rfl rfl rfl rfl) ?_
  obtain ⟨x3, hx4, H⟩ := bnd H
  refine Ow_cons rfl (OpW_call rfl Tryd.call7 rfl rfl (c_M_report_Result (Result.mk 2 1 5 true 0) x3 hx4 _ _ hT) ?_)
  rintro _ _ _ - ⟨rfl, rfl, rfl⟩
  refine Ow_q rfl rfl rfl (Qt_eqStr rfl rfl) ?_
  refine Ow_q rfl rfl rfl (Qt_assign rfl) ?_
  refine Ow_nil ?_
  refine Cw_ret ?_
  obtain ey0 := inj1 H
  subst y0
  refine ⟨(by first | exact .inl rfl | exact .inr rfl), [(.bool (dcd (x3 = (⟨#[99, 97, 115, 101, 32, 49, 58, 32, 114, 101, 99, 101, 105, 118, 101, 100, 32, 53]⟩ : ByteArray))))], ⟨(.bool (dcd (x3 = (⟨#[99, 97, 115, 101, 32, 49, 58, 32, 114, 101, 99, 101, 105, 118, 101, 100, 32, 53]⟩ : ByteArray)))), _, rfl, rfl, rfl⟩, ?_⟩
  refine Shift.done ?_
  exact ⟨rfl, rfl, rfl⟩


end Go.Hx
