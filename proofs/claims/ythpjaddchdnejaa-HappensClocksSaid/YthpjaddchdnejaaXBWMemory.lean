/- Printed by program. -/
import Derived.Test.YthpjaddchdnejaaXBM
namespace Go.Hx
open Go Go.Proofs
set_option linter.unusedSimpArgs false
set_option linter.unusedVariables false
set_option maxRecDepth 10000
set_option maxHeartbeats 1000000 in
theorem c_M_memory_Writes (p0 : Int) (y0 : Bool) (H : M_memory_Writes p0 = some y0) (K : Kp) (G : List Ent)  :
    Fc Try.prog 68 #[(.int .i64 p0)] K (G) (fun v K' G' => v = (.bool y0) ∧ K = K' ∧ G = G') := by
  refine Fc_body Try.func68 rfl Try.ntmps68 Try.results68 rfl ?_
  unfold M_memory_Writes at H
  refine Cw_seq ?_
  refine Cw_region ?_
  refine Ow_q rfl rfl rfl (Qt_assign rfl) ?_
  refine Ow_nil ?_
  refine Cw_seq ?_
  refine Cw_seq ?_
  refine Cw_region ?_
  refine Ow_q rfl rfl rfl (Qt_move rfl) ?_
  refine Ow_nil ?_
  refine Cw_block ?_
  refine Cw_join (fun env' K' G' => ∃ (t17 : Bool), [(4, (.bool t17))] = env' ∧ K = K' ∧ G = G' ∧ M_memory_Writes_J1 t17 = some y0) ?_ ?_
  · skip
    refine Cw_seq ?_
    refine Cw_region ?_
    refine Ow_q rfl rfl rfl (Qt_cmp rfl rfl rfl) ?_
    refine Ow_q rfl rfl rfl (Qt_assign rfl) ?_
    refine Ow_nil ?_
    refine Cw_cond rfl ?_ ?_
    · intro h18
      have h18 := dcd_t (h18)
      have H := ift h18 H
      refine Cw_skip ?_
      refine Shift.done ?_
      exact ⟨[(4, (.bool (dcd (p0 = 2))))], ⟨rfl, trivial⟩, (dcd (p0 = 2)), rfl, rfl, rfl, H⟩
    · intro h18
      have h18 := dcd_f (h18)
      have H := iff_ h18 H
      refine Cw_seq ?_
      refine Cw_region ?_
      refine Ow_q rfl rfl rfl (Qt_cmp rfl rfl rfl) ?_
      refine Ow_q rfl rfl rfl (Qt_assign rfl) ?_
      refine Ow_nil ?_
      refine Cw_cond rfl ?_ ?_
      · intro h19
        have h19 := dcd_t (h19)
        have H := ift h19 H
        refine Cw_skip ?_
        refine Shift.done ?_
        exact ⟨[(4, (.bool (dcd (p0 = 3))))], ⟨rfl, trivial⟩, (dcd (p0 = 3)), rfl, rfl, rfl, H⟩
      · intro h19
        have h19 := dcd_f (h19)
        have H := iff_ h19 H
        refine Cw_seq ?_
        refine Cw_region ?_
        refine Ow_q rfl rfl rfl (Qt_cmp rfl rfl rfl) ?_
        refine Ow_q rfl rfl rfl (Qt_assign rfl) ?_
        refine Ow_nil ?_
        refine Cw_cond rfl ?_ ?_
        · intro h20
          have h20 := dcd_t (h20)
          have H := ift h20 H
          refine Cw_skip ?_
          refine Shift.done ?_
          exact ⟨[(4, (.bool (dcd (p0 = 6))))], ⟨rfl, trivial⟩, (dcd (p0 = 6)), rfl, rfl, rfl, H⟩
        · intro h20
          have h20 := dcd_f (h20)
          have H := iff_ h20 H
          refine Cw_seq ?_
          refine Cw_region ?_
          refine Ow_q rfl rfl rfl (Qt_cmp rfl rfl rfl) ?_
          refine Ow_q rfl rfl rfl (Qt_assign rfl) ?_
          refine Ow_nil ?_
          refine Cw_cond rfl ?_ ?_
          · intro h21
            have h21 := dcd_t (h21)
            have H := ift h21 H
            refine Cw_skip ?_
            refine Shift.done ?_
            exact ⟨[(4, (.bool (dcd (p0 = 8))))], ⟨rfl, trivial⟩, (dcd (p0 = 8)), rfl, rfl, rfl, H⟩
          · intro h21
            have h21 := dcd_f (h21)
            have H := iff_ h21 H
            refine Cw_region ?_
            refine Ow_q rfl rfl rfl (Qt_cmp rfl rfl rfl) ?_
            refine Ow_q rfl rfl rfl (Qt_assign rfl) ?_
            refine Ow_nil ?_
            refine Shift.done ?_
            exact ⟨[(4, (.bool (dcd (p0 = 9))))], ⟨rfl, trivial⟩, (dcd (p0 = 9)), rfl, rfl, rfl, H⟩
  rintro _ _ _ - ⟨t17, rfl, rfl, rfl, H⟩
  unfold M_memory_Writes_J1 at H
  refine Cw_cond rfl ?_ ?_
  · intro h22
    have H := ift h22 H
    refine Cw_seq ?_
    refine Cw_region ?_
    refine Ow_q rfl rfl rfl (Qt_assign rfl) ?_
    refine Ow_nil ?_
    refine Cw_ret ?_
    obtain ey0 := inj1 H
    subst y0
    refine ⟨(by first | exact .inl rfl | exact .inr rfl), [(.bool true)], ⟨(.bool true), _, rfl, rfl, rfl⟩, ?_⟩
    refine Shift.done ?_
    exact ⟨rfl, rfl, rfl⟩
  · intro h22
    have H := iff_ (btf h22) H
    refine Cw_skip ?_
    refine Cw_seq ?_
    refine Cw_region ?_
    refine Ow_q rfl rfl rfl (Qt_assign rfl) ?_
    refine Ow_nil ?_
    refine Cw_ret ?_
    obtain ey0 := inj1 H
    subst y0
    refine ⟨(by first | exact .inl rfl | exact .inr rfl), [(.bool false)], ⟨(.bool false), _, rfl, rfl, rfl⟩, ?_⟩
    refine Shift.done ?_
    exact ⟨rfl, rfl, rfl⟩


end Go.Hx
