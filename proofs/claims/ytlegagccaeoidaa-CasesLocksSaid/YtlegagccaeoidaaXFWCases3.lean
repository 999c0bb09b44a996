/- Printed by program. -/
import Derived.Test.YtlegagccaeoidaaXFM
import Derived.Test.YtlegagccaeoidaaXFWDraw
namespace Go.Hx
open Go Go.Proofs
set_option linter.unusedSimpArgs false
set_option linter.unusedVariables false
set_option maxRecDepth 10000
set_option maxHeartbeats 1000000 in
theorem c_M_cases_Order (p0 : Op) (vp0_cases : SV) (vp0_draws : SV) (y0 : List Int) (H : M_cases_Order p0 = some y0) (K : Kp) (G : List Ent) (hp0_cases : Slr TyCase K (sv vp0_cases) p0.cases) (hp0_draws : Slr Ty.i64 K (sv vp0_draws) p0.draws) :
    Fc Try.prog 24 #[(.agg (Op.cells p0 vp0_cases vp0_draws).toArray)] K (G) (fun v K' G' => ∃ (wy0 : SV) (rswy0 : List (List Value)), v = (sv wy0) ∧ (.row (sv wy0) 3 1 rswy0.flatten) :: G = G' ∧ RowR Ty.i64 K' rswy0 y0) := by
  refine Fc_body Try.func24 rfl Try.ntmps24 Try.results24 rfl ?_
  unfold M_cases_Order at H
  refine Cw_seq ?_
  refine Cw_region ?_
  refine Ow_cons rfl (OpW_box (cs := (Op.cells p0 vp0_cases vp0_draws)) rfl rfl rfl (fun b9 => ?_))
  refine Ow_q rfl rfl rfl (Qt_assign rfl) ?_
  refine Ow_nil ?_
  refine Cw_seq ?_
  refine Cw_region ?_
  refine Ow_q rfl rfl rfl (Qt_fieldAddr (m := 5) rfl rfl rfl rfl rfl) ?_
  refine Ow_q rfl rfl rfl (Qt_load1 (v := (sv vp0_cases)) rfl rfl rfl (Rdc.blk (.head _) rfl)) ?_
  refine Ow_q rfl rfl rfl (Q_len (T := TyCase) hp0_cases rfl rfl) ?_
  refine Ow_q rfl rfl rfl (Qt_fieldAddr (m := 6) rfl rfl rfl rfl rfl) ?_
  refine Ow_q rfl rfl rfl (Qt_load1 (v := (sv vp0_draws)) rfl rfl rfl (Rdc.blk (.head _) rfl)) ?_
  obtain ⟨x10, hx11, H⟩ := bnd H
  refine Ow_cons rfl (OpW_call rfl Try.call44 rfl rfl (c_M_draw_Order (p0.cases.length : Int) p0.draws vp0_draws x10 hx11 _ _ hp0_draws) ?_)
  rintro _ K14 _ hK15 ⟨v12, rs13, rfl, rfl, hs16⟩
  refine Ow_q rfl rfl rfl (Qt_assign rfl) ?_
  refine Ow_nil ?_
  refine Cw_ret ?_
  obtain ey0 := inj1 H
  subst y0
  refine ⟨(by first | exact .inl rfl | exact .inr rfl), [(sv v12)], ⟨(sv v12), _, rfl, rfl, rfl⟩, ?_⟩
  refine Shift.rem (.there .here) ?_
  refine Shift.done ?_
  exact ⟨v12, rs13, rfl, rfl, hs16⟩

set_option maxHeartbeats 1000000 in
theorem c_M_cases_Single (p0 : Op) (vp0_cases : SV) (vp0_draws : SV) (y0 : Case) (y1 : Bool) (H : M_cases_Single p0 = some (y0, y1)) (K : Kp) (G : List Ent) (hp0_cases : Slr TyCase K (sv vp0_cases) p0.cases) (hp0_draws : Slr Ty.i64 K (sv vp0_draws) p0.draws) :
    Fc Try.prog 26 #[(.agg (Op.cells p0 vp0_cases vp0_draws).toArray)] K (G) (fun v K' G' => v = (.tuple #[(.agg (Case.cells y0).toArray), (.bool y1)]) ∧ K = K' ∧ G = G') := by
  refine Fc_body Try.func26 rfl Try.ntmps26 Try.results26 rfl ?_
  unfold M_cases_Single at H
  refine Cw_seq ?_
  refine Cw_region ?_
  refine Ow_cons rfl (OpW_box (cs := (Op.cells p0 vp0_cases vp0_draws)) rfl rfl rfl (fun b13 => ?_))
  refine Ow_cons rfl (OpW_alloc (cs := (Case.cells (Case.mk false 0 0))) rfl rfl rfl rfl (fun b14 => ?_))
  refine Ow_q rfl rfl rfl (Qt_assign rfl) ?_
  refine Ow_nil ?_
  refine Cw_seq ?_
  refine Cw_seq ?_
  refine Cw_region ?_
  refine Ow_q rfl rfl rfl (Qt_fieldAddr (m := 0) rfl rfl rfl rfl rfl) ?_
  refine Ow_q rfl rfl rfl (Qt_load1 (v := (.int .i64 p0.kind)) rfl rfl rfl (Rdc.blk (.tail _ (.head _)) rfl)) ?_
  refine Ow_nil ?_
  refine Cw_block ?_
  refine Cw_join (fun env' K' G' => ∃ (t26 : Bool) (i27 : Int) (i28 : Int) (i29 : Int) (i30 : Int) (i31 : Int) (i32 : Int) (i33 : Int), [(1, (.pointer (some ((⟨b13, 0, none⟩ : Addr).add 0)))), (2, (.pointer (some ((⟨b14, 0, none⟩ : Addr).add 0)))), (6, (.bool t26))] = env' ∧ K = K' ∧ (.blk b14 56 (Case.cells (Case.mk false i27 i28))) :: (.blk b13 26 (Op.cells (Op.mk i29 i30 i31 i32 i33 p0.cases p0.draws) vp0_cases vp0_draws)) :: G = G' ∧ M_cases_Single_J1 p0 t26 i27 i28 i29 i30 i31 i32 i33 = some (y0, y1)) ?_ ?_
  · skip
    refine Cw_seq ?_
    refine Cw_region ?_
    refine Ow_q rfl rfl rfl (Qt_cmp rfl rfl rfl) ?_
    refine Ow_q rfl rfl rfl (Qt_assign rfl) ?_
    refine Ow_nil ?_
    refine Cw_cond rfl ?_ ?_
    · intro h34
      have h34 := dcd_t (h34)
      have H := ift h34 H
      refine Cw_skip ?_
      refine Shift.pull (.there .here) ?_
      refine Shift.pull (.there .here) ?_
      refine Shift.done ?_
      exact ⟨[(1, (.pointer (some ((⟨b13, 0, none⟩ : Addr).add 0)))), (2, (.pointer (some ((⟨b14, 0, none⟩ : Addr).add 0)))), (6, (.bool (dcd (p0.kind = 1))))], ⟨rfl, rfl, rfl, trivial⟩, (dcd (p0.kind = 1)), 0, 0, p0.kind, p0.mode, p0.channel, p0.value, p0.deadline, rfl, rfl, rfl, H⟩
    · intro h34
      have h34 := dcd_f (h34)
      have H := iff_ h34 H
      refine Cw_region ?_
      refine Ow_q rfl rfl rfl (Qt_cmp rfl rfl rfl) ?_
      refine Ow_q rfl rfl rfl (Qt_assign rfl) ?_
      refine Ow_nil ?_
      refine Shift.pull (.there .here) ?_
      refine Shift.pull (.there .here) ?_
      refine Shift.done ?_
      exact ⟨[(1, (.pointer (some ((⟨b13, 0, none⟩ : Addr).add 0)))), (2, (.pointer (some ((⟨b14, 0, none⟩ : Addr).add 0)))), (6, (.bool (dcd (p0.kind = 2))))], ⟨rfl, rfl, rfl, trivial⟩, (dcd (p0.kind = 2)), 0, 0, p0.kind, p0.mode, p0.channel, p0.value, p0.deadline, rfl, rfl, rfl, H⟩
  rintro _ _ _ - ⟨t26, i27, i28, i29, i30, i31, i32, i33, rfl, rfl, rfl, H⟩
  unfold M_cases_Single_J1 at H
  refine Cw_cond rfl ?_ ?_
  · intro h35
    have H := ift h35 H
    refine Cw_seq ?_
    refine Cw_region ?_
    refine Ow_q rfl rfl rfl (Qt_fieldAddr (m := 0) rfl rfl rfl rfl rfl) ?_
    refine Ow_q rfl rfl rfl (Qt_load1 (v := (.int .i64 i29)) rfl rfl rfl (Rdc.blk (.tail _ (.head _)) rfl)) ?_
    refine Ow_q rfl rfl rfl (Qt_cmp rfl rfl rfl) ?_
    refine Ow_q rfl rfl rfl (Qt_fieldAddr (m := 2) rfl rfl rfl rfl rfl) ?_
    refine Ow_q rfl rfl rfl (Qt_load1 (v := (.int .i64 i31)) rfl rfl rfl (Rdc.blk (.tail _ (.head _)) rfl)) ?_
    refine Ow_q rfl rfl rfl (Qt_fieldAddr (m := 3) rfl rfl rfl rfl rfl) ?_
    refine Ow_q rfl rfl rfl (Qt_load1 (v := (.int .u64 i32)) rfl rfl rfl (Rdc.blk (.tail _ (.head _)) rfl)) ?_
    refine Ow_q rfl rfl rfl (Qt_build (cs := (Case.cells (Case.mk (dcd (i29 = 1)) i31 i32))) rfl rfl rfl rfl rfl rfl) ?_
    refine Ow_cons rfl (OpW_store (vs := (Case.cells (Case.mk (dcd (i29 = 1)) i31 i32))) (all' := (Case.cells (Case.mk (dcd (i29 = 1)) i31 i32))) rfl rfl rfl rfl rfl .here rfl rfl rfl ?_)
    refine Ow_q rfl rfl rfl (Qt_assign rfl) ?_
    refine Ow_nil ?_
    refine Cw_ret ?_
    obtain ⟨ey0, ey1⟩ := inj2 H
    subst y0 y1
    refine ⟨(by first | exact .inl rfl | exact .inr rfl), [(.agg (Case.cells (Case.mk (dcd (i29 = 1)) i31 i32)).toArray), (.bool true)], ⟨(.agg (Case.cells (Case.mk (dcd (i29 = 1)) i31 i32)).toArray), _, rfl, ⟨_, 3, (Case.cells (Case.mk (dcd (i29 = 1)) i31 i32)), rfl, rfl, rfl, rfl, ⟨rfl, Rdc.blk (.head _) rfl⟩, rfl⟩, ⟨(.bool true), _, rfl, rfl, rfl⟩⟩, ?_⟩
    refine Shift.rem .here ?_
    refine Shift.rem .here ?_
    refine Shift.done ?_
    exact ⟨rfl, rfl, rfl⟩
  · intro h35
    have H := iff_ (btf h35) H
    refine Cw_skip ?_
    refine Cw_seq ?_
    refine Cw_region ?_
    refine Ow_q rfl rfl rfl (Qt_build (cs := (Case.cells (Case.mk false 0 0))) rfl rfl rfl rfl rfl rfl) ?_
    refine Ow_cons rfl (OpW_store (vs := (Case.cells (Case.mk false 0 0))) (all' := (Case.cells (Case.mk false 0 0))) rfl rfl rfl rfl rfl .here rfl rfl rfl ?_)
    refine Ow_q rfl rfl rfl (Qt_assign rfl) ?_
    refine Ow_nil ?_
    refine Cw_ret ?_
    obtain ⟨ey0, ey1⟩ := inj2 H
    subst y0 y1
    refine ⟨(by first | exact .inl rfl | exact .inr rfl), [(.agg (Case.cells (Case.mk false 0 0)).toArray), (.bool false)], ⟨(.agg (Case.cells (Case.mk false 0 0)).toArray), _, rfl, ⟨_, 3, (Case.cells (Case.mk false 0 0)), rfl, rfl, rfl, rfl, ⟨rfl, Rdc.blk (.head _) rfl⟩, rfl⟩, ⟨(.bool false), _, rfl, rfl, rfl⟩⟩, ?_⟩
    refine Shift.rem .here ?_
    refine Shift.rem .here ?_
    refine Shift.done ?_
    exact ⟨rfl, rfl, rfl⟩


end Go.Hx
