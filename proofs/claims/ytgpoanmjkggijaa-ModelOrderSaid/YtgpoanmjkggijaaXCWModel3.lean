/- Printed by program. -/
import Derived.Test.YtgpoanmjkggijaaXCM
import Derived.Test.YtgpoanmjkggijaaXCWModel
import Derived.Test.YtgpoanmjkggijaaXCWSlices1
namespace Go.Hx
open Go Go.Proofs
set_option linter.unusedSimpArgs false
set_option linter.unusedVariables false
set_option maxRecDepth 10000
set_option maxHeartbeats 1000000 in
theorem c_M_model_pair (p0 : List Chan) (vp0 : SV) (p1 : Op) (vp1_cases : SV) (vp1_draws : SV) (p2 : Result) (p3 : Op) (vp3_cases : SV) (vp3_draws : SV) (p4 : Result) (y0 : Bool) (H : M_model_pair p0 p1 p2 p3 p4 = some y0) (K : Kp) (G : List Ent) (hp0 : Slr TyChan K (sv vp0) p0) (hp1_cases : Slr TyCase K (sv vp1_cases) p1.cases) (hp1_draws : Slr Ty.i64 K (sv vp1_draws) p1.draws) (hp3_cases : Slr TyCase K (sv vp3_cases) p3.cases) (hp3_draws : Slr Ty.i64 K (sv vp3_draws) p3.draws) :
    Fc Try.prog 64 #[(sv vp0), (.agg (Op.cells p1 vp1_cases vp1_draws).toArray), (.agg (Result.cells p2).toArray), (.agg (Op.cells p3 vp3_cases vp3_draws).toArray), (.agg (Result.cells p4).toArray)] K (G) (fun v K' G' => v = (.bool y0) ∧ K = K' ∧ G = G') := by
  refine Fc_body Try.func64 rfl Try.ntmps64 Try.results64 rfl ?_
  unfold M_model_pair at H
  refine Cw_seq ?_
  refine Cw_region ?_
  refine Ow_cons rfl (OpW_box (cs := (Op.cells p1 vp1_cases vp1_draws)) rfl rfl rfl (fun b29 => ?_))
  refine Ow_cons rfl (OpW_box (cs := (Result.cells p2)) rfl rfl rfl (fun b30 => ?_))
  refine Ow_cons rfl (OpW_box (cs := (Op.cells p3 vp3_cases vp3_draws)) rfl rfl rfl (fun b31 => ?_))
  refine Ow_cons rfl (OpW_box (cs := (Result.cells p4)) rfl rfl rfl (fun b32 => ?_))
  refine Ow_q rfl rfl rfl (Qt_assign rfl) ?_
  refine Ow_nil ?_
  refine Cw_seq ?_
  refine Cw_region ?_
  refine Ow_q rfl rfl rfl (Qt_loadA (m := 7) (cs := (Op.cells p1 vp1_cases vp1_draws)) rfl rfl rfl rfl ⟨rfl, Rdc.blk (.tail _ (.tail _ (.tail _ (.head _)))) rfl⟩) ?_
  refine Ow_q rfl rfl rfl (Qt_fieldAddr (m := 1) rfl rfl rfl rfl rfl) ?_
  refine Ow_q rfl rfl rfl (Qt_load1 (v := (.int .i64 p2.case_)) rfl rfl rfl (Rdc.blk (.tail _ (.tail _ (.head _))) rfl)) ?_
  obtain ⟨x33, x34, hx35, H⟩ := bnd2 H
  refine Ow_cons rfl (OpW_call rfl Try.call54 rfl rfl (c_M_model_part p1 vp1_cases vp1_draws p2.case_ x33 x34 hx35 _ _ hp1_cases hp1_draws) ?_)
  rintro _ _ _ - ⟨rfl, rfl, rfl⟩
  refine Ow_q rfl rfl rfl (Qt_move rfl) ?_
  refine Ow_q rfl rfl rfl (Qt_extract rfl rfl) ?_
  refine Ow_q rfl rfl rfl (Qt_extract rfl rfl) ?_
  refine Ow_cons rfl (OpW_alloc (cs := (Case.cells (Case.mk false 0 0))) rfl rfl rfl rfl (fun b36 => ?_))
  refine Ow_cons rfl (OpW_store (vs := (Case.cells x33)) (all' := (Case.cells x33)) rfl rfl rfl rfl rfl .here rfl rfl rfl ?_)
  refine Ow_q rfl rfl rfl (Qt_assign rfl) ?_
  refine Ow_nil ?_
  refine Cw_seq ?_
  refine Cw_region ?_
  refine Ow_q rfl rfl rfl (Qt_loadA (m := 7) (cs := (Op.cells p3 vp3_cases vp3_draws)) rfl rfl rfl rfl ⟨rfl, Rdc.blk (.tail _ (.tail _ (.head _))) rfl⟩) ?_
  refine Ow_q rfl rfl rfl (Qt_fieldAddr (m := 1) rfl rfl rfl rfl rfl) ?_
  refine Ow_q rfl rfl rfl (Qt_load1 (v := (.int .i64 p4.case_)) rfl rfl rfl (Rdc.blk (.tail _ (.head _)) rfl)) ?_
  obtain ⟨x37, x38, hx39, H⟩ := bnd2 H
  refine Ow_cons rfl (OpW_call rfl Try.call54 rfl rfl (c_M_model_part p3 vp3_cases vp3_draws p4.case_ x37 x38 hx39 _ _ hp3_cases hp3_draws) ?_)
  rintro _ _ _ - ⟨rfl, rfl, rfl⟩
  refine Ow_q rfl rfl rfl (Qt_move rfl) ?_
  refine Ow_q rfl rfl rfl (Qt_extract rfl rfl) ?_
  refine Ow_q rfl rfl rfl (Qt_extract rfl rfl) ?_
  refine Ow_cons rfl (OpW_alloc (cs := (Case.cells (Case.mk false 0 0))) rfl rfl rfl rfl (fun b40 => ?_))
  refine Ow_cons rfl (OpW_store (vs := (Case.cells x37)) (all' := (Case.cells x37)) rfl rfl rfl rfl rfl .here rfl rfl rfl ?_)
  refine Ow_q rfl rfl rfl (Qt_assign rfl) ?_
  refine Ow_nil ?_
  refine Cw_seq ?_
  refine Cw_region ?_
  refine Ow_q rfl rfl rfl (Qt_move rfl) ?_
  refine Ow_q rfl rfl rfl (Qt_fieldAddr (m := 1) rfl rfl rfl rfl rfl) ?_
  refine Ow_q rfl rfl rfl (Qt_load1 (v := (.int .i64 x33.channel)) rfl rfl rfl (Rdc.blk (.tail _ (.head _)) rfl)) ?_
  obtain ⟨x41, x42, hx43, H⟩ := bnd2 H
  refine Ow_cons rfl (OpW_call rfl Try.call55 rfl rfl (c_M_model_find p0 vp0 x33.channel x41 x42 hx43 _ _ hp0) ?_)
  rintro _ _ _ - ⟨v44, rfl, rfl, rfl, hs45⟩
  refine Ow_q rfl rfl rfl (Qt_move rfl) ?_
  refine Ow_q rfl rfl rfl (Qt_extract rfl rfl) ?_
  refine Ow_q rfl rfl rfl (Qt_extract rfl rfl) ?_
  refine Ow_cons rfl (OpW_alloc (cs := (Chan.cells (Chan.mk 0 [] false) nilS)) rfl rfl rfl rfl (fun b46 => ?_))
  refine Ow_cons rfl (OpW_store (vs := (Chan.cells x41 v44)) (all' := (Chan.cells x41 v44)) rfl rfl rfl rfl rfl .here rfl rfl rfl ?_)
  refine Ow_q rfl rfl rfl (Qt_assign rfl) ?_
  refine Ow_nil ?_
  refine Cw_join (fun env' K' G' => ∃ (t56 : Bool), [(10, (.bool t56))] = env' ∧ K = K' ∧ G = G' ∧ M_model_pair_J1 t56 = some y0) ?_ ?_
  · skip
    refine Cw_region ?_
    refine Ow_q rfl rfl rfl (Qt_move rfl) ?_
    refine Ow_q rfl rfl rfl (Qt_move rfl) ?_
    refine Ow_caseG rfl rfl rfl ?_ ?_
    · intro h57
      have H := ift h57 H
      refine Ow_qw rfl rfl rfl rfl rfl rfl (Qt_move rfl) ?_
      refine Ow_q rfl rfl rfl (Qt_pick_t rfl rfl) ?_
      refine Ow_q rfl rfl rfl (Qt_move rfl) ?_
      refine Ow_caseG rfl rfl rfl ?_ ?_
      · intro h58
        have H := ift h58 H
        refine Ow_qw rfl rfl rfl rfl rfl rfl (Qt_fieldAddr (m := 0) rfl rfl rfl rfl rfl) ?_
        refine Ow_qw rfl rfl rfl rfl rfl rfl (Qt_load1 (v := (.bool x33.send)) rfl rfl rfl (Rdc.blk (.tail _ (.tail _ (.head _))) rfl)) ?_
        refine Ow_q rfl rfl rfl (Qt_pick_t rfl rfl) ?_
        refine Ow_q rfl rfl rfl (Qt_move rfl) ?_
        refine Ow_caseG rfl rfl rfl ?_ ?_
        · intro h59
          have H := ift h59 H
          refine Ow_qw rfl rfl rfl rfl rfl rfl (Qt_fieldAddr (m := 0) rfl rfl rfl rfl rfl) ?_
          refine Ow_qw rfl rfl rfl rfl rfl rfl (Qt_load1 (v := (.bool x37.send)) rfl rfl rfl (Rdc.blk (.tail _ (.head _)) rfl)) ?_
          refine Ow_qw rfl rfl rfl rfl rfl rfl (Qt_not rfl) ?_
          refine Ow_q rfl rfl rfl (Qt_pick_t rfl rfl) ?_
          refine Ow_q rfl rfl rfl (Qt_move rfl) ?_
          refine Ow_caseG rfl rfl rfl ?_ ?_
          · intro h60
            have h60 := nt_t (h60)
            have H := iff_ (btf h60) H
            refine Ow_qw rfl rfl rfl rfl rfl rfl (Qt_fieldAddr (m := 1) rfl rfl rfl rfl rfl) ?_
            refine Ow_qw rfl rfl rfl rfl rfl rfl (Qt_load1 (v := (.int .i64 x33.channel)) rfl rfl rfl (Rdc.blk (.tail _ (.tail _ (.head _))) rfl)) ?_
            refine Ow_qw rfl rfl rfl rfl rfl rfl (Qt_fieldAddr (m := 1) rfl rfl rfl rfl rfl) ?_
            refine Ow_qw rfl rfl rfl rfl rfl rfl (Qt_load1 (v := (.int .i64 x37.channel)) rfl rfl rfl (Rdc.blk (.tail _ (.head _)) rfl)) ?_
            refine Ow_qw rfl rfl rfl rfl rfl rfl (Qt_cmp rfl rfl rfl) ?_
            refine Ow_q rfl rfl rfl (Qt_pick_t rfl rfl) ?_
            refine Ow_q rfl rfl rfl (Qt_move rfl) ?_
            refine Ow_caseG rfl rfl rfl ?_ ?_
            · intro h61
              have h61 := dcd_t (h61)
              have H := ift h61 H
              refine Ow_qw rfl rfl rfl rfl rfl rfl (Qt_move rfl) ?_
              refine Ow_q rfl rfl rfl (Qt_pick_t rfl rfl) ?_
              refine Ow_q rfl rfl rfl (Qt_move rfl) ?_
              refine Ow_caseG rfl rfl rfl ?_ ?_
              · intro h62
                have H := ift h62 H
                refine Ow_qw rfl rfl rfl rfl rfl rfl (Qt_fieldAddr (m := 2) rfl rfl rfl rfl rfl) ?_
                refine Ow_qw rfl rfl rfl rfl rfl rfl (Qt_load1 (v := (.bool x41.closed)) rfl rfl rfl (Rdc.blk (.head _) rfl)) ?_
                refine Ow_qw rfl rfl rfl rfl rfl rfl (Qt_not rfl) ?_
                refine Ow_q rfl rfl rfl (Qt_pick_t rfl rfl) ?_
                refine Ow_q rfl rfl rfl (Qt_move rfl) ?_
                refine Ow_caseG rfl rfl rfl ?_ ?_
                · intro h63
                  have h63 := nt_t (h63)
                  have H := iff_ (btf h63) H
                  refine Ow_qw rfl rfl rfl rfl rfl rfl (Qt_fieldAddr (m := 0) rfl rfl rfl rfl rfl) ?_
                  refine Ow_qw rfl rfl rfl rfl rfl rfl (Qt_load1 (v := (.int .i64 x41.capacity)) rfl rfl rfl (Rdc.blk (.head _) rfl)) ?_
                  refine Ow_qw rfl rfl rfl rfl rfl rfl (Qt_cmp rfl rfl rfl) ?_
                  refine Ow_q rfl rfl rfl (Qt_pick_t rfl rfl) ?_
                  refine Ow_q rfl rfl rfl (Qt_move rfl) ?_
                  refine Ow_caseG rfl rfl rfl ?_ ?_
                  · intro h64
                    have h64 := dcd_t (h64)
                    have H := ift h64 H
                    refine Ow_qw rfl rfl rfl rfl rfl rfl (Qt_loadA (m := 5) (cs := (Result.cells p2)) rfl rfl rfl rfl ⟨rfl, Rdc.blk (.tail _ (.tail _ (.tail _ (.tail _ (.tail _ (.head _)))))) rfl⟩) ?_
                    refine Ow_qw rfl rfl rfl rfl rfl rfl (Qt_fieldAddr (m := 1) rfl rfl rfl rfl rfl) ?_
                    refine Ow_qw rfl rfl rfl rfl rfl rfl (Qt_load1 (v := (.int .i64 p2.case_)) rfl rfl rfl (Rdc.blk (.tail _ (.tail _ (.tail _ (.tail _ (.tail _ (.head _)))))) rfl)) ?_
                    refine Ow_qw rfl rfl rfl rfl rfl rfl (Qt_build (cs := (Result.cells (Result.mk 1 p2.case_ 0 false 0))) rfl rfl rfl rfl rfl rfl) ?_
                    refine Ow_qw rfl rfl rfl rfl rfl rfl (Qt_eqS rfl rfl (fun w => Result.eqrun p2 (Result.mk 1 p2.case_ 0 false 0) w) (by kernel_rfl)) ?_
                    refine Ow_q rfl rfl rfl (Qt_pick_t rfl rfl) ?_
                    refine Ow_q rfl rfl rfl (Qt_move rfl) ?_
                    refine Ow_caseG rfl rfl rfl ?_ ?_
                    · intro h65
                      have h65 := dcd_t (h65)
                      have H := ift h65 H
                      refine Ow_qw rfl rfl rfl rfl rfl rfl (Qt_loadA (m := 5) (cs := (Result.cells p4)) rfl rfl rfl rfl ⟨rfl, Rdc.blk (.tail _ (.tail _ (.tail _ (.head _)))) rfl⟩) ?_
                      refine Ow_qw rfl rfl rfl rfl rfl rfl (Qt_fieldAddr (m := 1) rfl rfl rfl rfl rfl) ?_
                      refine Ow_qw rfl rfl rfl rfl rfl rfl (Qt_load1 (v := (.int .i64 p4.case_)) rfl rfl rfl (Rdc.blk (.tail _ (.tail _ (.tail _ (.head _)))) rfl)) ?_
                      refine Ow_qw rfl rfl rfl rfl rfl rfl (Qt_fieldAddr (m := 2) rfl rfl rfl rfl rfl) ?_
                      refine Ow_qw rfl rfl rfl rfl rfl rfl (Qt_load1 (v := (.int .u64 x33.value)) rfl rfl rfl (Rdc.blk (.tail _ (.tail _ (.head _))) rfl)) ?_
                      refine Ow_qw rfl rfl rfl rfl rfl rfl (Qt_build (cs := (Result.cells (Result.mk 2 p4.case_ x33.value true 0))) rfl rfl rfl rfl rfl rfl) ?_
                      refine Ow_qw rfl rfl rfl rfl rfl rfl (Qt_eqS rfl rfl (fun w => Result.eqrun p4 (Result.mk 2 p4.case_ x33.value true 0) w) (by kernel_rfl)) ?_
                      refine Ow_q rfl rfl rfl (Qt_pick_t rfl rfl) ?_
                      refine Ow_q rfl rfl rfl (Qt_assign rfl) ?_
                      refine Ow_nil ?_
                      refine Shift.rem .here ?_
                      refine Shift.rem .here ?_
                      refine Shift.rem .here ?_
                      refine Shift.rem .here ?_
                      refine Shift.rem .here ?_
                      refine Shift.rem .here ?_
                      refine Shift.rem .here ?_
                      refine Shift.done ?_
                      exact ⟨[(10, (.bool (dcd (p4 = (Result.mk 2 p4.case_ x33.value true 0)))))], ⟨rfl, trivial⟩, (dcd (p4 = (Result.mk 2 p4.case_ x33.value true 0))), rfl, rfl, rfl, H⟩
                    · intro h65
                      have h65 := dcd_f (h65)
                      have H := iff_ h65 H
                      refine Ow_pass rfl rfl rfl rfl rfl rfl rfl ?_
                      refine Ow_pass rfl rfl rfl rfl rfl rfl rfl ?_
                      refine Ow_pass rfl rfl rfl rfl rfl rfl rfl ?_
                      refine Ow_pass rfl rfl rfl rfl rfl rfl rfl ?_
                      refine Ow_pass rfl rfl rfl rfl rfl rfl rfl ?_
                      refine Ow_pass rfl rfl rfl rfl rfl rfl rfl ?_
                      refine Ow_pass rfl rfl rfl rfl rfl rfl rfl ?_
                      refine Ow_q rfl rfl rfl (Qt_pick_f rfl rfl) ?_
                      refine Ow_q rfl rfl rfl (Qt_assign rfl) ?_
                      refine Ow_nil ?_
                      refine Shift.rem .here ?_
                      refine Shift.rem .here ?_
                      refine Shift.rem .here ?_
                      refine Shift.rem .here ?_
                      refine Shift.rem .here ?_
                      refine Shift.rem .here ?_
                      refine Shift.rem .here ?_
                      refine Shift.done ?_
                      exact ⟨[(10, (.bool false))], ⟨rfl, trivial⟩, false, rfl, rfl, rfl, H⟩
                  · intro h64
                    have h64 := dcd_f (h64)
                    have H := iff_ h64 H
                    refine Ow_pass rfl rfl rfl rfl rfl rfl rfl ?_
                    refine Ow_pass rfl rfl rfl rfl rfl rfl rfl ?_
                    refine Ow_pass rfl rfl rfl rfl rfl rfl rfl ?_
                    refine Ow_pass rfl rfl rfl rfl rfl rfl rfl ?_
                    refine Ow_pass rfl rfl rfl rfl rfl rfl rfl ?_
                    refine Ow_q rfl rfl rfl (Qt_pick_f rfl rfl) ?_
                    refine Ow_q rfl rfl rfl (Qt_move rfl) ?_
                    refine Ow_pass rfl rfl rfl rfl rfl rfl rfl ?_
                    refine Ow_pass rfl rfl rfl rfl rfl rfl rfl ?_
                    refine Ow_pass rfl rfl rfl rfl rfl rfl rfl ?_
                    refine Ow_pass rfl rfl rfl rfl rfl rfl rfl ?_
                    refine Ow_pass rfl rfl rfl rfl rfl rfl rfl ?_
                    refine Ow_pass rfl rfl rfl rfl rfl rfl rfl ?_
                    refine Ow_pass rfl rfl rfl rfl rfl rfl rfl ?_
                    refine Ow_q rfl rfl rfl (Qt_pick_f rfl rfl) ?_
                    refine Ow_q rfl rfl rfl (Qt_assign rfl) ?_
                    refine Ow_nil ?_
                    refine Shift.rem .here ?_
                    refine Shift.rem .here ?_
                    refine Shift.rem .here ?_
                    refine Shift.rem .here ?_
                    refine Shift.rem .here ?_
                    refine Shift.rem .here ?_
                    refine Shift.rem .here ?_
                    refine Shift.done ?_
                    exact ⟨[(10, (.bool false))], ⟨rfl, trivial⟩, false, rfl, rfl, rfl, H⟩
                · intro h63
                  have h63 := nt_f (h63)
                  have H := ift h63 H
                  refine Ow_pass rfl rfl rfl rfl rfl rfl rfl ?_
                  refine Ow_pass rfl rfl rfl rfl rfl rfl rfl ?_
                  refine Ow_pass rfl rfl rfl rfl rfl rfl rfl ?_
                  refine Ow_q rfl rfl rfl (Qt_pick_f rfl rfl) ?_
                  refine Ow_q rfl rfl rfl (Qt_move rfl) ?_
                  refine Ow_pass rfl rfl rfl rfl rfl rfl rfl ?_
                  refine Ow_pass rfl rfl rfl rfl rfl rfl rfl ?_
                  refine Ow_pass rfl rfl rfl rfl rfl rfl rfl ?_
                  refine Ow_pass rfl rfl rfl rfl rfl rfl rfl ?_
                  refine Ow_pass rfl rfl rfl rfl rfl rfl rfl ?_
                  refine Ow_q rfl rfl rfl (Qt_pick_f rfl rfl) ?_
                  refine Ow_q rfl rfl rfl (Qt_move rfl) ?_
                  refine Ow_pass rfl rfl rfl rfl rfl rfl rfl ?_
                  refine Ow_pass rfl rfl rfl rfl rfl rfl rfl ?_
                  refine Ow_pass rfl rfl rfl rfl rfl rfl rfl ?_
                  refine Ow_pass rfl rfl rfl rfl rfl rfl rfl ?_
                  refine Ow_pass rfl rfl rfl rfl rfl rfl rfl ?_
                  refine Ow_pass rfl rfl rfl rfl rfl rfl rfl ?_
                  refine Ow_pass rfl rfl rfl rfl rfl rfl rfl ?_
                  refine Ow_q rfl rfl rfl (Qt_pick_f rfl rfl) ?_
                  refine Ow_q rfl rfl rfl (Qt_assign rfl) ?_
                  refine Ow_nil ?_
                  refine Shift.rem .here ?_
                  refine Shift.rem .here ?_
                  refine Shift.rem .here ?_
                  refine Shift.rem .here ?_
                  refine Shift.rem .here ?_
                  refine Shift.rem .here ?_
                  refine Shift.rem .here ?_
                  refine Shift.done ?_
                  exact ⟨[(10, (.bool false))], ⟨rfl, trivial⟩, false, rfl, rfl, rfl, H⟩
              · intro h62
                have H := iff_ (btf h62) H
                refine Ow_pass rfl rfl rfl rfl rfl rfl rfl ?_
                refine Ow_pass rfl rfl rfl rfl rfl rfl rfl ?_
                refine Ow_pass rfl rfl rfl rfl rfl rfl rfl ?_
                refine Ow_q rfl rfl rfl (Qt_pick_f rfl rfl) ?_
                refine Ow_q rfl rfl rfl (Qt_move rfl) ?_
                refine Ow_pass rfl rfl rfl rfl rfl rfl rfl ?_
                refine Ow_pass rfl rfl rfl rfl rfl rfl rfl ?_
                refine Ow_pass rfl rfl rfl rfl rfl rfl rfl ?_
                refine Ow_q rfl rfl rfl (Qt_pick_f rfl rfl) ?_
                refine Ow_q rfl rfl rfl (Qt_move rfl) ?_
                refine Ow_pass rfl rfl rfl rfl rfl rfl rfl ?_
                refine Ow_pass rfl rfl rfl rfl rfl rfl rfl ?_
                refine Ow_pass rfl rfl rfl rfl rfl rfl rfl ?_
                refine Ow_pass rfl rfl rfl rfl rfl rfl rfl ?_
                refine Ow_pass rfl rfl rfl rfl rfl rfl rfl ?_
                refine Ow_q rfl rfl rfl (Qt_pick_f rfl rfl) ?_
                refine Ow_q rfl rfl rfl (Qt_move rfl) ?_
                refine Ow_pass rfl rfl rfl rfl rfl rfl rfl ?_
                refine Ow_pass rfl rfl rfl rfl rfl rfl rfl ?_
                refine Ow_pass rfl rfl rfl rfl rfl rfl rfl ?_
                refine Ow_pass rfl rfl rfl rfl rfl rfl rfl ?_
                refine Ow_pass rfl rfl rfl rfl rfl rfl rfl ?_
                refine Ow_pass rfl rfl rfl rfl rfl rfl rfl ?_
                refine Ow_pass rfl rfl rfl rfl rfl rfl rfl ?_
                refine Ow_q rfl rfl rfl (Qt_pick_f rfl rfl) ?_
                refine Ow_q rfl rfl rfl (Qt_assign rfl) ?_
                refine Ow_nil ?_
                refine Shift.rem .here ?_
                refine Shift.rem .here ?_
                refine Shift.rem .here ?_
                refine Shift.rem .here ?_
                refine Shift.rem .here ?_
                refine Shift.rem .here ?_
                refine Shift.rem .here ?_
                refine Shift.done ?_
                exact ⟨[(10, (.bool false))], ⟨rfl, trivial⟩, false, rfl, rfl, rfl, H⟩
            · intro h61
              have h61 := dcd_f (h61)
              have H := iff_ h61 H
              refine Ow_pass rfl rfl rfl rfl rfl rfl rfl ?_
              refine Ow_q rfl rfl rfl (Qt_pick_f rfl rfl) ?_
              refine Ow_q rfl rfl rfl (Qt_move rfl) ?_
              refine Ow_pass rfl rfl rfl rfl rfl rfl rfl ?_
              refine Ow_pass rfl rfl rfl rfl rfl rfl rfl ?_
              refine Ow_pass rfl rfl rfl rfl rfl rfl rfl ?_
              refine Ow_q rfl rfl rfl (Qt_pick_f rfl rfl) ?_
              refine Ow_q rfl rfl rfl (Qt_move rfl) ?_
              refine Ow_pass rfl rfl rfl rfl rfl rfl rfl ?_
              refine Ow_pass rfl rfl rfl rfl rfl rfl rfl ?_
              refine Ow_pass rfl rfl rfl rfl rfl rfl rfl ?_
              refine Ow_q rfl rfl rfl (Qt_pick_f rfl rfl) ?_
              refine Ow_q rfl rfl rfl (Qt_move rfl) ?_
              refine Ow_pass rfl rfl rfl rfl rfl rfl rfl ?_
              refine Ow_pass rfl rfl rfl rfl rfl rfl rfl ?_
              refine Ow_pass rfl rfl rfl rfl rfl rfl rfl ?_
              refine Ow_pass rfl rfl rfl rfl rfl rfl rfl ?_
              refine Ow_pass rfl rfl rfl rfl rfl rfl rfl ?_
              refine Ow_q rfl rfl rfl (Qt_pick_f rfl rfl) ?_
              refine Ow_q rfl rfl rfl (Qt_move rfl) ?_
              refine Ow_pass rfl rfl rfl rfl rfl rfl rfl ?_
              refine Ow_pass rfl rfl rfl rfl rfl rfl rfl ?_
              refine Ow_pass rfl rfl rfl rfl rfl rfl rfl ?_
              refine Ow_pass rfl rfl rfl rfl rfl rfl rfl ?_
              refine Ow_pass rfl rfl rfl rfl rfl rfl rfl ?_
              refine Ow_pass rfl rfl rfl rfl rfl rfl rfl ?_
              refine Ow_pass rfl rfl rfl rfl rfl rfl rfl ?_
              refine Ow_q rfl rfl rfl (Qt_pick_f rfl rfl) ?_
              refine Ow_q rfl rfl rfl (Qt_assign rfl) ?_
              refine Ow_nil ?_
              refine Shift.rem .here ?_
              refine Shift.rem .here ?_
              refine Shift.rem .here ?_
              refine Shift.rem .here ?_
              refine Shift.rem .here ?_
              refine Shift.rem .here ?_
              refine Shift.rem .here ?_
              refine Shift.done ?_
              exact ⟨[(10, (.bool false))], ⟨rfl, trivial⟩, false, rfl, rfl, rfl, H⟩
          · intro h60
            have h60 := nt_f (h60)
            have H := ift h60 H
            refine Ow_pass rfl rfl rfl rfl rfl rfl rfl ?_
            refine Ow_pass rfl rfl rfl rfl rfl rfl rfl ?_
            refine Ow_pass rfl rfl rfl rfl rfl rfl rfl ?_
            refine Ow_pass rfl rfl rfl rfl rfl rfl rfl ?_
            refine Ow_pass rfl rfl rfl rfl rfl rfl rfl ?_
            refine Ow_q rfl rfl rfl (Qt_pick_f rfl rfl) ?_
            refine Ow_q rfl rfl rfl (Qt_move rfl) ?_
            refine Ow_pass rfl rfl rfl rfl rfl rfl rfl ?_
            refine Ow_q rfl rfl rfl (Qt_pick_f rfl rfl) ?_
            refine Ow_q rfl rfl rfl (Qt_move rfl) ?_
            refine Ow_pass rfl rfl rfl rfl rfl rfl rfl ?_
            refine Ow_pass rfl rfl rfl rfl rfl rfl rfl ?_
            refine Ow_pass rfl rfl rfl rfl rfl rfl rfl ?_
            refine Ow_q rfl rfl rfl (Qt_pick_f rfl rfl) ?_
            refine Ow_q rfl rfl rfl (Qt_move rfl) ?_
            refine Ow_pass rfl rfl rfl rfl rfl rfl rfl ?_
            refine Ow_pass rfl rfl rfl rfl rfl rfl rfl ?_
            refine Ow_pass rfl rfl rfl rfl rfl rfl rfl ?_
            refine Ow_q rfl rfl rfl (Qt_pick_f rfl rfl) ?_
            refine Ow_q rfl rfl rfl (Qt_move rfl) ?_
            refine Ow_pass rfl rfl rfl rfl rfl rfl rfl ?_
            refine Ow_pass rfl rfl rfl rfl rfl rfl rfl ?_
            refine Ow_pass rfl rfl rfl rfl rfl rfl rfl ?_
            refine Ow_pass rfl rfl rfl rfl rfl rfl rfl ?_
            refine Ow_pass rfl rfl rfl rfl rfl rfl rfl ?_
            refine Ow_q rfl rfl rfl (Qt_pick_f rfl rfl) ?_
            refine Ow_q rfl rfl rfl (Qt_move rfl) ?_
            refine Ow_pass rfl rfl rfl rfl rfl rfl rfl ?_
            refine Ow_pass rfl rfl rfl rfl rfl rfl rfl ?_
            refine Ow_pass rfl rfl rfl rfl rfl rfl rfl ?_
            refine Ow_pass rfl rfl rfl rfl rfl rfl rfl ?_
            refine Ow_pass rfl rfl rfl rfl rfl rfl rfl ?_
            refine Ow_pass rfl rfl rfl rfl rfl rfl rfl ?_
            refine Ow_pass rfl rfl rfl rfl rfl rfl rfl ?_
            refine Ow_q rfl rfl rfl (Qt_pick_f rfl rfl) ?_
            refine Ow_q rfl rfl rfl (Qt_assign rfl) ?_
            refine Ow_nil ?_
            refine Shift.rem .here ?_
            refine Shift.rem .here ?_
            refine Shift.rem .here ?_
            refine Shift.rem .here ?_
            refine Shift.rem .here ?_
            refine Shift.rem .here ?_
            refine Shift.rem .here ?_
            refine Shift.done ?_
            exact ⟨[(10, (.bool false))], ⟨rfl, trivial⟩, false, rfl, rfl, rfl, H⟩
        · intro h59
          have H := iff_ (btf h59) H
          refine Ow_pass rfl rfl rfl rfl rfl rfl rfl ?_
          refine Ow_pass rfl rfl rfl rfl rfl rfl rfl ?_
          refine Ow_pass rfl rfl rfl rfl rfl rfl rfl ?_
          refine Ow_q rfl rfl rfl (Qt_pick_f rfl rfl) ?_
          refine Ow_q rfl rfl rfl (Qt_move rfl) ?_
          refine Ow_pass rfl rfl rfl rfl rfl rfl rfl ?_
          refine Ow_pass rfl rfl rfl rfl rfl rfl rfl ?_
          refine Ow_pass rfl rfl rfl rfl rfl rfl rfl ?_
          refine Ow_pass rfl rfl rfl rfl rfl rfl rfl ?_
          refine Ow_pass rfl rfl rfl rfl rfl rfl rfl ?_
          refine Ow_q rfl rfl rfl (Qt_pick_f rfl rfl) ?_
          refine Ow_q rfl rfl rfl (Qt_move rfl) ?_
          refine Ow_pass rfl rfl rfl rfl rfl rfl rfl ?_
          refine Ow_q rfl rfl rfl (Qt_pick_f rfl rfl) ?_
          refine Ow_q rfl rfl rfl (Qt_move rfl) ?_
          refine Ow_pass rfl rfl rfl rfl rfl rfl rfl ?_
          refine Ow_pass rfl rfl rfl rfl rfl rfl rfl ?_
          refine Ow_pass rfl rfl rfl rfl rfl rfl rfl ?_
          refine Ow_q rfl rfl rfl (Qt_pick_f rfl rfl) ?_
          refine Ow_q rfl rfl rfl (Qt_move rfl) ?_
          refine Ow_pass rfl rfl rfl rfl rfl rfl rfl ?_
          refine Ow_pass rfl rfl rfl rfl rfl rfl rfl ?_
          refine Ow_pass rfl rfl rfl rfl rfl rfl rfl ?_
          refine Ow_q rfl rfl rfl (Qt_pick_f rfl rfl) ?_
          refine Ow_q rfl rfl rfl (Qt_move rfl) ?_
          refine Ow_pass rfl rfl rfl rfl rfl rfl rfl ?_
          refine Ow_pass rfl rfl rfl rfl rfl rfl rfl ?_
          refine Ow_pass rfl rfl rfl rfl rfl rfl rfl ?_
          refine Ow_pass rfl rfl rfl rfl rfl rfl rfl ?_
          refine Ow_pass rfl rfl rfl rfl rfl rfl rfl ?_
          refine Ow_q rfl rfl rfl (Qt_pick_f rfl rfl) ?_
          refine Ow_q rfl rfl rfl (Qt_move rfl) ?_
          refine Ow_pass rfl rfl rfl rfl rfl rfl rfl ?_
          refine Ow_pass rfl rfl rfl rfl rfl rfl rfl ?_
          refine Ow_pass rfl rfl rfl rfl rfl rfl rfl ?_
          refine Ow_pass rfl rfl rfl rfl rfl rfl rfl ?_
          refine Ow_pass rfl rfl rfl rfl rfl rfl rfl ?_
          refine Ow_pass rfl rfl rfl rfl rfl rfl rfl ?_
          refine Ow_pass rfl rfl rfl rfl rfl rfl rfl ?_
          refine Ow_q rfl rfl rfl (Qt_pick_f rfl rfl) ?_
          refine Ow_q rfl rfl rfl (Qt_assign rfl) ?_
          refine Ow_nil ?_
          refine Shift.rem .here ?_
          refine Shift.rem .here ?_
          refine Shift.rem .here ?_
          refine Shift.rem .here ?_
          refine Shift.rem .here ?_
          refine Shift.rem .here ?_
          refine Shift.rem .here ?_
          refine Shift.done ?_
          exact ⟨[(10, (.bool false))], ⟨rfl, trivial⟩, false, rfl, rfl, rfl, H⟩
      · intro h58
        have H := iff_ (btf h58) H
        refine Ow_pass rfl rfl rfl rfl rfl rfl rfl ?_
        refine Ow_pass rfl rfl rfl rfl rfl rfl rfl ?_
        refine Ow_q rfl rfl rfl (Qt_pick_f rfl rfl) ?_
        refine Ow_q rfl rfl rfl (Qt_move rfl) ?_
        refine Ow_pass rfl rfl rfl rfl rfl rfl rfl ?_
        refine Ow_pass rfl rfl rfl rfl rfl rfl rfl ?_
        refine Ow_pass rfl rfl rfl rfl rfl rfl rfl ?_
        refine Ow_q rfl rfl rfl (Qt_pick_f rfl rfl) ?_
        refine Ow_q rfl rfl rfl (Qt_move rfl) ?_
        refine Ow_pass rfl rfl rfl rfl rfl rfl rfl ?_
        refine Ow_pass rfl rfl rfl rfl rfl rfl rfl ?_
        refine Ow_pass rfl rfl rfl rfl rfl rfl rfl ?_
        refine Ow_pass rfl rfl rfl rfl rfl rfl rfl ?_
        refine Ow_pass rfl rfl rfl rfl rfl rfl rfl ?_
        refine Ow_q rfl rfl rfl (Qt_pick_f rfl rfl) ?_
        refine Ow_q rfl rfl rfl (Qt_move rfl) ?_
        refine Ow_pass rfl rfl rfl rfl rfl rfl rfl ?_
        refine Ow_q rfl rfl rfl (Qt_pick_f rfl rfl) ?_
        refine Ow_q rfl rfl rfl (Qt_move rfl) ?_
        refine Ow_pass rfl rfl rfl rfl rfl rfl rfl ?_
        refine Ow_pass rfl rfl rfl rfl rfl rfl rfl ?_
        refine Ow_pass rfl rfl rfl rfl rfl rfl rfl ?_
        refine Ow_q rfl rfl rfl (Qt_pick_f rfl rfl) ?_
        refine Ow_q rfl rfl rfl (Qt_move rfl) ?_
        refine Ow_pass rfl rfl rfl rfl rfl rfl rfl ?_
        refine Ow_pass rfl rfl rfl rfl rfl rfl rfl ?_
        refine Ow_pass rfl rfl rfl rfl rfl rfl rfl ?_
        refine Ow_q rfl rfl rfl (Qt_pick_f rfl rfl) ?_
        refine Ow_q rfl rfl rfl (Qt_move rfl) ?_
        refine Ow_pass rfl rfl rfl rfl rfl rfl rfl ?_
        refine Ow_pass rfl rfl rfl rfl rfl rfl rfl ?_
        refine Ow_pass rfl rfl rfl rfl rfl rfl rfl ?_
        refine Ow_pass rfl rfl rfl rfl rfl rfl rfl ?_
        refine Ow_pass rfl rfl rfl rfl rfl rfl rfl ?_
        refine Ow_q rfl rfl rfl (Qt_pick_f rfl rfl) ?_
        refine Ow_q rfl rfl rfl (Qt_move rfl) ?_
        refine Ow_pass rfl rfl rfl rfl rfl rfl rfl ?_
        refine Ow_pass rfl rfl rfl rfl rfl rfl rfl ?_
        refine Ow_pass rfl rfl rfl rfl rfl rfl rfl ?_
        refine Ow_pass rfl rfl rfl rfl rfl rfl rfl ?_
        refine Ow_pass rfl rfl rfl rfl rfl rfl rfl ?_
        refine Ow_pass rfl rfl rfl rfl rfl rfl rfl ?_
        refine Ow_pass rfl rfl rfl rfl rfl rfl rfl ?_
        refine Ow_q rfl rfl rfl (Qt_pick_f rfl rfl) ?_
        refine Ow_q rfl rfl rfl (Qt_assign rfl) ?_
        refine Ow_nil ?_
        refine Shift.rem .here ?_
        refine Shift.rem .here ?_
        refine Shift.rem .here ?_
        refine Shift.rem .here ?_
        refine Shift.rem .here ?_
        refine Shift.rem .here ?_
        refine Shift.rem .here ?_
        refine Shift.done ?_
        exact ⟨[(10, (.bool false))], ⟨rfl, trivial⟩, false, rfl, rfl, rfl, H⟩
    · intro h57
      have H := iff_ (btf h57) H
      refine Ow_pass rfl rfl rfl rfl rfl rfl rfl ?_
      refine Ow_q rfl rfl rfl (Qt_pick_f rfl rfl) ?_
      refine Ow_q rfl rfl rfl (Qt_move rfl) ?_
      refine Ow_pass rfl rfl rfl rfl rfl rfl rfl ?_
      refine Ow_pass rfl rfl rfl rfl rfl rfl rfl ?_
      refine Ow_q rfl rfl rfl (Qt_pick_f rfl rfl) ?_
      refine Ow_q rfl rfl rfl (Qt_move rfl) ?_
      refine Ow_pass rfl rfl rfl rfl rfl rfl rfl ?_
      refine Ow_pass rfl rfl rfl rfl rfl rfl rfl ?_
      refine Ow_pass rfl rfl rfl rfl rfl rfl rfl ?_
      refine Ow_q rfl rfl rfl (Qt_pick_f rfl rfl) ?_
      refine Ow_q rfl rfl rfl (Qt_move rfl) ?_
      refine Ow_pass rfl rfl rfl rfl rfl rfl rfl ?_
      refine Ow_pass rfl rfl rfl rfl rfl rfl rfl ?_
      refine Ow_pass rfl rfl rfl rfl rfl rfl rfl ?_
      refine Ow_pass rfl rfl rfl rfl rfl rfl rfl ?_
      refine Ow_pass rfl rfl rfl rfl rfl rfl rfl ?_
      refine Ow_q rfl rfl rfl (Qt_pick_f rfl rfl) ?_
      refine Ow_q rfl rfl rfl (Qt_move rfl) ?_
      refine Ow_pass rfl rfl rfl rfl rfl rfl rfl ?_
      refine Ow_q rfl rfl rfl (Qt_pick_f rfl rfl) ?_
      refine Ow_q rfl rfl rfl (Qt_move rfl) ?_
      refine Ow_pass rfl rfl rfl rfl rfl rfl rfl ?_
      refine Ow_pass rfl rfl rfl rfl rfl rfl rfl ?_
      refine Ow_pass rfl rfl rfl rfl rfl rfl rfl ?_
      refine Ow_q rfl rfl rfl (Qt_pick_f rfl rfl) ?_
      refine Ow_q rfl rfl rfl (Qt_move rfl) ?_
      refine Ow_pass rfl rfl rfl rfl rfl rfl rfl ?_
      refine Ow_pass rfl rfl rfl rfl rfl rfl rfl ?_
      refine Ow_pass rfl rfl rfl rfl rfl rfl rfl ?_
      refine Ow_q rfl rfl rfl (Qt_pick_f rfl rfl) ?_
      refine Ow_q rfl rfl rfl (Qt_move rfl) ?_
      refine Ow_pass rfl rfl rfl rfl rfl rfl rfl ?_
      refine Ow_pass rfl rfl rfl rfl rfl rfl rfl ?_
      refine Ow_pass rfl rfl rfl rfl rfl rfl rfl ?_
      refine Ow_pass rfl rfl rfl rfl rfl rfl rfl ?_
      refine Ow_pass rfl rfl rfl rfl rfl rfl rfl ?_
      refine Ow_q rfl rfl rfl (Qt_pick_f rfl rfl) ?_
      refine Ow_q rfl rfl rfl (Qt_move rfl) ?_
      refine Ow_pass rfl rfl rfl rfl rfl rfl rfl ?_
      refine Ow_pass rfl rfl rfl rfl rfl rfl rfl ?_
      refine Ow_pass rfl rfl rfl rfl rfl rfl rfl ?_
      refine Ow_pass rfl rfl rfl rfl rfl rfl rfl ?_
      refine Ow_pass rfl rfl rfl rfl rfl rfl rfl ?_
      refine Ow_pass rfl rfl rfl rfl rfl rfl rfl ?_
      refine Ow_pass rfl rfl rfl rfl rfl rfl rfl ?_
      refine Ow_q rfl rfl rfl (Qt_pick_f rfl rfl) ?_
      refine Ow_q rfl rfl rfl (Qt_assign rfl) ?_
      refine Ow_nil ?_
      refine Shift.rem .here ?_
      refine Shift.rem .here ?_
      refine Shift.rem .here ?_
      refine Shift.rem .here ?_
      refine Shift.rem .here ?_
      refine Shift.rem .here ?_
      refine Shift.rem .here ?_
      refine Shift.done ?_
      exact ⟨[(10, (.bool false))], ⟨rfl, trivial⟩, false, rfl, rfl, rfl, H⟩
  rintro _ _ _ - ⟨t56, rfl, rfl, rfl, H⟩
  unfold M_model_pair_J1 at H
  refine Cw_ret ?_
  obtain ey0 := inj1 H
  subst y0
  refine ⟨(by first | exact .inl rfl | exact .inr rfl), [(.bool t56)], ⟨(.bool t56), _, rfl, rfl, rfl⟩, ?_⟩
  refine Shift.done ?_
  exact ⟨rfl, rfl, rfl⟩

set_option maxHeartbeats 1000000 in
theorem c_M_model_Pair (p0 : List Chan) (vp0 : SV) (p1 : Op) (vp1_cases : SV) (vp1_draws : SV) (p2 : Result) (p3 : Op) (vp3_cases : SV) (vp3_draws : SV) (p4 : Result) (y0 : Bool) (H : M_model_Pair p0 p1 p2 p3 p4 = some y0) (K : Kp) (G : List Ent) (hp0 : Slr TyChan K (sv vp0) p0) (hp1_cases : Slr TyCase K (sv vp1_cases) p1.cases) (hp1_draws : Slr Ty.i64 K (sv vp1_draws) p1.draws) (hp3_cases : Slr TyCase K (sv vp3_cases) p3.cases) (hp3_draws : Slr Ty.i64 K (sv vp3_draws) p3.draws) :
    Fc Try.prog 23 #[(sv vp0), (.agg (Op.cells p1 vp1_cases vp1_draws).toArray), (.agg (Result.cells p2).toArray), (.agg (Op.cells p3 vp3_cases vp3_draws).toArray), (.agg (Result.cells p4).toArray)] K (G) (fun v K' G' => v = (.bool y0) ∧ K = K' ∧ G = G') := by
  refine Fc_body Try.func23 rfl Try.ntmps23 Try.results23 rfl ?_
  unfold M_model_Pair at H
  refine Cw_seq ?_
  refine Cw_region ?_
  refine Ow_cons rfl (OpW_box (cs := (Op.cells p1 vp1_cases vp1_draws)) rfl rfl rfl (fun b10 => ?_))
  refine Ow_cons rfl (OpW_box (cs := (Result.cells p2)) rfl rfl rfl (fun b11 => ?_))
  refine Ow_cons rfl (OpW_box (cs := (Op.cells p3 vp3_cases vp3_draws)) rfl rfl rfl (fun b12 => ?_))
  refine Ow_cons rfl (OpW_box (cs := (Result.cells p4)) rfl rfl rfl (fun b13 => ?_))
  refine Ow_q rfl rfl rfl (Qt_assign rfl) ?_
  refine Ow_nil ?_
  refine Cw_seq ?_
  refine Cw_region ?_
  refine Ow_q rfl rfl rfl (Qt_move rfl) ?_
  refine Ow_q rfl rfl rfl (Qt_loadA (m := 7) (cs := (Op.cells p1 vp1_cases vp1_draws)) rfl rfl rfl rfl ⟨rfl, Rdc.blk (.tail _ (.tail _ (.tail _ (.head _)))) rfl⟩) ?_
  refine Ow_q rfl rfl rfl (Qt_loadA (m := 5) (cs := (Result.cells p2)) rfl rfl rfl rfl ⟨rfl, Rdc.blk (.tail _ (.tail _ (.head _))) rfl⟩) ?_
  refine Ow_q rfl rfl rfl (Qt_loadA (m := 7) (cs := (Op.cells p3 vp3_cases vp3_draws)) rfl rfl rfl rfl ⟨rfl, Rdc.blk (.tail _ (.head _)) rfl⟩) ?_
  refine Ow_q rfl rfl rfl (Qt_loadA (m := 5) (cs := (Result.cells p4)) rfl rfl rfl rfl ⟨rfl, Rdc.blk (.head _) rfl⟩) ?_
  obtain ⟨x19, hx20, H⟩ := bnd H
  refine Ow_cons rfl (OpW_call rfl Try.call64 rfl rfl (c_M_model_pair p0 vp0 p1 vp1_cases vp1_draws p2 p3 vp3_cases vp3_draws p4 x19 hx20 _ _ hp0 hp1_cases hp1_draws hp3_cases hp3_draws) ?_)
  rintro _ _ _ - ⟨rfl, rfl, rfl⟩
  refine Ow_q rfl rfl rfl (Qt_move rfl) ?_
  refine Ow_caseG rfl rfl rfl ?_ ?_
  · intro h21
    have H := ift h21 H
    refine Ow_pass rfl rfl rfl rfl rfl rfl rfl ?_
    refine Ow_pass rfl rfl rfl rfl rfl rfl rfl ?_
    refine Ow_pass rfl rfl rfl rfl rfl rfl rfl ?_
    refine Ow_pass rfl rfl rfl rfl rfl rfl rfl ?_
    refine Ow_pass rfl rfl rfl rfl rfl rfl rfl ?_
    refine Ow_pass rfl rfl rfl rfl rfl rfl rfl ?_
    refine Ow_q rfl rfl rfl (Qt_pick_t rfl rfl) ?_
    refine Ow_q rfl rfl rfl (Qt_assign rfl) ?_
    refine Ow_nil ?_
    refine Cw_ret ?_
    obtain ey0 := inj1 H
    subst y0
    refine ⟨(by first | exact .inl rfl | exact .inr rfl), [(.bool true)], ⟨(.bool true), _, rfl, rfl, rfl⟩, ?_⟩
    refine Shift.rem .here ?_
    refine Shift.rem .here ?_
    refine Shift.rem .here ?_
    refine Shift.rem .here ?_
    refine Shift.done ?_
    exact ⟨rfl, rfl, rfl⟩
  · intro h21
    have H := iff_ (btf h21) H
    refine Ow_qw rfl rfl rfl rfl rfl rfl (Qt_move rfl) ?_
    refine Ow_qw rfl rfl rfl rfl rfl rfl (Qt_loadA (m := 7) (cs := (Op.cells p3 vp3_cases vp3_draws)) rfl rfl rfl rfl ⟨rfl, Rdc.blk (.tail _ (.head _)) rfl⟩) ?_
    refine Ow_qw rfl rfl rfl rfl rfl rfl (Qt_loadA (m := 5) (cs := (Result.cells p4)) rfl rfl rfl rfl ⟨rfl, Rdc.blk (.head _) rfl⟩) ?_
    refine Ow_qw rfl rfl rfl rfl rfl rfl (Qt_loadA (m := 7) (cs := (Op.cells p1 vp1_cases vp1_draws)) rfl rfl rfl rfl ⟨rfl, Rdc.blk (.tail _ (.tail _ (.tail _ (.head _)))) rfl⟩) ?_
    refine Ow_qw rfl rfl rfl rfl rfl rfl (Qt_loadA (m := 5) (cs := (Result.cells p2)) rfl rfl rfl rfl ⟨rfl, Rdc.blk (.tail _ (.tail _ (.head _))) rfl⟩) ?_
    obtain ⟨x22, hx23, H⟩ := bnd H
    refine Ow_want rfl rfl rfl rfl (OpW_call rfl Try.call64 rfl rfl (c_M_model_pair p0 vp0 p3 vp3_cases vp3_draws p4 p1 vp1_cases vp1_draws p2 x22 hx23 _ _ hp0 hp3_cases hp3_draws hp1_cases hp1_draws) ?_)
    rintro _ _ _ - ⟨rfl, rfl, rfl⟩
    refine Ow_q rfl rfl rfl (Qt_pick_f rfl rfl) ?_
    refine Ow_q rfl rfl rfl (Qt_assign rfl) ?_
    refine Ow_nil ?_
    refine Cw_ret ?_
    obtain ey0 := inj1 H
    subst y0
    refine ⟨(by first | exact .inl rfl | exact .inr rfl), [(.bool x22)], ⟨(.bool x22), _, rfl, rfl, rfl⟩, ?_⟩
    refine Shift.rem .here ?_
    refine Shift.rem .here ?_
    refine Shift.rem .here ?_
    refine Shift.rem .here ?_
    refine Shift.done ?_
    exact ⟨rfl, rfl, rfl⟩

set_option maxHeartbeats 1000000 in
theorem c_M_model_New (p0 : Config) (vp0_capacities : SV) (vp0_starts : SV) (y0 : List Chan) (H : M_model_New p0 = some y0) (K : Kp) (G : List Ent) (hp0_capacities : Slr Ty.i64 K (sv vp0_capacities) p0.capacities) (hp0_starts : Slr Ty.u64 K (sv vp0_starts) p0.starts) :
    Fc Try.prog 26 #[(.agg (Config.cells p0 vp0_capacities vp0_starts).toArray)] K (G) (fun v K' G' => ∃ (wy0 : SV), v = (sv wy0) ∧ (.tok 83 3 [(sv wy0)]) :: G = G' ∧ Slr TyChan K' (sv wy0) y0) := by
  refine Fc_body Try.func26 rfl Try.ntmps26 Try.results26 rfl ?_
  unfold M_model_New at H
  refine Cw_seq ?_
  refine Cw_region ?_
  refine Ow_cons rfl (OpW_box (cs := (Config.cells p0 vp0_capacities vp0_starts)) rfl rfl rfl (fun b49 => ?_))
  refine Ow_q rfl rfl rfl (Qt_assign rfl) ?_
  refine Ow_nil ?_
  refine Cw_seq ?_
  refine Cw_region ?_
  refine Ow_q rfl rfl rfl (Qt_assign rfl) ?_
  refine Ow_nil ?_
  refine Cw_join (fun env' K' G' => ∃ (v92 : SV) (l93 : List Chan), [(3, (sv v92))] = env' ∧ (.tok 83 3 [(sv v92)]) :: G = G' ∧ M_model_New_J1 l93 = some y0 ∧ Slr TyChan K' (sv v92) l93) ?_ ?_
  · skip
    refine Cw_seq ?_
    refine Cw_region ?_
    refine Ow_q rfl rfl rfl (Qt_fieldAddr (m := 0) rfl rfl rfl rfl rfl) ?_
    refine Ow_q rfl rfl rfl (Qt_load1 (v := (sv vp0_capacities)) rfl rfl rfl (Rdc.blk (.head _) rfl)) ?_
    refine Ow_q rfl rfl rfl (Q_len (T := Ty.i64) hp0_capacities rfl rfl) ?_
    refine Ow_q rfl rfl rfl (Qt_move rfl) ?_
    refine Ow_nil ?_
    refine Cw_block ?_
    refine Cw_loopM (fun n137 env' K' G' => ∃ (v133 : SV) (l134 : List Chan) (i136 : Int), [(3, (sv v133)), (7, (sv vp0_capacities)), (8, (.int .i64 (p0.capacities.length : Int))), (9, (.int .i64 i136))] = env' ∧ (.tok 83 3 [(sv v133)]) :: G = G' ∧ lp2 (M_model_New_L1 p0) n137 l134 i136 = some y0 ∧ Slr TyChan K' (sv v133) l134) BIG ?_ ?_
    · skip
      refine Shift.nilTok1 83 3 ?_
      refine Shift.rem (.there .here) ?_
      refine Shift.done ?_
      exact ⟨[(3, (sv nilS)), (7, (sv vp0_capacities)), (8, (.int .i64 (p0.capacities.length : Int))), (9, (.int .i64 0))], ⟨rfl, rfl, rfl, rfl, trivial⟩, nilS, ([] : List Chan), 0, rfl, rfl, H, (Slr.nil TyChan _)⟩
    rintro n137 _ K138 _ hK139 ⟨v133, l134, i136, rfl, rfl, H, hs135⟩
    obtain ⟨m140, k141, rfl, hkk142, H⟩ := lps2 H
    unfold M_model_New_L1 at H
    refine Cw_seq ?_
    refine Cw_region ?_
    refine Ow_q rfl rfl rfl (Qt_cmp rfl rfl rfl) ?_
    refine Ow_nil ?_
    refine Cw_seq ?_
    refine Cw_cond rfl ?_ ?_
    · intro h144
      have h144 := dcd_t (h144)
      have H := ift h144 H
      refine Cw_skip ?_
      refine Cw_seq ?_
      refine Cw_block ?_
      refine Cw_seq ?_
      refine Cw_region ?_
      obtain ⟨x159, hx160, H⟩ := bnd H
      have hs161 := (hp0_capacities).mono hK139
      obtain ⟨r162, hr163, hk164⟩ := Slr.at hs161 hx160
      obtain rfl := hr163
      refine Ow_q rfl rfl rfl (Q_ix (T := Ty.i64) hs161 hx160 rfl rfl rfl rfl rfl) ?_
      refine Ow_q rfl rfl rfl (Qt_load1 (v := (.int .i64 x159)) rfl rfl rfl (Rdc.k hk164 rfl)) ?_
      refine Ow_q rfl rfl rfl (Qt_assign rfl) ?_
      refine Ow_nil ?_
      refine Cw_region ?_
      refine Ow_q rfl rfl rfl (Qt_move rfl) ?_
      refine Ow_q rfl rfl rfl (Qt_move rfl) ?_
      refine Ow_q rfl rfl rfl (Qt_build (cs := (Chan.cells (Chan.mk x159 [] false) nilS)) rfl rfl rfl rfl rfl rfl) ?_
      have hR166 : RowR TyChan K138 [(Chan.cells (Chan.mk x159 [] false) nilS)] [(Chan.mk x159 [] false)] := RowR.cons ⟨nilS, rfl, (Slr.nil Ty.u64 _)⟩ (RowR.nil)
      refine Ow_cons rfl (O_lit (T := TyChan) (rows := [(Chan.cells (Chan.mk x159 [] false) nilS)]) (l := [(Chan.mk x159 [] false)]) rfl rfl rfl hR166 rfl rfl rfl rfl rfl rfl rfl rfl (fun v165 => ?_))
      obtain ⟨x167, hx168, H⟩ := bnd H
      refine Ow_cons rfl (O_appTok (T := TyChan) (bytes := 40) (q := 0) rfl rfl rfl hs135 (.tail _ (.head _)) rfl (SrcT.row (.head _) hR166 rfl) hx168 rfl rfl rfl rfl rfl rfl rfl rfl (fun v169 K170 hK171 hs172 => ⟨_, (.there .here), ?_⟩))
      refine Ow.shift (Shift.rem .here (Shift.done ?_))
      refine Ow_q rfl rfl rfl (Qt_assign rfl) ?_
      refine Ow_nil ?_
      refine Cw_region ?_
      refine Ow_q rfl rfl rfl (Qt_arith (e := wI (i136 + 1)) rfl rfl rfl rfl) ?_
      refine Ow_q rfl rfl rfl (Qt_move rfl) ?_
      refine Ow_nil ?_
      refine Shift.done ?_
      exact ⟨[(3, (sv v169)), (7, (sv vp0_capacities)), (8, (.int .i64 (p0.capacities.length : Int))), (9, (.int .i64 (wI (i136 + 1))))], ⟨rfl, rfl, rfl, rfl, trivial⟩, _, Nat.lt_succ_self _, v169, x167, (wI (i136 + 1)), rfl, rfl, (hkk142 ▸ H), hs172⟩
    · intro h144
      have h144 := dcd_f (h144)
      have H := iff_ h144 H
      refine Cw_exit ?_
      refine Shift.done ?_
      exact ⟨[(3, (sv v133))], ⟨rfl, trivial⟩, v133, l134, rfl, rfl, H, hs135⟩
  rintro _ K173 _ hK174 ⟨v92, l93, rfl, rfl, H, hs94⟩
  unfold M_model_New_J1 at H
  refine Cw_seq ?_
  refine Cw_region ?_
  refine Ow_q rfl rfl rfl (Qt_move rfl) ?_
  refine Ow_q rfl rfl rfl (Qt_assign rfl) ?_
  refine Ow_nil ?_
  refine Cw_ret ?_
  obtain ey0 := inj1 H
  subst y0
  refine ⟨(by first | exact .inl rfl | exact .inr rfl), [(sv v92)], ⟨(sv v92), _, rfl, rfl, rfl⟩, ?_⟩
  refine Shift.done ?_
  exact ⟨v92, rfl, rfl, hs94⟩

set_option maxHeartbeats 1000000 in
theorem c_M_model_Same_1 (p0 : Chan) (vp0_buffer : SV) (p1 : Chan) (vp1_buffer : SV) (y0 : Bool) (H : M_model_Same_1 p0 p1 = some y0) (K : Kp) (G : List Ent) (hp0_buffer : Slr Ty.u64 K (sv vp0_buffer) p0.buffer) (hp1_buffer : Slr Ty.u64 K (sv vp1_buffer) p1.buffer) :
    Fc Try.prog 85 #[(.agg (Chan.cells p0 vp0_buffer).toArray), (.agg (Chan.cells p1 vp1_buffer).toArray)] K (G) (fun v K' G' => v = (.bool y0) ∧ G = G') := by
  refine Fc_body Try.func85 rfl Try.ntmps85 Try.results85 rfl ?_
  unfold M_model_Same_1 at H
  refine Cw_seq ?_
  refine Cw_region ?_
  refine Ow_cons rfl (OpW_box (cs := (Chan.cells p0 vp0_buffer)) rfl rfl rfl (fun b12 => ?_))
  refine Ow_cons rfl (OpW_box (cs := (Chan.cells p1 vp1_buffer)) rfl rfl rfl (fun b13 => ?_))
  refine Ow_q rfl rfl rfl (Qt_assign rfl) ?_
  refine Ow_nil ?_
  refine Cw_join (fun env' K' G' => ∃ (t20 : Bool), [(4, (.bool t20))] = env' ∧ G = G' ∧ M_model_Same_1_J1 t20 = some y0) ?_ ?_
  · skip
    refine Cw_region ?_
    refine Ow_q rfl rfl rfl (Qt_fieldAddr (m := 0) rfl rfl rfl rfl rfl) ?_
    refine Ow_q rfl rfl rfl (Qt_load1 (v := (.int .i64 p0.capacity)) rfl rfl rfl (Rdc.blk (.tail _ (.head _)) rfl)) ?_
    refine Ow_q rfl rfl rfl (Qt_fieldAddr (m := 0) rfl rfl rfl rfl rfl) ?_
    refine Ow_q rfl rfl rfl (Qt_load1 (v := (.int .i64 p1.capacity)) rfl rfl rfl (Rdc.blk (.head _) rfl)) ?_
    refine Ow_q rfl rfl rfl (Qt_cmp rfl rfl rfl) ?_
    refine Ow_q rfl rfl rfl (Qt_move rfl) ?_
    refine Ow_caseG rfl rfl rfl ?_ ?_
    · intro h21
      have h21 := dcd_t (h21)
      have H := ift h21 H
      refine Ow_qw rfl rfl rfl rfl rfl rfl (Qt_fieldAddr (m := 2) rfl rfl rfl rfl rfl) ?_
      refine Ow_qw rfl rfl rfl rfl rfl rfl (Qt_load1 (v := (.bool p0.closed)) rfl rfl rfl (Rdc.blk (.tail _ (.head _)) rfl)) ?_
      refine Ow_qw rfl rfl rfl rfl rfl rfl (Qt_fieldAddr (m := 2) rfl rfl rfl rfl rfl) ?_
      refine Ow_qw rfl rfl rfl rfl rfl rfl (Qt_load1 (v := (.bool p1.closed)) rfl rfl rfl (Rdc.blk (.head _) rfl)) ?_
      refine Ow_qw rfl rfl rfl rfl rfl rfl (Qt_eqB rfl rfl rfl) ?_
      refine Ow_q rfl rfl rfl (Qt_pick_t rfl rfl) ?_
      refine Ow_q rfl rfl rfl (Qt_move rfl) ?_
      refine Ow_caseG rfl rfl rfl ?_ ?_
      · intro h22
        have H := ift h22 H
        refine Ow_qw rfl rfl rfl rfl rfl rfl (Qt_fieldAddr (m := 1) rfl rfl rfl rfl rfl) ?_
        refine Ow_qw rfl rfl rfl rfl rfl rfl (Qt_load1 (v := (sv vp0_buffer)) rfl rfl rfl (Rdc.blk (.tail _ (.head _)) rfl)) ?_
        refine Ow_qw rfl rfl rfl rfl rfl rfl (Qt_fieldAddr (m := 1) rfl rfl rfl rfl rfl) ?_
        refine Ow_qw rfl rfl rfl rfl rfl rfl (Qt_load1 (v := (sv vp1_buffer)) rfl rfl rfl (Rdc.blk (.head _) rfl)) ?_
        obtain ⟨x23, hx24, H⟩ := bnd H
        refine Ow_want rfl rfl rfl rfl (OpW_call rfl Try.call86 rfl rfl (c_M_slices_Equal_uint64_uint64 p0.buffer vp0_buffer p1.buffer vp1_buffer x23 hx24 _ _ hp0_buffer hp1_buffer) ?_)
        rintro _ K25 _ hK26 ⟨rfl, rfl⟩
        refine Ow_q rfl rfl rfl (Qt_pick_t rfl rfl) ?_
        refine Ow_q rfl rfl rfl (Qt_assign rfl) ?_
        refine Ow_nil ?_
        refine Shift.rem .here ?_
        refine Shift.rem .here ?_
        refine Shift.done ?_
        exact ⟨[(4, (.bool x23))], ⟨rfl, trivial⟩, x23, rfl, rfl, H⟩
      · intro h22
        have H := iff_ (btf h22) H
        refine Ow_pass rfl rfl rfl rfl rfl rfl rfl ?_
        refine Ow_pass rfl rfl rfl rfl rfl rfl rfl ?_
        refine Ow_pass rfl rfl rfl rfl rfl rfl rfl ?_
        refine Ow_pass rfl rfl rfl rfl rfl rfl rfl ?_
        refine Ow_pass rfl rfl rfl rfl rfl rfl rfl ?_
        refine Ow_q rfl rfl rfl (Qt_pick_f rfl rfl) ?_
        refine Ow_q rfl rfl rfl (Qt_assign rfl) ?_
        refine Ow_nil ?_
        refine Shift.rem .here ?_
        refine Shift.rem .here ?_
        refine Shift.done ?_
        exact ⟨[(4, (.bool false))], ⟨rfl, trivial⟩, false, rfl, rfl, H⟩
    · intro h21
      have h21 := dcd_f (h21)
      have H := iff_ h21 H
      refine Ow_pass rfl rfl rfl rfl rfl rfl rfl ?_
      refine Ow_pass rfl rfl rfl rfl rfl rfl rfl ?_
      refine Ow_pass rfl rfl rfl rfl rfl rfl rfl ?_
      refine Ow_pass rfl rfl rfl rfl rfl rfl rfl ?_
      refine Ow_pass rfl rfl rfl rfl rfl rfl rfl ?_
      refine Ow_q rfl rfl rfl (Qt_pick_f rfl rfl) ?_
      refine Ow_q rfl rfl rfl (Qt_move rfl) ?_
      refine Ow_pass rfl rfl rfl rfl rfl rfl rfl ?_
      refine Ow_pass rfl rfl rfl rfl rfl rfl rfl ?_
      refine Ow_pass rfl rfl rfl rfl rfl rfl rfl ?_
      refine Ow_pass rfl rfl rfl rfl rfl rfl rfl ?_
      refine Ow_pass rfl rfl rfl rfl rfl rfl rfl ?_
      refine Ow_q rfl rfl rfl (Qt_pick_f rfl rfl) ?_
      refine Ow_q rfl rfl rfl (Qt_assign rfl) ?_
      refine Ow_nil ?_
      refine Shift.rem .here ?_
      refine Shift.rem .here ?_
      refine Shift.done ?_
      exact ⟨[(4, (.bool false))], ⟨rfl, trivial⟩, false, rfl, rfl, H⟩
  rintro _ K27 _ hK28 ⟨t20, rfl, rfl, H⟩
  unfold M_model_Same_1_J1 at H
  refine Cw_ret ?_
  obtain ey0 := inj1 H
  subst y0
  refine ⟨(by first | exact .inl rfl | exact .inr rfl), [(.bool t20)], ⟨(.bool t20), _, rfl, rfl, rfl⟩, ?_⟩
  refine Shift.done ?_
  exact ⟨rfl, rfl⟩


end Go.Hx
