/- Printed by program. -/
import Derived.Test.YtgpoanmjkggijaaXCM
import Derived.Test.YtgpoanmjkggijaaXCWRef141
import Derived.Test.YtgpoanmjkggijaaXCWRef3
namespace Go.Hx
open Go Go.Proofs
set_option linter.unusedSimpArgs false
set_option linter.unusedVariables false
set_option maxRecDepth 10000
set_option maxHeartbeats 1000000 in
theorem c_M_ref14_chosen (p0 : Op) (vp0_cases : SV) (vp0_draws : SV) (p1 : Result) (y0 : Case) (y1 : Bool) (H : M_ref14_chosen p0 p1 = some (y0, y1)) (K : Kp) (G : List Ent) (hp0_cases : Slr TyCase K (sv vp0_cases) p0.cases) (hp0_draws : Slr Ty.i64 K (sv vp0_draws) p0.draws) :
    Fc Try.prog 95 #[(.agg (Op.cells p0 vp0_cases vp0_draws).toArray), (.agg (Result.cells p1).toArray)] K (G) (fun v K' G' => v = (.tuple #[(.agg (Case.cells y0).toArray), (.bool y1)]) ∧ K = K' ∧ G = G') := by
  refine Fc_body Try.func95 rfl Try.ntmps95 Try.results95 rfl ?_
  unfold M_ref14_chosen at H
  refine Cw_seq ?_
  refine Cw_region ?_
  refine Ow_cons rfl (OpW_box (cs := (Op.cells p0 vp0_cases vp0_draws)) rfl rfl rfl (fun b29 => ?_))
  refine Ow_cons rfl (OpW_box (cs := (Result.cells p1)) rfl rfl rfl (fun b30 => ?_))
  refine Ow_cons rfl (OpW_alloc (cs := (Case.cells (Case.mk false 0 0))) rfl rfl rfl rfl (fun b31 => ?_))
  refine Ow_q rfl rfl rfl (Qt_assign rfl) ?_
  refine Ow_nil ?_
  refine Cw_seq ?_
  refine Cw_seq ?_
  refine Cw_region ?_
  refine Ow_q rfl rfl rfl (Qt_fieldAddr (m := 0) rfl rfl rfl rfl rfl) ?_
  refine Ow_q rfl rfl rfl (Qt_load1 (v := (.int .i64 p0.kind)) rfl rfl rfl (Rdc.blk (.tail _ (.tail _ (.head _))) rfl)) ?_
  refine Ow_q rfl rfl rfl (Qt_cmp rfl rfl rfl) ?_
  refine Ow_nil ?_
  refine Cw_cond rfl ?_ ?_
  · intro h52
    have h52 := dcd_t (h52)
    have H := ift h52 H
    refine Cw_seq ?_
    refine Cw_join (fun env' K' G' => ∃ (t68 : Bool), [(2, (.pointer (some ((⟨b29, 0, none⟩ : Addr).add 0)))), (3, (.pointer (some ((⟨b30, 0, none⟩ : Addr).add 0)))), (4, (.pointer (some ((⟨b31, 0, none⟩ : Addr).add 0)))), (21, (.bool t68))] = env' ∧ K = K' ∧ (.blk b31 73 (Case.cells (Case.mk false 0 0))) :: (.blk b30 25 (Result.cells p1)) :: (.blk b29 38 (Op.cells p0 vp0_cases vp0_draws)) :: G = G' ∧ M_ref14_chosen_J1 p1 p0 t68 = some (y0, y1)) ?_ ?_
    · skip
      refine Cw_region ?_
      refine Ow_q rfl rfl rfl (Qt_fieldAddr (m := 1) rfl rfl rfl rfl rfl) ?_
      refine Ow_q rfl rfl rfl (Qt_load1 (v := (.int .i64 p1.case_)) rfl rfl rfl (Rdc.blk (.tail _ (.head _)) rfl)) ?_
      refine Ow_q rfl rfl rfl (Qt_cmp rfl rfl rfl) ?_
      refine Ow_q rfl rfl rfl (Qt_move rfl) ?_
      refine Ow_caseG rfl rfl rfl ?_ ?_
      · intro h69
        have h69 := dcd_t (h69)
        have H := ift h69 H
        refine Ow_pass rfl rfl rfl rfl rfl rfl rfl ?_
        refine Ow_pass rfl rfl rfl rfl rfl rfl rfl ?_
        refine Ow_pass rfl rfl rfl rfl rfl rfl rfl ?_
        refine Ow_pass rfl rfl rfl rfl rfl rfl rfl ?_
        refine Ow_pass rfl rfl rfl rfl rfl rfl rfl ?_
        refine Ow_pass rfl rfl rfl rfl rfl rfl rfl ?_
        refine Ow_q rfl rfl rfl (Qt_pick_t rfl rfl) ?_
        refine Ow_nil ?_
        refine Shift.pull (.there (.there .here)) ?_
        refine Shift.pull (.there (.there .here)) ?_
        refine Shift.pull (.there (.there .here)) ?_
        refine Shift.done ?_
        exact ⟨[(2, (.pointer (some ((⟨b29, 0, none⟩ : Addr).add 0)))), (3, (.pointer (some ((⟨b30, 0, none⟩ : Addr).add 0)))), (4, (.pointer (some ((⟨b31, 0, none⟩ : Addr).add 0)))), (21, (.bool true))], ⟨rfl, rfl, rfl, rfl, trivial⟩, true, rfl, rfl, rfl, H⟩
      · intro h69
        have h69 := dcd_f (h69)
        have H := iff_ h69 H
        refine Ow_qw rfl rfl rfl rfl rfl rfl (Qt_fieldAddr (m := 1) rfl rfl rfl rfl rfl) ?_
        refine Ow_qw rfl rfl rfl rfl rfl rfl (Qt_load1 (v := (.int .i64 p1.case_)) rfl rfl rfl (Rdc.blk (.tail _ (.head _)) rfl)) ?_
        refine Ow_qw rfl rfl rfl rfl rfl rfl (Qt_fieldAddr (m := 5) rfl rfl rfl rfl rfl) ?_
        refine Ow_qw rfl rfl rfl rfl rfl rfl (Qt_load1 (v := (sv vp0_cases)) rfl rfl rfl (Rdc.blk (.tail _ (.tail _ (.head _))) rfl)) ?_
        refine Ow_qw rfl rfl rfl rfl rfl rfl (Q_len (T := TyCase) hp0_cases rfl rfl) ?_
        refine Ow_qw rfl rfl rfl rfl rfl rfl (Qt_cmp rfl rfl rfl) ?_
        refine Ow_q rfl rfl rfl (Qt_pick_f rfl rfl) ?_
        refine Ow_nil ?_
        refine Shift.pull (.there (.there .here)) ?_
        refine Shift.pull (.there (.there .here)) ?_
        refine Shift.pull (.there (.there .here)) ?_
        refine Shift.done ?_
        exact ⟨[(2, (.pointer (some ((⟨b29, 0, none⟩ : Addr).add 0)))), (3, (.pointer (some ((⟨b30, 0, none⟩ : Addr).add 0)))), (4, (.pointer (some ((⟨b31, 0, none⟩ : Addr).add 0)))), (21, (.bool (dcd (p1.case_ ≥ (p0.cases.length : Int)))))], ⟨rfl, rfl, rfl, rfl, trivial⟩, (dcd (p1.case_ ≥ (p0.cases.length : Int))), rfl, rfl, rfl, H⟩
    rintro _ _ _ - ⟨t68, rfl, rfl, rfl, H⟩
    unfold M_ref14_chosen_J1 at H
    refine Cw_cond rfl ?_ ?_
    · intro h70
      have H := ift h70 H
      refine Cw_seq ?_
      refine Cw_region ?_
      refine Ow_q rfl rfl rfl (Qt_build (cs := (Case.cells (Case.mk false 0 0))) rfl rfl rfl rfl rfl rfl) ?_
      refine Ow_cons rfl (OpW_store (vs := (Case.cells (Case.mk false 0 0))) (all' := (Case.cells (Case.mk false 0 0))) rfl rfl rfl rfl rfl .here rfl rfl rfl ?_)
      refine Ow_q rfl rfl rfl (Qt_assign rfl) ?_
      refine Ow_nil ?_
      refine Cw_ret ?_
      obtain ⟨ey0, ey1⟩ := inj2 H
      subst y0 y1
      refine ⟨(by first | exact .inl rfl | exact .inr rfl), [(.agg (Case.cells (Case.mk false 0 0)).toArray), (.bool false)], ⟨(.agg (Case.cells (Case.mk false 0 0)).toArray), _, rfl, ⟨_, 3, (Case.cells (Case.mk false 0 0)), rfl, rfl, rfl, rfl, ⟨rfl, Rdc.blk (.head _) rfl⟩, rfl⟩, ⟨(.bool false), _, rfl, rfl, rfl⟩⟩, ?_⟩
      refine Shift.rem .here ?_
      refine Shift.rem .here ?_
      refine Shift.rem .here ?_
      refine Shift.done ?_
      exact ⟨rfl, rfl, rfl⟩
    · intro h70
      have H := iff_ (btf h70) H
      refine Cw_skip ?_
      refine Cw_seq ?_
      refine Cw_region ?_
      refine Ow_q rfl rfl rfl (Qt_fieldAddr (m := 5) rfl rfl rfl rfl rfl) ?_
      refine Ow_q rfl rfl rfl (Qt_load1 (v := (sv vp0_cases)) rfl rfl rfl (Rdc.blk (.tail _ (.tail _ (.head _))) rfl)) ?_
      refine Ow_q rfl rfl rfl (Qt_fieldAddr (m := 1) rfl rfl rfl rfl rfl) ?_
      refine Ow_q rfl rfl rfl (Qt_load1 (v := (.int .i64 p1.case_)) rfl rfl rfl (Rdc.blk (.tail _ (.head _)) rfl)) ?_
      obtain ⟨x71, hx72, H⟩ := bnd H
      obtain ⟨r73, hr74, hk75⟩ := Slr.at hp0_cases hx72
      obtain rfl := hr74
      refine Ow_q rfl rfl rfl (Q_ix (T := TyCase) hp0_cases hx72 rfl rfl rfl rfl rfl) ?_
      refine Ow_q rfl rfl rfl (Qt_loadA (m := 3) (cs := (Case.cells x71)) rfl rfl rfl rfl ⟨rfl, Rdc.k hk75 rfl⟩) ?_
      refine Ow_cons rfl (OpW_store (vs := (Case.cells x71)) (all' := (Case.cells x71)) rfl rfl rfl rfl rfl .here rfl rfl rfl ?_)
      refine Ow_q rfl rfl rfl (Qt_assign rfl) ?_
      refine Ow_nil ?_
      refine Cw_ret ?_
      obtain ⟨ey0, ey1⟩ := inj2 H
      subst y0 y1
      refine ⟨(by first | exact .inl rfl | exact .inr rfl), [(.agg (Case.cells x71).toArray), (.bool true)], ⟨(.agg (Case.cells x71).toArray), _, rfl, ⟨_, 3, (Case.cells x71), rfl, rfl, rfl, rfl, ⟨rfl, Rdc.blk (.head _) rfl⟩, rfl⟩, ⟨(.bool true), _, rfl, rfl, rfl⟩⟩, ?_⟩
      refine Shift.rem .here ?_
      refine Shift.rem .here ?_
      refine Shift.rem .here ?_
      refine Shift.done ?_
      exact ⟨rfl, rfl, rfl⟩
  · intro h52
    have h52 := dcd_f (h52)
    have H := iff_ h52 H
    refine Cw_skip ?_
    refine Cw_seq ?_
    refine Cw_region ?_
    refine Ow_q rfl rfl rfl (Qt_loadA (m := 7) (cs := (Op.cells p0 vp0_cases vp0_draws)) rfl rfl rfl rfl ⟨rfl, Rdc.blk (.tail _ (.tail _ (.head _))) rfl⟩) ?_
    obtain ⟨x76, x77, hx78, H⟩ := bnd2 H
    refine Ow_cons rfl (OpW_call rfl Try.call100 rfl rfl (c_M_ref3_Single p0 vp0_cases vp0_draws x76 x77 hx78 _ _ hp0_cases hp0_draws) ?_)
    rintro _ _ _ - ⟨rfl, rfl, rfl⟩
    refine Ow_q rfl rfl rfl (Qt_move rfl) ?_
    refine Ow_q rfl rfl rfl (Qt_extract rfl rfl) ?_
    refine Ow_q rfl rfl rfl (Qt_extract rfl rfl) ?_
    refine Ow_cons rfl (OpW_alloc (cs := (Case.cells (Case.mk false 0 0))) rfl rfl rfl rfl (fun b79 => ?_))
    refine Ow_cons rfl (OpW_store (vs := (Case.cells x76)) (all' := (Case.cells x76)) rfl rfl rfl rfl rfl .here rfl rfl rfl ?_)
    refine Ow_q rfl rfl rfl (Qt_assign rfl) ?_
    refine Ow_nil ?_
    refine Cw_seq ?_
    rcases bool_ct x77 with hb_ | hb_ <;> revert hb_
    · intro h81
      have H := ift h81 H
      refine Cw_region_any [.blk b79 73 (Case.cells x76), .blk b30 25 (Result.cells p1), .blk b29 38 (Op.cells p0 vp0_cases vp0_draws)] rfl (Inc.cons (.head _) (Inc.cons (.tail _ (.tail _ (.head _))) (Inc.cons (.tail _ (.tail _ (.tail _ (.head _)))) Inc.nil))) ?_
      refine Aw_q 0 rfl (by kernel_rfl) (by kernel_rfl) (by kernel_rfl) rfl rfl rfl (Qt_loadA (m := 3) (cs := (Case.cells x76)) rfl rfl rfl rfl ⟨rfl, Rdc.blk (.head _) rfl⟩) ?_
      refine Aw_q 1 rfl (by kernel_rfl) (by kernel_rfl) (by kernel_rfl) rfl rfl rfl (Qt_move rfl) ?_
      refine Aw_q 2 rfl (by kernel_rfl) (by kernel_rfl) (by kernel_rfl) rfl rfl rfl (Qt_move rfl) ?_
      refine Aw.known (d := 36) rfl (h81) ?_
      refine Aw_qw 3 rfl (by kernel_rfl) (by kernel_rfl) (by kernel_rfl) rfl rfl rfl rfl rfl rfl (Qt_fieldAddr (m := 1) rfl rfl rfl rfl rfl) ?_
      refine Aw_qw 4 rfl (by kernel_rfl) (by kernel_rfl) (by kernel_rfl) rfl rfl rfl rfl rfl rfl (Qt_load1 (v := (.int .i64 p1.case_)) rfl rfl rfl (Rdc.blk (.tail _ (.head _)) rfl)) ?_
      refine Aw_qw 5 rfl (by kernel_rfl) (by kernel_rfl) (by kernel_rfl) rfl rfl rfl rfl rfl rfl (Qt_cmp rfl rfl rfl) ?_
      refine Aw_q 6 rfl (by kernel_rfl) (by kernel_rfl) (by kernel_rfl) rfl rfl rfl (Qt_pick_t rfl rfl) ?_
      refine Aw_one 7 (by kernel_rfl) (Ax_mk rfl rfl ?_)
      refine OpW_store (vs := (Case.cells x76)) (all' := (Case.cells x76)) rfl rfl rfl rfl rfl (.there .here) rfl rfl rfl ⟨(Inc.cons (.head _) (Inc.cons (.tail _ (.tail _ (.head _))) (Inc.cons (.tail _ (.tail _ (.tail _ (.head _)))) Inc.nil))), ?_⟩
      refine Aw_q 8 rfl (by kernel_rfl) (by kernel_rfl) (by kernel_rfl) rfl rfl rfl (Qt_assign rfl) ?_
      refine Aw_done (by kernel_rfl) ?_
      refine Cw_ret ?_
      obtain ⟨ey0, ey1⟩ := inj2 H
      subst y0 y1
      refine ⟨(by first | exact .inl rfl | exact .inr rfl), [(.agg (Case.cells x76).toArray), (.bool (dcd (p1.case_ = (-1))))], ⟨(.agg (Case.cells x76).toArray), _, rfl, ⟨_, 3, (Case.cells x76), rfl, rfl, rfl, rfl, ⟨rfl, Rdc.blk (.tail _ (.head _)) rfl⟩, rfl⟩, ⟨(.bool (dcd (p1.case_ = (-1)))), _, rfl, rfl, rfl⟩⟩, ?_⟩
      refine Shift.rem .here ?_
      refine Shift.rem .here ?_
      refine Shift.rem .here ?_
      refine Shift.rem .here ?_
      refine Shift.done ?_
      exact ⟨rfl, rfl, rfl⟩
    · intro h81
      have H := iff_ (btf h81) H
      refine Cw_region_any [.blk b79 73 (Case.cells x76), .blk b30 25 (Result.cells p1), .blk b29 38 (Op.cells p0 vp0_cases vp0_draws)] rfl (Inc.cons (.head _) (Inc.cons (.tail _ (.tail _ (.head _))) (Inc.cons (.tail _ (.tail _ (.tail _ (.head _)))) Inc.nil))) ?_
      refine Aw_q 0 rfl (by kernel_rfl) (by kernel_rfl) (by kernel_rfl) rfl rfl rfl (Qt_loadA (m := 3) (cs := (Case.cells x76)) rfl rfl rfl rfl ⟨rfl, Rdc.blk (.head _) rfl⟩) ?_
      refine Aw_q 1 rfl (by kernel_rfl) (by kernel_rfl) (by kernel_rfl) rfl rfl rfl (Qt_move rfl) ?_
      refine Aw_q 2 rfl (by kernel_rfl) (by kernel_rfl) (by kernel_rfl) rfl rfl rfl (Qt_move rfl) ?_
      refine Aw.known (d := 36) rfl (h81) ?_
      refine Aw_pass 3 rfl (by kernel_rfl) (by kernel_rfl) (by kernel_rfl) rfl rfl rfl rfl rfl rfl rfl ?_
      refine Aw_pass 4 rfl (by kernel_rfl) (by kernel_rfl) (by kernel_rfl) rfl rfl rfl rfl rfl rfl rfl ?_
      refine Aw_pass 5 rfl (by kernel_rfl) (by kernel_rfl) (by kernel_rfl) rfl rfl rfl rfl rfl rfl rfl ?_
      refine Aw_q 6 rfl (by kernel_rfl) (by kernel_rfl) (by kernel_rfl) rfl rfl rfl (Qt_pick_f rfl rfl) ?_
      refine Aw_one 7 (by kernel_rfl) (Ax_mk rfl rfl ?_)
      refine OpW_store (vs := (Case.cells x76)) (all' := (Case.cells x76)) rfl rfl rfl rfl rfl (.there .here) rfl rfl rfl ⟨(Inc.cons (.head _) (Inc.cons (.tail _ (.tail _ (.head _))) (Inc.cons (.tail _ (.tail _ (.tail _ (.head _)))) Inc.nil))), ?_⟩
      refine Aw_q 8 rfl (by kernel_rfl) (by kernel_rfl) (by kernel_rfl) rfl rfl rfl (Qt_assign rfl) ?_
      refine Aw_done (by kernel_rfl) ?_
      refine Cw_ret ?_
      obtain ⟨ey0, ey1⟩ := inj2 H
      subst y0 y1
      refine ⟨(by first | exact .inl rfl | exact .inr rfl), [(.agg (Case.cells x76).toArray), (.bool false)], ⟨(.agg (Case.cells x76).toArray), _, rfl, ⟨_, 3, (Case.cells x76), rfl, rfl, rfl, rfl, ⟨rfl, Rdc.blk (.tail _ (.head _)) rfl⟩, rfl⟩, ⟨(.bool false), _, rfl, rfl, rfl⟩⟩, ?_⟩
      refine Shift.rem .here ?_
      refine Shift.rem .here ?_
      refine Shift.rem .here ?_
      refine Shift.rem .here ?_
      refine Shift.done ?_
      exact ⟨rfl, rfl, rfl⟩

set_option maxHeartbeats 1000000 in
theorem c_M_ref14_half (p0 : List Chan) (vp0 : SV) (p1 : Op) (vp1_cases : SV) (vp1_draws : SV) (p2 : Result) (p3 : Op) (vp3_cases : SV) (vp3_draws : SV) (p4 : Result) (y0 : Bool) (H : M_ref14_half p0 p1 p2 p3 p4 = some y0) (K : Kp) (G : List Ent) (hp0 : Slr TyChan K (sv vp0) p0) (hp1_cases : Slr TyCase K (sv vp1_cases) p1.cases) (hp1_draws : Slr Ty.i64 K (sv vp1_draws) p1.draws) (hp3_cases : Slr TyCase K (sv vp3_cases) p3.cases) (hp3_draws : Slr Ty.i64 K (sv vp3_draws) p3.draws) :
    Fc Try.prog 65 #[(sv vp0), (.agg (Op.cells p1 vp1_cases vp1_draws).toArray), (.agg (Result.cells p2).toArray), (.agg (Op.cells p3 vp3_cases vp3_draws).toArray), (.agg (Result.cells p4).toArray)] K (G) (fun v K' G' => v = (.bool y0) ∧ K = K' ∧ G = G') := by
  refine Fc_body Try.func65 rfl Try.ntmps65 Try.results65 rfl ?_
  unfold M_ref14_half at H
  refine Cw_seq ?_
  refine Cw_region ?_
  refine Ow_cons rfl (OpW_box (cs := (Op.cells p1 vp1_cases vp1_draws)) rfl rfl rfl (fun b67 => ?_))
  refine Ow_cons rfl (OpW_box (cs := (Result.cells p2)) rfl rfl rfl (fun b68 => ?_))
  refine Ow_cons rfl (OpW_box (cs := (Op.cells p3 vp3_cases vp3_draws)) rfl rfl rfl (fun b69 => ?_))
  refine Ow_cons rfl (OpW_box (cs := (Result.cells p4)) rfl rfl rfl (fun b70 => ?_))
  refine Ow_q rfl rfl rfl (Qt_assign rfl) ?_
  refine Ow_nil ?_
  refine Cw_seq ?_
  refine Cw_join (fun env' K' G' => ∃ (t89 : Bool), [(0, (sv vp0)), (6, (.pointer (some ((⟨b67, 0, none⟩ : Addr).add 0)))), (7, (.pointer (some ((⟨b68, 0, none⟩ : Addr).add 0)))), (8, (.pointer (some ((⟨b69, 0, none⟩ : Addr).add 0)))), (9, (.pointer (some ((⟨b70, 0, none⟩ : Addr).add 0)))), (38, (.bool t89))] = env' ∧ K = K' ∧ (.blk b70 25 (Result.cells p4)) :: (.blk b69 38 (Op.cells p3 vp3_cases vp3_draws)) :: (.blk b68 25 (Result.cells p2)) :: (.blk b67 38 (Op.cells p1 vp1_cases vp1_draws)) :: G = G' ∧ M_ref14_half_J1 p0 p4 p3 p2 p1 t89 = some y0) ?_ ?_
  · skip
    refine Cw_region ?_
    refine Ow_q rfl rfl rfl (Qt_fieldAddr (m := 0) rfl rfl rfl rfl rfl) ?_
    refine Ow_q rfl rfl rfl (Qt_load1 (v := (.int .i64 p2.kind)) rfl rfl rfl (Rdc.blk (.tail _ (.tail _ (.head _))) rfl)) ?_
    refine Ow_q rfl rfl rfl (Qt_cmp rfl rfl rfl) ?_
    refine Ow_q rfl rfl rfl (Qt_move rfl) ?_
    refine Ow_caseG rfl rfl rfl ?_ ?_
    · intro h90
      have h90 := dcd_f (nt_t (h90))
      have H := iff_ h90 H
      refine Ow_pass rfl rfl rfl rfl rfl rfl rfl ?_
      refine Ow_pass rfl rfl rfl rfl rfl rfl rfl ?_
      refine Ow_pass rfl rfl rfl rfl rfl rfl rfl ?_
      refine Ow_q rfl rfl rfl (Qt_pick_t rfl rfl) ?_
      refine Ow_q rfl rfl rfl (Qt_move rfl) ?_
      refine Ow_pass rfl rfl rfl rfl rfl rfl rfl ?_
      refine Ow_pass rfl rfl rfl rfl rfl rfl rfl ?_
      refine Ow_pass rfl rfl rfl rfl rfl rfl rfl ?_
      refine Ow_q rfl rfl rfl (Qt_pick_t rfl rfl) ?_
      refine Ow_q rfl rfl rfl (Qt_move rfl) ?_
      refine Ow_pass rfl rfl rfl rfl rfl rfl rfl ?_
      refine Ow_pass rfl rfl rfl rfl rfl rfl rfl ?_
      refine Ow_pass rfl rfl rfl rfl rfl rfl rfl ?_
      refine Ow_q rfl rfl rfl (Qt_pick_t rfl rfl) ?_
      refine Ow_q rfl rfl rfl (Qt_move rfl) ?_
      refine Ow_pass rfl rfl rfl rfl rfl rfl rfl ?_
      refine Ow_pass rfl rfl rfl rfl rfl rfl rfl ?_
      refine Ow_pass rfl rfl rfl rfl rfl rfl rfl ?_
      refine Ow_q rfl rfl rfl (Qt_pick_t rfl rfl) ?_
      refine Ow_nil ?_
      refine Shift.pull (.there (.there (.there .here))) ?_
      refine Shift.pull (.there (.there (.there .here))) ?_
      refine Shift.pull (.there (.there (.there .here))) ?_
      refine Shift.pull (.there (.there (.there .here))) ?_
      refine Shift.done ?_
      exact ⟨[(0, (sv vp0)), (6, (.pointer (some ((⟨b67, 0, none⟩ : Addr).add 0)))), (7, (.pointer (some ((⟨b68, 0, none⟩ : Addr).add 0)))), (8, (.pointer (some ((⟨b69, 0, none⟩ : Addr).add 0)))), (9, (.pointer (some ((⟨b70, 0, none⟩ : Addr).add 0)))), (38, (.bool true))], ⟨rfl, rfl, rfl, rfl, rfl, rfl, trivial⟩, true, rfl, rfl, rfl, H⟩
    · intro h90
      have h90 := dcd_t (nt_f (h90))
      have H := ift h90 H
      refine Ow_qw rfl rfl rfl rfl rfl rfl (Qt_fieldAddr (m := 0) rfl rfl rfl rfl rfl) ?_
      refine Ow_qw rfl rfl rfl rfl rfl rfl (Qt_load1 (v := (.int .i64 p4.kind)) rfl rfl rfl (Rdc.blk (.head _) rfl)) ?_
      refine Ow_qw rfl rfl rfl rfl rfl rfl (Qt_cmp rfl rfl rfl) ?_
      refine Ow_q rfl rfl rfl (Qt_pick_f rfl rfl) ?_
      refine Ow_q rfl rfl rfl (Qt_move rfl) ?_
      refine Ow_caseG rfl rfl rfl ?_ ?_
      · intro h91
        have h91 := dcd_f (nt_t (h91))
        have H := iff_ h91 H
        refine Ow_pass rfl rfl rfl rfl rfl rfl rfl ?_
        refine Ow_pass rfl rfl rfl rfl rfl rfl rfl ?_
        refine Ow_pass rfl rfl rfl rfl rfl rfl rfl ?_
        refine Ow_q rfl rfl rfl (Qt_pick_t rfl rfl) ?_
        refine Ow_q rfl rfl rfl (Qt_move rfl) ?_
        refine Ow_pass rfl rfl rfl rfl rfl rfl rfl ?_
        refine Ow_pass rfl rfl rfl rfl rfl rfl rfl ?_
        refine Ow_pass rfl rfl rfl rfl rfl rfl rfl ?_
        refine Ow_q rfl rfl rfl (Qt_pick_t rfl rfl) ?_
        refine Ow_q rfl rfl rfl (Qt_move rfl) ?_
        refine Ow_pass rfl rfl rfl rfl rfl rfl rfl ?_
        refine Ow_pass rfl rfl rfl rfl rfl rfl rfl ?_
        refine Ow_pass rfl rfl rfl rfl rfl rfl rfl ?_
        refine Ow_q rfl rfl rfl (Qt_pick_t rfl rfl) ?_
        refine Ow_nil ?_
        refine Shift.pull (.there (.there (.there .here))) ?_
        refine Shift.pull (.there (.there (.there .here))) ?_
        refine Shift.pull (.there (.there (.there .here))) ?_
        refine Shift.pull (.there (.there (.there .here))) ?_
        refine Shift.done ?_
        exact ⟨[(0, (sv vp0)), (6, (.pointer (some ((⟨b67, 0, none⟩ : Addr).add 0)))), (7, (.pointer (some ((⟨b68, 0, none⟩ : Addr).add 0)))), (8, (.pointer (some ((⟨b69, 0, none⟩ : Addr).add 0)))), (9, (.pointer (some ((⟨b70, 0, none⟩ : Addr).add 0)))), (38, (.bool true))], ⟨rfl, rfl, rfl, rfl, rfl, rfl, trivial⟩, true, rfl, rfl, rfl, H⟩
      · intro h91
        have h91 := dcd_t (nt_f (h91))
        have H := ift h91 H
        refine Ow_qw rfl rfl rfl rfl rfl rfl (Qt_loadA (m := 5) (cs := (Result.cells p2)) rfl rfl rfl rfl ⟨rfl, Rdc.blk (.tail _ (.tail _ (.head _))) rfl⟩) ?_
        obtain ⟨x92, hx93, H⟩ := bnd H
        refine Ow_want rfl rfl rfl rfl (OpW_call rfl Try.call97 rfl rfl (c_M_ref14_only p2 false false x92 hx93 _ _ ) ?_)
        rintro _ _ _ - ⟨rfl, rfl, rfl⟩
        refine Ow_qw rfl rfl rfl rfl rfl rfl (Qt_not rfl) ?_
        refine Ow_q rfl rfl rfl (Qt_pick_f rfl rfl) ?_
        refine Ow_q rfl rfl rfl (Qt_move rfl) ?_
        refine Ow_caseG rfl rfl rfl ?_ ?_
        · intro h94
          have h94 := nt_t (h94)
          have H := iff_ (btf h94) H
          refine Ow_pass rfl rfl rfl rfl rfl rfl rfl ?_
          refine Ow_pass rfl rfl rfl rfl rfl rfl rfl ?_
          refine Ow_pass rfl rfl rfl rfl rfl rfl rfl ?_
          refine Ow_q rfl rfl rfl (Qt_pick_t rfl rfl) ?_
          refine Ow_q rfl rfl rfl (Qt_move rfl) ?_
          refine Ow_pass rfl rfl rfl rfl rfl rfl rfl ?_
          refine Ow_pass rfl rfl rfl rfl rfl rfl rfl ?_
          refine Ow_pass rfl rfl rfl rfl rfl rfl rfl ?_
          refine Ow_q rfl rfl rfl (Qt_pick_t rfl rfl) ?_
          refine Ow_nil ?_
          refine Shift.pull (.there (.there (.there .here))) ?_
          refine Shift.pull (.there (.there (.there .here))) ?_
          refine Shift.pull (.there (.there (.there .here))) ?_
          refine Shift.pull (.there (.there (.there .here))) ?_
          refine Shift.done ?_
          exact ⟨[(0, (sv vp0)), (6, (.pointer (some ((⟨b67, 0, none⟩ : Addr).add 0)))), (7, (.pointer (some ((⟨b68, 0, none⟩ : Addr).add 0)))), (8, (.pointer (some ((⟨b69, 0, none⟩ : Addr).add 0)))), (9, (.pointer (some ((⟨b70, 0, none⟩ : Addr).add 0)))), (38, (.bool true))], ⟨rfl, rfl, rfl, rfl, rfl, rfl, trivial⟩, true, rfl, rfl, rfl, H⟩
        · intro h94
          have h94 := nt_f (h94)
          have H := ift h94 H
          refine Ow_qw rfl rfl rfl rfl rfl rfl (Qt_loadA (m := 5) (cs := (Result.cells p4)) rfl rfl rfl rfl ⟨rfl, Rdc.blk (.head _) rfl⟩) ?_
          obtain ⟨x95, hx96, H⟩ := bnd H
          refine Ow_want rfl rfl rfl rfl (OpW_call rfl Try.call97 rfl rfl (c_M_ref14_only p4 true false x95 hx96 _ _ ) ?_)
          rintro _ _ _ - ⟨rfl, rfl, rfl⟩
          refine Ow_qw rfl rfl rfl rfl rfl rfl (Qt_not rfl) ?_
          refine Ow_q rfl rfl rfl (Qt_pick_f rfl rfl) ?_
          refine Ow_q rfl rfl rfl (Qt_move rfl) ?_
          refine Ow_caseG rfl rfl rfl ?_ ?_
          · intro h97
            have h97 := nt_t (h97)
            have H := iff_ (btf h97) H
            refine Ow_pass rfl rfl rfl rfl rfl rfl rfl ?_
            refine Ow_pass rfl rfl rfl rfl rfl rfl rfl ?_
            refine Ow_pass rfl rfl rfl rfl rfl rfl rfl ?_
            refine Ow_q rfl rfl rfl (Qt_pick_t rfl rfl) ?_
            refine Ow_nil ?_
            refine Shift.pull (.there (.there (.there .here))) ?_
            refine Shift.pull (.there (.there (.there .here))) ?_
            refine Shift.pull (.there (.there (.there .here))) ?_
            refine Shift.pull (.there (.there (.there .here))) ?_
            refine Shift.done ?_
            exact ⟨[(0, (sv vp0)), (6, (.pointer (some ((⟨b67, 0, none⟩ : Addr).add 0)))), (7, (.pointer (some ((⟨b68, 0, none⟩ : Addr).add 0)))), (8, (.pointer (some ((⟨b69, 0, none⟩ : Addr).add 0)))), (9, (.pointer (some ((⟨b70, 0, none⟩ : Addr).add 0)))), (38, (.bool true))], ⟨rfl, rfl, rfl, rfl, rfl, rfl, trivial⟩, true, rfl, rfl, rfl, H⟩
          · intro h97
            have h97 := nt_f (h97)
            have H := ift h97 H
            refine Ow_qw rfl rfl rfl rfl rfl rfl (Qt_fieldAddr (m := 3) rfl rfl rfl rfl rfl) ?_
            refine Ow_qw rfl rfl rfl rfl rfl rfl (Qt_load1 (v := (.bool p4.ok)) rfl rfl rfl (Rdc.blk (.head _) rfl)) ?_
            refine Ow_qw rfl rfl rfl rfl rfl rfl (Qt_not rfl) ?_
            refine Ow_q rfl rfl rfl (Qt_pick_f rfl rfl) ?_
            refine Ow_nil ?_
            refine Shift.pull (.there (.there (.there .here))) ?_
            refine Shift.pull (.there (.there (.there .here))) ?_
            refine Shift.pull (.there (.there (.there .here))) ?_
            refine Shift.pull (.there (.there (.there .here))) ?_
            refine Shift.done ?_
            exact ⟨[(0, (sv vp0)), (6, (.pointer (some ((⟨b67, 0, none⟩ : Addr).add 0)))), (7, (.pointer (some ((⟨b68, 0, none⟩ : Addr).add 0)))), (8, (.pointer (some ((⟨b69, 0, none⟩ : Addr).add 0)))), (9, (.pointer (some ((⟨b70, 0, none⟩ : Addr).add 0)))), (38, (.bool (!(p4.ok))))], ⟨rfl, rfl, rfl, rfl, rfl, rfl, trivial⟩, (!(p4.ok)), rfl, rfl, rfl, H⟩
  rintro _ _ _ - ⟨t89, rfl, rfl, rfl, H⟩
  unfold M_ref14_half_J1 at H
  refine Cw_cond rfl ?_ ?_
  · intro h98
    have H := ift h98 H
    refine Cw_seq ?_
    refine Cw_region ?_
    refine Ow_q rfl rfl rfl (Qt_assign rfl) ?_
    refine Ow_nil ?_
    refine Cw_ret ?_
    obtain ey0 := inj1 H
    subst y0
    refine ⟨(by first | exact .inl rfl | exact .inr rfl), [(.bool false)], ⟨(.bool false), _, rfl, rfl, rfl⟩, ?_⟩
    refine Shift.rem .here ?_
    refine Shift.rem .here ?_
    refine Shift.rem .here ?_
    refine Shift.rem .here ?_
    refine Shift.done ?_
    exact ⟨rfl, rfl, rfl⟩
  · intro h98
    have H := iff_ (btf h98) H
    refine Cw_skip ?_
    refine Cw_seq ?_
    refine Cw_region ?_
    refine Ow_q rfl rfl rfl (Qt_loadA (m := 7) (cs := (Op.cells p1 vp1_cases vp1_draws)) rfl rfl rfl rfl ⟨rfl, Rdc.blk (.tail _ (.tail _ (.tail _ (.head _)))) rfl⟩) ?_
    refine Ow_q rfl rfl rfl (Qt_loadA (m := 5) (cs := (Result.cells p2)) rfl rfl rfl rfl ⟨rfl, Rdc.blk (.tail _ (.tail _ (.head _))) rfl⟩) ?_
    obtain ⟨x99, x100, hx101, H⟩ := bnd2 H
    refine Ow_cons rfl (OpW_call rfl Try.call95 rfl rfl (c_M_ref14_chosen p1 vp1_cases vp1_draws p2 x99 x100 hx101 _ _ hp1_cases hp1_draws) ?_)
    rintro _ _ _ - ⟨rfl, rfl, rfl⟩
    refine Ow_q rfl rfl rfl (Qt_move rfl) ?_
    refine Ow_q rfl rfl rfl (Qt_extract rfl rfl) ?_
    refine Ow_q rfl rfl rfl (Qt_extract rfl rfl) ?_
    refine Ow_cons rfl (OpW_alloc (cs := (Case.cells (Case.mk false 0 0))) rfl rfl rfl rfl (fun b102 => ?_))
    refine Ow_cons rfl (OpW_store (vs := (Case.cells x99)) (all' := (Case.cells x99)) rfl rfl rfl rfl rfl .here rfl rfl rfl ?_)
    refine Ow_q rfl rfl rfl (Qt_assign rfl) ?_
    refine Ow_nil ?_
    refine Cw_seq ?_
    refine Cw_region ?_
    refine Ow_q rfl rfl rfl (Qt_loadA (m := 7) (cs := (Op.cells p3 vp3_cases vp3_draws)) rfl rfl rfl rfl ⟨rfl, Rdc.blk (.tail _ (.tail _ (.head _))) rfl⟩) ?_
    refine Ow_q rfl rfl rfl (Qt_loadA (m := 5) (cs := (Result.cells p4)) rfl rfl rfl rfl ⟨rfl, Rdc.blk (.tail _ (.head _)) rfl⟩) ?_
    obtain ⟨x103, x104, hx105, H⟩ := bnd2 H
    refine Ow_cons rfl (OpW_call rfl Try.call95 rfl rfl (c_M_ref14_chosen p3 vp3_cases vp3_draws p4 x103 x104 hx105 _ _ hp3_cases hp3_draws) ?_)
    rintro _ _ _ - ⟨rfl, rfl, rfl⟩
    refine Ow_q rfl rfl rfl (Qt_move rfl) ?_
    refine Ow_q rfl rfl rfl (Qt_extract rfl rfl) ?_
    refine Ow_q rfl rfl rfl (Qt_extract rfl rfl) ?_
    refine Ow_cons rfl (OpW_alloc (cs := (Case.cells (Case.mk false 0 0))) rfl rfl rfl rfl (fun b106 => ?_))
    refine Ow_cons rfl (OpW_store (vs := (Case.cells x103)) (all' := (Case.cells x103)) rfl rfl rfl rfl rfl .here rfl rfl rfl ?_)
    refine Ow_q rfl rfl rfl (Qt_assign rfl) ?_
    refine Ow_nil ?_
    refine Cw_seq ?_
    refine Cw_join (fun env' K' G' => ∃ (t123 : Bool), [(0, (sv vp0)), (9, (.pointer (some ((⟨b70, 0, none⟩ : Addr).add 0)))), (11, (.pointer (some ((⟨b102, 0, none⟩ : Addr).add 0)))), (79, (.bool t123))] = env' ∧ K = K' ∧ (.blk b102 73 (Case.cells x99)) :: (.blk b70 25 (Result.cells p4)) :: G = G' ∧ M_ref14_half_J2 p0 x99 p4 t123 = some y0) ?_ ?_
    · skip
      refine Cw_region ?_
      refine Ow_q rfl rfl rfl (Qt_move rfl) ?_
      refine Ow_q rfl rfl rfl (Qt_not rfl) ?_
      refine Ow_q rfl rfl rfl (Qt_move rfl) ?_
      refine Ow_caseG rfl rfl rfl ?_ ?_
      · intro h124
        have h124 := nt_t (h124)
        have H := iff_ (btf h124) H
        refine Ow_pass rfl rfl rfl rfl rfl rfl rfl ?_
        refine Ow_pass rfl rfl rfl rfl rfl rfl rfl ?_
        refine Ow_q rfl rfl rfl (Qt_pick_t rfl rfl) ?_
        refine Ow_q rfl rfl rfl (Qt_move rfl) ?_
        refine Ow_pass rfl rfl rfl rfl rfl rfl rfl ?_
        refine Ow_pass rfl rfl rfl rfl rfl rfl rfl ?_
        refine Ow_pass rfl rfl rfl rfl rfl rfl rfl ?_
        refine Ow_q rfl rfl rfl (Qt_pick_t rfl rfl) ?_
        refine Ow_q rfl rfl rfl (Qt_move rfl) ?_
        refine Ow_pass rfl rfl rfl rfl rfl rfl rfl ?_
        refine Ow_pass rfl rfl rfl rfl rfl rfl rfl ?_
        refine Ow_q rfl rfl rfl (Qt_pick_t rfl rfl) ?_
        refine Ow_q rfl rfl rfl (Qt_move rfl) ?_
        refine Ow_pass rfl rfl rfl rfl rfl rfl rfl ?_
        refine Ow_pass rfl rfl rfl rfl rfl rfl rfl ?_
        refine Ow_pass rfl rfl rfl rfl rfl rfl rfl ?_
        refine Ow_pass rfl rfl rfl rfl rfl rfl rfl ?_
        refine Ow_pass rfl rfl rfl rfl rfl rfl rfl ?_
        refine Ow_q rfl rfl rfl (Qt_pick_t rfl rfl) ?_
        refine Ow_q rfl rfl rfl (Qt_move rfl) ?_
        refine Ow_pass rfl rfl rfl rfl rfl rfl rfl ?_
        refine Ow_pass rfl rfl rfl rfl rfl rfl rfl ?_
        refine Ow_pass rfl rfl rfl rfl rfl rfl rfl ?_
        refine Ow_pass rfl rfl rfl rfl rfl rfl rfl ?_
        refine Ow_pass rfl rfl rfl rfl rfl rfl rfl ?_
        refine Ow_q rfl rfl rfl (Qt_pick_t rfl rfl) ?_
        refine Ow_nil ?_
        refine Shift.pull (.there (.there .here)) ?_
        refine Shift.pull (.there (.there .here)) ?_
        refine Shift.rem (.there (.there .here)) ?_
        refine Shift.rem (.there (.there .here)) ?_
        refine Shift.rem (.there (.there .here)) ?_
        refine Shift.rem (.there (.there .here)) ?_
        refine Shift.done ?_
        exact ⟨[(0, (sv vp0)), (9, (.pointer (some ((⟨b70, 0, none⟩ : Addr).add 0)))), (11, (.pointer (some ((⟨b102, 0, none⟩ : Addr).add 0)))), (79, (.bool true))], ⟨rfl, rfl, rfl, rfl, trivial⟩, true, rfl, rfl, rfl, H⟩
      · intro h124
        have h124 := nt_f (h124)
        have H := ift h124 H
        refine Ow_qw rfl rfl rfl rfl rfl rfl (Qt_move rfl) ?_
        refine Ow_qw rfl rfl rfl rfl rfl rfl (Qt_not rfl) ?_
        refine Ow_q rfl rfl rfl (Qt_pick_f rfl rfl) ?_
        refine Ow_q rfl rfl rfl (Qt_move rfl) ?_
        refine Ow_caseG rfl rfl rfl ?_ ?_
        · intro h125
          have h125 := nt_t (h125)
          have H := iff_ (btf h125) H
          refine Ow_pass rfl rfl rfl rfl rfl rfl rfl ?_
          refine Ow_pass rfl rfl rfl rfl rfl rfl rfl ?_
          refine Ow_pass rfl rfl rfl rfl rfl rfl rfl ?_
          refine Ow_q rfl rfl rfl (Qt_pick_t rfl rfl) ?_
          refine Ow_q rfl rfl rfl (Qt_move rfl) ?_
          refine Ow_pass rfl rfl rfl rfl rfl rfl rfl ?_
          refine Ow_pass rfl rfl rfl rfl rfl rfl rfl ?_
          refine Ow_q rfl rfl rfl (Qt_pick_t rfl rfl) ?_
          refine Ow_q rfl rfl rfl (Qt_move rfl) ?_
          refine Ow_pass rfl rfl rfl rfl rfl rfl rfl ?_
          refine Ow_pass rfl rfl rfl rfl rfl rfl rfl ?_
          refine Ow_pass rfl rfl rfl rfl rfl rfl rfl ?_
          refine Ow_pass rfl rfl rfl rfl rfl rfl rfl ?_
          refine Ow_pass rfl rfl rfl rfl rfl rfl rfl ?_
          refine Ow_q rfl rfl rfl (Qt_pick_t rfl rfl) ?_
          refine Ow_q rfl rfl rfl (Qt_move rfl) ?_
          refine Ow_pass rfl rfl rfl rfl rfl rfl rfl ?_
          refine Ow_pass rfl rfl rfl rfl rfl rfl rfl ?_
          refine Ow_pass rfl rfl rfl rfl rfl rfl rfl ?_
          refine Ow_pass rfl rfl rfl rfl rfl rfl rfl ?_
          refine Ow_pass rfl rfl rfl rfl rfl rfl rfl ?_
          refine Ow_q rfl rfl rfl (Qt_pick_t rfl rfl) ?_
          refine Ow_nil ?_
          refine Shift.pull (.there (.there .here)) ?_
          refine Shift.pull (.there (.there .here)) ?_
          refine Shift.rem (.there (.there .here)) ?_
          refine Shift.rem (.there (.there .here)) ?_
          refine Shift.rem (.there (.there .here)) ?_
          refine Shift.rem (.there (.there .here)) ?_
          refine Shift.done ?_
          exact ⟨[(0, (sv vp0)), (9, (.pointer (some ((⟨b70, 0, none⟩ : Addr).add 0)))), (11, (.pointer (some ((⟨b102, 0, none⟩ : Addr).add 0)))), (79, (.bool true))], ⟨rfl, rfl, rfl, rfl, trivial⟩, true, rfl, rfl, rfl, H⟩
        · intro h125
          have h125 := nt_f (h125)
          have H := ift h125 H
          refine Ow_qw rfl rfl rfl rfl rfl rfl (Qt_fieldAddr (m := 0) rfl rfl rfl rfl rfl) ?_
          refine Ow_qw rfl rfl rfl rfl rfl rfl (Qt_load1 (v := (.bool x99.send)) rfl rfl rfl (Rdc.blk (.tail _ (.head _)) rfl)) ?_
          refine Ow_qw rfl rfl rfl rfl rfl rfl (Qt_not rfl) ?_
          refine Ow_q rfl rfl rfl (Qt_pick_f rfl rfl) ?_
          refine Ow_q rfl rfl rfl (Qt_move rfl) ?_
          refine Ow_caseG rfl rfl rfl ?_ ?_
          · intro h126
            have h126 := nt_t (h126)
            have H := iff_ (btf h126) H
            refine Ow_pass rfl rfl rfl rfl rfl rfl rfl ?_
            refine Ow_pass rfl rfl rfl rfl rfl rfl rfl ?_
            refine Ow_q rfl rfl rfl (Qt_pick_t rfl rfl) ?_
            refine Ow_q rfl rfl rfl (Qt_move rfl) ?_
            refine Ow_pass rfl rfl rfl rfl rfl rfl rfl ?_
            refine Ow_pass rfl rfl rfl rfl rfl rfl rfl ?_
            refine Ow_pass rfl rfl rfl rfl rfl rfl rfl ?_
            refine Ow_pass rfl rfl rfl rfl rfl rfl rfl ?_
            refine Ow_pass rfl rfl rfl rfl rfl rfl rfl ?_
            refine Ow_q rfl rfl rfl (Qt_pick_t rfl rfl) ?_
            refine Ow_q rfl rfl rfl (Qt_move rfl) ?_
            refine Ow_pass rfl rfl rfl rfl rfl rfl rfl ?_
            refine Ow_pass rfl rfl rfl rfl rfl rfl rfl ?_
            refine Ow_pass rfl rfl rfl rfl rfl rfl rfl ?_
            refine Ow_pass rfl rfl rfl rfl rfl rfl rfl ?_
            refine Ow_pass rfl rfl rfl rfl rfl rfl rfl ?_
            refine Ow_q rfl rfl rfl (Qt_pick_t rfl rfl) ?_
            refine Ow_nil ?_
            refine Shift.pull (.there (.there .here)) ?_
            refine Shift.pull (.there (.there .here)) ?_
            refine Shift.rem (.there (.there .here)) ?_
            refine Shift.rem (.there (.there .here)) ?_
            refine Shift.rem (.there (.there .here)) ?_
            refine Shift.rem (.there (.there .here)) ?_
            refine Shift.done ?_
            exact ⟨[(0, (sv vp0)), (9, (.pointer (some ((⟨b70, 0, none⟩ : Addr).add 0)))), (11, (.pointer (some ((⟨b102, 0, none⟩ : Addr).add 0)))), (79, (.bool true))], ⟨rfl, rfl, rfl, rfl, trivial⟩, true, rfl, rfl, rfl, H⟩
          · intro h126
            have h126 := nt_f (h126)
            have H := ift h126 H
            refine Ow_qw rfl rfl rfl rfl rfl rfl (Qt_fieldAddr (m := 0) rfl rfl rfl rfl rfl) ?_
            refine Ow_qw rfl rfl rfl rfl rfl rfl (Qt_load1 (v := (.bool x103.send)) rfl rfl rfl (Rdc.blk (.head _) rfl)) ?_
            refine Ow_q rfl rfl rfl (Qt_pick_f rfl rfl) ?_
            refine Ow_q rfl rfl rfl (Qt_move rfl) ?_
            refine Ow_caseG rfl rfl rfl ?_ ?_
            · intro h127
              have H := ift h127 H
              refine Ow_pass rfl rfl rfl rfl rfl rfl rfl ?_
              refine Ow_pass rfl rfl rfl rfl rfl rfl rfl ?_
              refine Ow_pass rfl rfl rfl rfl rfl rfl rfl ?_
              refine Ow_pass rfl rfl rfl rfl rfl rfl rfl ?_
              refine Ow_pass rfl rfl rfl rfl rfl rfl rfl ?_
              refine Ow_q rfl rfl rfl (Qt_pick_t rfl rfl) ?_
              refine Ow_q rfl rfl rfl (Qt_move rfl) ?_
              refine Ow_pass rfl rfl rfl rfl rfl rfl rfl ?_
              refine Ow_pass rfl rfl rfl rfl rfl rfl rfl ?_
              refine Ow_pass rfl rfl rfl rfl rfl rfl rfl ?_
              refine Ow_pass rfl rfl rfl rfl rfl rfl rfl ?_
              refine Ow_pass rfl rfl rfl rfl rfl rfl rfl ?_
              refine Ow_q rfl rfl rfl (Qt_pick_t rfl rfl) ?_
              refine Ow_nil ?_
              refine Shift.pull (.there (.there .here)) ?_
              refine Shift.pull (.there (.there .here)) ?_
              refine Shift.rem (.there (.there .here)) ?_
              refine Shift.rem (.there (.there .here)) ?_
              refine Shift.rem (.there (.there .here)) ?_
              refine Shift.rem (.there (.there .here)) ?_
              refine Shift.done ?_
              exact ⟨[(0, (sv vp0)), (9, (.pointer (some ((⟨b70, 0, none⟩ : Addr).add 0)))), (11, (.pointer (some ((⟨b102, 0, none⟩ : Addr).add 0)))), (79, (.bool true))], ⟨rfl, rfl, rfl, rfl, trivial⟩, true, rfl, rfl, rfl, H⟩
            · intro h127
              have H := iff_ (btf h127) H
              refine Ow_qw rfl rfl rfl rfl rfl rfl (Qt_fieldAddr (m := 1) rfl rfl rfl rfl rfl) ?_
              refine Ow_qw rfl rfl rfl rfl rfl rfl (Qt_load1 (v := (.int .i64 x99.channel)) rfl rfl rfl (Rdc.blk (.tail _ (.head _)) rfl)) ?_
              refine Ow_qw rfl rfl rfl rfl rfl rfl (Qt_fieldAddr (m := 1) rfl rfl rfl rfl rfl) ?_
              refine Ow_qw rfl rfl rfl rfl rfl rfl (Qt_load1 (v := (.int .i64 x103.channel)) rfl rfl rfl (Rdc.blk (.head _) rfl)) ?_
              refine Ow_qw rfl rfl rfl rfl rfl rfl (Qt_cmp rfl rfl rfl) ?_
              refine Ow_q rfl rfl rfl (Qt_pick_f rfl rfl) ?_
              refine Ow_q rfl rfl rfl (Qt_move rfl) ?_
              refine Ow_caseG rfl rfl rfl ?_ ?_
              · intro h128
                have h128 := dcd_f (nt_t (h128))
                have H := iff_ h128 H
                refine Ow_pass rfl rfl rfl rfl rfl rfl rfl ?_
                refine Ow_pass rfl rfl rfl rfl rfl rfl rfl ?_
                refine Ow_pass rfl rfl rfl rfl rfl rfl rfl ?_
                refine Ow_pass rfl rfl rfl rfl rfl rfl rfl ?_
                refine Ow_pass rfl rfl rfl rfl rfl rfl rfl ?_
                refine Ow_q rfl rfl rfl (Qt_pick_t rfl rfl) ?_
                refine Ow_nil ?_
                refine Shift.pull (.there (.there .here)) ?_
                refine Shift.pull (.there (.there .here)) ?_
                refine Shift.rem (.there (.there .here)) ?_
                refine Shift.rem (.there (.there .here)) ?_
                refine Shift.rem (.there (.there .here)) ?_
                refine Shift.rem (.there (.there .here)) ?_
                refine Shift.done ?_
                exact ⟨[(0, (sv vp0)), (9, (.pointer (some ((⟨b70, 0, none⟩ : Addr).add 0)))), (11, (.pointer (some ((⟨b102, 0, none⟩ : Addr).add 0)))), (79, (.bool true))], ⟨rfl, rfl, rfl, rfl, trivial⟩, true, rfl, rfl, rfl, H⟩
              · intro h128
                have h128 := dcd_t (nt_f (h128))
                have H := ift h128 H
                refine Ow_qw rfl rfl rfl rfl rfl rfl (Qt_move rfl) ?_
                refine Ow_qw rfl rfl rfl rfl rfl rfl (Qt_fieldAddr (m := 1) rfl rfl rfl rfl rfl) ?_
                refine Ow_qw rfl rfl rfl rfl rfl rfl (Qt_load1 (v := (.int .i64 x99.channel)) rfl rfl rfl (Rdc.blk (.tail _ (.head _)) rfl)) ?_
                obtain ⟨x129, hx130, H⟩ := bnd H
                refine Ow_want rfl rfl rfl rfl (OpW_call rfl Try.call80 rfl rfl (c_M_ref14_exists p0 vp0 x99.channel x129 hx130 _ _ hp0) ?_)
                rintro _ _ _ - ⟨rfl, rfl, rfl⟩
                refine Ow_qw rfl rfl rfl rfl rfl rfl (Qt_not rfl) ?_
                refine Ow_q rfl rfl rfl (Qt_pick_f rfl rfl) ?_
                refine Ow_nil ?_
                refine Shift.pull (.there (.there .here)) ?_
                refine Shift.pull (.there (.there .here)) ?_
                refine Shift.rem (.there (.there .here)) ?_
                refine Shift.rem (.there (.there .here)) ?_
                refine Shift.rem (.there (.there .here)) ?_
                refine Shift.rem (.there (.there .here)) ?_
                refine Shift.done ?_
                exact ⟨[(0, (sv vp0)), (9, (.pointer (some ((⟨b70, 0, none⟩ : Addr).add 0)))), (11, (.pointer (some ((⟨b102, 0, none⟩ : Addr).add 0)))), (79, (.bool (!(x129))))], ⟨rfl, rfl, rfl, rfl, trivial⟩, (!(x129)), rfl, rfl, rfl, H⟩
    rintro _ _ _ - ⟨t123, rfl, rfl, rfl, H⟩
    unfold M_ref14_half_J2 at H
    refine Cw_cond rfl ?_ ?_
    · intro h131
      have H := ift h131 H
      refine Cw_seq ?_
      refine Cw_region ?_
      refine Ow_q rfl rfl rfl (Qt_assign rfl) ?_
      refine Ow_nil ?_
      refine Cw_ret ?_
      obtain ey0 := inj1 H
      subst y0
      refine ⟨(by first | exact .inl rfl | exact .inr rfl), [(.bool false)], ⟨(.bool false), _, rfl, rfl, rfl⟩, ?_⟩
      refine Shift.rem .here ?_
      refine Shift.rem .here ?_
      refine Shift.done ?_
      exact ⟨rfl, rfl, rfl⟩
    · intro h131
      have H := iff_ (btf h131) H
      refine Cw_skip ?_
      refine Cw_seq ?_
      refine Cw_region ?_
      refine Ow_q rfl rfl rfl (Qt_move rfl) ?_
      refine Ow_q rfl rfl rfl (Qt_fieldAddr (m := 1) rfl rfl rfl rfl rfl) ?_
      refine Ow_q rfl rfl rfl (Qt_load1 (v := (.int .i64 x99.channel)) rfl rfl rfl (Rdc.blk (.head _) rfl)) ?_
      obtain ⟨x132, hx133, H⟩ := bnd H
      obtain ⟨r134, hr135, hk136⟩ := Slr.at hp0 hx133
      obtain ⟨v137, rfl, hs138⟩ := hr135
      refine Ow_q rfl rfl rfl (Q_ix (T := TyChan) hp0 hx133 rfl rfl rfl rfl rfl) ?_
      refine Ow_q rfl rfl rfl (Qt_loadA (m := 3) (cs := (Chan.cells x132 v137)) rfl rfl rfl rfl ⟨rfl, Rdc.k hk136 rfl⟩) ?_
      refine Ow_cons rfl (OpW_alloc (cs := (Chan.cells (Chan.mk 0 [] false) nilS)) rfl rfl rfl rfl (fun b139 => ?_))
      refine Ow_cons rfl (OpW_store (vs := (Chan.cells x132 v137)) (all' := (Chan.cells x132 v137)) rfl rfl rfl rfl rfl .here rfl rfl rfl ?_)
      refine Ow_nil ?_
      refine Cw_join (fun env' K' G' => ∃ (t142 : Bool), [(10, (.bool t142))] = env' ∧ K = K' ∧ G = G' ∧ M_ref14_half_J3 t142 = some y0) ?_ ?_
      · skip
        refine Cw_region ?_
        refine Ow_q rfl rfl rfl (Qt_fieldAddr (m := 0) rfl rfl rfl rfl rfl) ?_
        refine Ow_q rfl rfl rfl (Qt_load1 (v := (.int .i64 x132.capacity)) rfl rfl rfl (Rdc.blk (.head _) rfl)) ?_
        refine Ow_q rfl rfl rfl (Qt_cmp rfl rfl rfl) ?_
        refine Ow_q rfl rfl rfl (Qt_move rfl) ?_
        refine Ow_caseG rfl rfl rfl ?_ ?_
        · intro h143
          have h143 := dcd_t (h143)
          have H := ift h143 H
          refine Ow_qw rfl rfl rfl rfl rfl rfl (Qt_fieldAddr (m := 2) rfl rfl rfl rfl rfl) ?_
          refine Ow_qw rfl rfl rfl rfl rfl rfl (Qt_load1 (v := (.bool x132.closed)) rfl rfl rfl (Rdc.blk (.head _) rfl)) ?_
          refine Ow_qw rfl rfl rfl rfl rfl rfl (Qt_not rfl) ?_
          refine Ow_q rfl rfl rfl (Qt_pick_t rfl rfl) ?_
          refine Ow_q rfl rfl rfl (Qt_move rfl) ?_
          refine Ow_caseG rfl rfl rfl ?_ ?_
          · intro h144
            have h144 := nt_t (h144)
            have H := iff_ (btf h144) H
            refine Ow_qw rfl rfl rfl rfl rfl rfl (Qt_fieldAddr (m := 2) rfl rfl rfl rfl rfl) ?_
            refine Ow_qw rfl rfl rfl rfl rfl rfl (Qt_load1 (v := (.int .u64 p4.value)) rfl rfl rfl (Rdc.blk (.tail _ (.tail _ (.head _))) rfl)) ?_
            refine Ow_qw rfl rfl rfl rfl rfl rfl (Qt_fieldAddr (m := 2) rfl rfl rfl rfl rfl) ?_
            refine Ow_qw rfl rfl rfl rfl rfl rfl (Qt_load1 (v := (.int .u64 x99.value)) rfl rfl rfl (Rdc.blk (.tail _ (.head _)) rfl)) ?_
            refine Ow_qw rfl rfl rfl rfl rfl rfl (Qt_cmp rfl rfl rfl) ?_
            refine Ow_q rfl rfl rfl (Qt_pick_t rfl rfl) ?_
            refine Ow_q rfl rfl rfl (Qt_assign rfl) ?_
            refine Ow_nil ?_
            refine Shift.rem .here ?_
            refine Shift.rem .here ?_
            refine Shift.rem .here ?_
            refine Shift.done ?_
            exact ⟨[(10, (.bool (dcd (p4.value = x99.value))))], ⟨rfl, trivial⟩, (dcd (p4.value = x99.value)), rfl, rfl, rfl, H⟩
          · intro h144
            have h144 := nt_f (h144)
            have H := ift h144 H
            refine Ow_pass rfl rfl rfl rfl rfl rfl rfl ?_
            refine Ow_pass rfl rfl rfl rfl rfl rfl rfl ?_
            refine Ow_pass rfl rfl rfl rfl rfl rfl rfl ?_
            refine Ow_pass rfl rfl rfl rfl rfl rfl rfl ?_
            refine Ow_pass rfl rfl rfl rfl rfl rfl rfl ?_
            refine Ow_q rfl rfl rfl (Qt_pick_f rfl rfl) ?_
            refine Ow_q rfl rfl rfl (Qt_assign rfl) ?_
            refine Ow_nil ?_
            refine Shift.rem .here ?_
            refine Shift.rem .here ?_
            refine Shift.rem .here ?_
            refine Shift.done ?_
            exact ⟨[(10, (.bool false))], ⟨rfl, trivial⟩, false, rfl, rfl, rfl, H⟩
        · intro h143
          have h143 := dcd_f (h143)
          have H := iff_ h143 H
          refine Ow_pass rfl rfl rfl rfl rfl rfl rfl ?_
          refine Ow_pass rfl rfl rfl rfl rfl rfl rfl ?_
          refine Ow_pass rfl rfl rfl rfl rfl rfl rfl ?_
          refine Ow_q rfl rfl rfl (Qt_pick_f rfl rfl) ?_
          refine Ow_q rfl rfl rfl (Qt_move rfl) ?_
          refine Ow_pass rfl rfl rfl rfl rfl rfl rfl ?_
          refine Ow_pass rfl rfl rfl rfl rfl rfl rfl ?_
          refine Ow_pass rfl rfl rfl rfl rfl rfl rfl ?_
          refine Ow_pass rfl rfl rfl rfl rfl rfl rfl ?_
          refine Ow_pass rfl rfl rfl rfl rfl rfl rfl ?_
          refine Ow_q rfl rfl rfl (Qt_pick_f rfl rfl) ?_
          refine Ow_q rfl rfl rfl (Qt_assign rfl) ?_
          refine Ow_nil ?_
          refine Shift.rem .here ?_
          refine Shift.rem .here ?_
          refine Shift.rem .here ?_
          refine Shift.done ?_
          exact ⟨[(10, (.bool false))], ⟨rfl, trivial⟩, false, rfl, rfl, rfl, H⟩
      rintro _ _ _ - ⟨t142, rfl, rfl, rfl, H⟩
      unfold M_ref14_half_J3 at H
      refine Cw_ret ?_
      obtain ey0 := inj1 H
      subst y0
      refine ⟨(by first | exact .inl rfl | exact .inr rfl), [(.bool t142)], ⟨(.bool t142), _, rfl, rfl, rfl⟩, ?_⟩
      refine Shift.done ?_
      exact ⟨rfl, rfl, rfl⟩

set_option maxHeartbeats 1000000 in
theorem c_M_ref14_Pair (p0 : List Chan) (vp0 : SV) (p1 : Op) (vp1_cases : SV) (vp1_draws : SV) (p2 : Result) (p3 : Op) (vp3_cases : SV) (vp3_draws : SV) (p4 : Result) (y0 : Bool) (H : M_ref14_Pair p0 p1 p2 p3 p4 = some y0) (K : Kp) (G : List Ent) (hp0 : Slr TyChan K (sv vp0) p0) (hp1_cases : Slr TyCase K (sv vp1_cases) p1.cases) (hp1_draws : Slr Ty.i64 K (sv vp1_draws) p1.draws) (hp3_cases : Slr TyCase K (sv vp3_cases) p3.cases) (hp3_draws : Slr Ty.i64 K (sv vp3_draws) p3.draws) :
    Fc Try.prog 24 #[(sv vp0), (.agg (Op.cells p1 vp1_cases vp1_draws).toArray), (.agg (Result.cells p2).toArray), (.agg (Op.cells p3 vp3_cases vp3_draws).toArray), (.agg (Result.cells p4).toArray)] K (G) (fun v K' G' => v = (.bool y0) ∧ K = K' ∧ G = G') := by
  refine Fc_body Try.func24 rfl Try.ntmps24 Try.results24 rfl ?_
  unfold M_ref14_Pair at H
  refine Cw_seq ?_
  refine Cw_region ?_
  refine Ow_cons rfl (OpW_box (cs := (Op.cells p1 vp1_cases vp1_draws)) rfl rfl rfl (fun b10 => ?_))
  refine Ow_cons rfl (OpW_box (cs := (Result.cells p2)) rfl rfl rfl (fun b11 => ?_))
  refine Ow_cons rfl (OpW_box (cs := (Op.cells p3 vp3_cases vp3_draws)) rfl rfl rfl (fun b12 => ?_))
  refine Ow_cons rfl (OpW_box (cs := (Result.cells p4)) rfl rfl rfl (fun b13 => ?_))
  refine Ow_q rfl rfl rfl (Qt_assign rfl) ?_
  refine Ow_nil ?_
  refine Cw_seq ?_
  refine Cw_region ?_
  refine Ow_q rfl rfl rfl (Qt_move rfl) ?_
  refine Ow_q rfl rfl rfl (Qt_loadA (m := 7) (cs := (Op.cells p1 vp1_cases vp1_draws)) rfl rfl rfl rfl ⟨rfl, Rdc.blk (.tail _ (.tail _ (.tail _ (.head _)))) rfl⟩) ?_
  refine Ow_q rfl rfl rfl (Qt_loadA (m := 5) (cs := (Result.cells p2)) rfl rfl rfl rfl ⟨rfl, Rdc.blk (.tail _ (.tail _ (.head _))) rfl⟩) ?_
  refine Ow_q rfl rfl rfl (Qt_loadA (m := 7) (cs := (Op.cells p3 vp3_cases vp3_draws)) rfl rfl rfl rfl ⟨rfl, Rdc.blk (.tail _ (.head _)) rfl⟩) ?_
  refine Ow_q rfl rfl rfl (Qt_loadA (m := 5) (cs := (Result.cells p4)) rfl rfl rfl rfl ⟨rfl, Rdc.blk (.head _) rfl⟩) ?_
  obtain ⟨x19, hx20, H⟩ := bnd H
  refine Ow_cons rfl (OpW_call rfl Try.call65 rfl rfl (c_M_ref14_half p0 vp0 p1 vp1_cases vp1_draws p2 p3 vp3_cases vp3_draws p4 x19 hx20 _ _ hp0 hp1_cases hp1_draws hp3_cases hp3_draws) ?_)
  rintro _ _ _ - ⟨rfl, rfl, rfl⟩
  refine Ow_q rfl rfl rfl (Qt_move rfl) ?_
  refine Ow_caseG rfl rfl rfl ?_ ?_
  · intro h21
    have H := ift h21 H
    refine Ow_pass rfl rfl rfl rfl rfl rfl rfl ?_
    refine Ow_pass rfl rfl rfl rfl rfl rfl rfl ?_
    refine Ow_pass rfl rfl rfl rfl rfl rfl rfl ?_
    refine Ow_pass rfl rfl rfl rfl rfl rfl rfl ?_
    refine Ow_pass rfl rfl rfl rfl rfl rfl rfl ?_
    refine Ow_pass rfl rfl rfl rfl rfl rfl rfl ?_
    refine Ow_q rfl rfl rfl (Qt_pick_t rfl rfl) ?_
    refine Ow_q rfl rfl rfl (Qt_assign rfl) ?_
    refine Ow_nil ?_
    refine Cw_ret ?_
    obtain ey0 := inj1 H
    subst y0
    refine ⟨(by first | exact .inl rfl | exact .inr rfl), [(.bool true)], ⟨(.bool true), _, rfl, rfl, rfl⟩, ?_⟩
    refine Shift.rem .here ?_
    refine Shift.rem .here ?_
    refine Shift.rem .here ?_
    refine Shift.rem .here ?_
    refine Shift.done ?_
    exact ⟨rfl, rfl, rfl⟩
  · intro h21
    have H := iff_ (btf h21) H
    refine Ow_qw rfl rfl rfl rfl rfl rfl (Qt_move rfl) ?_
    refine Ow_qw rfl rfl rfl rfl rfl rfl (Qt_loadA (m := 7) (cs := (Op.cells p3 vp3_cases vp3_draws)) rfl rfl rfl rfl ⟨rfl, Rdc.blk (.tail _ (.head _)) rfl⟩) ?_
    refine Ow_qw rfl rfl rfl rfl rfl rfl (Qt_loadA (m := 5) (cs := (Result.cells p4)) rfl rfl rfl rfl ⟨rfl, Rdc.blk (.head _) rfl⟩) ?_
    refine Ow_qw rfl rfl rfl rfl rfl rfl (Qt_loadA (m := 7) (cs := (Op.cells p1 vp1_cases vp1_draws)) rfl rfl rfl rfl ⟨rfl, Rdc.blk (.tail _ (.tail _ (.tail _ (.head _)))) rfl⟩) ?_
    refine Ow_qw rfl rfl rfl rfl rfl rfl (Qt_loadA (m := 5) (cs := (Result.cells p2)) rfl rfl rfl rfl ⟨rfl, Rdc.blk (.tail _ (.tail _ (.head _))) rfl⟩) ?_
    obtain ⟨x22, hx23, H⟩ := bnd H
    refine Ow_want rfl rfl rfl rfl (OpW_call rfl Try.call65 rfl rfl (c_M_ref14_half p0 vp0 p3 vp3_cases vp3_draws p4 p1 vp1_cases vp1_draws p2 x22 hx23 _ _ hp0 hp3_cases hp3_draws hp1_cases hp1_draws) ?_)
    rintro _ _ _ - ⟨rfl, rfl, rfl⟩
    refine Ow_q rfl rfl rfl (Qt_pick_f rfl rfl) ?_
    refine Ow_q rfl rfl rfl (Qt_assign rfl) ?_
    refine Ow_nil ?_
    refine Cw_ret ?_
    obtain ey0 := inj1 H
    subst y0
    refine ⟨(by first | exact .inl rfl | exact .inr rfl), [(.bool x22)], ⟨(.bool x22), _, rfl, rfl, rfl⟩, ?_⟩
    refine Shift.rem .here ?_
    refine Shift.rem .here ?_
    refine Shift.rem .here ?_
    refine Shift.rem .here ?_
    refine Shift.done ?_
    exact ⟨rfl, rfl, rfl⟩

set_option maxHeartbeats 1000000 in
theorem c_M_ref14_Meeting (p0 : List Chan) (vp0 : SV) (p1 : Op) (vp1_cases : SV) (vp1_draws : SV) (p2 : Op) (vp2_cases : SV) (vp2_draws : SV) (y0 : List A2Result) (H : M_ref14_Meeting p0 p1 p2 = some y0) (K : Kp) (G : List Ent) (hp0 : Slr TyChan K (sv vp0) p0) (hp1_cases : Slr TyCase K (sv vp1_cases) p1.cases) (hp1_draws : Slr Ty.i64 K (sv vp1_draws) p1.draws) (hp2_cases : Slr TyCase K (sv vp2_cases) p2.cases) (hp2_draws : Slr Ty.i64 K (sv vp2_draws) p2.draws) :
    Fc Try.prog 22 #[(sv vp0), (.agg (Op.cells p1 vp1_cases vp1_draws).toArray), (.agg (Op.cells p2 vp2_cases vp2_draws).toArray)] K (G) (fun v K' G' => ∃ (wy0 : SV), v = (sv wy0) ∧ (.tok 48 10 [(sv wy0)]) :: G = G' ∧ Slr TyA2Result K' (sv wy0) y0) := by
  refine Fc_body Try.func22 rfl Try.ntmps22 Try.results22 rfl ?_
  unfold M_ref14_Meeting at H
  refine Cw_seq ?_
  refine Cw_region ?_
  refine Ow_cons rfl (OpW_box (cs := (Op.cells p1 vp1_cases vp1_draws)) rfl rfl rfl (fun b395 => ?_))
  refine Ow_cons rfl (OpW_box (cs := (Op.cells p2 vp2_cases vp2_draws)) rfl rfl rfl (fun b396 => ?_))
  refine Ow_q rfl rfl rfl (Qt_assign rfl) ?_
  refine Ow_nil ?_
  refine Cw_seq ?_
  refine Cw_region ?_
  refine Ow_q rfl rfl rfl (Qt_assign rfl) ?_
  refine Ow_nil ?_
  refine Cw_seq ?_
  obtain ⟨x421, hx422, H⟩ := bnd H
  obtain ⟨x427, hx428, H⟩ := bnd H
  refine Cw_region_any [.blk b396 38 (Op.cells p2 vp2_cases vp2_draws), .blk b395 38 (Op.cells p1 vp1_cases vp1_draws)] rfl (Inc.cons (.head _) (Inc.cons (.tail _ (.head _)) Inc.nil)) ?_
  refine Aw_q 0 rfl (by kernel_rfl) (by kernel_rfl) (by kernel_rfl) rfl rfl rfl (Qt_loadA (m := 7) (cs := (Op.cells p1 vp1_cases vp1_draws)) rfl rfl rfl rfl ⟨rfl, Rdc.blk (.tail _ (.head _)) rfl⟩) ?_
  refine Aw_q 2 rfl (by kernel_rfl) (by kernel_rfl) (by kernel_rfl) rfl rfl rfl (Qt_loadA (m := 7) (cs := (Op.cells p2 vp2_cases vp2_draws)) rfl rfl rfl rfl ⟨rfl, Rdc.blk (.head _) rfl⟩) ?_
  refine Aw_one 1 (by kernel_rfl) (Ax_mk rfl rfl ?_)
  refine OpW_call rfl Try.call63 rfl rfl (c_M_ref3_Cases p1 vp1_cases vp1_draws x421 hx422 _ _ hp1_cases hp1_draws) ?_
  rintro _ K436 _ hK437 ⟨v435, rfl, rfl, hs438⟩
  refine ⟨(Inc.cons (.head _) (Inc.cons (.tail _ (.head _)) Inc.nil)), ?_⟩
  refine Aw_one 3 (by kernel_rfl) (Ax_mk rfl rfl ?_)
  have hs439 := (hp2_cases).mono hK437
  have hs440 := (hp2_draws).mono hK437
  refine OpW_call rfl Try.call63 rfl rfl (c_M_ref3_Cases p2 vp2_cases vp2_draws x427 hx428 _ _ hs439 hs440) ?_
  rintro _ K442 _ hK443 ⟨v441, rfl, rfl, hs444⟩
  refine ⟨(Inc.cons (.head _) (Inc.cons (.tail _ (.head _)) Inc.nil)), ?_⟩
  refine Aw_q 4 rfl (by kernel_rfl) (by kernel_rfl) (by kernel_rfl) rfl rfl rfl (Qt_assign rfl) ?_
  refine Aw_q 5 rfl (by kernel_rfl) (by kernel_rfl) (by kernel_rfl) rfl rfl rfl (Qt_assign rfl) ?_
  refine Aw_done (by kernel_rfl) ?_
  refine Cw_join (fun env' K' G' => ∃ (v732 : SV) (l733 : List A2Result), [(7, (sv v732))] = env' ∧ (.tok 48 10 [(sv v732)]) :: G = G' ∧ M_ref14_Meeting_J1 l733 = some y0 ∧ Slr TyA2Result K' (sv v732) l733) ?_ ?_
  · skip
    refine Cw_seq ?_
    refine Cw_region ?_
    refine Ow_q rfl rfl rfl (Qt_assign rfl) ?_
    refine Ow_nil ?_
    refine Cw_block ?_
    refine Cw_loopM (fun n1022 env' K' G' => ∃ (v1018 : SV) (l1019 : List A2Result) (i1021 : Int), [(0, (sv vp0)), (4, (.pointer (some ((⟨b395, 0, none⟩ : Addr).add 0)))), (5, (.pointer (some ((⟨b396, 0, none⟩ : Addr).add 0)))), (7, (sv v1018)), (8, (sv v435)), (9, (sv v441)), (10, (.int .i64 i1021))] = env' ∧ (.blk b396 38 (Op.cells p2 vp2_cases vp2_draws)) :: (.blk b395 38 (Op.cells p1 vp1_cases vp1_draws)) :: (.tok 48 10 [(sv v1018)]) :: G = G' ∧ lp2 (M_ref14_Meeting_L1 p0 x421 x427 p2 p1) n1022 l1019 i1021 = some y0 ∧ Slr TyA2Result K' (sv v1018) l1019) BIG ?_ ?_
    · skip
      refine Shift.nilTok1 48 10 ?_
      refine Shift.pull (.there (.there .here)) ?_
      refine Shift.pull (.there (.there .here)) ?_
      refine Shift.done ?_
      exact ⟨[(0, (sv vp0)), (4, (.pointer (some ((⟨b395, 0, none⟩ : Addr).add 0)))), (5, (.pointer (some ((⟨b396, 0, none⟩ : Addr).add 0)))), (7, (sv nilS)), (8, (sv v435)), (9, (sv v441)), (10, (.int .i64 0))], ⟨rfl, rfl, rfl, rfl, rfl, rfl, rfl, trivial⟩, nilS, ([] : List A2Result), 0, rfl, rfl, H, (Slr.nil TyA2Result _)⟩
    rintro n1022 _ K1023 _ hK1024 ⟨v1018, l1019, i1021, rfl, rfl, H, hs1020⟩
    obtain ⟨m1025, k1026, rfl, hkk1027, H⟩ := lps2 H
    unfold M_ref14_Meeting_L1 at H
    refine Cw_seq ?_
    refine Cw_seq ?_
    refine Cw_region ?_
    refine Ow_q rfl rfl rfl (Qt_move rfl) ?_
    refine Ow_q rfl rfl rfl (Qt_move rfl) ?_
    have hs1030 := ((hs438).mono hK443).mono hK1024
    refine Ow_q rfl rfl rfl (Q_len (T := TyCase) hs1030 rfl rfl) ?_
    refine Ow_q rfl rfl rfl (Qt_cmp rfl rfl rfl) ?_
    refine Ow_nil ?_
    refine Cw_cond rfl ?_ ?_
    · intro h1031
      have h1031 := dcd_t (h1031)
      have H := ift h1031 H
      refine Cw_skip ?_
      refine Cw_join (fun env' K' G' => ∃ (v1163 : SV) (l1164 : List A2Result), [(0, (sv vp0)), (4, (.pointer (some ((⟨b395, 0, none⟩ : Addr).add 0)))), (5, (.pointer (some ((⟨b396, 0, none⟩ : Addr).add 0)))), (7, (sv v1163)), (8, (sv v435)), (9, (sv v441)), (10, (.int .i64 i1021))] = env' ∧ (.blk b396 38 (Op.cells p2 vp2_cases vp2_draws)) :: (.blk b395 38 (Op.cells p1 vp1_cases vp1_draws)) :: (.tok 48 10 [(sv v1163)]) :: G = G' ∧ M_ref14_Meeting_J2 p0 x421 x427 i1021 p2 p1 k1026 l1164 = some y0 ∧ Slr TyA2Result K' (sv v1163) l1164) ?_ ?_
      · skip
        refine Cw_block ?_
        refine Cw_seq ?_
        refine Cw_region ?_
        refine Ow_q rfl rfl rfl (Qt_assign rfl) ?_
        refine Ow_nil ?_
        refine Cw_block ?_
        refine Cw_loopM (fun n1297 env' K' G' => ∃ (v1293 : SV) (l1294 : List A2Result) (i1296 : Int), [(0, (sv vp0)), (4, (.pointer (some ((⟨b395, 0, none⟩ : Addr).add 0)))), (5, (.pointer (some ((⟨b396, 0, none⟩ : Addr).add 0)))), (7, (sv v1293)), (8, (sv v435)), (9, (sv v441)), (10, (.int .i64 i1021)), (11, (.int .i64 i1296))] = env' ∧ (.blk b396 38 (Op.cells p2 vp2_cases vp2_draws)) :: (.blk b395 38 (Op.cells p1 vp1_cases vp1_draws)) :: (.tok 48 10 [(sv v1293)]) :: G = G' ∧ lp2 (M_ref14_Meeting_L2 p0 x421 x427 i1021 p2 p1 k1026) n1297 l1294 i1296 = some y0 ∧ Slr TyA2Result K' (sv v1293) l1294) BIG ?_ ?_
        · skip
          refine Shift.pull (.there (.there .here)) ?_
          refine Shift.pull (.there (.there .here)) ?_
          refine Shift.pull (.there (.there .here)) ?_
          refine Shift.done ?_
          exact ⟨[(0, (sv vp0)), (4, (.pointer (some ((⟨b395, 0, none⟩ : Addr).add 0)))), (5, (.pointer (some ((⟨b396, 0, none⟩ : Addr).add 0)))), (7, (sv v1018)), (8, (sv v435)), (9, (sv v441)), (10, (.int .i64 i1021)), (11, (.int .i64 0))], ⟨rfl, rfl, rfl, rfl, rfl, rfl, rfl, rfl, trivial⟩, v1018, l1019, 0, rfl, rfl, H, hs1020⟩
        rintro n1297 _ K1298 _ hK1299 ⟨v1293, l1294, i1296, rfl, rfl, H, hs1295⟩
        obtain ⟨m1300, k1301, rfl, hkk1302, H⟩ := lps2 H
        unfold M_ref14_Meeting_L2 at H
        refine Cw_seq ?_
        refine Cw_seq ?_
        refine Cw_region ?_
        refine Ow_q rfl rfl rfl (Qt_move rfl) ?_
        refine Ow_q rfl rfl rfl (Qt_move rfl) ?_
        have hs1305 := ((hs444).mono hK1024).mono hK1299
        refine Ow_q rfl rfl rfl (Q_len (T := TyCase) hs1305 rfl rfl) ?_
        refine Ow_q rfl rfl rfl (Qt_cmp rfl rfl rfl) ?_
        refine Ow_nil ?_
        refine Cw_cond rfl ?_ ?_
        · intro h1306
          have h1306 := dcd_t (h1306)
          have H := ift h1306 H
          refine Cw_skip ?_
          refine Cw_seq ?_
          refine Cw_block ?_
          refine Cw_seq ?_
          refine Cw_region ?_
          refine Ow_q rfl rfl rfl (Qt_assign rfl) ?_
          refine Ow_q rfl rfl rfl (Qt_assign rfl) ?_
          refine Ow_nil ?_
          refine Cw_join (fun env' K' G' => ∃ (i1365 : Int), [(0, (sv vp0)), (4, (.pointer (some ((⟨b395, 0, none⟩ : Addr).add 0)))), (5, (.pointer (some ((⟨b396, 0, none⟩ : Addr).add 0)))), (7, (sv v1293)), (8, (sv v435)), (9, (sv v441)), (10, (.int .i64 i1021)), (11, (.int .i64 i1296)), (12, (.int .i64 i1365)), (13, (.int .i64 (-1)))] = env' ∧ K1298 = K' ∧ (.blk b396 38 (Op.cells p2 vp2_cases vp2_draws)) :: (.blk b395 38 (Op.cells p1 vp1_cases vp1_draws)) :: (.tok 48 10 [(sv v1293)]) :: G = G' ∧ M_ref14_Meeting_J3 p0 l1294 x421 x427 i1021 i1296 p2 p1 k1026 k1301 i1365 = some y0) ?_ ?_
          · skip
            refine Cw_seq ?_
            refine Cw_region ?_
            refine Ow_q rfl rfl rfl (Qt_fieldAddr (m := 0) rfl rfl rfl rfl rfl) ?_
            refine Ow_q rfl rfl rfl (Qt_load1 (v := (.int .i64 p1.kind)) rfl rfl rfl (Rdc.blk (.tail _ (.head _)) rfl)) ?_
            refine Ow_q rfl rfl rfl (Qt_cmp rfl rfl rfl) ?_
            refine Ow_nil ?_
            refine Cw_cond rfl ?_ ?_
            · intro h1366
              have h1366 := dcd_t (h1366)
              have H := ift h1366 H
              refine Cw_region ?_
              refine Ow_q rfl rfl rfl (Qt_move rfl) ?_
              refine Ow_q rfl rfl rfl (Qt_assign rfl) ?_
              refine Ow_nil ?_
              refine Shift.pull (.there (.there .here)) ?_
              refine Shift.pull (.there (.there .here)) ?_
              refine Shift.pull (.there (.there .here)) ?_
              refine Shift.done ?_
              exact ⟨[(0, (sv vp0)), (4, (.pointer (some ((⟨b395, 0, none⟩ : Addr).add 0)))), (5, (.pointer (some ((⟨b396, 0, none⟩ : Addr).add 0)))), (7, (sv v1293)), (8, (sv v435)), (9, (sv v441)), (10, (.int .i64 i1021)), (11, (.int .i64 i1296)), (12, (.int .i64 i1021)), (13, (.int .i64 (-1)))], ⟨rfl, rfl, rfl, rfl, rfl, rfl, rfl, rfl, rfl, rfl, trivial⟩, i1021, rfl, rfl, rfl, H⟩
            · intro h1366
              have h1366 := dcd_f (h1366)
              have H := iff_ h1366 H
              refine Cw_skip ?_
              refine Shift.pull (.there (.there .here)) ?_
              refine Shift.pull (.there (.there .here)) ?_
              refine Shift.pull (.there (.there .here)) ?_
              refine Shift.done ?_
              exact ⟨[(0, (sv vp0)), (4, (.pointer (some ((⟨b395, 0, none⟩ : Addr).add 0)))), (5, (.pointer (some ((⟨b396, 0, none⟩ : Addr).add 0)))), (7, (sv v1293)), (8, (sv v435)), (9, (sv v441)), (10, (.int .i64 i1021)), (11, (.int .i64 i1296)), (12, (.int .i64 (-1))), (13, (.int .i64 (-1)))], ⟨rfl, rfl, rfl, rfl, rfl, rfl, rfl, rfl, rfl, rfl, trivial⟩, (-1), rfl, rfl, rfl, H⟩
          rintro _ _ _ - ⟨i1365, rfl, rfl, rfl, H⟩
          unfold M_ref14_Meeting_J3 at H
          refine Cw_join (fun env' K' G' => ∃ (i1368 : Int), [(0, (sv vp0)), (4, (.pointer (some ((⟨b395, 0, none⟩ : Addr).add 0)))), (5, (.pointer (some ((⟨b396, 0, none⟩ : Addr).add 0)))), (7, (sv v1293)), (8, (sv v435)), (9, (sv v441)), (10, (.int .i64 i1021)), (11, (.int .i64 i1296)), (12, (.int .i64 i1365)), (13, (.int .i64 i1368))] = env' ∧ K1298 = K' ∧ (.blk b396 38 (Op.cells p2 vp2_cases vp2_draws)) :: (.blk b395 38 (Op.cells p1 vp1_cases vp1_draws)) :: (.tok 48 10 [(sv v1293)]) :: G = G' ∧ M_ref14_Meeting_J4 p0 l1294 x421 x427 i1021 i1296 i1365 p2 p1 k1026 k1301 i1368 = some y0) ?_ ?_
          · skip
            refine Cw_seq ?_
            refine Cw_region ?_
            refine Ow_q rfl rfl rfl (Qt_fieldAddr (m := 0) rfl rfl rfl rfl rfl) ?_
            refine Ow_q rfl rfl rfl (Qt_load1 (v := (.int .i64 p2.kind)) rfl rfl rfl (Rdc.blk (.head _) rfl)) ?_
            refine Ow_q rfl rfl rfl (Qt_cmp rfl rfl rfl) ?_
            refine Ow_nil ?_
            refine Cw_cond rfl ?_ ?_
            · intro h1369
              have h1369 := dcd_t (h1369)
              have H := ift h1369 H
              refine Cw_region ?_
              refine Ow_q rfl rfl rfl (Qt_move rfl) ?_
              refine Ow_q rfl rfl rfl (Qt_assign rfl) ?_
              refine Ow_nil ?_
              refine Shift.pull (.there (.there .here)) ?_
              refine Shift.pull (.there (.there .here)) ?_
              refine Shift.pull (.there (.there .here)) ?_
              refine Shift.done ?_
              exact ⟨[(0, (sv vp0)), (4, (.pointer (some ((⟨b395, 0, none⟩ : Addr).add 0)))), (5, (.pointer (some ((⟨b396, 0, none⟩ : Addr).add 0)))), (7, (sv v1293)), (8, (sv v435)), (9, (sv v441)), (10, (.int .i64 i1021)), (11, (.int .i64 i1296)), (12, (.int .i64 i1365)), (13, (.int .i64 i1296))], ⟨rfl, rfl, rfl, rfl, rfl, rfl, rfl, rfl, rfl, rfl, trivial⟩, i1296, rfl, rfl, rfl, H⟩
            · intro h1369
              have h1369 := dcd_f (h1369)
              have H := iff_ h1369 H
              refine Cw_skip ?_
              refine Shift.pull (.there (.there .here)) ?_
              refine Shift.pull (.there (.there .here)) ?_
              refine Shift.pull (.there (.there .here)) ?_
              refine Shift.done ?_
              exact ⟨[(0, (sv vp0)), (4, (.pointer (some ((⟨b395, 0, none⟩ : Addr).add 0)))), (5, (.pointer (some ((⟨b396, 0, none⟩ : Addr).add 0)))), (7, (sv v1293)), (8, (sv v435)), (9, (sv v441)), (10, (.int .i64 i1021)), (11, (.int .i64 i1296)), (12, (.int .i64 i1365)), (13, (.int .i64 (-1)))], ⟨rfl, rfl, rfl, rfl, rfl, rfl, rfl, rfl, rfl, rfl, trivial⟩, (-1), rfl, rfl, rfl, H⟩
          rintro _ _ _ - ⟨i1368, rfl, rfl, rfl, H⟩
          unfold M_ref14_Meeting_J4 at H
          refine Cw_join (fun env' K' G' => ∃ (b1386 : Nat) (b1387 : Nat) (i1388 : Int), [(0, (sv vp0)), (4, (.pointer (some ((⟨b395, 0, none⟩ : Addr).add 0)))), (5, (.pointer (some ((⟨b396, 0, none⟩ : Addr).add 0)))), (7, (sv v1293)), (8, (sv v435)), (9, (sv v441)), (10, (.int .i64 i1021)), (11, (.int .i64 i1296)), (12, (.int .i64 i1365)), (13, (.int .i64 i1368)), (14, (.pointer (some ((⟨b1386, 0, none⟩ : Addr).add 0)))), (15, (.pointer (some ((⟨b1387, 0, none⟩ : Addr).add 0))))] = env' ∧ K1298 = K' ∧ (.blk b1387 25 (Result.cells (Result.mk 2 i1368 i1388 true 0))) :: (.blk b1386 25 (Result.cells (Result.mk 1 i1365 0 false 0))) :: (.blk b396 38 (Op.cells p2 vp2_cases vp2_draws)) :: (.blk b395 38 (Op.cells p1 vp1_cases vp1_draws)) :: (.tok 48 10 [(sv v1293)]) :: G = G' ∧ M_ref14_Meeting_J5 p0 l1294 x421 x427 i1021 i1296 i1365 i1368 p2 p1 k1026 k1301 i1388 = some y0) ?_ ?_
          · skip
            obtain ⟨x1389, hx1390, H⟩ := bnd H
            refine Cw_region_any [.blk b396 38 (Op.cells p2 vp2_cases vp2_draws), .blk b395 38 (Op.cells p1 vp1_cases vp1_draws), .tok 48 10 [(sv v1293)]] rfl (Inc.cons (.head _) (Inc.cons (.tail _ (.head _)) (Inc.cons (.tail _ (.tail _ (.head _))) Inc.nil))) ?_
            refine Aw_q 0 rfl (by kernel_rfl) (by kernel_rfl) (by kernel_rfl) rfl rfl rfl (Qt_move rfl) ?_
            refine Aw_q 1 rfl (by kernel_rfl) (by kernel_rfl) (by kernel_rfl) rfl rfl rfl (Qt_build (cs := (Result.cells (Result.mk 1 i1365 0 false 0))) rfl rfl rfl rfl rfl rfl) ?_
            refine Aw_q 2 rfl (by kernel_rfl) (by kernel_rfl) (by kernel_rfl) rfl rfl rfl (Qt_move rfl) ?_
            refine Aw_q 3 rfl (by kernel_rfl) (by kernel_rfl) (by kernel_rfl) rfl rfl rfl (Qt_move rfl) ?_
            refine Aw_q 4 rfl (by kernel_rfl) (by kernel_rfl) (by kernel_rfl) rfl rfl rfl (Qt_move rfl) ?_
            have hs1397 := (hs1030).mono hK1299
            obtain ⟨r1398, hr1399, hk1400⟩ := Slr.at hs1397 hx1390
            obtain rfl := hr1399
            refine Aw_q 5 rfl (by kernel_rfl) (by kernel_rfl) (by kernel_rfl) rfl rfl rfl (Q_ix (T := TyCase) hs1397 hx1390 rfl rfl rfl rfl rfl) ?_
            refine Aw_q 6 rfl (by kernel_rfl) (by kernel_rfl) (by kernel_rfl) rfl rfl rfl (Qt_fieldAddr (m := 2) rfl rfl rfl rfl rfl) ?_
            refine Aw_q 7 rfl (by kernel_rfl) (by kernel_rfl) (by kernel_rfl) rfl rfl rfl (Qt_load1 (v := (.int .u64 x1389.value)) rfl rfl rfl (Rdc.k hk1400 rfl)) ?_
            refine Aw_q 8 rfl (by kernel_rfl) (by kernel_rfl) (by kernel_rfl) rfl rfl rfl (Qt_build (cs := (Result.cells (Result.mk 2 i1368 x1389.value true 0))) rfl rfl rfl rfl rfl rfl) ?_
            refine Aw_two 9 10 (by kernel_rfl) ?_ ?_
            · skip
              refine id (Ax_mk rfl rfl ?_)
              refine OpW_alloc (cs := (Result.cells (Result.mk 0 0 0 false 0))) rfl rfl rfl rfl (fun b1401 => ⟨(Inc.cons (.tail _ (.head _)) (Inc.cons (.tail _ (.tail _ (.head _))) (Inc.cons (.tail _ (.tail _ (.tail _ (.head _)))) Inc.nil))), ?_⟩)
              refine Aw_one 10 (by kernel_rfl) (Ax_mk rfl rfl ?_)
              refine OpW_alloc (cs := (Result.cells (Result.mk 0 0 0 false 0))) rfl rfl rfl rfl (fun b1402 => ⟨(Inc.cons (.tail _ (.tail _ (.head _))) (Inc.cons (.tail _ (.tail _ (.tail _ (.head _)))) (Inc.cons (.tail _ (.tail _ (.tail _ (.tail _ (.head _))))) Inc.nil))), ?_⟩)
              refine Aw_one 11 (by kernel_rfl) (Ax_mk rfl rfl ?_)
              refine OpW_store (vs := (Result.cells (Result.mk 1 i1365 0 false 0))) (all' := (Result.cells (Result.mk 1 i1365 0 false 0))) rfl rfl rfl rfl rfl (.there .here) rfl rfl rfl ⟨(Inc.cons (.tail _ (.tail _ (.head _))) (Inc.cons (.tail _ (.tail _ (.tail _ (.head _)))) (Inc.cons (.tail _ (.tail _ (.tail _ (.tail _ (.head _))))) Inc.nil))), ?_⟩
              refine Aw_one 12 (by kernel_rfl) (Ax_mk rfl rfl ?_)
              refine OpW_store (vs := (Result.cells (Result.mk 2 i1368 x1389.value true 0))) (all' := (Result.cells (Result.mk 2 i1368 x1389.value true 0))) rfl rfl rfl rfl rfl .here rfl rfl rfl ⟨(Inc.cons (.tail _ (.tail _ (.head _))) (Inc.cons (.tail _ (.tail _ (.tail _ (.head _)))) (Inc.cons (.tail _ (.tail _ (.tail _ (.tail _ (.head _))))) Inc.nil))), ?_⟩
              refine Aw_done (by kernel_rfl) ?_
              refine Shift.pull (.there (.there (.there (.there .here)))) ?_
              refine Shift.pull (.there (.there (.there (.there .here)))) ?_
              refine Shift.pull (.there (.there (.there (.there .here)))) ?_
              refine Shift.pull (.there (.there (.there (.there .here)))) ?_
              refine Shift.pull (.there (.there (.there (.there .here)))) ?_
              refine Shift.done ?_
              exact ⟨[(0, (sv vp0)), (4, (.pointer (some ((⟨b395, 0, none⟩ : Addr).add 0)))), (5, (.pointer (some ((⟨b396, 0, none⟩ : Addr).add 0)))), (7, (sv v1293)), (8, (sv v435)), (9, (sv v441)), (10, (.int .i64 i1021)), (11, (.int .i64 i1296)), (12, (.int .i64 i1365)), (13, (.int .i64 i1368)), (14, (.pointer (some ((⟨b1401, 0, none⟩ : Addr).add 0)))), (15, (.pointer (some ((⟨b1402, 0, none⟩ : Addr).add 0))))], ⟨rfl, rfl, rfl, rfl, rfl, rfl, rfl, rfl, rfl, rfl, rfl, rfl, trivial⟩, b1401, b1402, x1389.value, rfl, rfl, rfl, H⟩
            · skip
              refine id (Ax_mk rfl rfl ?_)
              refine OpW_alloc (cs := (Result.cells (Result.mk 0 0 0 false 0))) rfl rfl rfl rfl (fun b1403 => ⟨(Inc.cons (.tail _ (.head _)) (Inc.cons (.tail _ (.tail _ (.head _))) (Inc.cons (.tail _ (.tail _ (.tail _ (.head _)))) Inc.nil))), ?_⟩)
              refine Aw_one 9 (by kernel_rfl) (Ax_mk rfl rfl ?_)
              refine OpW_alloc (cs := (Result.cells (Result.mk 0 0 0 false 0))) rfl rfl rfl rfl (fun b1404 => ⟨(Inc.cons (.tail _ (.tail _ (.head _))) (Inc.cons (.tail _ (.tail _ (.tail _ (.head _)))) (Inc.cons (.tail _ (.tail _ (.tail _ (.tail _ (.head _))))) Inc.nil))), ?_⟩)
              refine Aw_one 11 (by kernel_rfl) (Ax_mk rfl rfl ?_)
              refine OpW_store (vs := (Result.cells (Result.mk 1 i1365 0 false 0))) (all' := (Result.cells (Result.mk 1 i1365 0 false 0))) rfl rfl rfl rfl rfl .here rfl rfl rfl ⟨(Inc.cons (.tail _ (.tail _ (.head _))) (Inc.cons (.tail _ (.tail _ (.tail _ (.head _)))) (Inc.cons (.tail _ (.tail _ (.tail _ (.tail _ (.head _))))) Inc.nil))), ?_⟩
              refine Aw_one 12 (by kernel_rfl) (Ax_mk rfl rfl ?_)
              refine OpW_store (vs := (Result.cells (Result.mk 2 i1368 x1389.value true 0))) (all' := (Result.cells (Result.mk 2 i1368 x1389.value true 0))) rfl rfl rfl rfl rfl (.there .here) rfl rfl rfl ⟨(Inc.cons (.tail _ (.tail _ (.head _))) (Inc.cons (.tail _ (.tail _ (.tail _ (.head _)))) (Inc.cons (.tail _ (.tail _ (.tail _ (.tail _ (.head _))))) Inc.nil))), ?_⟩
              refine Aw_done (by kernel_rfl) ?_
              refine Shift.pull (.there (.there (.there (.there .here)))) ?_
              refine Shift.pull (.there (.there (.there (.there .here)))) ?_
              refine Shift.pull (.there (.there (.there (.there .here)))) ?_
              refine Shift.pull (.there (.there (.there .here))) ?_
              refine Shift.pull (.there (.there (.there (.there .here)))) ?_
              refine Shift.done ?_
              exact ⟨[(0, (sv vp0)), (4, (.pointer (some ((⟨b395, 0, none⟩ : Addr).add 0)))), (5, (.pointer (some ((⟨b396, 0, none⟩ : Addr).add 0)))), (7, (sv v1293)), (8, (sv v435)), (9, (sv v441)), (10, (.int .i64 i1021)), (11, (.int .i64 i1296)), (12, (.int .i64 i1365)), (13, (.int .i64 i1368)), (14, (.pointer (some ((⟨b1404, 0, none⟩ : Addr).add 0)))), (15, (.pointer (some ((⟨b1403, 0, none⟩ : Addr).add 0))))], ⟨rfl, rfl, rfl, rfl, rfl, rfl, rfl, rfl, rfl, rfl, rfl, rfl, trivial⟩, b1404, b1403, x1389.value, rfl, rfl, rfl, H⟩
          rintro _ _ _ - ⟨b1386, b1387, i1388, rfl, rfl, rfl, H⟩
          unfold M_ref14_Meeting_J5 at H
          refine Cw_join (fun env' K' G' => ∃ (i1417 : Int) (i1418 : Int) (t1419 : Bool) (i1420 : Int) (i1421 : Int) (t1422 : Bool), [(0, (sv vp0)), (4, (.pointer (some ((⟨b395, 0, none⟩ : Addr).add 0)))), (5, (.pointer (some ((⟨b396, 0, none⟩ : Addr).add 0)))), (7, (sv v1293)), (8, (sv v435)), (9, (sv v441)), (10, (.int .i64 i1021)), (11, (.int .i64 i1296)), (14, (.pointer (some ((⟨b1386, 0, none⟩ : Addr).add 0)))), (15, (.pointer (some ((⟨b1387, 0, none⟩ : Addr).add 0))))] = env' ∧ K1298 = K' ∧ (.blk b1387 25 (Result.cells (Result.mk i1417 i1368 i1418 t1419 0))) :: (.blk b1386 25 (Result.cells (Result.mk i1420 i1365 i1421 t1422 0))) :: (.blk b396 38 (Op.cells p2 vp2_cases vp2_draws)) :: (.blk b395 38 (Op.cells p1 vp1_cases vp1_draws)) :: (.tok 48 10 [(sv v1293)]) :: G = G' ∧ M_ref14_Meeting_J6 p0 l1294 x421 x427 i1021 i1296 i1368 i1365 p2 p1 k1026 k1301 i1417 i1418 t1419 i1420 i1421 t1422 = some y0) ?_ ?_
          · skip
            refine Cw_seq ?_
            refine Cw_region ?_
            refine Ow_q rfl rfl rfl (Qt_move rfl) ?_
            refine Ow_q rfl rfl rfl (Qt_move rfl) ?_
            obtain ⟨x1423, hx1424, H⟩ := bnd H
            have hs1425 := (hs1030).mono hK1299
            obtain ⟨r1426, hr1427, hk1428⟩ := Slr.at hs1425 hx1424
            obtain rfl := hr1427
            refine Ow_q rfl rfl rfl (Q_ix (T := TyCase) hs1425 hx1424 rfl rfl rfl rfl rfl) ?_
            refine Ow_q rfl rfl rfl (Qt_fieldAddr (m := 0) rfl rfl rfl rfl rfl) ?_
            refine Ow_q rfl rfl rfl (Qt_load1 (v := (.bool x1423.send)) rfl rfl rfl (Rdc.k hk1428 rfl)) ?_
            refine Ow_q rfl rfl rfl (Qt_not rfl) ?_
            refine Ow_nil ?_
            refine Cw_cond rfl ?_ ?_
            · intro h1429
              have h1429 := nt_t (h1429)
              have H := iff_ (btf h1429) H
              refine Cw_region ?_
              refine Ow_q rfl rfl rfl (Qt_move rfl) ?_
              refine Ow_q rfl rfl rfl (Qt_move rfl) ?_
              refine Ow_q rfl rfl rfl (Qt_move rfl) ?_
              obtain ⟨x1430, hx1431, H⟩ := bnd H
              obtain ⟨r1432, hr1433, hk1434⟩ := Slr.at hs1305 hx1431
              obtain rfl := hr1433
              refine Ow_q rfl rfl rfl (Q_ix (T := TyCase) hs1305 hx1431 rfl rfl rfl rfl rfl) ?_
              refine Ow_q rfl rfl rfl (Qt_fieldAddr (m := 2) rfl rfl rfl rfl rfl) ?_
              refine Ow_q rfl rfl rfl (Qt_load1 (v := (.int .u64 x1430.value)) rfl rfl rfl (Rdc.k hk1434 rfl)) ?_
              refine Ow_q rfl rfl rfl (Qt_build (cs := (Result.cells (Result.mk 2 i1365 x1430.value true 0))) rfl rfl rfl rfl rfl rfl) ?_
              refine Ow_q rfl rfl rfl (Qt_move rfl) ?_
              refine Ow_q rfl rfl rfl (Qt_build (cs := (Result.cells (Result.mk 1 i1368 0 false 0))) rfl rfl rfl rfl rfl rfl) ?_
              refine Ow_cons rfl (OpW_store (vs := (Result.cells (Result.mk 2 i1365 x1430.value true 0))) (all' := (Result.cells (Result.mk 2 i1365 x1430.value true 0))) rfl rfl rfl rfl rfl (.there .here) rfl rfl rfl ?_)
              refine Ow_cons rfl (OpW_store (vs := (Result.cells (Result.mk 1 i1368 0 false 0))) (all' := (Result.cells (Result.mk 1 i1368 0 false 0))) rfl rfl rfl rfl rfl .here rfl rfl rfl ?_)
              refine Ow_nil ?_
              refine Shift.pull (.there (.there (.there (.there .here)))) ?_
              refine Shift.pull (.there (.there (.there (.there .here)))) ?_
              refine Shift.pull (.there (.there (.there (.there .here)))) ?_
              refine Shift.pull (.there (.there (.there (.there .here)))) ?_
              refine Shift.pull (.there (.there (.there (.there .here)))) ?_
              refine Shift.done ?_
              exact ⟨[(0, (sv vp0)), (4, (.pointer (some ((⟨b395, 0, none⟩ : Addr).add 0)))), (5, (.pointer (some ((⟨b396, 0, none⟩ : Addr).add 0)))), (7, (sv v1293)), (8, (sv v435)), (9, (sv v441)), (10, (.int .i64 i1021)), (11, (.int .i64 i1296)), (14, (.pointer (some ((⟨b1386, 0, none⟩ : Addr).add 0)))), (15, (.pointer (some ((⟨b1387, 0, none⟩ : Addr).add 0))))], ⟨rfl, rfl, rfl, rfl, rfl, rfl, rfl, rfl, rfl, rfl, trivial⟩, 1, 0, false, 2, x1430.value, true, rfl, rfl, rfl, H⟩
            · intro h1429
              have h1429 := nt_f (h1429)
              have H := ift h1429 H
              refine Cw_skip ?_
              refine Shift.pull (.there (.there (.there (.there .here)))) ?_
              refine Shift.pull (.there (.there (.there (.there .here)))) ?_
              refine Shift.pull (.there (.there (.there (.there .here)))) ?_
              refine Shift.pull (.there (.there (.there (.there .here)))) ?_
              refine Shift.pull (.there (.there (.there (.there .here)))) ?_
              refine Shift.done ?_
              exact ⟨[(0, (sv vp0)), (4, (.pointer (some ((⟨b395, 0, none⟩ : Addr).add 0)))), (5, (.pointer (some ((⟨b396, 0, none⟩ : Addr).add 0)))), (7, (sv v1293)), (8, (sv v435)), (9, (sv v441)), (10, (.int .i64 i1021)), (11, (.int .i64 i1296)), (14, (.pointer (some ((⟨b1386, 0, none⟩ : Addr).add 0)))), (15, (.pointer (some ((⟨b1387, 0, none⟩ : Addr).add 0))))], ⟨rfl, rfl, rfl, rfl, rfl, rfl, rfl, rfl, rfl, rfl, trivial⟩, 2, i1388, true, 1, 0, false, rfl, rfl, rfl, H⟩
          rintro _ _ _ - ⟨i1417, i1418, t1419, i1420, i1421, t1422, rfl, rfl, rfl, H⟩
          unfold M_ref14_Meeting_J6 at H
          refine Cw_seq ?_
          refine Cw_region ?_
          refine Ow_q rfl rfl rfl (Qt_move rfl) ?_
          refine Ow_q rfl rfl rfl (Qt_loadA (m := 7) (cs := (Op.cells p1 vp1_cases vp1_draws)) rfl rfl rfl rfl ⟨rfl, Rdc.blk (.tail _ (.tail _ (.tail _ (.head _)))) rfl⟩) ?_
          refine Ow_q rfl rfl rfl (Qt_loadA (m := 5) (cs := (Result.cells (Result.mk i1420 i1365 i1421 t1422 0))) rfl rfl rfl rfl ⟨rfl, Rdc.blk (.tail _ (.head _)) rfl⟩) ?_
          refine Ow_q rfl rfl rfl (Qt_loadA (m := 7) (cs := (Op.cells p2 vp2_cases vp2_draws)) rfl rfl rfl rfl ⟨rfl, Rdc.blk (.tail _ (.tail _ (.head _))) rfl⟩) ?_
          refine Ow_q rfl rfl rfl (Qt_loadA (m := 5) (cs := (Result.cells (Result.mk i1417 i1368 i1418 t1419 0))) rfl rfl rfl rfl ⟨rfl, Rdc.blk (.head _) rfl⟩) ?_
          obtain ⟨x1435, hx1436, H⟩ := bnd H
          have hs1437 := ((((hp0).mono hK437).mono hK443).mono hK1024).mono hK1299
          have hs1438 := ((((hp1_cases).mono hK437).mono hK443).mono hK1024).mono hK1299
          have hs1439 := ((((hp1_draws).mono hK437).mono hK443).mono hK1024).mono hK1299
          have hs1440 := (((hs439).mono hK443).mono hK1024).mono hK1299
          have hs1441 := (((hs440).mono hK443).mono hK1024).mono hK1299
          refine Ow_cons rfl (OpW_call rfl Try.call24 rfl rfl (c_M_ref14_Pair p0 vp0 p1 vp1_cases vp1_draws (Result.mk i1420 i1365 i1421 t1422 0) p2 vp2_cases vp2_draws (Result.mk i1417 i1368 i1418 t1419 0) x1435 hx1436 _ _ hs1437 hs1438 hs1439 hs1440 hs1441) ?_)
          rintro _ _ _ - ⟨rfl, rfl, rfl⟩
          refine Ow_nil ?_
          refine Cw_cond rfl ?_ ?_
          · intro h1442
            have H := ift h1442 H
            refine Cw_region ?_
            refine Ow_q rfl rfl rfl (Qt_move rfl) ?_
            refine Ow_q rfl rfl rfl (Qt_loadA (m := 5) (cs := (Result.cells (Result.mk i1420 i1365 i1421 t1422 0))) rfl rfl rfl rfl ⟨rfl, Rdc.blk (.tail _ (.head _)) rfl⟩) ?_
            refine Ow_q rfl rfl rfl (Qt_loadA (m := 5) (cs := (Result.cells (Result.mk i1417 i1368 i1418 t1419 0))) rfl rfl rfl rfl ⟨rfl, Rdc.blk (.head _) rfl⟩) ?_
            refine Ow_q rfl rfl rfl (Qt_buildArr (cs := (A2Result.cells (A2Result.mk (Result.mk i1420 i1365 i1421 t1422 0) (Result.mk i1417 i1368 i1418 t1419 0)))) rfl rfl rfl rfl rfl rfl) ?_
            have hR1444 : RowR TyA2Result K1298 [(A2Result.cells (A2Result.mk (Result.mk i1420 i1365 i1421 t1422 0) (Result.mk i1417 i1368 i1418 t1419 0)))] [(A2Result.mk (Result.mk i1420 i1365 i1421 t1422 0) (Result.mk i1417 i1368 i1418 t1419 0))] := RowR.cons rfl (RowR.nil)
            refine Ow_cons rfl (O_lit (T := TyA2Result) (rows := [(A2Result.cells (A2Result.mk (Result.mk i1420 i1365 i1421 t1422 0) (Result.mk i1417 i1368 i1418 t1419 0)))]) (l := [(A2Result.mk (Result.mk i1420 i1365 i1421 t1422 0) (Result.mk i1417 i1368 i1418 t1419 0))]) rfl rfl rfl hR1444 rfl rfl rfl rfl rfl rfl rfl rfl (fun v1443 => ?_))
            obtain ⟨x1445, hx1446, H⟩ := bnd H
            refine Ow_cons rfl (O_appTok (T := TyA2Result) (bytes := 80) (q := 0) rfl rfl rfl hs1295 (.tail _ (.tail _ (.tail _ (.tail _ (.tail _ (.head _)))))) rfl (SrcT.row (.head _) hR1444 rfl) hx1446 rfl rfl rfl rfl rfl rfl rfl rfl (fun v1447 K1448 hK1449 hs1450 => ⟨_, (.there (.there (.there (.there (.there .here))))), ?_⟩))
            refine Ow.shift (Shift.rem .here (Shift.done ?_))
            refine Ow_q rfl rfl rfl (Qt_assign rfl) ?_
            refine Ow_nil ?_
            refine Cw_region ?_
            refine Ow_q rfl rfl rfl (Qt_move rfl) ?_
            refine Ow_q rfl rfl rfl (Qt_arith (e := wI (i1296 + 1)) rfl rfl rfl rfl) ?_
            refine Ow_q rfl rfl rfl (Qt_assign rfl) ?_
            refine Ow_nil ?_
            refine Shift.pull (.there (.there (.there (.there .here)))) ?_
            refine Shift.pull (.there (.there (.there (.there .here)))) ?_
            refine Shift.pull (.there (.there (.there (.there .here)))) ?_
            refine Shift.rem (.there (.there (.there .here))) ?_
            refine Shift.rem (.there (.there (.there .here))) ?_
            refine Shift.done ?_
            exact ⟨[(0, (sv vp0)), (4, (.pointer (some ((⟨b395, 0, none⟩ : Addr).add 0)))), (5, (.pointer (some ((⟨b396, 0, none⟩ : Addr).add 0)))), (7, (sv v1447)), (8, (sv v435)), (9, (sv v441)), (10, (.int .i64 i1021)), (11, (.int .i64 (wI (i1296 + 1))))], ⟨rfl, rfl, rfl, rfl, rfl, rfl, rfl, rfl, trivial⟩, _, Nat.lt_succ_self _, v1447, x1445, (wI (i1296 + 1)), rfl, rfl, (hkk1302 ▸ H), hs1450⟩
          · intro h1442
            have H := iff_ (btf h1442) H
            refine Cw_skip ?_
            refine Cw_region ?_
            refine Ow_q rfl rfl rfl (Qt_move rfl) ?_
            refine Ow_q rfl rfl rfl (Qt_arith (e := wI (i1296 + 1)) rfl rfl rfl rfl) ?_
            refine Ow_q rfl rfl rfl (Qt_assign rfl) ?_
            refine Ow_nil ?_
            refine Shift.pull (.there (.there (.there (.there .here)))) ?_
            refine Shift.pull (.there (.there (.there (.there .here)))) ?_
            refine Shift.pull (.there (.there (.there (.there .here)))) ?_
            refine Shift.rem (.there (.there (.there .here))) ?_
            refine Shift.rem (.there (.there (.there .here))) ?_
            refine Shift.done ?_
            exact ⟨[(0, (sv vp0)), (4, (.pointer (some ((⟨b395, 0, none⟩ : Addr).add 0)))), (5, (.pointer (some ((⟨b396, 0, none⟩ : Addr).add 0)))), (7, (sv v1293)), (8, (sv v435)), (9, (sv v441)), (10, (.int .i64 i1021)), (11, (.int .i64 (wI (i1296 + 1))))], ⟨rfl, rfl, rfl, rfl, rfl, rfl, rfl, rfl, trivial⟩, _, Nat.lt_succ_self _, v1293, l1294, (wI (i1296 + 1)), rfl, rfl, (hkk1302 ▸ H), hs1295⟩
        · intro h1306
          have h1306 := dcd_f (h1306)
          have H := iff_ h1306 H
          refine Cw_exit ?_
          refine Shift.pull (.there (.there .here)) ?_
          refine Shift.pull (.there (.there .here)) ?_
          refine Shift.pull (.there (.there .here)) ?_
          refine Shift.done ?_
          exact ⟨[(0, (sv vp0)), (4, (.pointer (some ((⟨b395, 0, none⟩ : Addr).add 0)))), (5, (.pointer (some ((⟨b396, 0, none⟩ : Addr).add 0)))), (7, (sv v1293)), (8, (sv v435)), (9, (sv v441)), (10, (.int .i64 i1021))], ⟨rfl, rfl, rfl, rfl, rfl, rfl, rfl, trivial⟩, v1293, l1294, rfl, rfl, H, hs1295⟩
      rintro _ K1451 _ hK1452 ⟨v1163, l1164, rfl, rfl, H, hs1165⟩
      unfold M_ref14_Meeting_J2 at H
      refine Cw_region ?_
      refine Ow_q rfl rfl rfl (Qt_move rfl) ?_
      refine Ow_q rfl rfl rfl (Qt_arith (e := wI (i1021 + 1)) rfl rfl rfl rfl) ?_
      refine Ow_q rfl rfl rfl (Qt_assign rfl) ?_
      refine Ow_nil ?_
      refine Shift.pull (.there (.there .here)) ?_
      refine Shift.pull (.there (.there .here)) ?_
      refine Shift.pull (.there (.there .here)) ?_
      refine Shift.done ?_
      exact ⟨[(0, (sv vp0)), (4, (.pointer (some ((⟨b395, 0, none⟩ : Addr).add 0)))), (5, (.pointer (some ((⟨b396, 0, none⟩ : Addr).add 0)))), (7, (sv v1163)), (8, (sv v435)), (9, (sv v441)), (10, (.int .i64 (wI (i1021 + 1))))], ⟨rfl, rfl, rfl, rfl, rfl, rfl, rfl, trivial⟩, _, Nat.lt_succ_self _, v1163, l1164, (wI (i1021 + 1)), rfl, rfl, (hkk1027 ▸ H), hs1165⟩
    · intro h1031
      have h1031 := dcd_f (h1031)
      have H := iff_ h1031 H
      refine Cw_exit ?_
      refine Shift.pull (.there (.there .here)) ?_
      refine Shift.rem (.there .here) ?_
      refine Shift.rem (.there .here) ?_
      refine Shift.done ?_
      exact ⟨[(7, (sv v1018))], ⟨rfl, trivial⟩, v1018, l1019, rfl, rfl, H, hs1020⟩
  rintro _ K1453 _ hK1454 ⟨v732, l733, rfl, rfl, H, hs734⟩
  unfold M_ref14_Meeting_J1 at H
  refine Cw_seq ?_
  refine Cw_region ?_
  refine Ow_q rfl rfl rfl (Qt_move rfl) ?_
  refine Ow_q rfl rfl rfl (Qt_assign rfl) ?_
  refine Ow_nil ?_
  refine Cw_ret ?_
  obtain ey0 := inj1 H
  subst y0
  refine ⟨(by first | exact .inl rfl | exact .inr rfl), [(sv v732)], ⟨(sv v732), _, rfl, rfl, rfl⟩, ?_⟩
  refine Shift.done ?_
  exact ⟨v732, rfl, rfl, hs734⟩


end Go.Hx
