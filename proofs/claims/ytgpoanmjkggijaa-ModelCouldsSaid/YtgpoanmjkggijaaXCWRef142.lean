/- Printed by program. -/
import Derived.Test.YtgpoanmjkggijaaXCM
import Derived.Test.YtgpoanmjkggijaaXCWRef141
import Derived.Test.YtgpoanmjkggijaaXCWRef3
namespace Go.Hx
open Go Go.Proofs
set_option linter.unusedSimpArgs false
set_option linter.unusedVariables false
set_option maxRecDepth 10000
set_option maxHeartbeats 1000000 in
theorem c_M_ref14_chosen (p0 : Op) (vp0_cases : SV) (vp0_draws : SV) (p1 : Result) (y0 : Case) (y1 : Bool) (H : M_ref14_chosen p0 p1 = some (y0, y1)) (K : Kp) (G : List Ent) (hp0_cases : Slr TyCase K (sv vp0_cases) p0.cases) (hp0_draws : Slr Ty.i64 K (sv vp0_draws) p0.draws) :
    Fc Try.prog 95 #[(.agg (Op.cells p0 vp0_cases vp0_draws).toArray), (.agg (Result.cells p1).toArray)] K (G) (fun v K' G' => v = (.tuple #[(.agg (Case.cells y0).toArray), (.bool y1)]) ∧ K = K' ∧ G = G') := by
  refine Fc_body Try.func95 rfl Try.ntmps95 Try.results95 rfl ?_
  unfold M_ref14_chosen at H
  refine Cw_seq ?_
  refine Cw_region ?_
  refine Ow_cons rfl (OpW_box (cs := (Op.cells p0 vp0_cases vp0_draws)) rfl rfl rfl (fun b29 => ?_))
  refine Ow_cons rfl (OpW_box (cs := (Result.cells p1)) rfl rfl rfl (fun b30 => ?_))
  refine Ow_cons rfl (OpW_alloc (cs := (Case.cells (Case.mk false 0 0))) rfl rfl rfl rfl (fun b31 => ?_))
  refine Ow_q rfl rfl rfl (Qt_assign rfl) ?_
  refine Ow_nil ?_
  refine Cw_seq ?_
  refine Cw_seq ?_
  refine Cw_region ?_
  refine Ow_q rfl rfl rfl (Qt_fieldAddr (m := 0) rfl rfl rfl rfl rfl) ?_
  refine Ow_q rfl rfl rfl (Qt_load1 (v := (.int .i64 p0.kind)) rfl rfl rfl (Rdc.blk (.tail _ (.tail _ (.head _))) rfl)) ?_
  refine Ow_q rfl rfl rfl (Qt_cmp rfl rfl rfl) ?_
  refine Ow_nil ?_
  refine Cw_cond rfl ?_ ?_
  · intro h52
    have h52 := dcd_t (h52)
    have H := ift h52 H
    refine Cw_seq ?_
    refine Cw_join (fun env' K' G' => ∃ (t68 : Bool), [(2, (.pointer (some ((⟨b29, 0, none⟩ : Addr).add 0)))), (3, (.pointer (some ((⟨b30, 0, none⟩ : Addr).add 0)))), (4, (.pointer (some ((⟨b31, 0, none⟩ : Addr).add 0)))), (21, (.bool t68))] = env' ∧ K = K' ∧ (.blk b31 73 (Case.cells (Case.mk false 0 0))) :: (.blk b30 25 (Result.cells p1)) :: (.blk b29 38 (Op.cells p0 vp0_cases vp0_draws)) :: G = G' ∧ M_ref14_chosen_J1 p1 p0 t68 = some (y0, y1)) ?_ ?_
    · skip
      refine Cw_region ?_
      refine Ow_q rfl rfl rfl (Qt_fieldAddr (m := 1) rfl rfl rfl rfl rfl) ?_
      refine Ow_q rfl rfl rfl (Qt_load1 (v := (.int .i64 p1.case_)) rfl rfl rfl (Rdc.blk (.tail _ (.head _)) rfl)) ?_
      refine Ow_q rfl rfl rfl (Qt_cmp rfl rfl rfl) ?_
      refine Ow_q rfl rfl rfl (Qt_move rfl) ?_
      refine Ow_caseG rfl rfl rfl ?_ ?_
      · intro h69
        have h69 := dcd_t (h69)
        have H := ift h69 H
        refine Ow_pass rfl rfl rfl rfl rfl rfl rfl ?_
        refine Ow_pass rfl rfl rfl rfl rfl rfl rfl ?_
        refine Ow_pass rfl rfl rfl rfl rfl rfl rfl ?_
        refine Ow_pass rfl rfl rfl rfl rfl rfl rfl ?_
        refine Ow_pass rfl rfl rfl rfl rfl rfl rfl ?_
        refine Ow_pass rfl rfl rfl rfl rfl rfl rfl ?_
        refine Ow_q rfl rfl rfl (Qt_pick_t rfl rfl) ?_
        refine Ow_nil ?_
        refine Shift.pull (.there (.there .here)) ?_
        refine Shift.pull (.there (.there .here)) ?_
        refine Shift.pull (.there (.there .here)) ?_
        refine Shift.done ?_
        exact ⟨[(2, (.pointer (some ((⟨b29, 0, none⟩ : Addr).add 0)))), (3, (.pointer (some ((⟨b30, 0, none⟩ : Addr).add 0)))), (4, (.pointer (some ((⟨b31, 0, none⟩ : Addr).add 0)))), (21, (.bool true))], ⟨rfl, rfl, rfl, rfl, trivial⟩, true, rfl, rfl, rfl, H⟩
      · intro h69
        have h69 := dcd_f (h69)
        have H := iff_ h69 H
        refine Ow_qw rfl rfl rfl rfl rfl rfl (Qt_fieldAddr (m := 1) rfl rfl rfl rfl rfl) ?_
        refine Ow_qw rfl rfl rfl rfl rfl rfl (Qt_load1 (v := (.int .i64 p1.case_)) rfl rfl rfl (Rdc.blk (.tail _ (.head _)) rfl)) ?_
        refine Ow_qw rfl rfl rfl rfl rfl rfl (Qt_fieldAddr (m := 5) rfl rfl rfl rfl rfl) ?_
        refine Ow_qw rfl rfl rfl rfl rfl rfl (Qt_load1 (v := (sv vp0_cases)) rfl rfl rfl (Rdc.blk (.tail _ (.tail _ (.head _))) rfl)) ?_
        refine Ow_qw rfl rfl rfl rfl rfl rfl (Q_len (T := TyCase) hp0_cases rfl rfl) ?_
        refine Ow_qw rfl rfl rfl rfl rfl rfl (Qt_cmp rfl rfl rfl) ?_
        refine Ow_q rfl rfl rfl (Qt_pick_f rfl rfl) ?_
        refine Ow_nil ?_
        refine Shift.pull (.there (.there .here)) ?_
        refine Shift.pull (.there (.there .here)) ?_
        refine Shift.pull (.there (.there .here)) ?_
        refine Shift.done ?_
        exact ⟨[(2, (.pointer (some ((⟨b29, 0, none⟩ : Addr).add 0)))), (3, (.pointer (some ((⟨b30, 0, none⟩ : Addr).add 0)))), (4, (.pointer (some ((⟨b31, 0, none⟩ : Addr).add 0)))), (21, (.bool (dcd (p1.case_ ≥ (p0.cases.length : Int)))))], ⟨rfl, rfl, rfl, rfl, trivial⟩, (dcd (p1.case_ ≥ (p0.cases.length : Int))), rfl, rfl, rfl, H⟩
    rintro _ _ _ - ⟨t68, rfl, rfl, rfl, H⟩
    unfold M_ref14_chosen_J1 at H
    refine Cw_cond rfl ?_ ?_
    · intro h70
      have H := ift h70 H
      refine Cw_seq ?_
      refine Cw_region ?_
      refine Ow_q rfl rfl rfl (Qt_build (cs := (Case.cells (Case.mk false 0 0))) rfl rfl rfl rfl rfl rfl) ?_
      refine Ow_cons rfl (OpW_store (vs := (Case.cells (Case.mk false 0 0))) (all' := (Case.cells (Case.mk false 0 0))) rfl rfl rfl rfl rfl .here rfl rfl rfl ?_)
      refine Ow_q rfl rfl rfl (Qt_assign rfl) ?_
      refine Ow_nil ?_
      refine Cw_ret ?_
      obtain ⟨ey0, ey1⟩ := inj2 H
      subst y0 y1
      refine ⟨(by first | exact .inl rfl | exact .inr rfl), [(.agg (Case.cells (Case.mk false 0 0)).toArray), (.bool false)], ⟨(.agg (Case.cells (Case.mk false 0 0)).toArray), _, rfl, ⟨_, 3, (Case.cells (Case.mk false 0 0)), rfl, rfl, rfl, rfl, ⟨rfl, Rdc.blk (.head _) rfl⟩, rfl⟩, ⟨(.bool false), _, rfl, rfl, rfl⟩⟩, ?_⟩
      refine Shift.rem .here ?_
      refine Shift.rem .here ?_
      refine Shift.rem .here ?_
      refine Shift.done ?_
      exact ⟨rfl, rfl, rfl⟩
    · intro h70
      have H := iff_ (btf h70) H
      refine Cw_skip ?_
      refine Cw_seq ?_
      refine Cw_region ?_
      refine Ow_q rfl rfl rfl (Qt_fieldAddr (m := 5) rfl rfl rfl rfl rfl) ?_
      refine Ow_q rfl rfl rfl (Qt_load1 (v := (sv vp0_cases)) rfl rfl rfl (Rdc.blk (.tail _ (.tail _ (.head _))) rfl)) ?_
      refine Ow_q rfl rfl rfl (Qt_fieldAddr (m := 1) rfl rfl rfl rfl rfl) ?_
      refine Ow_q rfl rfl rfl (Qt_load1 (v := (.int .i64 p1.case_)) rfl rfl rfl (Rdc.blk (.tail _ (.head _)) rfl)) ?_
      obtain ⟨x71, hx72, H⟩ := bnd H
      obtain ⟨r73, hr74, hk75⟩ := Slr.at hp0_cases hx72
      obtain rfl := hr74
      refine Ow_q rfl rfl rfl (Q_ix (T := TyCase) hp0_cases hx72 rfl rfl rfl rfl rfl) ?_
      refine Ow_q rfl rfl rfl (Qt_loadA (m := 3) (cs := (Case.cells x71)) rfl rfl rfl rfl ⟨rfl, Rdc.k hk75 rfl⟩) ?_
      refine Ow_cons rfl (OpW_store (vs := (Case.cells x71)) (all' := (Case.cells x71)) rfl rfl rfl rfl rfl .here rfl rfl rfl ?_)
      refine Ow_q rfl rfl rfl (Qt_assign rfl) ?_
      refine Ow_nil ?_
      refine Cw_ret ?_
      obtain ⟨ey0, ey1⟩ := inj2 H
      subst y0 y1
      refine ⟨(by first | exact .inl rfl | exact .inr rfl), [(.agg (Case.cells x71).toArray), (.bool true)], ⟨(.agg (Case.cells x71).toArray), _, rfl, ⟨_, 3, (Case.cells x71), rfl, rfl, rfl, rfl, ⟨rfl, Rdc.blk (.head _) rfl⟩, rfl⟩, ⟨(.bool true), _, rfl, rfl, rfl⟩⟩, ?_⟩
      refine Shift.rem .here ?_
      refine Shift.rem .here ?_
      refine Shift.rem .here ?_
      refine Shift.done ?_
      exact ⟨rfl, rfl, rfl⟩
  · intro h52
    have h52 := dcd_f (h52)
    have H := iff_ h52 H
    refine Cw_skip ?_
    refine Cw_seq ?_
    refine Cw_region ?_
    refine Ow_q rfl rfl rfl (Qt_loadA (m := 7) (cs := (Op.cells p0 vp0_cases vp0_draws)) rfl rfl rfl rfl ⟨rfl, Rdc.blk (.tail _ (.tail _ (.head _))) rfl⟩) ?_
    obtain ⟨x76, x77, hx78, H⟩ := bnd2 H
    refine Ow_cons rfl (OpW_call rfl Try.call100 rfl rfl (c_M_ref3_Single p0 vp0_cases vp0_draws x76 x77 hx78 _ _ hp0_cases hp0_draws) ?_)
    rintro _ _ _ - ⟨rfl, rfl, rfl⟩
    refine Ow_q rfl rfl rfl (Qt_move rfl) ?_
    refine Ow_q rfl rfl rfl (Qt_extract rfl rfl) ?_
    refine Ow_q rfl rfl rfl (Qt_extract rfl rfl) ?_
    refine Ow_cons rfl (OpW_alloc (cs := (Case.cells (Case.mk false 0 0))) rfl rfl rfl rfl (fun b79 => ?_))
    refine Ow_cons rfl (OpW_store (vs := (Case.cells x76)) (all' := (Case.cells x76)) rfl rfl rfl rfl rfl .here rfl rfl rfl ?_)
    refine Ow_q rfl rfl rfl (Qt_assign rfl) ?_
    refine Ow_nil ?_
    refine Cw_seq ?_
    rcases bool_ct x77 with hb_ | hb_ <;> revert hb_
    · intro h81
      have H := ift h81 H
      refine Cw_region_any [.blk b79 73 (Case.cells x76), .blk b30 25 (Result.cells p1), .blk b29 38 (Op.cells p0 vp0_cases vp0_draws)] rfl (Inc.cons (.head _) (Inc.cons (.tail _ (.tail _ (.head _))) (Inc.cons (.tail _ (.tail _ (.tail _ (.head _)))) Inc.nil))) ?_
      refine Aw_q 0 rfl (by kernel_rfl) (by kernel_rfl) (by kernel_rfl) rfl rfl rfl (Qt_loadA (m := 3) (cs := (Case.cells x76)) rfl rfl rfl rfl ⟨rfl, Rdc.blk (.head _) rfl⟩) ?_
      refine Aw_q 1 rfl (by kernel_rfl) (by kernel_rfl) (by kernel_rfl) rfl rfl rfl (Qt_move rfl) ?_
      refine Aw_q 2 rfl (by kernel_rfl) (by kernel_rfl) (by kernel_rfl) rfl rfl rfl (Qt_move rfl) ?_
      refine Aw.known (d := 36) rfl (h81) ?_
      refine Aw_qw 3 rfl (by kernel_rfl) (by kernel_rfl) (by kernel_rfl) rfl rfl rfl rfl rfl rfl (Qt_fieldAddr (m := 1) rfl rfl rfl rfl rfl) ?_
      refine Aw_qw 4 rfl (by kernel_rfl) (by kernel_rfl) (by kernel_rfl) rfl rfl rfl rfl rfl rfl (Qt_load1 (v := (.int .i64 p1.case_)) rfl rfl rfl (Rdc.blk (.tail _ (.head _)) rfl)) ?_
      refine Aw_qw 5 rfl (by kernel_rfl) (by kernel_rfl) (by kernel_rfl) rfl rfl rfl rfl rfl rfl (Qt_cmp rfl rfl rfl) ?_
      refine Aw_q 6 rfl (by kernel_rfl) (by kernel_rfl) (by kernel_rfl) rfl rfl rfl (Qt_pick_t rfl rfl) ?_
      refine Aw_one 7 (by kernel_rfl) (Ax_mk rfl rfl ?_)
      refine OpW_store (vs := (Case.cells x76)) (all' := (Case.cells x76)) rfl rfl rfl rfl rfl (.there .here) rfl rfl rfl ⟨(Inc.cons (.head _) (Inc.cons (.tail _ (.tail _ (.head _))) (Inc.cons (.tail _ (.tail _ (.tail _ (.head _)))) Inc.nil))), ?_⟩
      refine Aw_q 8 rfl (by kernel_rfl) (by kernel_rfl) (by kernel_rfl) rfl rfl rfl (Qt_assign rfl) ?_
      refine Aw_done (by kernel_rfl) ?_
      refine Cw_ret ?_
      obtain ⟨ey0, ey1⟩ := inj2 H
      subst y0 y1
      refine ⟨(by first | exact .inl rfl | exact .inr rfl), [(.agg (Case.cells x76).toArray), (.bool (dcd (p1.case_ = (-1))))], ⟨(.agg (Case.cells x76).toArray), _, rfl, ⟨_, 3, (Case.cells x76), rfl, rfl, rfl, rfl, ⟨rfl, Rdc.blk (.tail _ (.head _)) rfl⟩, rfl⟩, ⟨(.bool (dcd (p1.case_ = (-1)))), _, rfl, rfl, rfl⟩⟩, ?_⟩
      refine Shift.rem .here ?_
      refine Shift.rem .here ?_
      refine Shift.rem .here ?_
      refine Shift.rem .here ?_
      refine Shift.done ?_
      exact ⟨rfl, rfl, rfl⟩
    · intro h81
      have H := iff_ (btf h81) H
      refine Cw_region_any [.blk b79 73 (Case.cells x76), .blk b30 25 (Result.cells p1), .blk b29 38 (Op.cells p0 vp0_cases vp0_draws)] rfl (Inc.cons (.head _) (Inc.cons (.tail _ (.tail _ (.head _))) (Inc.cons (.tail _ (.tail _ (.tail _ (.head _)))) Inc.nil))) ?_
      refine Aw_q 0 rfl (by kernel_rfl) (by kernel_rfl) (by kernel_rfl) rfl rfl rfl (Qt_loadA (m := 3) (cs := (Case.cells x76)) rfl rfl rfl rfl ⟨rfl, Rdc.blk (.head _) rfl⟩) ?_
      refine Aw_q 1 rfl (by kernel_rfl) (by kernel_rfl) (by kernel_rfl) rfl rfl rfl (Qt_move rfl) ?_
      refine Aw_q 2 rfl (by kernel_rfl) (by kernel_rfl) (by kernel_rfl) rfl rfl rfl (Qt_move rfl) ?_
      refine Aw.known (d := 36) rfl (h81) ?_
      refine Aw_pass 3 rfl (by kernel_rfl) (by kernel_rfl) (by kernel_rfl) rfl rfl rfl rfl rfl rfl rfl ?_
      refine Aw_pass 4 rfl (by kernel_rfl) (by kernel_rfl) (by kernel_rfl) rfl rfl rfl rfl rfl rfl rfl ?_
      refine Aw_pass 5 rfl (by kernel_rfl) (by kernel_rfl) (by kernel_rfl) rfl rfl rfl rfl rfl rfl rfl ?_
      refine Aw_q 6 rfl (by kernel_rfl) (by kernel_rfl) (by kernel_rfl) rfl rfl rfl (Qt_pick_f rfl rfl) ?_
      refine Aw_one 7 (by kernel_rfl) (Ax_mk rfl rfl ?_)
      refine OpW_store (vs := (Case.cells x76)) (all' := (Case.cells x76)) rfl rfl rfl rfl rfl (.there .here) rfl rfl rfl ⟨(Inc.cons (.head _) (Inc.cons (.tail _ (.tail _ (.head _))) (Inc.cons (.tail _ (.tail _ (.tail _ (.head _)))) Inc.nil))), ?_⟩
      refine Aw_q 8 rfl (by kernel_rfl) (by kernel_rfl) (by kernel_rfl) rfl rfl rfl (Qt_assign rfl) ?_
      refine Aw_done (by kernel_rfl) ?_
      refine Cw_ret ?_
      obtain ⟨ey0, ey1⟩ := inj2 H
      subst y0 y1
      refine ⟨(by first | exact .inl rfl | exact .inr rfl), [(.agg (Case.cells x76).toArray), (.bool false)], ⟨(.agg (Case.cells x76).toArray), _, rfl, ⟨_, 3, (Case.cells x76), rfl, rfl, rfl, rfl, ⟨rfl, Rdc.blk (.tail _ (.head _)) rfl⟩, rfl⟩, ⟨(.bool false), _, rfl, rfl, rfl⟩⟩, ?_⟩
      refine Shift.rem .here ?_
      refine Shift.rem .here ?_
      refine Shift.rem .here ?_
      refine Shift.rem .here ?_
      refine Shift.done ?_
      exact ⟨rfl, rfl, rfl⟩

set_option maxHeartbeats 1000000 in
theorem c_M_ref14_set (p0 : List Chan) (vp0 : SV) (p1 : Int) (p2 : Chan) (vp2_buffer : SV) (y0 : List Chan) (H : M_ref14_set p0 p1 p2 = some y0) (K : Kp) (G : List Ent) (hp0 : Slr TyChan K (sv vp0) p0) (hp2_buffer : Slr Ty.u64 K (sv vp2_buffer) p2.buffer) :
    Fc Try.prog 98 #[(sv vp0), (.int .i64 p1), (.agg (Chan.cells p2 vp2_buffer).toArray)] K (G) (fun v K' G' => ∃ (wy0 : SV) (rswy0 : List (List Value)), v = (sv wy0) ∧ K = K' ∧ (.row (sv wy0) 83 3 rswy0.flatten) :: G = G' ∧ RowR TyChan K' rswy0 y0) := by
  refine Fc_body Try.func98 rfl Try.ntmps98 Try.results98 rfl ?_
  unfold M_ref14_set at H
  refine Cw_seq ?_
  refine Cw_region ?_
  refine Ow_cons rfl (OpW_box (cs := (Chan.cells p2 vp2_buffer)) rfl rfl rfl (fun b17 => ?_))
  refine Ow_q rfl rfl rfl (Qt_assign rfl) ?_
  refine Ow_nil ?_
  refine Cw_seq ?_
  refine Cw_region ?_
  refine Ow_q rfl rfl rfl (Qt_move rfl) ?_
  have hR18 : RowR TyChan K [] [] := RowR.nil
  refine Ow.shift (Shift.nilRow 83 3 (Shift.done ?_))
  obtain ⟨x19, hx20, H⟩ := bnd H
  refine Ow_cons rfl (O_appRow (T := TyChan) (bytes := 40) rfl rfl rfl (.head _) hR18 (SrcT.sl hp0) hx20 rfl rfl rfl rfl rfl rfl rfl rfl (fun v21 rs22 hR23 => ⟨_, .here, ?_⟩))
  refine Ow_q rfl rfl rfl (Qt_assign rfl) ?_
  refine Ow_nil ?_
  refine Cw_seq ?_
  refine Cw_region ?_
  refine Ow_q rfl rfl rfl (Qt_move rfl) ?_
  refine Ow_q rfl rfl rfl (Qt_move rfl) ?_
  refine Ow_q rfl rfl rfl (Qt_loadA (m := 3) (cs := (Chan.cells p2 vp2_buffer)) rfl rfl rfl rfl ⟨rfl, Rdc.blk (.tail _ (.head _)) rfl⟩) ?_
  obtain ⟨x24, hx25, H⟩ := bnd H
  obtain ⟨r26, hq27, hr28⟩ := RowR.at hR23 hx25
  obtain ⟨v29, rfl, hs30⟩ := hr28
  refine Ow_q rfl rfl rfl (Q_ixR (T := TyChan) (.head _) hR23 hq27 (getI_ix hx25).1 rfl rfl rfl rfl rfl) ?_
  refine Ow_cons rfl (O_storeR (T := TyChan) (vs := (Chan.cells p2 vp2_buffer)) (r' := (Chan.cells p2 vp2_buffer)) (l' := (setI x19 p1 p2)) rfl rfl rfl rfl rfl .here hR23 hq27 rfl rfl rfl (RowR.set p1 hR23 ⟨vp2_buffer, rfl, hp2_buffer⟩) (fun hR31 => ?_))
  have hE32 := set_at hq27 (v := (Chan.cells p2 vp2_buffer))
  refine Ow_nil ?_
  refine Cw_seq ?_
  refine Cw_region ?_
  refine Ow_q rfl rfl rfl (Qt_move rfl) ?_
  refine Ow_q rfl rfl rfl (Qt_assign rfl) ?_
  refine Ow_nil ?_
  refine Cw_ret ?_
  obtain ey0 := inj1 H
  subst y0
  refine ⟨(by first | exact .inl rfl | exact .inr rfl), [(sv v21)], ⟨(sv v21), _, rfl, rfl, rfl⟩, ?_⟩
  refine Shift.rem (.there .here) ?_
  refine Shift.done ?_
  exact ⟨v21, (rs22.set p1.toNat (Chan.cells p2 vp2_buffer)), rfl, rfl, rfl, hR31⟩



end Go.Hx
