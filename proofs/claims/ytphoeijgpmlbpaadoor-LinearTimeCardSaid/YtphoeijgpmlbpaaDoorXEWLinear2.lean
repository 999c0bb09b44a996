/- Printed by program. -/
import Derived.Test.YtphoeijgpmlbpaaDoorXEM
import Derived.Test.YtphoeijgpmlbpaaDoorXEWDraw
import Derived.Test.YtphoeijgpmlbpaaDoorXEWModel3
namespace Go.Hx
open Go Go.Proofs
set_option linter.unusedSimpArgs false
set_option linter.unusedVariables false
set_option maxRecDepth 10000
set_option maxHeartbeats 1000000 in
theorem c_M_linear_call_results (p0 : Linear_call) (vp0_op_cases : SV) (vp0_op_draws : SV) (p1 : List Chan) (vp1 : SV) (y0 : List Result) (H : M_linear_call_results p0 p1 = some y0) (K : Kp) (G : List Ent) (hp0_op_cases : Slr TyCase K (sv vp0_op_cases) p0.op.cases) (hp0_op_draws : Slr Ty.i64 K (sv vp0_op_draws) p0.op.draws) (hp1 : Slr TyChan K (sv vp1) p1) :
    Fc Tryd.prog 54 #[(.agg (Linear_call.cells p0 vp0_op_cases vp0_op_draws).toArray), (sv vp1)] K (G) (fun v K' G' => ∃ (wy0 : SV), v = (sv wy0) ∧ (.tok 36 5 [(sv wy0)]) :: G = G' ∧ Slr TyResult K' (sv wy0) y0) := by
  refine Fc_body Tryd.func54 rfl Tryd.ntmps54 Tryd.results54 rfl ?_
  unfold M_linear_call_results at H
  refine Cw_seq ?_
  refine Cw_region ?_
  refine Ow_cons rfl (OpW_box (cs := (Linear_call.cells p0 vp0_op_cases vp0_op_draws)) rfl rfl rfl (fun b11 => ?_))
  refine Ow_q rfl rfl rfl (Qt_assign rfl) ?_
  refine Ow_nil ?_
  refine Cw_seq ?_
  refine Cw_seq ?_
  refine Cw_region ?_
  refine Ow_q rfl rfl rfl (Qt_fieldAddr (m := 13) rfl rfl rfl rfl rfl) ?_
  refine Ow_q rfl rfl rfl (Qt_load1 (v := (.int .i64 p0.coming)) rfl rfl rfl (Rdc.blk (.head _) rfl)) ?_
  refine Ow_q rfl rfl rfl (Qt_cmp rfl rfl rfl) ?_
  refine Ow_nil ?_
  refine Cw_cond rfl ?_ ?_
  · intro h15
    have h15 := dcd_t (h15)
    have H := ift h15 H
    refine Cw_seq ?_
    refine Cw_region ?_
    refine Ow_q rfl rfl rfl (Qt_fieldAddr (m := 7) rfl rfl rfl rfl rfl) ?_
    refine Ow_q rfl rfl rfl (Qt_loadA (m := 5) (cs := (Result.cells p0.result)) rfl rfl rfl rfl ⟨rfl, Rdc.blk (.head _) rfl⟩) ?_
    have hR17 : RowR TyResult K [(Result.cells p0.result)] [p0.result] := RowR.cons rfl (RowR.nil)
    refine Ow_cons rfl (O_lit (T := TyResult) (rows := [(Result.cells p0.result)]) (l := [p0.result]) rfl rfl rfl hR17 rfl rfl rfl rfl rfl rfl rfl rfl (fun v16 => ?_))
    refine Ow_q rfl rfl rfl (Qt_assign rfl) ?_
    refine Ow_nil ?_
    refine Cw_ret ?_
    obtain ey0 := inj1 H
    subst y0
    refine ⟨(by first | exact .inl rfl | exact .inr rfl), [(sv v16)], ⟨(sv v16), _, rfl, rfl, rfl⟩, ?_⟩
    refine Shift.settle (T := TyResult) .here hR17 rfl ?_
    intro K18 hK19 hs20
    refine Shift.rem (.there .here) ?_
    refine Shift.done ?_
    exact ⟨v16, rfl, rfl, hs20⟩
  · intro h15
    have h15 := dcd_f (h15)
    have H := iff_ h15 H
    refine Cw_skip ?_
    refine Cw_seq ?_
    refine Cw_region ?_
    refine Ow_q rfl rfl rfl (Qt_move rfl) ?_
    refine Ow_q rfl rfl rfl (Qt_fieldAddr (m := 0) rfl rfl rfl rfl rfl) ?_
    refine Ow_q rfl rfl rfl (Qt_loadA (m := 7) (cs := (Op.cells p0.op vp0_op_cases vp0_op_draws)) rfl rfl rfl rfl ⟨rfl, Rdc.blk (.head _) rfl⟩) ?_
    obtain ⟨x21, hx22, H⟩ := bnd H
    refine Ow_cons rfl (OpW_call rfl Tryd.call83 rfl rfl (c_M_model_Could p1 vp1 p0.op vp0_op_cases vp0_op_draws x21 hx22 _ _ hp1 hp0_op_cases hp0_op_draws) ?_)
    rintro _ K24 _ hK25 ⟨v23, rfl, rfl, hs26⟩
    refine Ow_q rfl rfl rfl (Qt_assign rfl) ?_
    refine Ow_nil ?_
    refine Cw_ret ?_
    obtain ey0 := inj1 H
    subst y0
    refine ⟨(by first | exact .inl rfl | exact .inr rfl), [(sv v23)], ⟨(sv v23), _, rfl, rfl, rfl⟩, ?_⟩
    refine Shift.rem (.there .here) ?_
    refine Shift.done ?_
    exact ⟨v23, rfl, rfl, hs26⟩

set_option maxHeartbeats 1000000 in
theorem c_M_linear_all (p0 : Op) (vp0_cases : SV) (vp0_draws : SV) (y0 : List Linear_numbered) (H : M_linear_all p0 = some y0) (K : Kp) (G : List Ent) (hp0_cases : Slr TyCase K (sv vp0_cases) p0.cases) (hp0_draws : Slr Ty.i64 K (sv vp0_draws) p0.draws) :
    Fc Tryd.prog 85 #[(.agg (Op.cells p0 vp0_cases vp0_draws).toArray)] K (G) (fun v K' G' => ∃ (wy0 : SV), v = (sv wy0) ∧ (.tok 151 4 [(sv wy0)]) :: G = G' ∧ Slr TyLinear_numbered K' (sv wy0) y0) := by
  refine Fc_body Tryd.func85 rfl Tryd.ntmps85 Tryd.results85 rfl ?_
  unfold M_linear_all at H
  refine Cw_seq ?_
  refine Cw_region ?_
  refine Ow_cons rfl (OpW_box (cs := (Op.cells p0 vp0_cases vp0_draws)) rfl rfl rfl (fun b58 => ?_))
  refine Ow_q rfl rfl rfl (Qt_assign rfl) ?_
  refine Ow_nil ?_
  refine Cw_seq ?_
  refine Cw_seq ?_
  refine Cw_region ?_
  refine Ow_q rfl rfl rfl (Qt_loadA (m := 7) (cs := (Op.cells p0 vp0_cases vp0_draws)) rfl rfl rfl rfl ⟨rfl, Rdc.blk (.head _) rfl⟩) ?_
  obtain ⟨x66, x67, hx68, H⟩ := bnd2 H
  refine Ow_cons rfl (OpW_call rfl Tryd.call70 rfl rfl (c_M_cases_Single p0 vp0_cases vp0_draws x66 x67 hx68 _ _ hp0_cases hp0_draws) ?_)
  rintro _ _ _ - ⟨rfl, rfl, rfl⟩
  refine Ow_q rfl rfl rfl (Qt_move rfl) ?_
  refine Ow_q rfl rfl rfl (Qt_extract rfl rfl) ?_
  refine Ow_q rfl rfl rfl (Qt_extract rfl rfl) ?_
  refine Ow_cons rfl (OpW_alloc (cs := (Case.cells (Case.mk false 0 0))) rfl rfl rfl rfl (fun b69 => ?_))
  refine Ow_cons rfl (OpW_store (vs := (Case.cells x66)) (all' := (Case.cells x66)) rfl rfl rfl rfl rfl .here rfl rfl rfl ?_)
  refine Ow_q rfl rfl rfl (Qt_assign rfl) ?_
  refine Ow_nil ?_
  refine Cw_seq ?_
  refine Cw_region ?_
  refine Ow_q rfl rfl rfl (Qt_move rfl) ?_
  refine Ow_nil ?_
  refine Cw_cond rfl ?_ ?_
  · intro h70
    have H := ift h70 H
    refine Cw_seq ?_
    refine Cw_region ?_
    refine Ow_q rfl rfl rfl (Qt_loadA (m := 3) (cs := (Case.cells x66)) rfl rfl rfl rfl ⟨rfl, Rdc.blk (.head _) rfl⟩) ?_
    refine Ow_q rfl rfl rfl (Qt_build (cs := (Linear_numbered.cells (Linear_numbered.mk (-1) x66))) rfl rfl rfl rfl rfl rfl) ?_
    have hR72 : RowR TyLinear_numbered K [(Linear_numbered.cells (Linear_numbered.mk (-1) x66))] [(Linear_numbered.mk (-1) x66)] := RowR.cons rfl (RowR.nil)
    refine Ow_cons rfl (O_lit (T := TyLinear_numbered) (rows := [(Linear_numbered.cells (Linear_numbered.mk (-1) x66))]) (l := [(Linear_numbered.mk (-1) x66)]) rfl rfl rfl hR72 rfl rfl rfl rfl rfl rfl rfl rfl (fun v71 => ?_))
    refine Ow_q rfl rfl rfl (Qt_assign rfl) ?_
    refine Ow_nil ?_
    refine Cw_ret ?_
    obtain ey0 := inj1 H
    subst y0
    refine ⟨(by first | exact .inl rfl | exact .inr rfl), [(sv v71)], ⟨(sv v71), _, rfl, rfl, rfl⟩, ?_⟩
    refine Shift.settle (T := TyLinear_numbered) .here hR72 rfl ?_
    intro K73 hK74 hs75
    refine Shift.rem (.there .here) ?_
    refine Shift.rem (.there .here) ?_
    refine Shift.done ?_
    exact ⟨v71, rfl, rfl, hs75⟩
  · intro h70
    have H := iff_ (btf h70) H
    refine Cw_skip ?_
    refine Cw_seq ?_
    refine Cw_region ?_
    refine Ow_q rfl rfl rfl (Qt_assign rfl) ?_
    refine Ow_nil ?_
    refine Cw_join (fun env' K' G' => ∃ (v120 : SV) (l121 : List Linear_numbered), [(5, (sv v120))] = env' ∧ (.tok 151 4 [(sv v120)]) :: G = G' ∧ M_linear_all_J1 l121 = some y0 ∧ Slr TyLinear_numbered K' (sv v120) l121) ?_ ?_
    · skip
      refine Cw_seq ?_
      refine Cw_region ?_
      refine Ow_q rfl rfl rfl (Qt_fieldAddr (m := 5) rfl rfl rfl rfl rfl) ?_
      refine Ow_q rfl rfl rfl (Qt_load1 (v := (sv vp0_cases)) rfl rfl rfl (Rdc.blk (.tail _ (.head _)) rfl)) ?_
      refine Ow_q rfl rfl rfl (Q_len (T := TyCase) hp0_cases rfl rfl) ?_
      refine Ow_q rfl rfl rfl (Qt_move rfl) ?_
      refine Ow_nil ?_
      refine Cw_block ?_
      refine Cw_loopM (fun n167 env' K' G' => ∃ (v163 : SV) (l164 : List Linear_numbered) (i166 : Int), [(5, (sv v163)), (18, (sv vp0_cases)), (19, (.int .i64 (p0.cases.length : Int))), (20, (.int .i64 i166))] = env' ∧ (.tok 151 4 [(sv v163)]) :: G = G' ∧ lp2 (M_linear_all_L1 p0) n167 l164 i166 = some y0 ∧ Slr TyLinear_numbered K' (sv v163) l164) BIG ?_ ?_
      · skip
        refine Shift.nilTok1 151 4 ?_
        refine Shift.rem (.there .here) ?_
        refine Shift.rem (.there .here) ?_
        refine Shift.done ?_
        exact ⟨[(5, (sv nilS)), (18, (sv vp0_cases)), (19, (.int .i64 (p0.cases.length : Int))), (20, (.int .i64 0))], ⟨rfl, rfl, rfl, rfl, trivial⟩, nilS, ([] : List Linear_numbered), 0, rfl, rfl, H, (Slr.nil TyLinear_numbered _)⟩
      rintro n167 _ K168 _ hK169 ⟨v163, l164, i166, rfl, rfl, H, hs165⟩
      obtain ⟨m170, k171, rfl, hkk172, H⟩ := lps2 H
      unfold M_linear_all_L1 at H
      refine Cw_seq ?_
      refine Cw_region ?_
      refine Ow_q rfl rfl rfl (Qt_cmp rfl rfl rfl) ?_
      refine Ow_nil ?_
      refine Cw_seq ?_
      refine Cw_cond rfl ?_ ?_
      · intro h174
        have h174 := dcd_t (h174)
        have H := ift h174 H
        refine Cw_skip ?_
        refine Cw_seq ?_
        refine Cw_block ?_
        refine Cw_seq ?_
        refine Cw_region ?_
        refine Ow_q rfl rfl rfl (Qt_move rfl) ?_
        obtain ⟨x190, hx191, H⟩ := bnd H
        have hs192 := (hp0_cases).mono hK169
        obtain ⟨r193, hr194, hk195⟩ := Slr.at hs192 hx191
        obtain rfl := hr194
        refine Ow_q rfl rfl rfl (Q_ix (T := TyCase) hs192 hx191 rfl rfl rfl rfl rfl) ?_
        refine Ow_q rfl rfl rfl (Qt_loadA (m := 3) (cs := (Case.cells x190)) rfl rfl rfl rfl ⟨rfl, Rdc.k hk195 rfl⟩) ?_
        refine Ow_cons rfl (OpW_alloc (cs := (Case.cells (Case.mk false 0 0))) rfl rfl rfl rfl (fun b196 => ?_))
        refine Ow_q rfl rfl rfl (Qt_assign rfl) ?_
        refine Ow_cons rfl (OpW_store (vs := (Case.cells x190)) (all' := (Case.cells x190)) rfl rfl rfl rfl rfl .here rfl rfl rfl ?_)
        refine Ow_nil ?_
        refine Cw_region ?_
        refine Ow_q rfl rfl rfl (Qt_move rfl) ?_
        refine Ow_q rfl rfl rfl (Qt_move rfl) ?_
        refine Ow_q rfl rfl rfl (Qt_loadA (m := 3) (cs := (Case.cells x190)) rfl rfl rfl rfl ⟨rfl, Rdc.blk (.head _) rfl⟩) ?_
        refine Ow_q rfl rfl rfl (Qt_build (cs := (Linear_numbered.cells (Linear_numbered.mk i166 x190))) rfl rfl rfl rfl rfl rfl) ?_
        have hR198 : RowR TyLinear_numbered K168 [(Linear_numbered.cells (Linear_numbered.mk i166 x190))] [(Linear_numbered.mk i166 x190)] := RowR.cons rfl (RowR.nil)
        refine Ow_cons rfl (O_lit (T := TyLinear_numbered) (rows := [(Linear_numbered.cells (Linear_numbered.mk i166 x190))]) (l := [(Linear_numbered.mk i166 x190)]) rfl rfl rfl hR198 rfl rfl rfl rfl rfl rfl rfl rfl (fun v197 => ?_))
        obtain ⟨x199, hx200, H⟩ := bnd H
        refine Ow_cons rfl (O_appTok (T := TyLinear_numbered) (bytes := 32) (q := 0) rfl rfl rfl hs165 (.tail _ (.tail _ (.head _))) rfl (SrcT.row (.head _) hR198 rfl) hx200 rfl rfl rfl rfl rfl rfl rfl rfl (fun v201 K202 hK203 hs204 => ⟨_, (.there (.there .here)), ?_⟩))
        refine Ow.shift (Shift.rem .here (Shift.done ?_))
        refine Ow_q rfl rfl rfl (Qt_assign rfl) ?_
        refine Ow_nil ?_
        refine Cw_region ?_
        refine Ow_q rfl rfl rfl (Qt_arith (e := wI (i166 + 1)) rfl rfl rfl rfl) ?_
        refine Ow_q rfl rfl rfl (Qt_move rfl) ?_
        refine Ow_nil ?_
        refine Shift.pull (.there .here) ?_
        refine Shift.rem (.there .here) ?_
        refine Shift.done ?_
        exact ⟨[(5, (sv v201)), (18, (sv vp0_cases)), (19, (.int .i64 (p0.cases.length : Int))), (20, (.int .i64 (wI (i166 + 1))))], ⟨rfl, rfl, rfl, rfl, trivial⟩, _, Nat.lt_succ_self _, v201, x199, (wI (i166 + 1)), rfl, rfl, (hkk172 ▸ H), hs204⟩
      · intro h174
        have h174 := dcd_f (h174)
        have H := iff_ h174 H
        refine Cw_exit ?_
        refine Shift.done ?_
        exact ⟨[(5, (sv v163))], ⟨rfl, trivial⟩, v163, l164, rfl, rfl, H, hs165⟩
    rintro _ K205 _ hK206 ⟨v120, l121, rfl, rfl, H, hs122⟩
    unfold M_linear_all_J1 at H
    refine Cw_seq ?_
    refine Cw_region ?_
    refine Ow_q rfl rfl rfl (Qt_move rfl) ?_
    refine Ow_q rfl rfl rfl (Qt_assign rfl) ?_
    refine Ow_nil ?_
    refine Cw_ret ?_
    obtain ey0 := inj1 H
    subst y0
    refine ⟨(by first | exact .inl rfl | exact .inr rfl), [(sv v120)], ⟨(sv v120), _, rfl, rfl, rfl⟩, ?_⟩
    refine Shift.done ?_
    exact ⟨v120, rfl, rfl, hs122⟩

set_option maxHeartbeats 1000000 in
theorem c_M_linear_call_fits (p0 : Linear_call) (vp0_op_cases : SV) (vp0_op_draws : SV) (p1 : Result) (y0 : Bool) (H : M_linear_call_fits p0 p1 = some y0) (K : Kp) (G : List Ent) (hp0_op_cases : Slr TyCase K (sv vp0_op_cases) p0.op.cases) (hp0_op_draws : Slr Ty.i64 K (sv vp0_op_draws) p0.op.draws) :
    Fc Tryd.prog 86 #[(.agg (Linear_call.cells p0 vp0_op_cases vp0_op_draws).toArray), (.agg (Result.cells p1).toArray)] K (G) (fun v K' G' => v = (.bool y0) ∧ K = K' ∧ G = G') := by
  refine Fc_body Tryd.func86 rfl Tryd.ntmps86 Tryd.results86 rfl ?_
  unfold M_linear_call_fits at H
  refine Cw_seq ?_
  refine Cw_region ?_
  refine Ow_cons rfl (OpW_box (cs := (Linear_call.cells p0 vp0_op_cases vp0_op_draws)) rfl rfl rfl (fun b4 => ?_))
  refine Ow_cons rfl (OpW_box (cs := (Result.cells p1)) rfl rfl rfl (fun b5 => ?_))
  refine Ow_q rfl rfl rfl (Qt_assign rfl) ?_
  refine Ow_nil ?_
  refine Cw_seq ?_
  refine Cw_region ?_
  refine Ow_q rfl rfl rfl (Qt_fieldAddr (m := 13) rfl rfl rfl rfl rfl) ?_
  refine Ow_q rfl rfl rfl (Qt_load1 (v := (.int .i64 p0.coming)) rfl rfl rfl (Rdc.blk (.tail _ (.head _)) rfl)) ?_
  refine Ow_q rfl rfl rfl (Qt_cmp rfl rfl rfl) ?_
  refine Ow_q rfl rfl rfl (Qt_move rfl) ?_
  refine Ow_caseG rfl rfl rfl ?_ ?_
  · intro h7
    have h7 := dcd_t (h7)
    have H := ift h7 H
    refine Ow_pass rfl rfl rfl rfl rfl rfl rfl ?_
    refine Ow_pass rfl rfl rfl rfl rfl rfl rfl ?_
    refine Ow_pass rfl rfl rfl rfl rfl rfl rfl ?_
    refine Ow_pass rfl rfl rfl rfl rfl rfl rfl ?_
    refine Ow_q rfl rfl rfl (Qt_pick_t rfl rfl) ?_
    refine Ow_q rfl rfl rfl (Qt_assign rfl) ?_
    refine Ow_nil ?_
    refine Cw_ret ?_
    obtain ey0 := inj1 H
    subst y0
    refine ⟨(by first | exact .inl rfl | exact .inr rfl), [(.bool true)], ⟨(.bool true), _, rfl, rfl, rfl⟩, ?_⟩
    refine Shift.rem .here ?_
    refine Shift.rem .here ?_
    refine Shift.done ?_
    exact ⟨rfl, rfl, rfl⟩
  · intro h7
    have h7 := dcd_f (h7)
    have H := iff_ h7 H
    refine Ow_qw rfl rfl rfl rfl rfl rfl (Qt_fieldAddr (m := 7) rfl rfl rfl rfl rfl) ?_
    refine Ow_qw rfl rfl rfl rfl rfl rfl (Qt_loadA (m := 5) (cs := (Result.cells p0.result)) rfl rfl rfl rfl ⟨rfl, Rdc.blk (.tail _ (.head _)) rfl⟩) ?_
    refine Ow_qw rfl rfl rfl rfl rfl rfl (Qt_loadA (m := 5) (cs := (Result.cells p1)) rfl rfl rfl rfl ⟨rfl, Rdc.blk (.head _) rfl⟩) ?_
    refine Ow_qw rfl rfl rfl rfl rfl rfl (Qt_eqS rfl rfl (fun w => Result.eqrun p0.result p1 w) (by kernel_rfl)) ?_
    refine Ow_q rfl rfl rfl (Qt_pick_f rfl rfl) ?_
    refine Ow_q rfl rfl rfl (Qt_assign rfl) ?_
    refine Ow_nil ?_
    refine Cw_ret ?_
    obtain ey0 := inj1 H
    subst y0
    refine ⟨(by first | exact .inl rfl | exact .inr rfl), [(.bool (dcd (p0.result = p1)))], ⟨(.bool (dcd (p0.result = p1))), _, rfl, rfl, rfl⟩, ?_⟩
    refine Shift.rem .here ?_
    refine Shift.rem .here ?_
    refine Shift.done ?_
    exact ⟨rfl, rfl, rfl⟩

set_option maxHeartbeats 1000000 in
theorem c_M_linear_meetings (p0 : List Chan) (vp0 : SV) (p1 : Linear_call) (vp1_op_cases : SV) (vp1_op_draws : SV) (p2 : Linear_call) (vp2_op_cases : SV) (vp2_op_draws : SV) (y0 : List A2Result) (H : M_linear_meetings p0 p1 p2 = some y0) (K : Kp) (G : List Ent) (hp0 : Slr TyChan K (sv vp0) p0) (hp1_op_cases : Slr TyCase K (sv vp1_op_cases) p1.op.cases) (hp1_op_draws : Slr Ty.i64 K (sv vp1_op_draws) p1.op.draws) (hp2_op_cases : Slr TyCase K (sv vp2_op_cases) p2.op.cases) (hp2_op_draws : Slr Ty.i64 K (sv vp2_op_draws) p2.op.draws) :
    Fc Tryd.prog 56 #[(sv vp0), (.agg (Linear_call.cells p1 vp1_op_cases vp1_op_draws).toArray), (.agg (Linear_call.cells p2 vp2_op_cases vp2_op_draws).toArray)] K (G) (fun v K' G' => ∃ (wy0 : SV), v = (sv wy0) ∧ (.tok 122 10 [(sv wy0)]) :: G = G' ∧ Slr TyA2Result K' (sv wy0) y0) := by
  refine Fc_body Tryd.func56 rfl Tryd.ntmps56 Tryd.results56 rfl ?_
  unfold M_linear_meetings at H
  refine Cw_seq ?_
  refine Cw_region ?_
  refine Ow_cons rfl (OpW_box (cs := (Linear_call.cells p1 vp1_op_cases vp1_op_draws)) rfl rfl rfl (fun b448 => ?_))
  refine Ow_cons rfl (OpW_box (cs := (Linear_call.cells p2 vp2_op_cases vp2_op_draws)) rfl rfl rfl (fun b449 => ?_))
  refine Ow_q rfl rfl rfl (Qt_assign rfl) ?_
  refine Ow_nil ?_
  refine Cw_seq ?_
  refine Cw_region ?_
  refine Ow_q rfl rfl rfl (Qt_assign rfl) ?_
  refine Ow_nil ?_
  refine Cw_join (fun env' K' G' => ∃ (v727 : SV) (l728 : List A2Result), [(7, (sv v727))] = env' ∧ (.tok 122 10 [(sv v727)]) :: G = G' ∧ M_linear_meetings_J1 l728 = some y0 ∧ Slr TyA2Result K' (sv v727) l728) ?_ ?_
  · skip
    refine Cw_seq ?_
    refine Cw_region ?_
    refine Ow_q rfl rfl rfl (Qt_fieldAddr (m := 0) rfl rfl rfl rfl rfl) ?_
    refine Ow_q rfl rfl rfl (Qt_loadA (m := 7) (cs := (Op.cells p1.op vp1_op_cases vp1_op_draws)) rfl rfl rfl rfl ⟨rfl, Rdc.blk (.tail _ (.head _)) rfl⟩) ?_
    obtain ⟨x730, hx731, H⟩ := bnd H
    refine Ow_cons rfl (OpW_call rfl Tryd.call85 rfl rfl (c_M_linear_all p1.op vp1_op_cases vp1_op_draws x730 hx731 _ _ hp1_op_cases hp1_op_draws) ?_)
    rintro _ K733 _ hK734 ⟨v732, rfl, rfl, hs735⟩
    refine Ow_q rfl rfl rfl (Q_len (T := TyLinear_numbered) hs735 rfl rfl) ?_
    refine Ow_q rfl rfl rfl (Qt_move rfl) ?_
    refine Ow_nil ?_
    refine Cw_block ?_
    refine Cw_loopM (fun n1007 env' K' G' => ∃ (v1003 : SV) (l1004 : List A2Result) (i1006 : Int), [(0, (sv vp0)), (4, (.pointer (some ((⟨b448, 0, none⟩ : Addr).add 0)))), (5, (.pointer (some ((⟨b449, 0, none⟩ : Addr).add 0)))), (7, (sv v1003)), (16, (sv v732)), (17, (.int .i64 (x730.length : Int))), (18, (.int .i64 i1006))] = env' ∧ (.blk b449 109 (Linear_call.cells p2 vp2_op_cases vp2_op_draws)) :: (.blk b448 109 (Linear_call.cells p1 vp1_op_cases vp1_op_draws)) :: (.tok 122 10 [(sv v1003)]) :: (.tok 151 4 [(sv v732)]) :: G = G' ∧ lp2 (M_linear_meetings_L1 p0 x730 p2 p1) n1007 l1004 i1006 = some y0 ∧ Slr TyA2Result K' (sv v1003) l1004) BIG ?_ ?_
    · skip
      refine Shift.nilTok1 122 10 ?_
      refine Shift.pull (.there .here) ?_
      refine Shift.pull (.there .here) ?_
      refine Shift.pull (.there (.there (.there .here))) ?_
      refine Shift.pull (.there (.there (.there .here))) ?_
      refine Shift.done ?_
      exact ⟨[(0, (sv vp0)), (4, (.pointer (some ((⟨b448, 0, none⟩ : Addr).add 0)))), (5, (.pointer (some ((⟨b449, 0, none⟩ : Addr).add 0)))), (7, (sv nilS)), (16, (sv v732)), (17, (.int .i64 (x730.length : Int))), (18, (.int .i64 0))], ⟨rfl, rfl, rfl, rfl, rfl, rfl, rfl, trivial⟩, nilS, ([] : List A2Result), 0, rfl, rfl, H, (Slr.nil TyA2Result _)⟩
    rintro n1007 _ K1008 _ hK1009 ⟨v1003, l1004, i1006, rfl, rfl, H, hs1005⟩
    obtain ⟨m1010, k1011, rfl, hkk1012, H⟩ := lps2 H
    unfold M_linear_meetings_L1 at H
    refine Cw_seq ?_
    refine Cw_region ?_
    refine Ow_q rfl rfl rfl (Qt_cmp rfl rfl rfl) ?_
    refine Ow_nil ?_
    refine Cw_seq ?_
    refine Cw_cond rfl ?_ ?_
    · intro h1014
      have h1014 := dcd_t (h1014)
      have H := ift h1014 H
      refine Cw_skip ?_
      refine Cw_join (fun env' K' G' => ∃ (v1139 : SV) (l1140 : List A2Result), [(0, (sv vp0)), (4, (.pointer (some ((⟨b448, 0, none⟩ : Addr).add 0)))), (5, (.pointer (some ((⟨b449, 0, none⟩ : Addr).add 0)))), (7, (sv v1139)), (16, (sv v732)), (17, (.int .i64 (x730.length : Int))), (18, (.int .i64 i1006))] = env' ∧ (.blk b449 109 (Linear_call.cells p2 vp2_op_cases vp2_op_draws)) :: (.blk b448 109 (Linear_call.cells p1 vp1_op_cases vp1_op_draws)) :: (.tok 122 10 [(sv v1139)]) :: (.tok 151 4 [(sv v732)]) :: G = G' ∧ M_linear_meetings_J2 p0 x730 i1006 p2 p1 k1011 l1140 = some y0 ∧ Slr TyA2Result K' (sv v1139) l1140) ?_ ?_
      · skip
        refine Cw_block ?_
        refine Cw_seq ?_
        refine Cw_region ?_
        obtain ⟨x1142, hx1143, H⟩ := bnd H
        have hs1144 := (hs735).mono hK1009
        obtain ⟨r1145, hr1146, hk1147⟩ := Slr.at hs1144 hx1143
        obtain rfl := hr1146
        refine Ow_q rfl rfl rfl (Q_ix (T := TyLinear_numbered) hs1144 hx1143 rfl rfl rfl rfl rfl) ?_
        refine Ow_q rfl rfl rfl (Qt_loadA (m := 4) (cs := (Linear_numbered.cells x1142)) rfl rfl rfl rfl ⟨rfl, Rdc.k hk1147 rfl⟩) ?_
        refine Ow_cons rfl (OpW_alloc (cs := (Linear_numbered.cells (Linear_numbered.mk 0 (Case.mk false 0 0)))) rfl rfl rfl rfl (fun b1148 => ?_))
        refine Ow_cons rfl (OpW_store (vs := (Linear_numbered.cells x1142)) (all' := (Linear_numbered.cells x1142)) rfl rfl rfl rfl rfl .here rfl rfl rfl ?_)
        refine Ow_nil ?_
        refine Cw_seq ?_
        refine Cw_region ?_
        refine Ow_q rfl rfl rfl (Qt_fieldAddr (m := 0) rfl rfl rfl rfl rfl) ?_
        refine Ow_q rfl rfl rfl (Qt_loadA (m := 7) (cs := (Op.cells p2.op vp2_op_cases vp2_op_draws)) rfl rfl rfl rfl ⟨rfl, Rdc.blk (.tail _ (.head _)) rfl⟩) ?_
        obtain ⟨x1149, hx1150, H⟩ := bnd H
        have hs1151 := ((hp2_op_cases).mono hK734).mono hK1009
        have hs1152 := ((hp2_op_draws).mono hK734).mono hK1009
        refine Ow_cons rfl (OpW_call rfl Tryd.call85 rfl rfl (c_M_linear_all p2.op vp2_op_cases vp2_op_draws x1149 hx1150 _ _ hs1151 hs1152) ?_)
        rintro _ K1154 _ hK1155 ⟨v1153, rfl, rfl, hs1156⟩
        refine Ow_q rfl rfl rfl (Q_len (T := TyLinear_numbered) hs1156 rfl rfl) ?_
        refine Ow_q rfl rfl rfl (Qt_move rfl) ?_
        refine Ow_nil ?_
        refine Cw_block ?_
        refine Cw_loopM (fun n1266 env' K' G' => ∃ (v1262 : SV) (l1263 : List A2Result) (i1265 : Int), [(0, (sv vp0)), (4, (.pointer (some ((⟨b448, 0, none⟩ : Addr).add 0)))), (5, (.pointer (some ((⟨b449, 0, none⟩ : Addr).add 0)))), (7, (sv v1262)), (9, (.pointer (some ((⟨b1148, 0, none⟩ : Addr).add 0)))), (16, (sv v732)), (17, (.int .i64 (x730.length : Int))), (18, (.int .i64 i1006)), (24, (sv v1153)), (25, (.int .i64 (x1149.length : Int))), (26, (.int .i64 i1265))] = env' ∧ (.blk b1148 151 (Linear_numbered.cells x1142)) :: (.blk b449 109 (Linear_call.cells p2 vp2_op_cases vp2_op_draws)) :: (.blk b448 109 (Linear_call.cells p1 vp1_op_cases vp1_op_draws)) :: (.tok 122 10 [(sv v1262)]) :: (.tok 151 4 [(sv v1153)]) :: (.tok 151 4 [(sv v732)]) :: G = G' ∧ lp2 (M_linear_meetings_L2 p0 x730 i1006 x1149 x1142 p2 p1 k1011) n1266 l1263 i1265 = some y0 ∧ Slr TyA2Result K' (sv v1262) l1263) BIG ?_ ?_
        · skip
          refine Shift.pull (.there (.there (.there (.there (.there .here))))) ?_
          refine Shift.pull (.there .here) ?_
          refine Shift.pull (.there (.there (.there (.there (.there .here))))) ?_
          refine Shift.pull (.there (.there (.there (.there (.there .here))))) ?_
          refine Shift.pull (.there (.there (.there (.there (.there .here))))) ?_
          refine Shift.pull (.there (.there (.there (.there (.there .here))))) ?_
          have hs1267 := (hs1005).mono hK1155
          refine Shift.done ?_
          exact ⟨[(0, (sv vp0)), (4, (.pointer (some ((⟨b448, 0, none⟩ : Addr).add 0)))), (5, (.pointer (some ((⟨b449, 0, none⟩ : Addr).add 0)))), (7, (sv v1003)), (9, (.pointer (some ((⟨b1148, 0, none⟩ : Addr).add 0)))), (16, (sv v732)), (17, (.int .i64 (x730.length : Int))), (18, (.int .i64 i1006)), (24, (sv v1153)), (25, (.int .i64 (x1149.length : Int))), (26, (.int .i64 0))], ⟨rfl, rfl, rfl, rfl, rfl, rfl, rfl, rfl, rfl, rfl, rfl, trivial⟩, v1003, l1004, 0, rfl, rfl, H, hs1267⟩
        rintro n1266 _ K1268 _ hK1269 ⟨v1262, l1263, i1265, rfl, rfl, H, hs1264⟩
        obtain ⟨m1270, k1271, rfl, hkk1272, H⟩ := lps2 H
        unfold M_linear_meetings_L2 at H
        refine Cw_seq ?_
        refine Cw_region ?_
        refine Ow_q rfl rfl rfl (Qt_cmp rfl rfl rfl) ?_
        refine Ow_nil ?_
        refine Cw_seq ?_
        refine Cw_cond rfl ?_ ?_
        · intro h1274
          have h1274 := dcd_t (h1274)
          have H := ift h1274 H
          refine Cw_skip ?_
          refine Cw_join (fun env' K' G' => ∃ (v1317 : SV) (l1318 : List A2Result), [(0, (sv vp0)), (4, (.pointer (some ((⟨b448, 0, none⟩ : Addr).add 0)))), (5, (.pointer (some ((⟨b449, 0, none⟩ : Addr).add 0)))), (7, (sv v1317)), (9, (.pointer (some ((⟨b1148, 0, none⟩ : Addr).add 0)))), (16, (sv v732)), (17, (.int .i64 (x730.length : Int))), (18, (.int .i64 i1006)), (24, (sv v1153)), (25, (.int .i64 (x1149.length : Int))), (26, (.int .i64 i1265))] = env' ∧ (.blk b1148 151 (Linear_numbered.cells x1142)) :: (.blk b449 109 (Linear_call.cells p2 vp2_op_cases vp2_op_draws)) :: (.blk b448 109 (Linear_call.cells p1 vp1_op_cases vp1_op_draws)) :: (.tok 122 10 [(sv v1317)]) :: (.tok 151 4 [(sv v1153)]) :: (.tok 151 4 [(sv v732)]) :: G = G' ∧ M_linear_meetings_J3 p0 x730 i1006 x1149 i1265 x1142 p2 p1 k1011 k1271 l1318 = some y0 ∧ Slr TyA2Result K' (sv v1317) l1318) ?_ ?_
          · skip
            refine Cw_block ?_
            refine Cw_seq ?_
            refine Cw_region ?_
            obtain ⟨x1320, hx1321, H⟩ := bnd H
            have hs1322 := (hs1156).mono hK1269
            obtain ⟨r1323, hr1324, hk1325⟩ := Slr.at hs1322 hx1321
            obtain rfl := hr1324
            refine Ow_q rfl rfl rfl (Q_ix (T := TyLinear_numbered) hs1322 hx1321 rfl rfl rfl rfl rfl) ?_
            refine Ow_q rfl rfl rfl (Qt_loadA (m := 4) (cs := (Linear_numbered.cells x1320)) rfl rfl rfl rfl ⟨rfl, Rdc.k hk1325 rfl⟩) ?_
            refine Ow_cons rfl (OpW_alloc (cs := (Linear_numbered.cells (Linear_numbered.mk 0 (Case.mk false 0 0)))) rfl rfl rfl rfl (fun b1326 => ?_))
            refine Ow_cons rfl (OpW_store (vs := (Linear_numbered.cells x1320)) (all' := (Linear_numbered.cells x1320)) rfl rfl rfl rfl rfl .here rfl rfl rfl ?_)
            refine Ow_nil ?_
            refine Cw_seq ?_
            refine Cw_join (fun env' K' G' => ∃ (t1333 : Bool), [(0, (sv vp0)), (4, (.pointer (some ((⟨b448, 0, none⟩ : Addr).add 0)))), (5, (.pointer (some ((⟨b449, 0, none⟩ : Addr).add 0)))), (7, (sv v1262)), (9, (.pointer (some ((⟨b1148, 0, none⟩ : Addr).add 0)))), (11, (.pointer (some ((⟨b1326, 0, none⟩ : Addr).add 0)))), (16, (sv v732)), (17, (.int .i64 (x730.length : Int))), (18, (.int .i64 i1006)), (24, (sv v1153)), (25, (.int .i64 (x1149.length : Int))), (26, (.int .i64 i1265)), (47, (.bool t1333))] = env' ∧ K1268 = K' ∧ (.blk b1326 151 (Linear_numbered.cells x1320)) :: (.blk b1148 151 (Linear_numbered.cells x1142)) :: (.blk b449 109 (Linear_call.cells p2 vp2_op_cases vp2_op_draws)) :: (.blk b448 109 (Linear_call.cells p1 vp1_op_cases vp1_op_draws)) :: (.tok 122 10 [(sv v1262)]) :: (.tok 151 4 [(sv v1153)]) :: (.tok 151 4 [(sv v732)]) :: G = G' ∧ M_linear_meetings_J4 p0 l1263 x730 i1006 x1149 i1265 x1320 x1142 p2 p1 k1011 k1271 t1333 = some y0) ?_ ?_
            · skip
              refine Cw_region ?_
              refine Ow_q rfl rfl rfl (Qt_fieldAddr (m := 1) rfl rfl rfl rfl rfl) ?_
              refine Ow_q rfl rfl rfl (Qt_fieldAddr (m := 1) rfl rfl rfl rfl rfl) ?_
              refine Ow_q rfl rfl rfl (Qt_load1 (v := (.bool x1142.case_.send)) rfl rfl rfl (Rdc.blk (.tail _ (.head _)) rfl)) ?_
              refine Ow_q rfl rfl rfl (Qt_not rfl) ?_
              refine Ow_q rfl rfl rfl (Qt_move rfl) ?_
              refine Ow_caseG rfl rfl rfl ?_ ?_
              · intro h1334
                have h1334 := nt_t (h1334)
                have H := iff_ (btf h1334) H
                refine Ow_pass rfl rfl rfl rfl rfl rfl rfl ?_
                refine Ow_pass rfl rfl rfl rfl rfl rfl rfl ?_
                refine Ow_pass rfl rfl rfl rfl rfl rfl rfl ?_
                refine Ow_q rfl rfl rfl (Qt_pick_t rfl rfl) ?_
                refine Ow_q rfl rfl rfl (Qt_move rfl) ?_
                refine Ow_pass rfl rfl rfl rfl rfl rfl rfl ?_
                refine Ow_pass rfl rfl rfl rfl rfl rfl rfl ?_
                refine Ow_pass rfl rfl rfl rfl rfl rfl rfl ?_
                refine Ow_pass rfl rfl rfl rfl rfl rfl rfl ?_
                refine Ow_pass rfl rfl rfl rfl rfl rfl rfl ?_
                refine Ow_pass rfl rfl rfl rfl rfl rfl rfl ?_
                refine Ow_pass rfl rfl rfl rfl rfl rfl rfl ?_
                refine Ow_q rfl rfl rfl (Qt_pick_t rfl rfl) ?_
                refine Ow_nil ?_
                refine Shift.pull (.there (.there (.there (.there (.there (.there .here)))))) ?_
                refine Shift.pull (.there (.there (.there (.there (.there (.there .here)))))) ?_
                refine Shift.pull (.there (.there (.there (.there (.there (.there .here)))))) ?_
                refine Shift.pull (.there (.there (.there (.there (.there (.there .here)))))) ?_
                refine Shift.pull (.there (.there (.there (.there (.there (.there .here)))))) ?_
                refine Shift.pull (.there (.there (.there (.there (.there (.there .here)))))) ?_
                refine Shift.pull (.there (.there (.there (.there (.there (.there .here)))))) ?_
                refine Shift.done ?_
                exact ⟨[(0, (sv vp0)), (4, (.pointer (some ((⟨b448, 0, none⟩ : Addr).add 0)))), (5, (.pointer (some ((⟨b449, 0, none⟩ : Addr).add 0)))), (7, (sv v1262)), (9, (.pointer (some ((⟨b1148, 0, none⟩ : Addr).add 0)))), (11, (.pointer (some ((⟨b1326, 0, none⟩ : Addr).add 0)))), (16, (sv v732)), (17, (.int .i64 (x730.length : Int))), (18, (.int .i64 i1006)), (24, (sv v1153)), (25, (.int .i64 (x1149.length : Int))), (26, (.int .i64 i1265)), (47, (.bool true))], ⟨rfl, rfl, rfl, rfl, rfl, rfl, rfl, rfl, rfl, rfl, rfl, rfl, rfl, trivial⟩, true, rfl, rfl, rfl, H⟩
              · intro h1334
                have h1334 := nt_f (h1334)
                have H := ift h1334 H
                refine Ow_qw rfl rfl rfl rfl rfl rfl (Qt_fieldAddr (m := 1) rfl rfl rfl rfl rfl) ?_
                refine Ow_qw rfl rfl rfl rfl rfl rfl (Qt_fieldAddr (m := 1) rfl rfl rfl rfl rfl) ?_
                refine Ow_qw rfl rfl rfl rfl rfl rfl (Qt_load1 (v := (.bool x1320.case_.send)) rfl rfl rfl (Rdc.blk (.head _) rfl)) ?_
                refine Ow_q rfl rfl rfl (Qt_pick_f rfl rfl) ?_
                refine Ow_q rfl rfl rfl (Qt_move rfl) ?_
                refine Ow_caseG rfl rfl rfl ?_ ?_
                · intro h1335
                  have H := ift h1335 H
                  refine Ow_pass rfl rfl rfl rfl rfl rfl rfl ?_
                  refine Ow_pass rfl rfl rfl rfl rfl rfl rfl ?_
                  refine Ow_pass rfl rfl rfl rfl rfl rfl rfl ?_
                  refine Ow_pass rfl rfl rfl rfl rfl rfl rfl ?_
                  refine Ow_pass rfl rfl rfl rfl rfl rfl rfl ?_
                  refine Ow_pass rfl rfl rfl rfl rfl rfl rfl ?_
                  refine Ow_pass rfl rfl rfl rfl rfl rfl rfl ?_
                  refine Ow_q rfl rfl rfl (Qt_pick_t rfl rfl) ?_
                  refine Ow_nil ?_
                  refine Shift.pull (.there (.there (.there (.there (.there (.there .here)))))) ?_
                  refine Shift.pull (.there (.there (.there (.there (.there (.there .here)))))) ?_
                  refine Shift.pull (.there (.there (.there (.there (.there (.there .here)))))) ?_
                  refine Shift.pull (.there (.there (.there (.there (.there (.there .here)))))) ?_
                  refine Shift.pull (.there (.there (.there (.there (.there (.there .here)))))) ?_
                  refine Shift.pull (.there (.there (.there (.there (.there (.there .here)))))) ?_
                  refine Shift.pull (.there (.there (.there (.there (.there (.there .here)))))) ?_
                  refine Shift.done ?_
                  exact ⟨[(0, (sv vp0)), (4, (.pointer (some ((⟨b448, 0, none⟩ : Addr).add 0)))), (5, (.pointer (some ((⟨b449, 0, none⟩ : Addr).add 0)))), (7, (sv v1262)), (9, (.pointer (some ((⟨b1148, 0, none⟩ : Addr).add 0)))), (11, (.pointer (some ((⟨b1326, 0, none⟩ : Addr).add 0)))), (16, (sv v732)), (17, (.int .i64 (x730.length : Int))), (18, (.int .i64 i1006)), (24, (sv v1153)), (25, (.int .i64 (x1149.length : Int))), (26, (.int .i64 i1265)), (47, (.bool true))], ⟨rfl, rfl, rfl, rfl, rfl, rfl, rfl, rfl, rfl, rfl, rfl, rfl, rfl, trivial⟩, true, rfl, rfl, rfl, H⟩
                · intro h1335
                  have H := iff_ (btf h1335) H
                  refine Ow_qw rfl rfl rfl rfl rfl rfl (Qt_fieldAddr (m := 1) rfl rfl rfl rfl rfl) ?_
                  refine Ow_qw rfl rfl rfl rfl rfl rfl (Qt_fieldAddr (m := 2) rfl rfl rfl rfl rfl) ?_
                  refine Ow_qw rfl rfl rfl rfl rfl rfl (Qt_load1 (v := (.int .i64 x1142.case_.channel)) rfl rfl rfl (Rdc.blk (.tail _ (.head _)) rfl)) ?_
                  refine Ow_qw rfl rfl rfl rfl rfl rfl (Qt_fieldAddr (m := 1) rfl rfl rfl rfl rfl) ?_
                  refine Ow_qw rfl rfl rfl rfl rfl rfl (Qt_fieldAddr (m := 2) rfl rfl rfl rfl rfl) ?_
                  refine Ow_qw rfl rfl rfl rfl rfl rfl (Qt_load1 (v := (.int .i64 x1320.case_.channel)) rfl rfl rfl (Rdc.blk (.head _) rfl)) ?_
                  refine Ow_qw rfl rfl rfl rfl rfl rfl (Qt_cmp rfl rfl rfl) ?_
                  refine Ow_q rfl rfl rfl (Qt_pick_f rfl rfl) ?_
                  refine Ow_nil ?_
                  refine Shift.pull (.there (.there (.there (.there (.there (.there .here)))))) ?_
                  refine Shift.pull (.there (.there (.there (.there (.there (.there .here)))))) ?_
                  refine Shift.pull (.there (.there (.there (.there (.there (.there .here)))))) ?_
                  refine Shift.pull (.there (.there (.there (.there (.there (.there .here)))))) ?_
                  refine Shift.pull (.there (.there (.there (.there (.there (.there .here)))))) ?_
                  refine Shift.pull (.there (.there (.there (.there (.there (.there .here)))))) ?_
                  refine Shift.pull (.there (.there (.there (.there (.there (.there .here)))))) ?_
                  refine Shift.done ?_
                  exact ⟨[(0, (sv vp0)), (4, (.pointer (some ((⟨b448, 0, none⟩ : Addr).add 0)))), (5, (.pointer (some ((⟨b449, 0, none⟩ : Addr).add 0)))), (7, (sv v1262)), (9, (.pointer (some ((⟨b1148, 0, none⟩ : Addr).add 0)))), (11, (.pointer (some ((⟨b1326, 0, none⟩ : Addr).add 0)))), (16, (sv v732)), (17, (.int .i64 (x730.length : Int))), (18, (.int .i64 i1006)), (24, (sv v1153)), (25, (.int .i64 (x1149.length : Int))), (26, (.int .i64 i1265)), (47, (.bool (!(dcd (x1142.case_.channel = x1320.case_.channel)))))], ⟨rfl, rfl, rfl, rfl, rfl, rfl, rfl, rfl, rfl, rfl, rfl, rfl, rfl, trivial⟩, (!(dcd (x1142.case_.channel = x1320.case_.channel))), rfl, rfl, rfl, H⟩
            rintro _ _ _ - ⟨t1333, rfl, rfl, rfl, H⟩
            unfold M_linear_meetings_J4 at H
            refine Cw_cond rfl ?_ ?_
            · intro h1336
              have H := ift h1336 H
              refine Cw_exit ?_
              refine Shift.pull (.there (.there (.there (.there (.there (.there .here)))))) ?_
              refine Shift.pull (.there (.there (.there (.there (.there (.there .here)))))) ?_
              refine Shift.pull (.there (.there (.there (.there (.there (.there .here)))))) ?_
              refine Shift.pull (.there (.there (.there (.there (.there (.there .here)))))) ?_
              refine Shift.pull (.there (.there (.there (.there (.there (.there .here)))))) ?_
              refine Shift.pull (.there (.there (.there (.there (.there (.there .here)))))) ?_
              refine Shift.rem (.there (.there (.there (.there (.there (.there .here)))))) ?_
              refine Shift.done ?_
              exact ⟨[(0, (sv vp0)), (4, (.pointer (some ((⟨b448, 0, none⟩ : Addr).add 0)))), (5, (.pointer (some ((⟨b449, 0, none⟩ : Addr).add 0)))), (7, (sv v1262)), (9, (.pointer (some ((⟨b1148, 0, none⟩ : Addr).add 0)))), (16, (sv v732)), (17, (.int .i64 (x730.length : Int))), (18, (.int .i64 i1006)), (24, (sv v1153)), (25, (.int .i64 (x1149.length : Int))), (26, (.int .i64 i1265))], ⟨rfl, rfl, rfl, rfl, rfl, rfl, rfl, rfl, rfl, rfl, rfl, trivial⟩, v1262, l1263, rfl, rfl, H, hs1264⟩
            · intro h1336
              have H := iff_ (btf h1336) H
              refine Cw_skip ?_
              refine Cw_join (fun env' K' G' => ∃ (b1343 : Nat) (b1344 : Nat), [(0, (sv vp0)), (4, (.pointer (some ((⟨b448, 0, none⟩ : Addr).add 0)))), (5, (.pointer (some ((⟨b449, 0, none⟩ : Addr).add 0)))), (7, (sv v1262)), (9, (.pointer (some ((⟨b1148, 0, none⟩ : Addr).add 0)))), (12, (.pointer (some ((⟨b1343, 0, none⟩ : Addr).add 0)))), (13, (.pointer (some ((⟨b1344, 0, none⟩ : Addr).add 0)))), (16, (sv v732)), (17, (.int .i64 (x730.length : Int))), (18, (.int .i64 i1006)), (24, (sv v1153)), (25, (.int .i64 (x1149.length : Int))), (26, (.int .i64 i1265))] = env' ∧ K1268 = K' ∧ (.blk b1344 36 (Result.cells (Result.mk 2 x1320.index x1142.case_.value true 0))) :: (.blk b1343 36 (Result.cells (Result.mk 1 x1142.index 0 false 0))) :: (.blk b1148 151 (Linear_numbered.cells x1142)) :: (.blk b449 109 (Linear_call.cells p2 vp2_op_cases vp2_op_draws)) :: (.blk b448 109 (Linear_call.cells p1 vp1_op_cases vp1_op_draws)) :: (.tok 122 10 [(sv v1262)]) :: (.tok 151 4 [(sv v1153)]) :: (.tok 151 4 [(sv v732)]) :: G = G' ∧ M_linear_meetings_J5 p0 l1263 x730 i1006 x1149 i1265 x1320 x1142 p2 p1 k1011 k1271 = some y0) ?_ ?_
              · skip
                refine Cw_region_any [.blk b1326 151 (Linear_numbered.cells x1320), .blk b1148 151 (Linear_numbered.cells x1142), .blk b449 109 (Linear_call.cells p2 vp2_op_cases vp2_op_draws), .blk b448 109 (Linear_call.cells p1 vp1_op_cases vp1_op_draws), .tok 122 10 [(sv v1262)], .tok 151 4 [(sv v1153)], .tok 151 4 [(sv v732)]] rfl (Inc.cons (.head _) (Inc.cons (.tail _ (.head _)) (Inc.cons (.tail _ (.tail _ (.head _))) (Inc.cons (.tail _ (.tail _ (.tail _ (.head _)))) (Inc.cons (.tail _ (.tail _ (.tail _ (.tail _ (.head _))))) (Inc.cons (.tail _ (.tail _ (.tail _ (.tail _ (.tail _ (.head _)))))) (Inc.cons (.tail _ (.tail _ (.tail _ (.tail _ (.tail _ (.tail _ (.head _))))))) Inc.nil))))))) ?_
                refine Aw_q 0 rfl (by kernel_rfl) (by kernel_rfl) (by kernel_rfl) rfl rfl rfl (Qt_fieldAddr (m := 0) rfl rfl rfl rfl rfl) ?_
                refine Aw_q 1 rfl (by kernel_rfl) (by kernel_rfl) (by kernel_rfl) rfl rfl rfl (Qt_load1 (v := (.int .i64 x1142.index)) rfl rfl rfl (Rdc.blk (.tail _ (.head _)) rfl)) ?_
                refine Aw_q 2 rfl (by kernel_rfl) (by kernel_rfl) (by kernel_rfl) rfl rfl rfl (Qt_build (cs := (Result.cells (Result.mk 1 x1142.index 0 false 0))) rfl rfl rfl rfl rfl rfl) ?_
                refine Aw_q 3 rfl (by kernel_rfl) (by kernel_rfl) (by kernel_rfl) rfl rfl rfl (Qt_fieldAddr (m := 0) rfl rfl rfl rfl rfl) ?_
                refine Aw_q 4 rfl (by kernel_rfl) (by kernel_rfl) (by kernel_rfl) rfl rfl rfl (Qt_load1 (v := (.int .i64 x1320.index)) rfl rfl rfl (Rdc.blk (.head _) rfl)) ?_
                refine Aw_q 5 rfl (by kernel_rfl) (by kernel_rfl) (by kernel_rfl) rfl rfl rfl (Qt_fieldAddr (m := 1) rfl rfl rfl rfl rfl) ?_
                refine Aw_q 6 rfl (by kernel_rfl) (by kernel_rfl) (by kernel_rfl) rfl rfl rfl (Qt_fieldAddr (m := 3) rfl rfl rfl rfl rfl) ?_
                refine Aw_q 7 rfl (by kernel_rfl) (by kernel_rfl) (by kernel_rfl) rfl rfl rfl (Qt_load1 (v := (.int .u64 x1142.case_.value)) rfl rfl rfl (Rdc.blk (.tail _ (.head _)) rfl)) ?_
                refine Aw_q 8 rfl (by kernel_rfl) (by kernel_rfl) (by kernel_rfl) rfl rfl rfl (Qt_build (cs := (Result.cells (Result.mk 2 x1320.index x1142.case_.value true 0))) rfl rfl rfl rfl rfl rfl) ?_
                refine Aw_two 9 10 (by kernel_rfl) ?_ ?_
                · skip
                  refine id (Ax_mk rfl rfl ?_)
                  refine OpW_alloc (cs := (Result.cells (Result.mk 0 0 0 false 0))) rfl rfl rfl rfl (fun b1347 => ⟨(Inc.cons (.tail _ (.head _)) (Inc.cons (.tail _ (.tail _ (.head _))) (Inc.cons (.tail _ (.tail _ (.tail _ (.head _)))) (Inc.cons (.tail _ (.tail _ (.tail _ (.tail _ (.head _))))) (Inc.cons (.tail _ (.tail _ (.tail _ (.tail _ (.tail _ (.head _)))))) (Inc.cons (.tail _ (.tail _ (.tail _ (.tail _ (.tail _ (.tail _ (.head _))))))) (Inc.cons (.tail _ (.tail _ (.tail _ (.tail _ (.tail _ (.tail _ (.tail _ (.head _)))))))) Inc.nil))))))), ?_⟩)
                  refine Aw_one 10 (by kernel_rfl) (Ax_mk rfl rfl ?_)
                  refine OpW_alloc (cs := (Result.cells (Result.mk 0 0 0 false 0))) rfl rfl rfl rfl (fun b1348 => ⟨(Inc.cons (.tail _ (.tail _ (.head _))) (Inc.cons (.tail _ (.tail _ (.tail _ (.head _)))) (Inc.cons (.tail _ (.tail _ (.tail _ (.tail _ (.head _))))) (Inc.cons (.tail _ (.tail _ (.tail _ (.tail _ (.tail _ (.head _)))))) (Inc.cons (.tail _ (.tail _ (.tail _ (.tail _ (.tail _ (.tail _ (.head _))))))) (Inc.cons (.tail _ (.tail _ (.tail _ (.tail _ (.tail _ (.tail _ (.tail _ (.head _)))))))) (Inc.cons (.tail _ (.tail _ (.tail _ (.tail _ (.tail _ (.tail _ (.tail _ (.tail _ (.head _))))))))) Inc.nil))))))), ?_⟩)
                  refine Aw_one 11 (by kernel_rfl) (Ax_mk rfl rfl ?_)
                  refine OpW_store (vs := (Result.cells (Result.mk 1 x1142.index 0 false 0))) (all' := (Result.cells (Result.mk 1 x1142.index 0 false 0))) rfl rfl rfl rfl rfl (.there .here) rfl rfl rfl ⟨(Inc.cons (.tail _ (.tail _ (.head _))) (Inc.cons (.tail _ (.tail _ (.tail _ (.head _)))) (Inc.cons (.tail _ (.tail _ (.tail _ (.tail _ (.head _))))) (Inc.cons (.tail _ (.tail _ (.tail _ (.tail _ (.tail _ (.head _)))))) (Inc.cons (.tail _ (.tail _ (.tail _ (.tail _ (.tail _ (.tail _ (.head _))))))) (Inc.cons (.tail _ (.tail _ (.tail _ (.tail _ (.tail _ (.tail _ (.tail _ (.head _)))))))) (Inc.cons (.tail _ (.tail _ (.tail _ (.tail _ (.tail _ (.tail _ (.tail _ (.tail _ (.head _))))))))) Inc.nil))))))), ?_⟩
                  refine Aw_one 12 (by kernel_rfl) (Ax_mk rfl rfl ?_)
                  refine OpW_store (vs := (Result.cells (Result.mk 2 x1320.index x1142.case_.value true 0))) (all' := (Result.cells (Result.mk 2 x1320.index x1142.case_.value true 0))) rfl rfl rfl rfl rfl .here rfl rfl rfl ⟨(Inc.cons (.tail _ (.tail _ (.head _))) (Inc.cons (.tail _ (.tail _ (.tail _ (.head _)))) (Inc.cons (.tail _ (.tail _ (.tail _ (.tail _ (.head _))))) (Inc.cons (.tail _ (.tail _ (.tail _ (.tail _ (.tail _ (.head _)))))) (Inc.cons (.tail _ (.tail _ (.tail _ (.tail _ (.tail _ (.tail _ (.head _))))))) (Inc.cons (.tail _ (.tail _ (.tail _ (.tail _ (.tail _ (.tail _ (.tail _ (.head _)))))))) (Inc.cons (.tail _ (.tail _ (.tail _ (.tail _ (.tail _ (.tail _ (.tail _ (.tail _ (.head _))))))))) Inc.nil))))))), ?_⟩
                  refine Aw_done (by kernel_rfl) ?_
                  refine Shift.pull (.there (.there (.there (.there (.there (.there (.there (.there .here)))))))) ?_
                  refine Shift.pull (.there (.there (.there (.there (.there (.there (.there (.there .here)))))))) ?_
                  refine Shift.pull (.there (.there (.there (.there (.there (.there (.there (.there .here)))))))) ?_
                  refine Shift.pull (.there (.there (.there (.there (.there (.there (.there (.there .here)))))))) ?_
                  refine Shift.pull (.there (.there (.there (.there (.there (.there (.there (.there .here)))))))) ?_
                  refine Shift.pull (.there (.there (.there (.there (.there (.there (.there (.there .here)))))))) ?_
                  refine Shift.pull (.there (.there (.there (.there (.there (.there (.there .here))))))) ?_
                  refine Shift.pull (.there (.there (.there (.there (.there (.there (.there .here))))))) ?_
                  refine Shift.rem (.there (.there (.there (.there (.there (.there (.there (.there .here)))))))) ?_
                  refine Shift.done ?_
                  exact ⟨[(0, (sv vp0)), (4, (.pointer (some ((⟨b448, 0, none⟩ : Addr).add 0)))), (5, (.pointer (some ((⟨b449, 0, none⟩ : Addr).add 0)))), (7, (sv v1262)), (9, (.pointer (some ((⟨b1148, 0, none⟩ : Addr).add 0)))), (12, (.pointer (some ((⟨b1347, 0, none⟩ : Addr).add 0)))), (13, (.pointer (some ((⟨b1348, 0, none⟩ : Addr).add 0)))), (16, (sv v732)), (17, (.int .i64 (x730.length : Int))), (18, (.int .i64 i1006)), (24, (sv v1153)), (25, (.int .i64 (x1149.length : Int))), (26, (.int .i64 i1265))], ⟨rfl, rfl, rfl, rfl, rfl, rfl, rfl, rfl, rfl, rfl, rfl, rfl, rfl, trivial⟩, b1347, b1348, rfl, rfl, rfl, H⟩
                · skip
                  refine id (Ax_mk rfl rfl ?_)
                  refine OpW_alloc (cs := (Result.cells (Result.mk 0 0 0 false 0))) rfl rfl rfl rfl (fun b1349 => ⟨(Inc.cons (.tail _ (.head _)) (Inc.cons (.tail _ (.tail _ (.head _))) (Inc.cons (.tail _ (.tail _ (.tail _ (.head _)))) (Inc.cons (.tail _ (.tail _ (.tail _ (.tail _ (.head _))))) (Inc.cons (.tail _ (.tail _ (.tail _ (.tail _ (.tail _ (.head _)))))) (Inc.cons (.tail _ (.tail _ (.tail _ (.tail _ (.tail _ (.tail _ (.head _))))))) (Inc.cons (.tail _ (.tail _ (.tail _ (.tail _ (.tail _ (.tail _ (.tail _ (.head _)))))))) Inc.nil))))))), ?_⟩)
                  refine Aw_one 9 (by kernel_rfl) (Ax_mk rfl rfl ?_)
                  refine OpW_alloc (cs := (Result.cells (Result.mk 0 0 0 false 0))) rfl rfl rfl rfl (fun b1350 => ⟨(Inc.cons (.tail _ (.tail _ (.head _))) (Inc.cons (.tail _ (.tail _ (.tail _ (.head _)))) (Inc.cons (.tail _ (.tail _ (.tail _ (.tail _ (.head _))))) (Inc.cons (.tail _ (.tail _ (.tail _ (.tail _ (.tail _ (.head _)))))) (Inc.cons (.tail _ (.tail _ (.tail _ (.tail _ (.tail _ (.tail _ (.head _))))))) (Inc.cons (.tail _ (.tail _ (.tail _ (.tail _ (.tail _ (.tail _ (.tail _ (.head _)))))))) (Inc.cons (.tail _ (.tail _ (.tail _ (.tail _ (.tail _ (.tail _ (.tail _ (.tail _ (.head _))))))))) Inc.nil))))))), ?_⟩)
                  refine Aw_one 11 (by kernel_rfl) (Ax_mk rfl rfl ?_)
                  refine OpW_store (vs := (Result.cells (Result.mk 1 x1142.index 0 false 0))) (all' := (Result.cells (Result.mk 1 x1142.index 0 false 0))) rfl rfl rfl rfl rfl .here rfl rfl rfl ⟨(Inc.cons (.tail _ (.tail _ (.head _))) (Inc.cons (.tail _ (.tail _ (.tail _ (.head _)))) (Inc.cons (.tail _ (.tail _ (.tail _ (.tail _ (.head _))))) (Inc.cons (.tail _ (.tail _ (.tail _ (.tail _ (.tail _ (.head _)))))) (Inc.cons (.tail _ (.tail _ (.tail _ (.tail _ (.tail _ (.tail _ (.head _))))))) (Inc.cons (.tail _ (.tail _ (.tail _ (.tail _ (.tail _ (.tail _ (.tail _ (.head _)))))))) (Inc.cons (.tail _ (.tail _ (.tail _ (.tail _ (.tail _ (.tail _ (.tail _ (.tail _ (.head _))))))))) Inc.nil))))))), ?_⟩
                  refine Aw_one 12 (by kernel_rfl) (Ax_mk rfl rfl ?_)
                  refine OpW_store (vs := (Result.cells (Result.mk 2 x1320.index x1142.case_.value true 0))) (all' := (Result.cells (Result.mk 2 x1320.index x1142.case_.value true 0))) rfl rfl rfl rfl rfl (.there .here) rfl rfl rfl ⟨(Inc.cons (.tail _ (.tail _ (.head _))) (Inc.cons (.tail _ (.tail _ (.tail _ (.head _)))) (Inc.cons (.tail _ (.tail _ (.tail _ (.tail _ (.head _))))) (Inc.cons (.tail _ (.tail _ (.tail _ (.tail _ (.tail _ (.head _)))))) (Inc.cons (.tail _ (.tail _ (.tail _ (.tail _ (.tail _ (.tail _ (.head _))))))) (Inc.cons (.tail _ (.tail _ (.tail _ (.tail _ (.tail _ (.tail _ (.tail _ (.head _)))))))) (Inc.cons (.tail _ (.tail _ (.tail _ (.tail _ (.tail _ (.tail _ (.tail _ (.tail _ (.head _))))))))) Inc.nil))))))), ?_⟩
                  refine Aw_done (by kernel_rfl) ?_
                  refine Shift.pull (.there (.there (.there (.there (.there (.there (.there (.there .here)))))))) ?_
                  refine Shift.pull (.there (.there (.there (.there (.there (.there (.there (.there .here)))))))) ?_
                  refine Shift.pull (.there (.there (.there (.there (.there (.there (.there (.there .here)))))))) ?_
                  refine Shift.pull (.there (.there (.there (.there (.there (.there (.there (.there .here)))))))) ?_
                  refine Shift.pull (.there (.there (.there (.there (.there (.there (.there (.there .here)))))))) ?_
                  refine Shift.pull (.there (.there (.there (.there (.there (.there (.there (.there .here)))))))) ?_
                  refine Shift.pull (.there (.there (.there (.there (.there (.there .here)))))) ?_
                  refine Shift.pull (.there (.there (.there (.there (.there (.there (.there .here))))))) ?_
                  refine Shift.rem (.there (.there (.there (.there (.there (.there (.there (.there .here)))))))) ?_
                  refine Shift.done ?_
                  exact ⟨[(0, (sv vp0)), (4, (.pointer (some ((⟨b448, 0, none⟩ : Addr).add 0)))), (5, (.pointer (some ((⟨b449, 0, none⟩ : Addr).add 0)))), (7, (sv v1262)), (9, (.pointer (some ((⟨b1148, 0, none⟩ : Addr).add 0)))), (12, (.pointer (some ((⟨b1350, 0, none⟩ : Addr).add 0)))), (13, (.pointer (some ((⟨b1349, 0, none⟩ : Addr).add 0)))), (16, (sv v732)), (17, (.int .i64 (x730.length : Int))), (18, (.int .i64 i1006)), (24, (sv v1153)), (25, (.int .i64 (x1149.length : Int))), (26, (.int .i64 i1265))], ⟨rfl, rfl, rfl, rfl, rfl, rfl, rfl, rfl, rfl, rfl, rfl, rfl, rfl, trivial⟩, b1350, b1349, rfl, rfl, rfl, H⟩
              rintro _ _ _ - ⟨b1343, b1344, rfl, rfl, rfl, H⟩
              unfold M_linear_meetings_J5 at H
              refine Cw_join (fun env' K' G' => ∃ (t1364 : Bool), [(0, (sv vp0)), (4, (.pointer (some ((⟨b448, 0, none⟩ : Addr).add 0)))), (5, (.pointer (some ((⟨b449, 0, none⟩ : Addr).add 0)))), (7, (sv v1262)), (9, (.pointer (some ((⟨b1148, 0, none⟩ : Addr).add 0)))), (12, (.pointer (some ((⟨b1343, 0, none⟩ : Addr).add 0)))), (13, (.pointer (some ((⟨b1344, 0, none⟩ : Addr).add 0)))), (16, (sv v732)), (17, (.int .i64 (x730.length : Int))), (18, (.int .i64 i1006)), (24, (sv v1153)), (25, (.int .i64 (x1149.length : Int))), (26, (.int .i64 i1265)), (74, (.bool t1364))] = env' ∧ K1268 = K' ∧ (.blk b1344 36 (Result.cells (Result.mk 2 x1320.index x1142.case_.value true 0))) :: (.blk b1343 36 (Result.cells (Result.mk 1 x1142.index 0 false 0))) :: (.blk b1148 151 (Linear_numbered.cells x1142)) :: (.blk b449 109 (Linear_call.cells p2 vp2_op_cases vp2_op_draws)) :: (.blk b448 109 (Linear_call.cells p1 vp1_op_cases vp1_op_draws)) :: (.tok 122 10 [(sv v1262)]) :: (.tok 151 4 [(sv v1153)]) :: (.tok 151 4 [(sv v732)]) :: G = G' ∧ M_linear_meetings_J6 p0 l1263 x730 i1006 x1149 i1265 x1320 x1142 p2 p1 k1011 k1271 t1364 = some y0) ?_ ?_
              · skip
                refine Cw_region ?_
                refine Ow_q rfl rfl rfl (Qt_loadA (m := 14) (cs := (Linear_call.cells p1 vp1_op_cases vp1_op_draws)) rfl rfl rfl rfl ⟨rfl, Rdc.blk (.tail _ (.tail _ (.tail _ (.tail _ (.head _))))) rfl⟩) ?_
                refine Ow_q rfl rfl rfl (Qt_loadA (m := 5) (cs := (Result.cells (Result.mk 1 x1142.index 0 false 0))) rfl rfl rfl rfl ⟨rfl, Rdc.blk (.tail _ (.head _)) rfl⟩) ?_
                obtain ⟨x1365, hx1366, H⟩ := bnd H
                have hs1367 := ((((hp1_op_cases).mono hK734).mono hK1009).mono hK1155).mono hK1269
                have hs1368 := ((((hp1_op_draws).mono hK734).mono hK1009).mono hK1155).mono hK1269
                refine Ow_cons rfl (OpW_call rfl Tryd.call86 rfl rfl (c_M_linear_call_fits p1 vp1_op_cases vp1_op_draws (Result.mk 1 x1142.index 0 false 0) x1365 hx1366 _ _ hs1367 hs1368) ?_)
                rintro _ _ _ - ⟨rfl, rfl, rfl⟩
                refine Ow_q rfl rfl rfl (Qt_move rfl) ?_
                refine Ow_caseG rfl rfl rfl ?_ ?_
                · intro h1369
                  have H := ift h1369 H
                  refine Ow_qw rfl rfl rfl rfl rfl rfl (Qt_loadA (m := 14) (cs := (Linear_call.cells p2 vp2_op_cases vp2_op_draws)) rfl rfl rfl rfl ⟨rfl, Rdc.blk (.tail _ (.tail _ (.tail _ (.head _)))) rfl⟩) ?_
                  refine Ow_qw rfl rfl rfl rfl rfl rfl (Qt_loadA (m := 5) (cs := (Result.cells (Result.mk 2 x1320.index x1142.case_.value true 0))) rfl rfl rfl rfl ⟨rfl, Rdc.blk (.head _) rfl⟩) ?_
                  obtain ⟨x1370, hx1371, H⟩ := bnd H
                  have hs1372 := ((hs1151).mono hK1155).mono hK1269
                  have hs1373 := ((hs1152).mono hK1155).mono hK1269
                  refine Ow_want rfl rfl rfl rfl (OpW_call rfl Tryd.call86 rfl rfl (c_M_linear_call_fits p2 vp2_op_cases vp2_op_draws (Result.mk 2 x1320.index x1142.case_.value true 0) x1370 hx1371 _ _ hs1372 hs1373) ?_)
                  rintro _ _ _ - ⟨rfl, rfl, rfl⟩
                  refine Ow_q rfl rfl rfl (Qt_pick_t rfl rfl) ?_
                  refine Ow_q rfl rfl rfl (Qt_move rfl) ?_
                  refine Ow_caseG rfl rfl rfl ?_ ?_
                  · intro h1374
                    have H := ift h1374 H
                    refine Ow_qw rfl rfl rfl rfl rfl rfl (Qt_move rfl) ?_
                    refine Ow_qw rfl rfl rfl rfl rfl rfl (Qt_fieldAddr (m := 0) rfl rfl rfl rfl rfl) ?_
                    refine Ow_qw rfl rfl rfl rfl rfl rfl (Qt_loadA (m := 7) (cs := (Op.cells p1.op vp1_op_cases vp1_op_draws)) rfl rfl rfl rfl ⟨rfl, Rdc.blk (.tail _ (.tail _ (.tail _ (.tail _ (.head _))))) rfl⟩) ?_
                    refine Ow_qw rfl rfl rfl rfl rfl rfl (Qt_loadA (m := 5) (cs := (Result.cells (Result.mk 1 x1142.index 0 false 0))) rfl rfl rfl rfl ⟨rfl, Rdc.blk (.tail _ (.head _)) rfl⟩) ?_
                    refine Ow_qw rfl rfl rfl rfl rfl rfl (Qt_fieldAddr (m := 0) rfl rfl rfl rfl rfl) ?_
                    refine Ow_qw rfl rfl rfl rfl rfl rfl (Qt_loadA (m := 7) (cs := (Op.cells p2.op vp2_op_cases vp2_op_draws)) rfl rfl rfl rfl ⟨rfl, Rdc.blk (.tail _ (.tail _ (.tail _ (.head _)))) rfl⟩) ?_
                    refine Ow_qw rfl rfl rfl rfl rfl rfl (Qt_loadA (m := 5) (cs := (Result.cells (Result.mk 2 x1320.index x1142.case_.value true 0))) rfl rfl rfl rfl ⟨rfl, Rdc.blk (.head _) rfl⟩) ?_
                    obtain ⟨x1375, hx1376, H⟩ := bnd H
                    have hs1377 := ((((hp0).mono hK734).mono hK1009).mono hK1155).mono hK1269
                    refine Ow_want rfl rfl rfl rfl (OpW_call rfl Tryd.call24 rfl rfl (c_M_model_Pair p0 vp0 p1.op vp1_op_cases vp1_op_draws (Result.mk 1 x1142.index 0 false 0) p2.op vp2_op_cases vp2_op_draws (Result.mk 2 x1320.index x1142.case_.value true 0) x1375 hx1376 _ _ hs1377 hs1367 hs1368 hs1372 hs1373) ?_)
                    rintro _ _ _ - ⟨rfl, rfl, rfl⟩
                    refine Ow_q rfl rfl rfl (Qt_pick_t rfl rfl) ?_
                    refine Ow_nil ?_
                    refine Shift.pull (.there (.there (.there (.there (.there (.there (.there .here))))))) ?_
                    refine Shift.pull (.there (.there (.there (.there (.there (.there (.there .here))))))) ?_
                    refine Shift.pull (.there (.there (.there (.there (.there (.there (.there .here))))))) ?_
                    refine Shift.pull (.there (.there (.there (.there (.there (.there (.there .here))))))) ?_
                    refine Shift.pull (.there (.there (.there (.there (.there (.there (.there .here))))))) ?_
                    refine Shift.pull (.there (.there (.there (.there (.there (.there (.there .here))))))) ?_
                    refine Shift.pull (.there (.there (.there (.there (.there (.there (.there .here))))))) ?_
                    refine Shift.pull (.there (.there (.there (.there (.there (.there (.there .here))))))) ?_
                    refine Shift.done ?_
                    exact ⟨[(0, (sv vp0)), (4, (.pointer (some ((⟨b448, 0, none⟩ : Addr).add 0)))), (5, (.pointer (some ((⟨b449, 0, none⟩ : Addr).add 0)))), (7, (sv v1262)), (9, (.pointer (some ((⟨b1148, 0, none⟩ : Addr).add 0)))), (12, (.pointer (some ((⟨b1343, 0, none⟩ : Addr).add 0)))), (13, (.pointer (some ((⟨b1344, 0, none⟩ : Addr).add 0)))), (16, (sv v732)), (17, (.int .i64 (x730.length : Int))), (18, (.int .i64 i1006)), (24, (sv v1153)), (25, (.int .i64 (x1149.length : Int))), (26, (.int .i64 i1265)), (74, (.bool x1375))], ⟨rfl, rfl, rfl, rfl, rfl, rfl, rfl, rfl, rfl, rfl, rfl, rfl, rfl, rfl, trivial⟩, x1375, rfl, rfl, rfl, H⟩
                  · intro h1374
                    have H := iff_ (btf h1374) H
                    refine Ow_pass rfl rfl rfl rfl rfl rfl rfl ?_
                    refine Ow_pass rfl rfl rfl rfl rfl rfl rfl ?_
                    refine Ow_pass rfl rfl rfl rfl rfl rfl rfl ?_
                    refine Ow_pass rfl rfl rfl rfl rfl rfl rfl ?_
                    refine Ow_pass rfl rfl rfl rfl rfl rfl rfl ?_
                    refine Ow_pass rfl rfl rfl rfl rfl rfl rfl ?_
                    refine Ow_pass rfl rfl rfl rfl rfl rfl rfl ?_
                    refine Ow_pass rfl rfl rfl rfl rfl rfl rfl ?_
                    refine Ow_q rfl rfl rfl (Qt_pick_f rfl rfl) ?_
                    refine Ow_nil ?_
                    refine Shift.pull (.there (.there (.there (.there (.there (.there (.there .here))))))) ?_
                    refine Shift.pull (.there (.there (.there (.there (.there (.there (.there .here))))))) ?_
                    refine Shift.pull (.there (.there (.there (.there (.there (.there (.there .here))))))) ?_
                    refine Shift.pull (.there (.there (.there (.there (.there (.there (.there .here))))))) ?_
                    refine Shift.pull (.there (.there (.there (.there (.there (.there (.there .here))))))) ?_
                    refine Shift.pull (.there (.there (.there (.there (.there (.there (.there .here))))))) ?_
                    refine Shift.pull (.there (.there (.there (.there (.there (.there (.there .here))))))) ?_
                    refine Shift.pull (.there (.there (.there (.there (.there (.there (.there .here))))))) ?_
                    refine Shift.done ?_
                    exact ⟨[(0, (sv vp0)), (4, (.pointer (some ((⟨b448, 0, none⟩ : Addr).add 0)))), (5, (.pointer (some ((⟨b449, 0, none⟩ : Addr).add 0)))), (7, (sv v1262)), (9, (.pointer (some ((⟨b1148, 0, none⟩ : Addr).add 0)))), (12, (.pointer (some ((⟨b1343, 0, none⟩ : Addr).add 0)))), (13, (.pointer (some ((⟨b1344, 0, none⟩ : Addr).add 0)))), (16, (sv v732)), (17, (.int .i64 (x730.length : Int))), (18, (.int .i64 i1006)), (24, (sv v1153)), (25, (.int .i64 (x1149.length : Int))), (26, (.int .i64 i1265)), (74, (.bool false))], ⟨rfl, rfl, rfl, rfl, rfl, rfl, rfl, rfl, rfl, rfl, rfl, rfl, rfl, rfl, trivial⟩, false, rfl, rfl, rfl, H⟩
                · intro h1369
                  have H := iff_ (btf h1369) H
                  refine Ow_pass rfl rfl rfl rfl rfl rfl rfl ?_
                  refine Ow_pass rfl rfl rfl rfl rfl rfl rfl ?_
                  refine Ow_pass rfl rfl rfl rfl rfl rfl rfl ?_
                  refine Ow_q rfl rfl rfl (Qt_pick_f rfl rfl) ?_
                  refine Ow_q rfl rfl rfl (Qt_move rfl) ?_
                  refine Ow_pass rfl rfl rfl rfl rfl rfl rfl ?_
                  refine Ow_pass rfl rfl rfl rfl rfl rfl rfl ?_
                  refine Ow_pass rfl rfl rfl rfl rfl rfl rfl ?_
                  refine Ow_pass rfl rfl rfl rfl rfl rfl rfl ?_
                  refine Ow_pass rfl rfl rfl rfl rfl rfl rfl ?_
                  refine Ow_pass rfl rfl rfl rfl rfl rfl rfl ?_
                  refine Ow_pass rfl rfl rfl rfl rfl rfl rfl ?_
                  refine Ow_pass rfl rfl rfl rfl rfl rfl rfl ?_
                  refine Ow_q rfl rfl rfl (Qt_pick_f rfl rfl) ?_
                  refine Ow_nil ?_
                  refine Shift.pull (.there (.there (.there (.there (.there (.there (.there .here))))))) ?_
                  refine Shift.pull (.there (.there (.there (.there (.there (.there (.there .here))))))) ?_
                  refine Shift.pull (.there (.there (.there (.there (.there (.there (.there .here))))))) ?_
                  refine Shift.pull (.there (.there (.there (.there (.there (.there (.there .here))))))) ?_
                  refine Shift.pull (.there (.there (.there (.there (.there (.there (.there .here))))))) ?_
                  refine Shift.pull (.there (.there (.there (.there (.there (.there (.there .here))))))) ?_
                  refine Shift.pull (.there (.there (.there (.there (.there (.there (.there .here))))))) ?_
                  refine Shift.pull (.there (.there (.there (.there (.there (.there (.there .here))))))) ?_
                  refine Shift.done ?_
                  exact ⟨[(0, (sv vp0)), (4, (.pointer (some ((⟨b448, 0, none⟩ : Addr).add 0)))), (5, (.pointer (some ((⟨b449, 0, none⟩ : Addr).add 0)))), (7, (sv v1262)), (9, (.pointer (some ((⟨b1148, 0, none⟩ : Addr).add 0)))), (12, (.pointer (some ((⟨b1343, 0, none⟩ : Addr).add 0)))), (13, (.pointer (some ((⟨b1344, 0, none⟩ : Addr).add 0)))), (16, (sv v732)), (17, (.int .i64 (x730.length : Int))), (18, (.int .i64 i1006)), (24, (sv v1153)), (25, (.int .i64 (x1149.length : Int))), (26, (.int .i64 i1265)), (74, (.bool false))], ⟨rfl, rfl, rfl, rfl, rfl, rfl, rfl, rfl, rfl, rfl, rfl, rfl, rfl, rfl, trivial⟩, false, rfl, rfl, rfl, H⟩
              rintro _ _ _ - ⟨t1364, rfl, rfl, rfl, H⟩
              unfold M_linear_meetings_J6 at H
              refine Cw_cond rfl ?_ ?_
              · intro h1378
                have H := ift h1378 H
                refine Cw_region ?_
                refine Ow_q rfl rfl rfl (Qt_move rfl) ?_
                refine Ow_q rfl rfl rfl (Qt_loadA (m := 5) (cs := (Result.cells (Result.mk 1 x1142.index 0 false 0))) rfl rfl rfl rfl ⟨rfl, Rdc.blk (.tail _ (.head _)) rfl⟩) ?_
                refine Ow_q rfl rfl rfl (Qt_loadA (m := 5) (cs := (Result.cells (Result.mk 2 x1320.index x1142.case_.value true 0))) rfl rfl rfl rfl ⟨rfl, Rdc.blk (.head _) rfl⟩) ?_
                refine Ow_q rfl rfl rfl (Qt_buildArr (cs := (A2Result.cells (A2Result.mk (Result.mk 1 x1142.index 0 false 0) (Result.mk 2 x1320.index x1142.case_.value true 0)))) rfl rfl rfl rfl rfl rfl) ?_
                have hR1380 : RowR TyA2Result K1268 [(A2Result.cells (A2Result.mk (Result.mk 1 x1142.index 0 false 0) (Result.mk 2 x1320.index x1142.case_.value true 0)))] [(A2Result.mk (Result.mk 1 x1142.index 0 false 0) (Result.mk 2 x1320.index x1142.case_.value true 0))] := RowR.cons rfl (RowR.nil)
                refine Ow_cons rfl (O_lit (T := TyA2Result) (rows := [(A2Result.cells (A2Result.mk (Result.mk 1 x1142.index 0 false 0) (Result.mk 2 x1320.index x1142.case_.value true 0)))]) (l := [(A2Result.mk (Result.mk 1 x1142.index 0 false 0) (Result.mk 2 x1320.index x1142.case_.value true 0))]) rfl rfl rfl hR1380 rfl rfl rfl rfl rfl rfl rfl rfl (fun v1379 => ?_))
                obtain ⟨x1381, hx1382, H⟩ := bnd H
                refine Ow_cons rfl (O_appTok (T := TyA2Result) (bytes := 80) (q := 0) rfl rfl rfl hs1264 (.tail _ (.tail _ (.tail _ (.tail _ (.tail _ (.tail _ (.head _))))))) rfl (SrcT.row (.head _) hR1380 rfl) hx1382 rfl rfl rfl rfl rfl rfl rfl rfl (fun v1383 K1384 hK1385 hs1386 => ⟨_, (.there (.there (.there (.there (.there (.there .here)))))), ?_⟩))
                refine Ow.shift (Shift.rem .here (Shift.done ?_))
                refine Ow_q rfl rfl rfl (Qt_assign rfl) ?_
                refine Ow_nil ?_
                refine Shift.pull (.there (.there (.there (.there (.there (.there (.there .here))))))) ?_
                refine Shift.pull (.there (.there (.there (.there (.there (.there (.there .here))))))) ?_
                refine Shift.pull (.there (.there (.there (.there (.there (.there (.there .here))))))) ?_
                refine Shift.pull (.there (.there (.there (.there (.there (.there (.there .here))))))) ?_
                refine Shift.pull (.there (.there (.there (.there (.there (.there (.there .here))))))) ?_
                refine Shift.pull (.there (.there (.there (.there (.there (.there (.there .here))))))) ?_
                refine Shift.rem (.there (.there (.there (.there (.there (.there .here)))))) ?_
                refine Shift.rem (.there (.there (.there (.there (.there (.there .here)))))) ?_
                refine Shift.done ?_
                exact ⟨[(0, (sv vp0)), (4, (.pointer (some ((⟨b448, 0, none⟩ : Addr).add 0)))), (5, (.pointer (some ((⟨b449, 0, none⟩ : Addr).add 0)))), (7, (sv v1383)), (9, (.pointer (some ((⟨b1148, 0, none⟩ : Addr).add 0)))), (16, (sv v732)), (17, (.int .i64 (x730.length : Int))), (18, (.int .i64 i1006)), (24, (sv v1153)), (25, (.int .i64 (x1149.length : Int))), (26, (.int .i64 i1265))], ⟨rfl, rfl, rfl, rfl, rfl, rfl, rfl, rfl, rfl, rfl, rfl, trivial⟩, v1383, x1381, rfl, rfl, H, hs1386⟩
              · intro h1378
                have H := iff_ (btf h1378) H
                refine Cw_skip ?_
                refine Shift.pull (.there (.there (.there (.there (.there (.there (.there .here))))))) ?_
                refine Shift.pull (.there (.there (.there (.there (.there (.there (.there .here))))))) ?_
                refine Shift.pull (.there (.there (.there (.there (.there (.there (.there .here))))))) ?_
                refine Shift.pull (.there (.there (.there (.there (.there (.there (.there .here))))))) ?_
                refine Shift.pull (.there (.there (.there (.there (.there (.there (.there .here))))))) ?_
                refine Shift.pull (.there (.there (.there (.there (.there (.there (.there .here))))))) ?_
                refine Shift.rem (.there (.there (.there (.there (.there (.there .here)))))) ?_
                refine Shift.rem (.there (.there (.there (.there (.there (.there .here)))))) ?_
                refine Shift.done ?_
                exact ⟨[(0, (sv vp0)), (4, (.pointer (some ((⟨b448, 0, none⟩ : Addr).add 0)))), (5, (.pointer (some ((⟨b449, 0, none⟩ : Addr).add 0)))), (7, (sv v1262)), (9, (.pointer (some ((⟨b1148, 0, none⟩ : Addr).add 0)))), (16, (sv v732)), (17, (.int .i64 (x730.length : Int))), (18, (.int .i64 i1006)), (24, (sv v1153)), (25, (.int .i64 (x1149.length : Int))), (26, (.int .i64 i1265))], ⟨rfl, rfl, rfl, rfl, rfl, rfl, rfl, rfl, rfl, rfl, rfl, trivial⟩, v1262, l1263, rfl, rfl, H, hs1264⟩
          rintro _ K1387 _ hK1388 ⟨v1317, l1318, rfl, rfl, H, hs1319⟩
          unfold M_linear_meetings_J3 at H
          refine Cw_region ?_
          refine Ow_q rfl rfl rfl (Qt_arith (e := wI (i1265 + 1)) rfl rfl rfl rfl) ?_
          refine Ow_q rfl rfl rfl (Qt_move rfl) ?_
          refine Ow_nil ?_
          refine Shift.pull (.there (.there (.there (.there (.there .here))))) ?_
          refine Shift.pull (.there (.there (.there (.there (.there .here))))) ?_
          refine Shift.pull (.there (.there (.there (.there (.there .here))))) ?_
          refine Shift.pull (.there (.there (.there (.there (.there .here))))) ?_
          refine Shift.pull (.there (.there (.there (.there (.there .here))))) ?_
          refine Shift.pull (.there (.there (.there (.there (.there .here))))) ?_
          refine Shift.done ?_
          exact ⟨[(0, (sv vp0)), (4, (.pointer (some ((⟨b448, 0, none⟩ : Addr).add 0)))), (5, (.pointer (some ((⟨b449, 0, none⟩ : Addr).add 0)))), (7, (sv v1317)), (9, (.pointer (some ((⟨b1148, 0, none⟩ : Addr).add 0)))), (16, (sv v732)), (17, (.int .i64 (x730.length : Int))), (18, (.int .i64 i1006)), (24, (sv v1153)), (25, (.int .i64 (x1149.length : Int))), (26, (.int .i64 (wI (i1265 + 1))))], ⟨rfl, rfl, rfl, rfl, rfl, rfl, rfl, rfl, rfl, rfl, rfl, trivial⟩, _, Nat.lt_succ_self _, v1317, l1318, (wI (i1265 + 1)), rfl, rfl, (hkk1272 ▸ H), hs1319⟩
        · intro h1274
          have h1274 := dcd_f (h1274)
          have H := iff_ h1274 H
          refine Cw_exit ?_
          refine Shift.pull (.there (.there (.there (.there (.there .here))))) ?_
          refine Shift.pull (.there (.there (.there (.there .here)))) ?_
          refine Shift.pull (.there (.there (.there (.there .here)))) ?_
          refine Shift.pull (.there (.there (.there (.there .here)))) ?_
          refine Shift.rem (.there (.there (.there (.there .here)))) ?_
          refine Shift.rem (.there (.there (.there (.there .here)))) ?_
          refine Shift.done ?_
          exact ⟨[(0, (sv vp0)), (4, (.pointer (some ((⟨b448, 0, none⟩ : Addr).add 0)))), (5, (.pointer (some ((⟨b449, 0, none⟩ : Addr).add 0)))), (7, (sv v1262)), (16, (sv v732)), (17, (.int .i64 (x730.length : Int))), (18, (.int .i64 i1006))], ⟨rfl, rfl, rfl, rfl, rfl, rfl, rfl, trivial⟩, v1262, l1263, rfl, rfl, H, hs1264⟩
      rintro _ K1389 _ hK1390 ⟨v1139, l1140, rfl, rfl, H, hs1141⟩
      unfold M_linear_meetings_J2 at H
      refine Cw_region ?_
      refine Ow_q rfl rfl rfl (Qt_arith (e := wI (i1006 + 1)) rfl rfl rfl rfl) ?_
      refine Ow_q rfl rfl rfl (Qt_move rfl) ?_
      refine Ow_nil ?_
      refine Shift.pull (.there (.there (.there .here))) ?_
      refine Shift.pull (.there (.there (.there .here))) ?_
      refine Shift.pull (.there (.there (.there .here))) ?_
      refine Shift.pull (.there (.there (.there .here))) ?_
      refine Shift.done ?_
      exact ⟨[(0, (sv vp0)), (4, (.pointer (some ((⟨b448, 0, none⟩ : Addr).add 0)))), (5, (.pointer (some ((⟨b449, 0, none⟩ : Addr).add 0)))), (7, (sv v1139)), (16, (sv v732)), (17, (.int .i64 (x730.length : Int))), (18, (.int .i64 (wI (i1006 + 1))))], ⟨rfl, rfl, rfl, rfl, rfl, rfl, rfl, trivial⟩, _, Nat.lt_succ_self _, v1139, l1140, (wI (i1006 + 1)), rfl, rfl, (hkk1012 ▸ H), hs1141⟩
    · intro h1014
      have h1014 := dcd_f (h1014)
      have H := iff_ h1014 H
      refine Cw_exit ?_
      refine Shift.pull (.there (.there .here)) ?_
      refine Shift.rem (.there .here) ?_
      refine Shift.rem (.there .here) ?_
      refine Shift.rem (.there .here) ?_
      refine Shift.done ?_
      exact ⟨[(7, (sv v1003))], ⟨rfl, trivial⟩, v1003, l1004, rfl, rfl, H, hs1005⟩
  rintro _ K1391 _ hK1392 ⟨v727, l728, rfl, rfl, H, hs729⟩
  unfold M_linear_meetings_J1 at H
  refine Cw_seq ?_
  refine Cw_region ?_
  refine Ow_q rfl rfl rfl (Qt_move rfl) ?_
  refine Ow_q rfl rfl rfl (Qt_assign rfl) ?_
  refine Ow_nil ?_
  refine Cw_ret ?_
  obtain ey0 := inj1 H
  subst y0
  refine ⟨(by first | exact .inl rfl | exact .inr rfl), [(sv v727)], ⟨(sv v727), _, rfl, rfl, rfl⟩, ?_⟩
  refine Shift.done ?_
  exact ⟨v727, rfl, rfl, hs729⟩

set_option maxHeartbeats 1000000 in
theorem c_M_linear_search_place (rc : (List (List Linear_call)) → Bool → (ByteArray → Option Bool) → (List Done) → (List Int) → (List Chan) → Option (Bool × (List Done) × (ByteArray → Option Bool))) (ih : ∀ (bp0 : Nat) (p0_threads : List (List Linear_call)) (vp0_threads : SV) (p0_open_ : Bool) (p0_failed : ByteArray → Option Bool) (bp0_failed : Nat) (esp0_failed : Array MapEntry) (ckp0_failed : Nat) (p0_order : List Done) (vp0_order : SV) (rsp0_order : List (List Value)) (p1 : List Int) (vp1 : SV) (p2 : List Chan) (vp2 : SV) (y0 : Bool) (z0_order : List Done) (ubp0_failed : ByteArray → Option Bool) (H : rc p0_threads p0_open_ p0_failed p0_order p1 p2 = some (y0, z0_order, ubp0_failed)) (K : Kp) (G : List Ent) (hp0_threads : Slr (Ty.sl TyLinear_call) K (sv vp0_threads) p0_threads) (hp0_failed : MapR Ty.bool Value.string K esp0_failed p0_failed) (hp0_order : RowR TyDone K rsp0_order p0_order) (hp1 : Slr Ty.i64 K (sv vp1) p1) (hp2 : Slr TyChan K (sv vp2) p2) (hT : TabK K), Fc Tryd.prog 29 #[(.pointer (some ((⟨bp0, 0, none⟩ : Addr).add 0))), (sv vp1), (sv vp2)] K ((.blk bp0 82 [(sv vp0_threads), (.bool p0_open_), .nilFunc, (.map (some bp0_failed)), (sv vp0_order)]) :: (.obj bp0_failed (.map esp0_failed ckp0_failed)) :: (.row (sv vp0_order) 47 6 rsp0_order.flatten) :: G) (fun v K' G' => ∃ (wz0_order : SV) (rswz0_order : List (List Value)) (esubp0_failed : Array MapEntry) (ckubp0_failed : Nat), v = (.bool y0) ∧ (.blk bp0 82 [(sv vp0_threads), (.bool p0_open_), .nilFunc, (.map (some bp0_failed)), (sv wz0_order)]) :: (.row (sv wz0_order) 47 6 rswz0_order.flatten) :: (.obj bp0_failed (.map esubp0_failed ckubp0_failed)) :: G = G' ∧ RowR TyDone K' rswz0_order z0_order ∧ MapR Ty.bool Value.string K' esubp0_failed ubp0_failed)) (bp0 : Nat) (p0_threads : List (List Linear_call)) (vp0_threads : SV) (p0_open_ : Bool) (p0_failed : ByteArray → Option Bool) (bp0_failed : Nat) (esp0_failed : Array MapEntry) (ckp0_failed : Nat) (p0_order : List Done) (vp0_order : SV) (rsp0_order : List (List Value)) (p1 : List Int) (vp1 : SV) (p2 : List Chan) (vp2 : SV) (p3 : List Done) (vp3 : SV) (y0 : Bool) (z0_order : List Done) (ubp0_failed : ByteArray → Option Bool) (H : M_linear_search_place rc p0_threads p0_open_ p0_failed p0_order p1 p2 p3 = some (y0, z0_order, ubp0_failed)) (K : Kp) (G : List Ent) (hp0_threads : Slr (Ty.sl TyLinear_call) K (sv vp0_threads) p0_threads) (hp0_failed : MapR Ty.bool Value.string K esp0_failed p0_failed) (hp0_order : RowR TyDone K rsp0_order p0_order) (hp1 : Slr Ty.i64 K (sv vp1) p1) (hp2 : Slr TyChan K (sv vp2) p2) (hp3 : Slr TyDone K (sv vp3) p3) (hT : TabK K) :
    Fc Tryd.prog 55 #[(.pointer (some ((⟨bp0, 0, none⟩ : Addr).add 0))), (sv vp1), (sv vp2), (sv vp3)] K ((.blk bp0 82 [(sv vp0_threads), (.bool p0_open_), .nilFunc, (.map (some bp0_failed)), (sv vp0_order)]) :: (.obj bp0_failed (.map esp0_failed ckp0_failed)) :: (.row (sv vp0_order) 47 6 rsp0_order.flatten) :: G) (fun v K' G' => ∃ (wz0_order : SV) (rswz0_order : List (List Value)) (esubp0_failed : Array MapEntry) (ckubp0_failed : Nat), v = (.bool y0) ∧ (.blk bp0 82 [(sv vp0_threads), (.bool p0_open_), .nilFunc, (.map (some bp0_failed)), (sv wz0_order)]) :: (.row (sv wz0_order) 47 6 rswz0_order.flatten) :: (.obj bp0_failed (.map esubp0_failed ckubp0_failed)) :: G = G' ∧ RowR TyDone K' rswz0_order z0_order ∧ MapR Ty.bool Value.string K' esubp0_failed ubp0_failed) := by
  refine Fc_body Tryd.func55 rfl Tryd.ntmps55 Tryd.results55 rfl ?_
  unfold M_linear_search_place at H
  refine Cw_seq ?_
  refine Cw_region ?_
  refine Ow_q rfl rfl rfl (Qt_assign rfl) ?_
  refine Ow_nil ?_
  refine Cw_seq ?_
  refine Cw_region ?_
  refine Ow_q rfl rfl rfl (Qt_move rfl) ?_
  obtain ⟨x95, hx96, H⟩ := bnd H
  refine Ow_cons rfl (OpW_call rfl Tryd.call84 rfl rfl (c_M_slices_Clone_int_int p1 vp1 x95 hx96 _ _ hp1) ?_)
  rintro _ _ _ - ⟨v97, rs98, rfl, rfl, rfl, hs99⟩
  refine Ow_q rfl rfl rfl (Qt_assign rfl) ?_
  refine Ow_nil ?_
  refine Cw_join (fun env' K' G' => ∃ (l153 : List Int) (rs155 : List (List Value)), [(0, (.pointer (some ((⟨bp0, 0, none⟩ : Addr).add 0)))), (2, (sv vp2)), (3, (sv vp3)), (9, (sv v97))] = env' ∧ (.blk bp0 82 [(sv vp0_threads), (.bool p0_open_), .nilFunc, (.map (some bp0_failed)), (sv vp0_order)]) :: (.row (sv v97) 3 1 rs155.flatten) :: (.obj bp0_failed (.map esp0_failed ckp0_failed)) :: (.row (sv vp0_order) 47 6 rsp0_order.flatten) :: G = G' ∧ M_linear_search_place_J1 p2 p3 p0_threads p0_open_ p0_order p0_failed rc l153 = some (y0, z0_order, ubp0_failed) ∧ RowR Ty.i64 K' rs155 l153) ?_ ?_
  · skip
    refine Cw_seq ?_
    refine Cw_region ?_
    refine Ow_q rfl rfl rfl (Qt_move rfl) ?_
    refine Ow_q rfl rfl rfl (Q_len (T := TyDone) hp3 rfl rfl) ?_
    refine Ow_q rfl rfl rfl (Qt_move rfl) ?_
    refine Ow_nil ?_
    refine Cw_block ?_
    refine Cw_loopM (fun n209 env' K' G' => ∃ (l205 : List Int) (rs207 : List (List Value)) (i208 : Int), [(0, (.pointer (some ((⟨bp0, 0, none⟩ : Addr).add 0)))), (2, (sv vp2)), (3, (sv vp3)), (9, (sv v97)), (15, (sv vp3)), (16, (.int .i64 (p3.length : Int))), (17, (.int .i64 i208))] = env' ∧ K = K' ∧ (.blk bp0 82 [(sv vp0_threads), (.bool p0_open_), .nilFunc, (.map (some bp0_failed)), (sv vp0_order)]) :: (.row (sv v97) 3 1 rs207.flatten) :: (.obj bp0_failed (.map esp0_failed ckp0_failed)) :: (.row (sv vp0_order) 47 6 rsp0_order.flatten) :: G = G' ∧ lp2 (M_linear_search_place_L1 p2 p3 p0_threads p0_open_ p0_order p0_failed rc) n209 l205 i208 = some (y0, z0_order, ubp0_failed) ∧ RowR Ty.i64 K' rs207 l205) BIG ?_ ?_
    · skip
      refine Shift.pull (.there (.there (.there .here))) ?_
      refine Shift.pull (.there (.there (.there .here))) ?_
      refine Shift.pull (.there (.there .here)) ?_
      refine Shift.pull (.there (.there (.there .here))) ?_
      refine Shift.done ?_
      exact ⟨[(0, (.pointer (some ((⟨bp0, 0, none⟩ : Addr).add 0)))), (2, (sv vp2)), (3, (sv vp3)), (9, (sv v97)), (15, (sv vp3)), (16, (.int .i64 (p3.length : Int))), (17, (.int .i64 0))], ⟨rfl, rfl, rfl, rfl, rfl, rfl, rfl, trivial⟩, x95, rs98, 0, rfl, rfl, rfl, H, hs99⟩
    rintro n209 _ _ _ - ⟨l205, rs207, i208, rfl, rfl, rfl, H, hR206⟩
    obtain ⟨m210, k211, rfl, hkk212, H⟩ := lps2 H
    unfold M_linear_search_place_L1 at H
    refine Cw_seq ?_
    refine Cw_region ?_
    refine Ow_q rfl rfl rfl (Qt_cmp rfl rfl rfl) ?_
    refine Ow_nil ?_
    refine Cw_seq ?_
    refine Cw_cond rfl ?_ ?_
    · intro h214
      have h214 := dcd_t (h214)
      have H := ift h214 H
      refine Cw_skip ?_
      refine Cw_seq ?_
      refine Cw_block ?_
      refine Cw_seq ?_
      refine Cw_region ?_
      obtain ⟨x233, hx234, H⟩ := bnd H
      obtain ⟨r235, hr236, hk237⟩ := Slr.at hp3 hx234
      obtain rfl := hr236
      refine Ow_q rfl rfl rfl (Q_ix (T := TyDone) hp3 hx234 rfl rfl rfl rfl rfl) ?_
      refine Ow_q rfl rfl rfl (Qt_loadA (m := 6) (cs := (Done.cells x233)) rfl rfl rfl rfl ⟨rfl, Rdc.k hk237 rfl⟩) ?_
      refine Ow_cons rfl (OpW_alloc (cs := (Done.cells (Done.mk 0 (Result.mk 0 0 0 false 0)))) rfl rfl rfl rfl (fun b238 => ?_))
      refine Ow_cons rfl (OpW_store (vs := (Done.cells x233)) (all' := (Done.cells x233)) rfl rfl rfl rfl rfl .here rfl rfl rfl ?_)
      refine Ow_nil ?_
      refine Cw_region ?_
      refine Ow_q rfl rfl rfl (Qt_move rfl) ?_
      refine Ow_q rfl rfl rfl (Qt_fieldAddr (m := 0) rfl rfl rfl rfl rfl) ?_
      refine Ow_q rfl rfl rfl (Qt_load1 (v := (.int .i64 x233.thread)) rfl rfl rfl (Rdc.blk (.head _) rfl)) ?_
      obtain ⟨x239, hx240, H⟩ := bnd H
      obtain ⟨r241, hq242, hr243⟩ := RowR.at hR206 hx240
      obtain rfl := hr243
      refine Ow_q rfl rfl rfl (Q_ixR (T := Ty.i64) (.tail _ (.tail _ (.head _))) hR206 hq242 (getI_ix hx240).1 rfl rfl rfl rfl rfl) ?_
      refine Ow_q rfl rfl rfl (Qt_load1 (v := (.int .i64 x239)) rfl rfl rfl (Rd_row (T := Ty.i64) (.tail _ (.tail _ (.head _))) hR206 hq242 rfl rfl)) ?_
      refine Ow_q rfl rfl rfl (Qt_arith (e := wI (x239 + 1)) rfl rfl rfl rfl) ?_
      obtain ⟨x244, hx245, H⟩ := bnd H
      obtain ⟨r246, hq247, hr248⟩ := RowR.at hR206 hx245
      obtain rfl := hr248
      refine Ow_q rfl rfl rfl (Q_ixR (T := Ty.i64) (.tail _ (.tail _ (.head _))) hR206 hq247 (getI_ix hx245).1 rfl rfl rfl rfl rfl) ?_
      refine Ow_cons rfl (O_storeR (T := Ty.i64) (vs := [(.int .i64 (wI (x239 + 1)))]) (r' := [(.int .i64 (wI (x239 + 1)))]) (l' := (setI l205 x233.thread (wI (x239 + 1)))) rfl rfl rfl rfl rfl (.there (.there .here)) hR206 hq247 rfl rfl rfl (RowR.set x233.thread hR206 rfl) (fun hR249 => ?_))
      have hE250 := set_at hq247 (v := [(.int .i64 (wI (x239 + 1)))])
      refine Ow_nil ?_
      refine Cw_region ?_
      refine Ow_q rfl rfl rfl (Qt_arith (e := wI (i208 + 1)) rfl rfl rfl rfl) ?_
      refine Ow_q rfl rfl rfl (Qt_move rfl) ?_
      refine Ow_nil ?_
      refine Shift.pull (.there (.there (.there (.there .here)))) ?_
      refine Shift.pull (.there (.there (.there (.there .here)))) ?_
      refine Shift.pull (.there (.there (.there (.there .here)))) ?_
      refine Shift.pull (.there (.there (.there (.there .here)))) ?_
      refine Shift.rem (.there (.there (.there (.there .here)))) ?_
      refine Shift.done ?_
      exact ⟨[(0, (.pointer (some ((⟨bp0, 0, none⟩ : Addr).add 0)))), (2, (sv vp2)), (3, (sv vp3)), (9, (sv v97)), (15, (sv vp3)), (16, (.int .i64 (p3.length : Int))), (17, (.int .i64 (wI (i208 + 1))))], ⟨rfl, rfl, rfl, rfl, rfl, rfl, rfl, trivial⟩, _, Nat.lt_succ_self _, (setI l205 x233.thread (wI (x239 + 1))), (rs207.set x233.thread.toNat [(.int .i64 (wI (x239 + 1)))]), (wI (i208 + 1)), rfl, rfl, rfl, (hkk212 ▸ H), hR249⟩
    · intro h214
      have h214 := dcd_f (h214)
      have H := iff_ h214 H
      refine Cw_exit ?_
      refine Shift.pull (.there (.there (.there .here))) ?_
      refine Shift.pull (.there (.there (.there .here))) ?_
      refine Shift.pull (.there (.there (.there .here))) ?_
      refine Shift.pull (.there (.there (.there .here))) ?_
      refine Shift.done ?_
      exact ⟨[(0, (.pointer (some ((⟨bp0, 0, none⟩ : Addr).add 0)))), (2, (sv vp2)), (3, (sv vp3)), (9, (sv v97))], ⟨rfl, rfl, rfl, rfl, trivial⟩, l205, rs207, rfl, rfl, H, hR206⟩
  rintro _ K251 _ hK252 ⟨l153, rs155, rfl, rfl, H, hR154⟩
  unfold M_linear_search_place_J1 at H
  refine Cw_seq ?_
  refine Cw_region ?_
  refine Ow_q rfl rfl rfl (Qt_move rfl) ?_
  refine Ow_q rfl rfl rfl (Qt_nilCheck rfl) ?_
  refine Ow_q rfl rfl rfl (Qt_fieldAddr (m := 4) rfl rfl rfl rfl rfl) ?_
  refine Ow_q rfl rfl rfl (Qt_load1 (v := (sv vp0_order)) rfl rfl rfl (Rdc.blk (.head _) rfl)) ?_
  have hs253 := (hp0_order).mono hK252
  refine Ow_q rfl rfl rfl (Q_lenR (T := TyDone) (.tail _ (.tail _ (.tail _ (.head _)))) hs253 rfl rfl rfl) ?_
  refine Ow_q rfl rfl rfl (Qt_assign rfl) ?_
  refine Ow_nil ?_
  refine Cw_seq ?_
  refine Cw_region ?_
  refine Ow_q rfl rfl rfl (Qt_move rfl) ?_
  refine Ow_q rfl rfl rfl (Qt_move rfl) ?_
  refine Ow_q rfl rfl rfl (Qt_nilCheck rfl) ?_
  refine Ow_q rfl rfl rfl (Qt_fieldAddr (m := 4) rfl rfl rfl rfl rfl) ?_
  refine Ow_q rfl rfl rfl (Qt_load1 (v := (sv vp0_order)) rfl rfl rfl (Rdc.blk (.head _) rfl)) ?_
  refine Ow_q rfl rfl rfl (Qt_move rfl) ?_
  obtain ⟨x254, hx255, H⟩ := bnd H
  have hs256 := (hp3).mono hK252
  refine Ow_cons rfl (O_appRow (T := TyDone) (bytes := 48) rfl rfl rfl (.tail _ (.tail _ (.tail _ (.head _)))) hs253 (SrcT.sl hs256) hx255 rfl rfl rfl rfl rfl rfl rfl rfl (fun v257 rs258 hR259 => ⟨_, (.there (.there (.there .here))), ?_⟩))
  refine Ow_q rfl rfl rfl (Qt_nilCheck rfl) ?_
  refine Ow_q rfl rfl rfl (Qt_fieldAddr (m := 4) rfl rfl rfl rfl rfl) ?_
  refine Ow_cons rfl (OpW_store (vs := [(sv v257)]) (all' := [(sv vp0_threads), (.bool p0_open_), .nilFunc, (.map (some bp0_failed)), (sv v257)]) rfl rfl rfl rfl rfl .here rfl rfl rfl ?_)
  refine Ow_nil ?_
  refine Cw_seq ?_
  refine Cw_seq ?_
  refine Cw_region ?_
  refine Ow_q rfl rfl rfl (Qt_move rfl) ?_
  refine Ow_q rfl rfl rfl (Qt_move rfl) ?_
  refine Ow_q rfl rfl rfl (Qt_move rfl) ?_
  refine Ow.shift (Shift.settle (T := Ty.i64) (.there .here) hR154 rfl (fun K281 hK282 hs283 => Shift.done ?_))
  obtain ⟨x284, x285, x286, hx287, H⟩ := bnd3 H
  refine Ow.shift (Shift.pull (.there (.there (.there .here))) (Shift.done ?_))
  refine Ow.shift (Shift.pull (.there (.there (.there .here))) (Shift.done ?_))
  refine Ow.shift (Shift.pull (.there (.there .here)) (Shift.done ?_))
  have hs288 := ((hp0_threads).mono hK252).mono hK282
  have hs289 := ((hp0_failed).mono hK252).mono hK282
  have hs290 := (hR259).mono hK282
  have hs291 := ((hp2).mono hK252).mono hK282
  have hs292 := ((hT).mono hK252).mono hK282
  refine Ow_cons rfl (OpW_call rfl Tryd.call29 rfl rfl (ih bp0 p0_threads vp0_threads p0_open_ p0_failed bp0_failed esp0_failed ckp0_failed x254 v257 rs258 l153 v97 p2 vp2 x284 x285 x286 hx287 _ _ hs288 hs289 hs290 hs283 hs291 hs292) ?_)
  rintro _ K297 _ hK298 ⟨v293, rs294, es295, b296, rfl, rfl, hs299, hs300⟩
  refine Ow_nil ?_
  refine Cw_cond rfl ?_ ?_
  · intro h301
    have H := ift h301 H
    refine Cw_seq ?_
    refine Cw_region ?_
    refine Ow_q rfl rfl rfl (Qt_assign rfl) ?_
    refine Ow_nil ?_
    refine Cw_ret ?_
    obtain ⟨ey0, ez0_order, eubp0_failed⟩ := inj3 H
    subst y0 z0_order ubp0_failed
    refine ⟨(by first | exact .inl rfl | exact .inr rfl), [(.bool true)], ⟨(.bool true), _, rfl, rfl, rfl⟩, ?_⟩
    refine Shift.pull (.there (.there .here)) ?_
    refine Shift.pull (.there (.there .here)) ?_
    refine Shift.pull (.there (.there .here)) ?_
    refine Shift.rem (.there (.there (.there .here))) ?_
    refine Shift.done ?_
    exact ⟨v293, rs294, es295, b296, rfl, rfl, hs299, hs300⟩
  · intro h301
    have H := iff_ (btf h301) H
    refine Cw_skip ?_
    refine Cw_seq ?_
    refine Cw_region ?_
    refine Ow_q rfl rfl rfl (Qt_move rfl) ?_
    refine Ow_q rfl rfl rfl (Qt_move rfl) ?_
    refine Ow_q rfl rfl rfl (Qt_nilCheck rfl) ?_
    refine Ow_q rfl rfl rfl (Qt_fieldAddr (m := 4) rfl rfl rfl rfl rfl) ?_
    refine Ow_q rfl rfl rfl (Qt_load1 (v := (sv v293)) rfl rfl rfl (Rdc.blk (.head _) rfl)) ?_
    refine Ow_q rfl rfl rfl (Qt_move rfl) ?_
    obtain ⟨x302, hx303, H⟩ := bnd H
    refine Ow_q rfl rfl rfl (Q_cutRH (T := TyDone) (.tail _ (.head _)) hs299 rfl hx303 rfl rfl rfl rfl) ?_
    refine Ow_q rfl rfl rfl (Qt_nilCheck rfl) ?_
    refine Ow_q rfl rfl rfl (Qt_fieldAddr (m := 4) rfl rfl rfl rfl rfl) ?_
    refine Ow.shift (Shift.pull (.there .here) (Shift.done ?_))
    have hR304 := RowR.cutH hs299 hx303
    refine Ow.shift (Shift.cutRow (T := TyDone) hs299 rfl hx303 (Shift.done ?_))
    refine Ow_cons rfl (OpW_store (vs := [(sv (cutS v293 6 0 (p0_order.length : Int).toNat))]) (all' := [(sv vp0_threads), (.bool p0_open_), .nilFunc, (.map (some bp0_failed)), (sv (cutS v293 6 0 (p0_order.length : Int).toNat))]) rfl rfl rfl rfl rfl (.there .here) rfl rfl rfl ?_)
    refine Ow_nil ?_
    refine Cw_seq ?_
    refine Cw_region ?_
    refine Ow_q rfl rfl rfl (Qt_assign rfl) ?_
    refine Ow_nil ?_
    refine Cw_ret ?_
    obtain ⟨ey0, ez0_order, eubp0_failed⟩ := inj3 H
    subst y0 z0_order ubp0_failed
    refine ⟨(by first | exact .inl rfl | exact .inr rfl), [(.bool false)], ⟨(.bool false), _, rfl, rfl, rfl⟩, ?_⟩
    refine Shift.pull (.there (.there .here)) ?_
    refine Shift.pull (.there .here) ?_
    refine Shift.pull (.there (.there .here)) ?_
    refine Shift.rem (.there (.there (.there .here))) ?_
    refine Shift.done ?_
    exact ⟨(cutS v293 6 0 (p0_order.length : Int).toNat), (rs294.take (p0_order.length : Int).toNat), es295, b296, rfl, rfl, hR304, hs300⟩



end Go.Hx

namespace Go.Hx
open Go Go.Proofs
set_option linter.unusedSimpArgs false
set_option linter.unusedVariables false
set_option maxRecDepth 10000
set_option maxHeartbeats 1000000 in
theorem c_M_model_New (p0 : Config) (vp0_capacities : SV) (vp0_starts : SV) (y0 : List Chan) (H : M_model_New p0 = some y0) (K : Kp) (G : List Ent) (hp0_capacities : Slr Ty.i64 K (sv vp0_capacities) p0.capacities) (hp0_starts : Slr Ty.u64 K (sv vp0_starts) p0.starts) :
    Fc Tryd.prog 30 #[(.agg (Config.cells p0 vp0_capacities vp0_starts).toArray)] K (G) (fun v K' G' => ∃ (wy0 : SV), v = (sv wy0) ∧ (.tok 74 3 [(sv wy0)]) :: G = G' ∧ Slr TyChan K' (sv wy0) y0) := by
  refine Fc_body Tryd.func30 rfl Tryd.ntmps30 Tryd.results30 rfl ?_
  unfold M_model_New at H
  refine Cw_seq ?_
  refine Cw_region ?_
  refine Ow_cons rfl (OpW_box (cs := (Config.cells p0 vp0_capacities vp0_starts)) rfl rfl rfl (fun b49 => ?_))
  refine Ow_q rfl rfl rfl (Qt_assign rfl) ?_
  refine Ow_nil ?_
  refine Cw_seq ?_
  refine Cw_region ?_
  refine Ow_q rfl rfl rfl (Qt_assign rfl) ?_
  refine Ow_nil ?_
  refine Cw_join (fun env' K' G' => ∃ (v92 : SV) (l93 : List Chan), [(3, (sv v92))] = env' ∧ (.tok 74 3 [(sv v92)]) :: G = G' ∧ M_model_New_J1 l93 = some y0 ∧ Slr TyChan K' (sv v92) l93) ?_ ?_
  · skip
    refine Cw_seq ?_
    refine Cw_region ?_
    refine Ow_q rfl rfl rfl (Qt_fieldAddr (m := 0) rfl rfl rfl rfl rfl) ?_
    refine Ow_q rfl rfl rfl (Qt_load1 (v := (sv vp0_capacities)) rfl rfl rfl (Rdc.blk (.head _) rfl)) ?_
    refine Ow_q rfl rfl rfl (Q_len (T := Ty.i64) hp0_capacities rfl rfl) ?_
    refine Ow_q rfl rfl rfl (Qt_move rfl) ?_
    refine Ow_nil ?_
    refine Cw_block ?_
    refine Cw_loopM (fun n137 env' K' G' => ∃ (v133 : SV) (l134 : List Chan) (i136 : Int), [(3, (sv v133)), (7, (sv vp0_capacities)), (8, (.int .i64 (p0.capacities.length : Int))), (9, (.int .i64 i136))] = env' ∧ (.tok 74 3 [(sv v133)]) :: G = G' ∧ lp2 (M_model_New_L1 p0) n137 l134 i136 = some y0 ∧ Slr TyChan K' (sv v133) l134) BIG ?_ ?_
    · skip
      refine Shift.nilTok1 74 3 ?_
      refine Shift.rem (.there .here) ?_
      refine Shift.done ?_
      exact ⟨[(3, (sv nilS)), (7, (sv vp0_capacities)), (8, (.int .i64 (p0.capacities.length : Int))), (9, (.int .i64 0))], ⟨rfl, rfl, rfl, rfl, trivial⟩, nilS, ([] : List Chan), 0, rfl, rfl, H, (Slr.nil TyChan _)⟩
    rintro n137 _ K138 _ hK139 ⟨v133, l134, i136, rfl, rfl, H, hs135⟩
    obtain ⟨m140, k141, rfl, hkk142, H⟩ := lps2 H
    unfold M_model_New_L1 at H
    refine Cw_seq ?_
    refine Cw_region ?_
    refine Ow_q rfl rfl rfl (Qt_cmp rfl rfl rfl) ?_
    refine Ow_nil ?_
    refine Cw_seq ?_
    refine Cw_cond rfl ?_ ?_
    · intro h144
      have h144 := dcd_t (h144)
      have H := ift h144 H
      refine Cw_skip ?_
      refine Cw_seq ?_
      refine Cw_block ?_
      refine Cw_seq ?_
      refine Cw_region ?_
      obtain ⟨x159, hx160, H⟩ := bnd H
      have hs161 := (hp0_capacities).mono hK139
      obtain ⟨r162, hr163, hk164⟩ := Slr.at hs161 hx160
      obtain rfl := hr163
      refine Ow_q rfl rfl rfl (Q_ix (T := Ty.i64) hs161 hx160 rfl rfl rfl rfl rfl) ?_
      refine Ow_q rfl rfl rfl (Qt_load1 (v := (.int .i64 x159)) rfl rfl rfl (Rdc.k hk164 rfl)) ?_
      refine Ow_q rfl rfl rfl (Qt_assign rfl) ?_
      refine Ow_nil ?_
      refine Cw_region ?_
      refine Ow_q rfl rfl rfl (Qt_move rfl) ?_
      refine Ow_q rfl rfl rfl (Qt_move rfl) ?_
      refine Ow_q rfl rfl rfl (Qt_build (cs := (Chan.cells (Chan.mk x159 [] false) nilS)) rfl rfl rfl rfl rfl rfl) ?_
      have hR166 : RowR TyChan K138 [(Chan.cells (Chan.mk x159 [] false) nilS)] [(Chan.mk x159 [] false)] := RowR.cons ⟨nilS, rfl, (Slr.nil Ty.u64 _)⟩ (RowR.nil)
      refine Ow_cons rfl (O_lit (T := TyChan) (rows := [(Chan.cells (Chan.mk x159 [] false) nilS)]) (l := [(Chan.mk x159 [] false)]) rfl rfl rfl hR166 rfl rfl rfl rfl rfl rfl rfl rfl (fun v165 => ?_))
      obtain ⟨x167, hx168, H⟩ := bnd H
      refine Ow_cons rfl (O_appTok (T := TyChan) (bytes := 40) (q := 0) rfl rfl rfl hs135 (.tail _ (.head _)) rfl (SrcT.row (.head _) hR166 rfl) hx168 rfl rfl rfl rfl rfl rfl rfl rfl (fun v169 K170 hK171 hs172 => ⟨_, (.there .here), ?_⟩))
      refine Ow.shift (Shift.rem .here (Shift.done ?_))
      refine Ow_q rfl rfl rfl (Qt_assign rfl) ?_
      refine Ow_nil ?_
      refine Cw_region ?_
      refine Ow_q rfl rfl rfl (Qt_arith (e := wI (i136 + 1)) rfl rfl rfl rfl) ?_
      refine Ow_q rfl rfl rfl (Qt_move rfl) ?_
      refine Ow_nil ?_
      refine Shift.done ?_
      exact ⟨[(3, (sv v169)), (7, (sv vp0_capacities)), (8, (.int .i64 (p0.capacities.length : Int))), (9, (.int .i64 (wI (i136 + 1))))], ⟨rfl, rfl, rfl, rfl, trivial⟩, _, Nat.lt_succ_self _, v169, x167, (wI (i136 + 1)), rfl, rfl, (hkk142 ▸ H), hs172⟩
    · intro h144
      have h144 := dcd_f (h144)
      have H := iff_ h144 H
      refine Cw_exit ?_
      refine Shift.done ?_
      exact ⟨[(3, (sv v133))], ⟨rfl, trivial⟩, v133, l134, rfl, rfl, H, hs135⟩
  rintro _ K173 _ hK174 ⟨v92, l93, rfl, rfl, H, hs94⟩
  unfold M_model_New_J1 at H
  refine Cw_seq ?_
  refine Cw_region ?_
  refine Ow_q rfl rfl rfl (Qt_move rfl) ?_
  refine Ow_q rfl rfl rfl (Qt_assign rfl) ?_
  refine Ow_nil ?_
  refine Cw_ret ?_
  obtain ey0 := inj1 H
  subst y0
  refine ⟨(by first | exact .inl rfl | exact .inr rfl), [(sv v92)], ⟨(sv v92), _, rfl, rfl, rfl⟩, ?_⟩
  refine Shift.done ?_
  exact ⟨v92, rfl, rfl, hs94⟩



end Go.Hx

namespace Go.Hx
open Go Go.Proofs
set_option linter.unusedSimpArgs false
set_option linter.unusedVariables false
set_option maxRecDepth 10000
set_option maxHeartbeats 1000000 in
theorem c_M_linear_search_run (fu : Nat) : ∀ (bp0 : Nat) (p0_threads : List (List Linear_call)) (vp0_threads : SV) (p0_open_ : Bool) (p0_failed : ByteArray → Option Bool) (bp0_failed : Nat) (esp0_failed : Array MapEntry) (ckp0_failed : Nat) (p0_order : List Done) (vp0_order : SV) (rsp0_order : List (List Value)) (p1 : List Int) (vp1 : SV) (p2 : List Chan) (vp2 : SV) (y0 : Bool) (z0_order : List Done) (ubp0_failed : ByteArray → Option Bool) (H : M_linear_search_run fu p0_threads p0_open_ p0_failed p0_order p1 p2 = some (y0, z0_order, ubp0_failed)) (K : Kp) (G : List Ent) (hp0_threads : Slr (Ty.sl TyLinear_call) K (sv vp0_threads) p0_threads) (hp0_failed : MapR Ty.bool Value.string K esp0_failed p0_failed) (hp0_order : RowR TyDone K rsp0_order p0_order) (hp1 : Slr Ty.i64 K (sv vp1) p1) (hp2 : Slr TyChan K (sv vp2) p2) (hT : TabK K),
    Fc Tryd.prog 29 #[(.pointer (some ((⟨bp0, 0, none⟩ : Addr).add 0))), (sv vp1), (sv vp2)] K ((.blk bp0 82 [(sv vp0_threads), (.bool p0_open_), .nilFunc, (.map (some bp0_failed)), (sv vp0_order)]) :: (.obj bp0_failed (.map esp0_failed ckp0_failed)) :: (.row (sv vp0_order) 47 6 rsp0_order.flatten) :: G) (fun v K' G' => ∃ (wz0_order : SV) (rswz0_order : List (List Value)) (esubp0_failed : Array MapEntry) (ckubp0_failed : Nat), v = (.bool y0) ∧ (.blk bp0 82 [(sv vp0_threads), (.bool p0_open_), .nilFunc, (.map (some bp0_failed)), (sv wz0_order)]) :: (.row (sv wz0_order) 47 6 rswz0_order.flatten) :: (.obj bp0_failed (.map esubp0_failed ckubp0_failed)) :: G = G' ∧ RowR TyDone K' rswz0_order z0_order ∧ MapR Ty.bool Value.string K' esubp0_failed ubp0_failed) := by
  induction fu with
  | zero => intro bp0 p0_threads vp0_threads p0_open_ p0_failed bp0_failed esp0_failed ckp0_failed p0_order vp0_order rsp0_order p1 vp1 p2 vp2 y0 z0_order ubp0_failed H K G hp0_threads hp0_failed hp0_order hp1 hp2 hT; cases H
  | succ fu ih =>
  intro bp0 p0_threads vp0_threads p0_open_ p0_failed bp0_failed esp0_failed ckp0_failed p0_order vp0_order rsp0_order p1 vp1 p2 vp2 y0 z0_order ubp0_failed H K G hp0_threads hp0_failed hp0_order hp1 hp2 hT
  have H : M_linear_search_run_B (M_linear_search_run fu) p0_threads p0_open_ p0_failed p0_order p1 p2 = some (y0, z0_order, ubp0_failed) := H
  generalize M_linear_search_run fu = rc at H ih
  refine Fc_body Tryd.func29 rfl Tryd.ntmps29 Tryd.results29 rfl ?_
  unfold M_linear_search_run_B at H
  refine Cw_seq ?_
  refine Cw_region ?_
  refine Ow_q rfl rfl rfl (Qt_assign rfl) ?_
  refine Ow_nil ?_
  refine Cw_seq ?_
  refine Cw_region ?_
  refine Ow_q rfl rfl rfl (Qt_move rfl) ?_
  refine Ow_q rfl rfl rfl (Qt_move rfl) ?_
  obtain ⟨x917, x918, hx919, H⟩ := bnd2 H
  refine Ow.shift (Shift.pull (.there (.there .here)) (Shift.done ?_))
  refine Ow.shift (Shift.pull (.there (.there .here)) (Shift.done ?_))
  refine Ow.shift (Shift.pull (.there (.there .here)) (Shift.done ?_))
  refine Ow_cons rfl (OpW_call rfl Tryd.call51 rfl rfl (c_M_linear_search_limit bp0 p0_threads vp0_threads p0_open_ p0_failed bp0_failed esp0_failed ckp0_failed p0_order vp0_order rsp0_order p1 vp1 x917 x918 hx919 _ _ hp0_threads hp0_failed hp0_order hp1) ?_)
  rintro _ K920 _ hK921 ⟨rfl, rfl⟩
  refine Ow_q rfl rfl rfl (Qt_move rfl) ?_
  refine Ow_q rfl rfl rfl (Qt_extract rfl rfl) ?_
  refine Ow_q rfl rfl rfl (Qt_extract rfl rfl) ?_
  refine Ow_q rfl rfl rfl (Qt_assign rfl) ?_
  refine Ow_q rfl rfl rfl (Qt_assign rfl) ?_
  refine Ow_nil ?_
  refine Cw_seq ?_
  refine Cw_seq ?_
  refine Cw_region ?_
  refine Ow_q rfl rfl rfl (Qt_move rfl) ?_
  refine Ow_q rfl rfl rfl (Qt_not rfl) ?_
  refine Ow_nil ?_
  refine Cw_cond rfl ?_ ?_
  · intro h923
    have h923 := nt_t (h923)
    have H := iff_ (btf h923) H
    refine Cw_seq ?_
    refine Cw_seq ?_
    refine Cw_region ?_
    refine Ow_q rfl rfl rfl (Qt_move rfl) ?_
    refine Ow_q rfl rfl rfl (Qt_nilCheck rfl) ?_
    refine Ow_q rfl rfl rfl (Qt_fieldAddr (m := 2) rfl rfl rfl rfl rfl) ?_
    refine Ow_q rfl rfl rfl (Qt_load1 (v := .nilFunc) rfl rfl rfl (Rdc.blk (.head _) rfl)) ?_
    refine Ow_q rfl rfl rfl (Qt_eqNilF rfl rfl rfl) ?_
    refine Ow_q rfl rfl rfl (Qt_move rfl) ?_
    refine Ow_pass rfl rfl rfl rfl rfl rfl rfl ?_
    refine Ow_pass rfl rfl rfl rfl rfl rfl rfl ?_
    refine Ow_pass rfl rfl rfl rfl rfl rfl rfl ?_
    refine Ow_pass rfl rfl rfl rfl rfl rfl rfl ?_
    refine Ow_pass rfl rfl rfl rfl rfl rfl rfl ?_
    refine Ow_pass rfl rfl rfl rfl rfl rfl rfl ?_
    refine Ow_q rfl rfl rfl (Qt_pick_t rfl rfl) ?_
    refine Ow_nil ?_
    refine Cw_cond_t rfl ?_
    refine Cw_seq ?_
    refine Cw_region ?_
    refine Ow_q rfl rfl rfl (Qt_assign rfl) ?_
    refine Ow_nil ?_
    refine Cw_ret ?_
    obtain ⟨ey0, ez0_order, eubp0_failed⟩ := inj3 H
    subst y0 z0_order ubp0_failed
    refine ⟨(by first | exact .inl rfl | exact .inr rfl), [(.bool true)], ⟨(.bool true), _, rfl, rfl, rfl⟩, ?_⟩
    refine Shift.pull (.there .here) ?_
    refine Shift.pull (.there (.there .here)) ?_
    refine Shift.pull (.there (.there .here)) ?_
    have hs924 := (hp0_order).mono hK921
    have hs925 := (hp0_failed).mono hK921
    refine Shift.done ?_
    exact ⟨vp0_order, rsp0_order, esp0_failed, ckp0_failed, rfl, rfl, hs924, hs925⟩
  · intro h923
    have h923 := nt_f (h923)
    have H := ift h923 H
    refine Cw_skip ?_
    refine Cw_seq ?_
    refine Cw_region ?_
    refine Ow_q rfl rfl rfl (Qt_move rfl) ?_
    refine Ow_q rfl rfl rfl (Qt_move rfl) ?_
    obtain ⟨x926, hx927, H⟩ := bnd H
    have hs928 := (hp1).mono hK921
    have hs929 := (hp2).mono hK921
    have hs930 := (hT).mono hK921
    refine Ow_cons rfl (OpW_call rfl Tryd.call52 rfl rfl (c_M_linear_describe p1 vp1 p2 vp2 x926 hx927 _ _ hs928 hs929 hs930) ?_)
    rintro _ K931 _ hK932 ⟨rfl, rfl⟩
    refine Ow_q rfl rfl rfl (Qt_assign rfl) ?_
    refine Ow_nil ?_
    refine Cw_seq ?_
    refine Cw_seq ?_
    refine Cw_region ?_
    refine Ow_q rfl rfl rfl (Qt_move rfl) ?_
    refine Ow_q rfl rfl rfl (Qt_nilCheck rfl) ?_
    refine Ow_q rfl rfl rfl (Qt_fieldAddr (m := 3) rfl rfl rfl rfl rfl) ?_
    refine Ow_q rfl rfl rfl (Qt_load1 (v := (.map (some bp0_failed))) rfl rfl rfl (Rdc.blk (.head _) rfl)) ?_
    refine Ow_q rfl rfl rfl (Qt_move rfl) ?_
    have hs935 := ((hp0_failed).mono hK921).mono hK932
    refine Ow_q rfl rfl rfl (Q_lookB (kv := Value.string) (k := x926) (KeyK.str rfl) hs935 (.tail _ (.head _)) rfl rfl rfl rfl rfl) ?_
    refine Ow_nil ?_
    refine Cw_cond rfl ?_ ?_
    · intro h936
      have H := ift h936 H
      refine Cw_seq ?_
      refine Cw_region ?_
      refine Ow_q rfl rfl rfl (Qt_assign rfl) ?_
      refine Ow_nil ?_
      refine Cw_ret ?_
      obtain ⟨ey0, ez0_order, eubp0_failed⟩ := inj3 H
      subst y0 z0_order ubp0_failed
      refine ⟨(by first | exact .inl rfl | exact .inr rfl), [(.bool false)], ⟨(.bool false), _, rfl, rfl, rfl⟩, ?_⟩
      refine Shift.pull (.there .here) ?_
      refine Shift.pull (.there (.there .here)) ?_
      refine Shift.pull (.there (.there .here)) ?_
      have hs937 := ((hp0_order).mono hK921).mono hK932
      refine Shift.done ?_
      exact ⟨vp0_order, rsp0_order, esp0_failed, ckp0_failed, rfl, rfl, hs937, hs935⟩
    · intro h936
      have H := iff_ (btf h936) H
      refine Cw_skip ?_
      refine Cw_join (fun env' K' G' => ∃ (es1826 : Array MapEntry) (ck1827 : Nat) (m1828 : ByteArray → Option Bool) (v1830 : SV) (l1831 : List Done) (rs1833 : List (List Value)), [(0, (.pointer (some ((⟨bp0, 0, none⟩ : Addr).add 0)))), (9, (.string x926))] = env' ∧ (.blk bp0 82 [(sv vp0_threads), (.bool p0_open_), .nilFunc, (.map (some bp0_failed)), (sv v1830)]) :: (.obj bp0_failed (.map es1826 ck1827)) :: (.row (sv v1830) 47 6 rs1833.flatten) :: G = G' ∧ M_linear_search_run_J1 x926 p0_threads p0_open_ rc m1828 l1831 = some (y0, z0_order, ubp0_failed) ∧ MapR Ty.bool Value.string K' es1826 m1828 ∧ RowR TyDone K' rs1833 l1831) ?_ ?_
      · skip
        refine Cw_seq ?_
        refine Cw_region ?_
        refine Ow_q rfl rfl rfl (Qt_move rfl) ?_
        refine Ow_q rfl rfl rfl (Qt_nilCheck rfl) ?_
        refine Ow_q rfl rfl rfl (Qt_fieldAddr (m := 0) rfl rfl rfl rfl rfl) ?_
        refine Ow_q rfl rfl rfl (Qt_load1 (v := (sv vp0_threads)) rfl rfl rfl (Rdc.blk (.head _) rfl)) ?_
        have hs1834 := ((hp0_threads).mono hK921).mono hK932
        refine Ow_q rfl rfl rfl (Q_len (T := (Ty.sl TyLinear_call)) hs1834 rfl rfl) ?_
        refine Ow_q rfl rfl rfl (Qt_move rfl) ?_
        refine Ow_nil ?_
        refine Cw_block ?_
        refine Cw_loopM (fun n2722 env' K' G' => ∃ (i2713 : Int) (es2714 : Array MapEntry) (ck2715 : Nat) (m2716 : ByteArray → Option Bool) (v2718 : SV) (l2719 : List Done) (rs2721 : List (List Value)), [(0, (.pointer (some ((⟨bp0, 0, none⟩ : Addr).add 0)))), (1, (sv vp1)), (2, (sv vp2)), (7, (.int .i64 x917)), (9, (.string x926)), (56, (.int .i64 (p0_threads.length : Int))), (57, (.int .i64 i2713))] = env' ∧ (.blk bp0 82 [(sv vp0_threads), (.bool p0_open_), .nilFunc, (.map (some bp0_failed)), (sv v2718)]) :: (.obj bp0_failed (.map es2714 ck2715)) :: (.row (sv v2718) 47 6 rs2721.flatten) :: G = G' ∧ lp3 (M_linear_search_run_L1 p1 p2 x917 x926 p0_threads p0_open_ rc) n2722 i2713 m2716 l2719 = some (y0, z0_order, ubp0_failed) ∧ MapR Ty.bool Value.string K' es2714 m2716 ∧ RowR TyDone K' rs2721 l2719) BIG ?_ ?_
        · skip
          refine Shift.pull (.there (.there .here)) ?_
          refine Shift.pull (.there (.there .here)) ?_
          refine Shift.pull (.there (.there .here)) ?_
          have hs2723 := ((hp0_order).mono hK921).mono hK932
          refine Shift.done ?_
          exact ⟨[(0, (.pointer (some ((⟨bp0, 0, none⟩ : Addr).add 0)))), (1, (sv vp1)), (2, (sv vp2)), (7, (.int .i64 x917)), (9, (.string x926)), (56, (.int .i64 (p0_threads.length : Int))), (57, (.int .i64 0))], ⟨rfl, rfl, rfl, rfl, rfl, rfl, rfl, trivial⟩, 0, esp0_failed, ckp0_failed, p0_failed, vp0_order, p0_order, rsp0_order, rfl, rfl, H, hs935, hs2723⟩
        rintro n2722 _ K2724 _ hK2725 ⟨i2713, es2714, ck2715, m2716, v2718, l2719, rs2721, rfl, rfl, H, hM2717, hR2720⟩
        obtain ⟨m2726, k2727, rfl, hkk2728, H⟩ := lps3 H
        unfold M_linear_search_run_L1 at H
        refine Cw_seq ?_
        refine Cw_region ?_
        refine Ow_q rfl rfl rfl (Qt_cmp rfl rfl rfl) ?_
        refine Ow_nil ?_
        refine Cw_seq ?_
        refine Cw_cond rfl ?_ ?_
        · intro h2730
          have h2730 := dcd_t (h2730)
          have H := ift h2730 H
          refine Cw_skip ?_
          refine Cw_join (fun env' K' G' => ∃ (es3152 : Array MapEntry) (ck3153 : Nat) (m3154 : ByteArray → Option Bool) (v3156 : SV) (l3157 : List Done) (rs3159 : List (List Value)), [(0, (.pointer (some ((⟨bp0, 0, none⟩ : Addr).add 0)))), (1, (sv vp1)), (2, (sv vp2)), (7, (.int .i64 x917)), (9, (.string x926)), (56, (.int .i64 (p0_threads.length : Int))), (57, (.int .i64 i2713))] = env' ∧ (.blk bp0 82 [(sv vp0_threads), (.bool p0_open_), .nilFunc, (.map (some bp0_failed)), (sv v3156)]) :: (.obj bp0_failed (.map es3152 ck3153)) :: (.row (sv v3156) 47 6 rs3159.flatten) :: G = G' ∧ M_linear_search_run_J2 p1 p2 x917 x926 p0_threads i2713 p0_open_ k2727 rc m3154 l3157 = some (y0, z0_order, ubp0_failed) ∧ MapR Ty.bool Value.string K' es3152 m3154 ∧ RowR TyDone K' rs3159 l3157) ?_ ?_
          · skip
            refine Cw_block ?_
            refine Cw_seq ?_
            refine Cw_region ?_
            refine Ow_q rfl rfl rfl (Qt_move rfl) ?_
            refine Ow_q rfl rfl rfl (Qt_assign rfl) ?_
            refine Ow_nil ?_
            refine Cw_seq ?_
            refine Cw_region ?_
            refine Ow_q rfl rfl rfl (Qt_move rfl) ?_
            refine Ow_q rfl rfl rfl (Qt_move rfl) ?_
            refine Ow_q rfl rfl rfl (Qt_move rfl) ?_
            refine Ow_q rfl rfl rfl (Qt_move rfl) ?_
            obtain ⟨x3160, x3161, hx3162, H⟩ := bnd2 H
            refine Ow.shift (Shift.pull (.there (.there .here)) (Shift.done ?_))
            refine Ow.shift (Shift.pull (.there (.there .here)) (Shift.done ?_))
            refine Ow.shift (Shift.pull (.there (.there .here)) (Shift.done ?_))
            have hs3163 := (hs1834).mono hK2725
            have hs3164 := ((hs928).mono hK932).mono hK2725
            refine Ow_cons rfl (OpW_call rfl Tryd.call53 rfl rfl (c_M_linear_search_candidate bp0 p0_threads vp0_threads p0_open_ m2716 bp0_failed es2714 ck2715 l2719 v2718 rs2721 p1 vp1 i2713 x917 x3160 x3161 hx3162 _ _ hs3163 hM2717 hR2720 hs3164) ?_)
            rintro _ _ _ - ⟨v3165, v3166, rfl, rfl, rfl, hs3167, hs3168⟩
            refine Ow_q rfl rfl rfl (Qt_move rfl) ?_
            refine Ow_q rfl rfl rfl (Qt_extract rfl rfl) ?_
            refine Ow_q rfl rfl rfl (Qt_extract rfl rfl) ?_
            refine Ow_cons rfl (OpW_alloc (cs := (Linear_call.cells (Linear_call.mk (Op.mk 0 0 0 0 0 [] []) (Result.mk 0 0 0 false 0) 0 0) nilS nilS)) rfl rfl rfl rfl (fun b3169 => ?_))
            refine Ow_cons rfl (OpW_store (vs := (Linear_call.cells x3160 v3165 v3166)) (all' := (Linear_call.cells x3160 v3165 v3166)) rfl rfl rfl rfl rfl .here rfl rfl rfl ?_)
            refine Ow_q rfl rfl rfl (Qt_assign rfl) ?_
            refine Ow_nil ?_
            refine Cw_seq ?_
            refine Cw_seq ?_
            refine Cw_region ?_
            refine Ow_q rfl rfl rfl (Qt_move rfl) ?_
            refine Ow_q rfl rfl rfl (Qt_not rfl) ?_
            refine Ow_nil ?_
            refine Cw_cond rfl ?_ ?_
            · intro h3171
              have h3171 := nt_t (h3171)
              have H := iff_ (btf h3171) H
              refine Cw_exit ?_
              refine Shift.pull (.there (.there (.there .here))) ?_
              refine Shift.pull (.there (.there (.there .here))) ?_
              refine Shift.pull (.there (.there (.there .here))) ?_
              refine Shift.rem (.there (.there (.there .here))) ?_
              refine Shift.done ?_
              exact ⟨[(0, (.pointer (some ((⟨bp0, 0, none⟩ : Addr).add 0)))), (1, (sv vp1)), (2, (sv vp2)), (7, (.int .i64 x917)), (9, (.string x926)), (56, (.int .i64 (p0_threads.length : Int))), (57, (.int .i64 i2713))], ⟨rfl, rfl, rfl, rfl, rfl, rfl, rfl, trivial⟩, es2714, ck2715, m2716, v2718, l2719, rs2721, rfl, rfl, H, hM2717, hR2720⟩
            · intro h3171
              have h3171 := nt_f (h3171)
              have H := ift h3171 H
              refine Cw_skip ?_
              refine Cw_join (fun env' K' G' => ∃ (es3309 : Array MapEntry) (ck3310 : Nat) (m3311 : ByteArray → Option Bool) (v3313 : SV) (l3314 : List Done) (rs3316 : List (List Value)), [(0, (.pointer (some ((⟨bp0, 0, none⟩ : Addr).add 0)))), (1, (sv vp1)), (2, (sv vp2)), (7, (.int .i64 x917)), (9, (.string x926)), (10, (.int .i64 i2713)), (11, (.pointer (some ((⟨b3169, 0, none⟩ : Addr).add 0)))), (56, (.int .i64 (p0_threads.length : Int))), (57, (.int .i64 i2713))] = env' ∧ (.blk bp0 82 [(sv vp0_threads), (.bool p0_open_), .nilFunc, (.map (some bp0_failed)), (sv v3313)]) :: (.blk b3169 109 (Linear_call.cells x3160 v3165 v3166)) :: (.obj bp0_failed (.map es3309 ck3310)) :: (.row (sv v3313) 47 6 rs3316.flatten) :: G = G' ∧ M_linear_search_run_J3 p1 p2 x917 x926 i2713 p0_threads p0_open_ x3160 k2727 rc m3311 l3314 = some (y0, z0_order, ubp0_failed) ∧ MapR Ty.bool Value.string K' es3309 m3311 ∧ RowR TyDone K' rs3316 l3314) ?_ ?_
              · skip
                refine Cw_seq ?_
                refine Cw_region ?_
                refine Ow_q rfl rfl rfl (Qt_loadA (m := 14) (cs := (Linear_call.cells x3160 v3165 v3166)) rfl rfl rfl rfl ⟨rfl, Rdc.blk (.head _) rfl⟩) ?_
                refine Ow_q rfl rfl rfl (Qt_move rfl) ?_
                obtain ⟨x3317, hx3318, H⟩ := bnd H
                have hs3319 := ((hs929).mono hK932).mono hK2725
                refine Ow_cons rfl (OpW_call rfl Tryd.call54 rfl rfl (c_M_linear_call_results x3160 v3165 v3166 p2 vp2 x3317 hx3318 _ _ hs3167 hs3168 hs3319) ?_)
                rintro _ K3321 _ hK3322 ⟨v3320, rfl, rfl, hs3323⟩
                refine Ow_q rfl rfl rfl (Q_len (T := TyResult) hs3323 rfl rfl) ?_
                refine Ow_q rfl rfl rfl (Qt_move rfl) ?_
                refine Ow_nil ?_
                refine Cw_block ?_
                refine Cw_loopM (fun n3454 env' K' G' => ∃ (i3445 : Int) (es3446 : Array MapEntry) (ck3447 : Nat) (m3448 : ByteArray → Option Bool) (v3450 : SV) (l3451 : List Done) (rs3453 : List (List Value)), [(0, (.pointer (some ((⟨bp0, 0, none⟩ : Addr).add 0)))), (1, (sv vp1)), (2, (sv vp2)), (7, (.int .i64 x917)), (9, (.string x926)), (10, (.int .i64 i2713)), (11, (.pointer (some ((⟨b3169, 0, none⟩ : Addr).add 0)))), (56, (.int .i64 (p0_threads.length : Int))), (57, (.int .i64 i2713)), (72, (sv v3320)), (73, (.int .i64 (x3317.length : Int))), (74, (.int .i64 i3445))] = env' ∧ (.blk bp0 82 [(sv vp0_threads), (.bool p0_open_), .nilFunc, (.map (some bp0_failed)), (sv v3450)]) :: (.blk b3169 109 (Linear_call.cells x3160 v3165 v3166)) :: (.obj bp0_failed (.map es3446 ck3447)) :: (.row (sv v3450) 47 6 rs3453.flatten) :: (.tok 36 5 [(sv v3320)]) :: G = G' ∧ lp3 (M_linear_search_run_L2 p1 p2 x917 x926 i2713 p0_threads x3317 p0_open_ x3160 k2727 rc) n3454 i3445 m3448 l3451 = some (y0, z0_order, ubp0_failed) ∧ MapR Ty.bool Value.string K' es3446 m3448 ∧ RowR TyDone K' rs3453 l3451) BIG ?_ ?_
                · skip
                  refine Shift.pull (.there (.there (.there (.there .here)))) ?_
                  refine Shift.pull (.there (.there (.there (.there .here)))) ?_
                  refine Shift.pull (.there (.there (.there .here))) ?_
                  refine Shift.pull (.there (.there (.there (.there .here)))) ?_
                  have hs3455 := (hM2717).mono hK3322
                  have hs3456 := (hR2720).mono hK3322
                  refine Shift.done ?_
                  exact ⟨[(0, (.pointer (some ((⟨bp0, 0, none⟩ : Addr).add 0)))), (1, (sv vp1)), (2, (sv vp2)), (7, (.int .i64 x917)), (9, (.string x926)), (10, (.int .i64 i2713)), (11, (.pointer (some ((⟨b3169, 0, none⟩ : Addr).add 0)))), (56, (.int .i64 (p0_threads.length : Int))), (57, (.int .i64 i2713)), (72, (sv v3320)), (73, (.int .i64 (x3317.length : Int))), (74, (.int .i64 0))], ⟨rfl, rfl, rfl, rfl, rfl, rfl, rfl, rfl, rfl, rfl, rfl, rfl, trivial⟩, 0, es2714, ck2715, m2716, v2718, l2719, rs2721, rfl, rfl, H, hs3455, hs3456⟩
                rintro n3454 _ K3457 _ hK3458 ⟨i3445, es3446, ck3447, m3448, v3450, l3451, rs3453, rfl, rfl, H, hM3449, hR3452⟩
                obtain ⟨m3459, k3460, rfl, hkk3461, H⟩ := lps3 H
                unfold M_linear_search_run_L2 at H
                refine Cw_seq ?_
                refine Cw_region ?_
                refine Ow_q rfl rfl rfl (Qt_cmp rfl rfl rfl) ?_
                refine Ow_nil ?_
                refine Cw_seq ?_
                refine Cw_cond rfl ?_ ?_
                · intro h3463
                  have h3463 := dcd_t (h3463)
                  have H := ift h3463 H
                  refine Cw_skip ?_
                  refine Cw_seq ?_
                  refine Cw_block ?_
                  refine Cw_seq ?_
                  refine Cw_region ?_
                  obtain ⟨x3517, hx3518, H⟩ := bnd H
                  have hs3519 := (hs3323).mono hK3458
                  obtain ⟨r3520, hr3521, hk3522⟩ := Slr.at hs3519 hx3518
                  obtain rfl := hr3521
                  refine Ow_q rfl rfl rfl (Q_ix (T := TyResult) hs3519 hx3518 rfl rfl rfl rfl rfl) ?_
                  refine Ow_q rfl rfl rfl (Qt_loadA (m := 5) (cs := (Result.cells x3517)) rfl rfl rfl rfl ⟨rfl, Rdc.k hk3522 rfl⟩) ?_
                  refine Ow_cons rfl (OpW_alloc (cs := (Result.cells (Result.mk 0 0 0 false 0))) rfl rfl rfl rfl (fun b3523 => ?_))
                  refine Ow_cons rfl (OpW_store (vs := (Result.cells x3517)) (all' := (Result.cells x3517)) rfl rfl rfl rfl rfl .here rfl rfl rfl ?_)
                  refine Ow_nil ?_
                  refine Cw_seq ?_
                  refine Cw_region ?_
                  refine Ow_q rfl rfl rfl (Qt_move rfl) ?_
                  refine Ow_q rfl rfl rfl (Qt_fieldAddr (m := 0) rfl rfl rfl rfl rfl) ?_
                  refine Ow_q rfl rfl rfl (Qt_loadA (m := 7) (cs := (Op.cells x3160.op v3165 v3166)) rfl rfl rfl rfl ⟨rfl, Rdc.blk (.tail _ (.tail _ (.head _))) rfl⟩) ?_
                  refine Ow_q rfl rfl rfl (Qt_loadA (m := 5) (cs := (Result.cells x3517)) rfl rfl rfl rfl ⟨rfl, Rdc.blk (.head _) rfl⟩) ?_
                  obtain ⟨x3524, x3525, hx3526, H⟩ := bnd2 H
                  have hs3527 := ((hs3319).mono hK3322).mono hK3458
                  have hs3528 := ((hs3167).mono hK3322).mono hK3458
                  have hs3529 := ((hs3168).mono hK3322).mono hK3458
                  refine Ow_cons rfl (OpW_call rfl Tryd.call23 rfl rfl (c_M_model_Apply p2 vp2 x3160.op v3165 v3166 x3517 x3524 x3525 hx3526 _ _ hs3527 hs3528 hs3529) ?_)
                  rintro _ K3531 _ hK3532 ⟨v3530, rfl, rfl, hs3533⟩
                  refine Ow_q rfl rfl rfl (Qt_move rfl) ?_
                  refine Ow_q rfl rfl rfl (Qt_extract rfl rfl) ?_
                  refine Ow_q rfl rfl rfl (Qt_extract rfl rfl) ?_
                  refine Ow_q rfl rfl rfl (Qt_assign rfl) ?_
                  refine Ow_q rfl rfl rfl (Qt_assign rfl) ?_
                  refine Ow_nil ?_
                  refine Cw_join (fun env' K' G' => ∃ (t3558 : Bool) (es3559 : Array MapEntry) (ck3560 : Nat) (m3561 : ByteArray → Option Bool) (v3563 : SV) (l3564 : List Done) (rs3566 : List (List Value)), [(0, (.pointer (some ((⟨bp0, 0, none⟩ : Addr).add 0)))), (1, (sv vp1)), (2, (sv vp2)), (7, (.int .i64 x917)), (9, (.string x926)), (10, (.int .i64 i2713)), (11, (.pointer (some ((⟨b3169, 0, none⟩ : Addr).add 0)))), (56, (.int .i64 (p0_threads.length : Int))), (57, (.int .i64 i2713)), (72, (sv v3320)), (73, (.int .i64 (x3317.length : Int))), (74, (.int .i64 i3445)), (96, (.bool t3558))] = env' ∧ (.blk bp0 82 [(sv vp0_threads), (.bool p0_open_), .nilFunc, (.map (some bp0_failed)), (sv v3563)]) :: (.blk b3169 109 (Linear_call.cells x3160 v3165 v3166)) :: (.obj bp0_failed (.map es3559 ck3560)) :: (.row (sv v3563) 47 6 rs3566.flatten) :: (.tok 36 5 [(sv v3320)]) :: G = G' ∧ M_linear_search_run_J4 p1 p2 x917 x926 i2713 p0_threads x3317 i3445 p0_open_ x3160 k2727 k3460 rc t3558 m3561 l3564 = some (y0, z0_order, ubp0_failed) ∧ MapR Ty.bool Value.string K' es3559 m3561 ∧ RowR TyDone K' rs3566 l3564) ?_ ?_
                  · skip
                    refine Cw_region ?_
                    refine Ow_q rfl rfl rfl (Qt_move rfl) ?_
                    refine Ow_q rfl rfl rfl (Qt_move rfl) ?_
                    refine Ow_caseG rfl rfl rfl ?_ ?_
                    · intro h3567
                      have H := ift h3567 H
                      refine Ow_qw rfl rfl rfl rfl rfl rfl (Qt_move rfl) ?_
                      refine Ow_qw rfl rfl rfl rfl rfl rfl (Qt_move rfl) ?_
                      refine Ow_qw rfl rfl rfl rfl rfl rfl (Qt_move rfl) ?_
                      refine Ow_qw rfl rfl rfl rfl rfl rfl (Qt_move rfl) ?_
                      refine Ow_qw rfl rfl rfl rfl rfl rfl (Qt_loadA (m := 5) (cs := (Result.cells x3517)) rfl rfl rfl rfl ⟨rfl, Rdc.blk (.head _) rfl⟩) ?_
                      refine Ow_qw rfl rfl rfl rfl rfl rfl (Qt_build (cs := (Done.cells (Done.mk i2713 x3517))) rfl rfl rfl rfl rfl rfl) ?_
                      have hR3569 : RowR TyDone K3531 [(Done.cells (Done.mk i2713 x3517))] [(Done.mk i2713 x3517)] := RowR.cons rfl (RowR.nil)
                      refine Ow_want rfl rfl rfl rfl (O_lit (T := TyDone) (rows := [(Done.cells (Done.mk i2713 x3517))]) (l := [(Done.mk i2713 x3517)]) rfl rfl rfl hR3569 rfl rfl rfl rfl rfl rfl rfl rfl (fun v3568 => ?_))
                      refine Ow.shift (Shift.settle (T := TyDone) .here hR3569 rfl (fun K3570 hK3571 hs3572 => Shift.done ?_))
                      obtain ⟨x3573, x3574, x3575, hx3576, H⟩ := bnd3 H
                      refine Ow.shift (Shift.pull (.there (.there (.there (.there (.there .here))))) (Shift.done ?_))
                      refine Ow.shift (Shift.pull (.there (.there (.there (.there (.there .here))))) (Shift.done ?_))
                      refine Ow.shift (Shift.pull (.there (.there (.there (.there .here)))) (Shift.done ?_))
                      have hs3577 := ((((hs3163).mono hK3322).mono hK3458).mono hK3532).mono hK3571
                      have hs3578 := ((hM3449).mono hK3532).mono hK3571
                      have hs3579 := ((hR3452).mono hK3532).mono hK3571
                      have hs3580 := ((((hs3164).mono hK3322).mono hK3458).mono hK3532).mono hK3571
                      have hs3581 := (hs3533).mono hK3571
                      have hs3582 := ((((((hs930).mono hK932).mono hK2725).mono hK3322).mono hK3458).mono hK3532).mono hK3571
                      refine Ow_want rfl rfl rfl rfl (OpW_call rfl Tryd.call55 rfl rfl (c_M_linear_search_place rc ih bp0 p0_threads vp0_threads p0_open_ m3448 bp0_failed es3446 ck3447 l3451 v3450 rs3453 p1 vp1 x3524 v3530 [(Done.mk i2713 x3517)] v3568 x3573 x3574 x3575 hx3576 _ _ hs3577 hs3578 hs3579 hs3580 hs3581 hs3572 hs3582) ?_)
                      rintro _ K3587 _ hK3588 ⟨v3583, rs3584, es3585, b3586, rfl, rfl, hs3589, hs3590⟩
                      refine Ow_q rfl rfl rfl (Qt_pick_t rfl rfl) ?_
                      refine Ow_nil ?_
                      refine Shift.pull (.there (.there (.there (.there (.there (.there .here)))))) ?_
                      refine Shift.pull (.there (.there .here)) ?_
                      refine Shift.pull (.there (.there (.there .here))) ?_
                      refine Shift.pull (.there (.there (.there (.there (.there (.there .here)))))) ?_
                      refine Shift.pull (.there (.there (.there (.there .here)))) ?_
                      refine Shift.rem (.there (.there (.there (.there (.there .here))))) ?_
                      refine Shift.rem (.there (.there (.there (.there (.there .here))))) ?_
                      refine Shift.done ?_
                      exact ⟨[(0, (.pointer (some ((⟨bp0, 0, none⟩ : Addr).add 0)))), (1, (sv vp1)), (2, (sv vp2)), (7, (.int .i64 x917)), (9, (.string x926)), (10, (.int .i64 i2713)), (11, (.pointer (some ((⟨b3169, 0, none⟩ : Addr).add 0)))), (56, (.int .i64 (p0_threads.length : Int))), (57, (.int .i64 i2713)), (72, (sv v3320)), (73, (.int .i64 (x3317.length : Int))), (74, (.int .i64 i3445)), (96, (.bool x3573))], ⟨rfl, rfl, rfl, rfl, rfl, rfl, rfl, rfl, rfl, rfl, rfl, rfl, rfl, trivial⟩, x3573, es3585, b3586, x3575, v3583, x3574, rs3584, rfl, rfl, H, hs3590, hs3589⟩
                    · intro h3567
                      have H := iff_ (btf h3567) H
                      refine Ow_pass rfl rfl rfl rfl rfl rfl rfl ?_
                      refine Ow_pass rfl rfl rfl rfl rfl rfl rfl ?_
                      refine Ow_pass rfl rfl rfl rfl rfl rfl rfl ?_
                      refine Ow_pass rfl rfl rfl rfl rfl rfl rfl ?_
                      refine Ow_pass rfl rfl rfl rfl rfl rfl rfl ?_
                      refine Ow_pass rfl rfl rfl rfl rfl rfl rfl ?_
                      refine Ow_pass rfl rfl rfl rfl rfl rfl rfl ?_
                      refine Ow_pass rfl rfl rfl rfl rfl rfl rfl ?_
                      refine Ow_q rfl rfl rfl (Qt_pick_f rfl rfl) ?_
                      refine Ow_nil ?_
                      refine Shift.pull (.there (.there (.there (.there (.there .here))))) ?_
                      refine Shift.pull (.there (.there (.there (.there (.there .here))))) ?_
                      refine Shift.pull (.there (.there (.there (.there (.there .here))))) ?_
                      refine Shift.pull (.there (.there (.there (.there (.there .here))))) ?_
                      refine Shift.pull (.there (.there (.there (.there (.there .here))))) ?_
                      refine Shift.rem (.there (.there (.there (.there (.there .here))))) ?_
                      have hs3591 := (hM3449).mono hK3532
                      have hs3592 := (hR3452).mono hK3532
                      refine Shift.done ?_
                      exact ⟨[(0, (.pointer (some ((⟨bp0, 0, none⟩ : Addr).add 0)))), (1, (sv vp1)), (2, (sv vp2)), (7, (.int .i64 x917)), (9, (.string x926)), (10, (.int .i64 i2713)), (11, (.pointer (some ((⟨b3169, 0, none⟩ : Addr).add 0)))), (56, (.int .i64 (p0_threads.length : Int))), (57, (.int .i64 i2713)), (72, (sv v3320)), (73, (.int .i64 (x3317.length : Int))), (74, (.int .i64 i3445)), (96, (.bool false))], ⟨rfl, rfl, rfl, rfl, rfl, rfl, rfl, rfl, rfl, rfl, rfl, rfl, rfl, trivial⟩, false, es3446, ck3447, m3448, v3450, l3451, rs3453, rfl, rfl, H, hs3591, hs3592⟩
                  rintro _ K3593 _ hK3594 ⟨t3558, es3559, ck3560, m3561, v3563, l3564, rs3566, rfl, rfl, H, hM3562, hR3565⟩
                  unfold M_linear_search_run_J4 at H
                  refine Cw_cond rfl ?_ ?_
                  · intro h3595
                    have H := ift h3595 H
                    refine Cw_seq ?_
                    refine Cw_region ?_
                    refine Ow_q rfl rfl rfl (Qt_assign rfl) ?_
                    refine Ow_nil ?_
                    refine Cw_ret ?_
                    obtain ⟨ey0, ez0_order, eubp0_failed⟩ := inj3 H
                    subst y0 z0_order ubp0_failed
                    refine ⟨(by first | exact .inl rfl | exact .inr rfl), [(.bool true)], ⟨(.bool true), _, rfl, rfl, rfl⟩, ?_⟩
                    refine Shift.pull (.there (.there .here)) ?_
                    refine Shift.pull (.there (.there (.there .here))) ?_
                    refine Shift.pull (.there (.there .here)) ?_
                    refine Shift.rem (.there (.there (.there .here))) ?_
                    refine Shift.rem (.there (.there (.there .here))) ?_
                    refine Shift.done ?_
                    exact ⟨v3563, rs3566, es3559, ck3560, rfl, rfl, hR3565, hM3562⟩
                  · intro h3595
                    have H := iff_ (btf h3595) H
                    refine Cw_skip ?_
                    refine Cw_region ?_
                    refine Ow_q rfl rfl rfl (Qt_arith (e := wI (i3445 + 1)) rfl rfl rfl rfl) ?_
                    refine Ow_q rfl rfl rfl (Qt_move rfl) ?_
                    refine Ow_nil ?_
                    refine Shift.pull (.there (.there (.there (.there .here)))) ?_
                    refine Shift.pull (.there (.there (.there (.there .here)))) ?_
                    refine Shift.pull (.there (.there (.there (.there .here)))) ?_
                    refine Shift.pull (.there (.there (.there (.there .here)))) ?_
                    refine Shift.pull (.there (.there (.there (.there .here)))) ?_
                    refine Shift.done ?_
                    exact ⟨[(0, (.pointer (some ((⟨bp0, 0, none⟩ : Addr).add 0)))), (1, (sv vp1)), (2, (sv vp2)), (7, (.int .i64 x917)), (9, (.string x926)), (10, (.int .i64 i2713)), (11, (.pointer (some ((⟨b3169, 0, none⟩ : Addr).add 0)))), (56, (.int .i64 (p0_threads.length : Int))), (57, (.int .i64 i2713)), (72, (sv v3320)), (73, (.int .i64 (x3317.length : Int))), (74, (.int .i64 (wI (i3445 + 1))))], ⟨rfl, rfl, rfl, rfl, rfl, rfl, rfl, rfl, rfl, rfl, rfl, rfl, trivial⟩, _, Nat.lt_succ_self _, (wI (i3445 + 1)), es3559, ck3560, m3561, v3563, l3564, rs3566, rfl, rfl, (hkk3461 ▸ H), hM3562, hR3565⟩
                · intro h3463
                  have h3463 := dcd_f (h3463)
                  have H := iff_ h3463 H
                  refine Cw_exit ?_
                  refine Shift.pull (.there (.there (.there .here))) ?_
                  refine Shift.pull (.there (.there (.there .here))) ?_
                  refine Shift.pull (.there (.there (.there .here))) ?_
                  refine Shift.pull (.there (.there (.there .here))) ?_
                  refine Shift.rem (.there (.there (.there (.there .here)))) ?_
                  refine Shift.done ?_
                  exact ⟨[(0, (.pointer (some ((⟨bp0, 0, none⟩ : Addr).add 0)))), (1, (sv vp1)), (2, (sv vp2)), (7, (.int .i64 x917)), (9, (.string x926)), (10, (.int .i64 i2713)), (11, (.pointer (some ((⟨b3169, 0, none⟩ : Addr).add 0)))), (56, (.int .i64 (p0_threads.length : Int))), (57, (.int .i64 i2713))], ⟨rfl, rfl, rfl, rfl, rfl, rfl, rfl, rfl, rfl, trivial⟩, es3446, ck3447, m3448, v3450, l3451, rs3453, rfl, rfl, H, hM3449, hR3452⟩
              rintro _ K3596 _ hK3597 ⟨es3309, ck3310, m3311, v3313, l3314, rs3316, rfl, rfl, H, hM3312, hR3315⟩
              unfold M_linear_search_run_J3 at H
              refine Cw_seq ?_
              refine Cw_region ?_
              refine Ow_q rfl rfl rfl (Qt_move rfl) ?_
              refine Ow_q rfl rfl rfl (Qt_nilCheck rfl) ?_
              refine Ow_q rfl rfl rfl (Qt_fieldAddr (m := 0) rfl rfl rfl rfl rfl) ?_
              refine Ow_q rfl rfl rfl (Qt_load1 (v := (sv vp0_threads)) rfl rfl rfl (Rdc.blk (.head _) rfl)) ?_
              have hs3598 := (hs3163).mono hK3597
              refine Ow_q rfl rfl rfl (Q_len (T := (Ty.sl TyLinear_call)) hs3598 rfl rfl) ?_
              refine Ow_q rfl rfl rfl (Qt_move rfl) ?_
              refine Ow_nil ?_
              refine Cw_block ?_
              refine Cw_loopM (fun n3861 env' K' G' => ∃ (i3852 : Int) (es3853 : Array MapEntry) (ck3854 : Nat) (m3855 : ByteArray → Option Bool) (v3857 : SV) (l3858 : List Done) (rs3860 : List (List Value)), [(0, (.pointer (some ((⟨bp0, 0, none⟩ : Addr).add 0)))), (1, (sv vp1)), (2, (sv vp2)), (7, (.int .i64 x917)), (9, (.string x926)), (10, (.int .i64 i2713)), (11, (.pointer (some ((⟨b3169, 0, none⟩ : Addr).add 0)))), (56, (.int .i64 (p0_threads.length : Int))), (57, (.int .i64 i2713)), (102, (.int .i64 (p0_threads.length : Int))), (103, (.int .i64 i3852))] = env' ∧ (.blk bp0 82 [(sv vp0_threads), (.bool p0_open_), .nilFunc, (.map (some bp0_failed)), (sv v3857)]) :: (.blk b3169 109 (Linear_call.cells x3160 v3165 v3166)) :: (.obj bp0_failed (.map es3853 ck3854)) :: (.row (sv v3857) 47 6 rs3860.flatten) :: G = G' ∧ lp3 (M_linear_search_run_L3 p1 p2 x917 x926 i2713 p0_threads p0_open_ x3160 k2727 rc) n3861 i3852 m3855 l3858 = some (y0, z0_order, ubp0_failed) ∧ MapR Ty.bool Value.string K' es3853 m3855 ∧ RowR TyDone K' rs3860 l3858) BIG ?_ ?_
              · skip
                refine Shift.pull (.there (.there (.there .here))) ?_
                refine Shift.pull (.there (.there (.there .here))) ?_
                refine Shift.pull (.there (.there (.there .here))) ?_
                refine Shift.pull (.there (.there (.there .here))) ?_
                refine Shift.done ?_
                exact ⟨[(0, (.pointer (some ((⟨bp0, 0, none⟩ : Addr).add 0)))), (1, (sv vp1)), (2, (sv vp2)), (7, (.int .i64 x917)), (9, (.string x926)), (10, (.int .i64 i2713)), (11, (.pointer (some ((⟨b3169, 0, none⟩ : Addr).add 0)))), (56, (.int .i64 (p0_threads.length : Int))), (57, (.int .i64 i2713)), (102, (.int .i64 (p0_threads.length : Int))), (103, (.int .i64 0))], ⟨rfl, rfl, rfl, rfl, rfl, rfl, rfl, rfl, rfl, rfl, rfl, trivial⟩, 0, es3309, ck3310, m3311, v3313, l3314, rs3316, rfl, rfl, H, hM3312, hR3315⟩
              rintro n3861 _ K3862 _ hK3863 ⟨i3852, es3853, ck3854, m3855, v3857, l3858, rs3860, rfl, rfl, H, hM3856, hR3859⟩
              obtain ⟨m3864, k3865, rfl, hkk3866, H⟩ := lps3 H
              unfold M_linear_search_run_L3 at H
              refine Cw_seq ?_
              refine Cw_region ?_
              refine Ow_q rfl rfl rfl (Qt_cmp rfl rfl rfl) ?_
              refine Ow_nil ?_
              refine Cw_seq ?_
              refine Cw_cond rfl ?_ ?_
              · intro h3868
                have h3868 := dcd_t (h3868)
                have H := ift h3868 H
                refine Cw_skip ?_
                refine Cw_join (fun env' K' G' => ∃ (es3977 : Array MapEntry) (ck3978 : Nat) (m3979 : ByteArray → Option Bool) (v3981 : SV) (l3982 : List Done) (rs3984 : List (List Value)), [(0, (.pointer (some ((⟨bp0, 0, none⟩ : Addr).add 0)))), (1, (sv vp1)), (2, (sv vp2)), (7, (.int .i64 x917)), (9, (.string x926)), (10, (.int .i64 i2713)), (11, (.pointer (some ((⟨b3169, 0, none⟩ : Addr).add 0)))), (56, (.int .i64 (p0_threads.length : Int))), (57, (.int .i64 i2713)), (102, (.int .i64 (p0_threads.length : Int))), (103, (.int .i64 i3852))] = env' ∧ (.blk bp0 82 [(sv vp0_threads), (.bool p0_open_), .nilFunc, (.map (some bp0_failed)), (sv v3981)]) :: (.blk b3169 109 (Linear_call.cells x3160 v3165 v3166)) :: (.obj bp0_failed (.map es3977 ck3978)) :: (.row (sv v3981) 47 6 rs3984.flatten) :: G = G' ∧ M_linear_search_run_J5 p1 p2 x917 x926 i2713 p0_threads i3852 p0_open_ x3160 k2727 k3865 rc m3979 l3982 = some (y0, z0_order, ubp0_failed) ∧ MapR Ty.bool Value.string K' es3977 m3979 ∧ RowR TyDone K' rs3984 l3982) ?_ ?_
                · skip
                  refine Cw_block ?_
                  refine Cw_seq ?_
                  refine Cw_region ?_
                  refine Ow_q rfl rfl rfl (Qt_move rfl) ?_
                  refine Ow_q rfl rfl rfl (Qt_assign rfl) ?_
                  refine Ow_nil ?_
                  refine Cw_seq ?_
                  refine Cw_region ?_
                  refine Ow_q rfl rfl rfl (Qt_move rfl) ?_
                  refine Ow_q rfl rfl rfl (Qt_move rfl) ?_
                  refine Ow_q rfl rfl rfl (Qt_move rfl) ?_
                  refine Ow_q rfl rfl rfl (Qt_move rfl) ?_
                  obtain ⟨x3985, x3986, hx3987, H⟩ := bnd2 H
                  refine Ow.shift (Shift.pull (.there (.there (.there .here))) (Shift.done ?_))
                  refine Ow.shift (Shift.pull (.there (.there (.there .here))) (Shift.done ?_))
                  refine Ow.shift (Shift.pull (.there (.there .here)) (Shift.done ?_))
                  have hs3988 := (hs3598).mono hK3863
                  have hs3989 := ((hs3164).mono hK3597).mono hK3863
                  refine Ow_cons rfl (OpW_call rfl Tryd.call53 rfl rfl (c_M_linear_search_candidate bp0 p0_threads vp0_threads p0_open_ m3855 bp0_failed es3853 ck3854 l3858 v3857 rs3860 p1 vp1 i3852 x917 x3985 x3986 hx3987 _ _ hs3988 hM3856 hR3859 hs3989) ?_)
                  rintro _ _ _ - ⟨v3990, v3991, rfl, rfl, rfl, hs3992, hs3993⟩
                  refine Ow_q rfl rfl rfl (Qt_move rfl) ?_
                  refine Ow_q rfl rfl rfl (Qt_extract rfl rfl) ?_
                  refine Ow_q rfl rfl rfl (Qt_extract rfl rfl) ?_
                  refine Ow_cons rfl (OpW_alloc (cs := (Linear_call.cells (Linear_call.mk (Op.mk 0 0 0 0 0 [] []) (Result.mk 0 0 0 false 0) 0 0) nilS nilS)) rfl rfl rfl rfl (fun b3994 => ?_))
                  refine Ow_cons rfl (OpW_store (vs := (Linear_call.cells x3985 v3990 v3991)) (all' := (Linear_call.cells x3985 v3990 v3991)) rfl rfl rfl rfl rfl .here rfl rfl rfl ?_)
                  refine Ow_q rfl rfl rfl (Qt_assign rfl) ?_
                  refine Ow_nil ?_
                  refine Cw_seq ?_
                  refine Cw_join (fun env' K' G' => ∃ (t3999 : Bool), [(0, (.pointer (some ((⟨bp0, 0, none⟩ : Addr).add 0)))), (1, (sv vp1)), (2, (sv vp2)), (7, (.int .i64 x917)), (9, (.string x926)), (10, (.int .i64 i2713)), (11, (.pointer (some ((⟨b3169, 0, none⟩ : Addr).add 0)))), (17, (.int .i64 i3852)), (18, (.pointer (some ((⟨b3994, 0, none⟩ : Addr).add 0)))), (56, (.int .i64 (p0_threads.length : Int))), (57, (.int .i64 i2713)), (102, (.int .i64 (p0_threads.length : Int))), (103, (.int .i64 i3852)), (120, (.bool t3999))] = env' ∧ K3862 = K' ∧ (.blk bp0 82 [(sv vp0_threads), (.bool p0_open_), .nilFunc, (.map (some bp0_failed)), (sv v3857)]) :: (.blk b3994 109 (Linear_call.cells x3985 v3990 v3991)) :: (.blk b3169 109 (Linear_call.cells x3160 v3165 v3166)) :: (.obj bp0_failed (.map es3853 ck3854)) :: (.row (sv v3857) 47 6 rs3860.flatten) :: G = G' ∧ M_linear_search_run_J6 p1 p2 x917 x926 i2713 i3852 p0_threads p0_open_ l3858 x3985 x3160 m3855 k2727 k3865 rc t3999 = some (y0, z0_order, ubp0_failed)) ?_ ?_
                  · skip
                    refine Cw_region ?_
                    refine Ow_q rfl rfl rfl (Qt_move rfl) ?_
                    refine Ow_q rfl rfl rfl (Qt_not rfl) ?_
                    refine Ow_q rfl rfl rfl (Qt_move rfl) ?_
                    refine Ow_caseG rfl rfl rfl ?_ ?_
                    · intro h4000
                      have h4000 := nt_t (h4000)
                      have H := iff_ (btf h4000) H
                      refine Ow_pass rfl rfl rfl rfl rfl rfl rfl ?_
                      refine Ow_pass rfl rfl rfl rfl rfl rfl rfl ?_
                      refine Ow_pass rfl rfl rfl rfl rfl rfl rfl ?_
                      refine Ow_q rfl rfl rfl (Qt_pick_t rfl rfl) ?_
                      refine Ow_nil ?_
                      refine Shift.pull (.there (.there (.there .here))) ?_
                      refine Shift.pull (.there (.there (.there .here))) ?_
                      refine Shift.pull (.there (.there (.there (.there .here)))) ?_
                      refine Shift.pull (.there (.there (.there .here))) ?_
                      refine Shift.pull (.there (.there (.there (.there .here)))) ?_
                      refine Shift.done ?_
                      exact ⟨[(0, (.pointer (some ((⟨bp0, 0, none⟩ : Addr).add 0)))), (1, (sv vp1)), (2, (sv vp2)), (7, (.int .i64 x917)), (9, (.string x926)), (10, (.int .i64 i2713)), (11, (.pointer (some ((⟨b3169, 0, none⟩ : Addr).add 0)))), (17, (.int .i64 i3852)), (18, (.pointer (some ((⟨b3994, 0, none⟩ : Addr).add 0)))), (56, (.int .i64 (p0_threads.length : Int))), (57, (.int .i64 i2713)), (102, (.int .i64 (p0_threads.length : Int))), (103, (.int .i64 i3852)), (120, (.bool true))], ⟨rfl, rfl, rfl, rfl, rfl, rfl, rfl, rfl, rfl, rfl, rfl, rfl, rfl, rfl, trivial⟩, true, rfl, rfl, rfl, H⟩
                    · intro h4000
                      have h4000 := nt_f (h4000)
                      have H := ift h4000 H
                      refine Ow_qw rfl rfl rfl rfl rfl rfl (Qt_move rfl) ?_
                      refine Ow_qw rfl rfl rfl rfl rfl rfl (Qt_move rfl) ?_
                      refine Ow_qw rfl rfl rfl rfl rfl rfl (Qt_cmp rfl rfl rfl) ?_
                      refine Ow_q rfl rfl rfl (Qt_pick_f rfl rfl) ?_
                      refine Ow_nil ?_
                      refine Shift.pull (.there (.there (.there .here))) ?_
                      refine Shift.pull (.there (.there (.there .here))) ?_
                      refine Shift.pull (.there (.there (.there (.there .here)))) ?_
                      refine Shift.pull (.there (.there (.there .here))) ?_
                      refine Shift.pull (.there (.there (.there (.there .here)))) ?_
                      refine Shift.done ?_
                      exact ⟨[(0, (.pointer (some ((⟨bp0, 0, none⟩ : Addr).add 0)))), (1, (sv vp1)), (2, (sv vp2)), (7, (.int .i64 x917)), (9, (.string x926)), (10, (.int .i64 i2713)), (11, (.pointer (some ((⟨b3169, 0, none⟩ : Addr).add 0)))), (17, (.int .i64 i3852)), (18, (.pointer (some ((⟨b3994, 0, none⟩ : Addr).add 0)))), (56, (.int .i64 (p0_threads.length : Int))), (57, (.int .i64 i2713)), (102, (.int .i64 (p0_threads.length : Int))), (103, (.int .i64 i3852)), (120, (.bool (dcd (i3852 = i2713))))], ⟨rfl, rfl, rfl, rfl, rfl, rfl, rfl, rfl, rfl, rfl, rfl, rfl, rfl, rfl, trivial⟩, (dcd (i3852 = i2713)), rfl, rfl, rfl, H⟩
                  rintro _ _ _ - ⟨t3999, rfl, rfl, rfl, H⟩
                  unfold M_linear_search_run_J6 at H
                  refine Cw_cond rfl ?_ ?_
                  · intro h4001
                    have H := ift h4001 H
                    refine Cw_exit ?_
                    refine Shift.pull (.there (.there (.there (.there .here)))) ?_
                    refine Shift.pull (.there (.there (.there (.there .here)))) ?_
                    refine Shift.pull (.there (.there (.there (.there .here)))) ?_
                    refine Shift.pull (.there (.there (.there .here))) ?_
                    refine Shift.rem (.there (.there (.there (.there .here)))) ?_
                    refine Shift.done ?_
                    exact ⟨[(0, (.pointer (some ((⟨bp0, 0, none⟩ : Addr).add 0)))), (1, (sv vp1)), (2, (sv vp2)), (7, (.int .i64 x917)), (9, (.string x926)), (10, (.int .i64 i2713)), (11, (.pointer (some ((⟨b3169, 0, none⟩ : Addr).add 0)))), (56, (.int .i64 (p0_threads.length : Int))), (57, (.int .i64 i2713)), (102, (.int .i64 (p0_threads.length : Int))), (103, (.int .i64 i3852))], ⟨rfl, rfl, rfl, rfl, rfl, rfl, rfl, rfl, rfl, rfl, rfl, trivial⟩, es3853, ck3854, m3855, v3857, l3858, rs3860, rfl, rfl, H, hM3856, hR3859⟩
                  · intro h4001
                    have H := iff_ (btf h4001) H
                    refine Cw_skip ?_
                    refine Cw_seq ?_
                    refine Cw_region ?_
                    refine Ow_q rfl rfl rfl (Qt_move rfl) ?_
                    refine Ow_q rfl rfl rfl (Qt_loadA (m := 14) (cs := (Linear_call.cells x3160 v3165 v3166)) rfl rfl rfl rfl ⟨rfl, Rdc.blk (.tail _ (.tail _ (.head _))) rfl⟩) ?_
                    refine Ow_q rfl rfl rfl (Qt_loadA (m := 14) (cs := (Linear_call.cells x3985 v3990 v3991)) rfl rfl rfl rfl ⟨rfl, Rdc.blk (.tail _ (.head _)) rfl⟩) ?_
                    obtain ⟨x4002, hx4003, H⟩ := bnd H
                    have hs4004 := ((((hs929).mono hK932).mono hK2725).mono hK3597).mono hK3863
                    have hs4005 := ((hs3167).mono hK3597).mono hK3863
                    have hs4006 := ((hs3168).mono hK3597).mono hK3863
                    refine Ow_cons rfl (OpW_call rfl Tryd.call56 rfl rfl (c_M_linear_meetings p2 vp2 x3160 v3165 v3166 x3985 v3990 v3991 x4002 hx4003 _ _ hs4004 hs4005 hs4006 hs3992 hs3993) ?_)
                    rintro _ K4008 _ hK4009 ⟨v4007, rfl, rfl, hs4010⟩
                    refine Ow_q rfl rfl rfl (Q_len (T := TyA2Result) hs4010 rfl rfl) ?_
                    refine Ow_q rfl rfl rfl (Qt_move rfl) ?_
                    refine Ow_nil ?_
                    refine Cw_block ?_
                    refine Cw_loopM (fun n4097 env' K' G' => ∃ (i4088 : Int) (es4089 : Array MapEntry) (ck4090 : Nat) (m4091 : ByteArray → Option Bool) (v4093 : SV) (l4094 : List Done) (rs4096 : List (List Value)), [(0, (.pointer (some ((⟨bp0, 0, none⟩ : Addr).add 0)))), (1, (sv vp1)), (2, (sv vp2)), (7, (.int .i64 x917)), (9, (.string x926)), (10, (.int .i64 i2713)), (11, (.pointer (some ((⟨b3169, 0, none⟩ : Addr).add 0)))), (17, (.int .i64 i3852)), (56, (.int .i64 (p0_threads.length : Int))), (57, (.int .i64 i2713)), (102, (.int .i64 (p0_threads.length : Int))), (103, (.int .i64 i3852)), (124, (sv v4007)), (125, (.int .i64 (x4002.length : Int))), (126, (.int .i64 i4088))] = env' ∧ (.blk bp0 82 [(sv vp0_threads), (.bool p0_open_), .nilFunc, (.map (some bp0_failed)), (sv v4093)]) :: (.blk b3169 109 (Linear_call.cells x3160 v3165 v3166)) :: (.obj bp0_failed (.map es4089 ck4090)) :: (.row (sv v4093) 47 6 rs4096.flatten) :: (.tok 122 10 [(sv v4007)]) :: G = G' ∧ lp3 (M_linear_search_run_L4 p1 p2 x917 x926 i2713 i3852 p0_threads x4002 p0_open_ x3160 k2727 k3865 rc) n4097 i4088 m4091 l4094 = some (y0, z0_order, ubp0_failed) ∧ MapR Ty.bool Value.string K' es4089 m4091 ∧ RowR TyDone K' rs4096 l4094) BIG ?_ ?_
                    · skip
                      refine Shift.pull (.there (.there (.there (.there (.there .here))))) ?_
                      refine Shift.pull (.there (.there (.there (.there (.there .here))))) ?_
                      refine Shift.pull (.there (.there (.there (.there (.there .here))))) ?_
                      refine Shift.pull (.there (.there (.there (.there .here)))) ?_
                      refine Shift.rem (.there (.there (.there (.there (.there .here))))) ?_
                      have hs4098 := (hM3856).mono hK4009
                      have hs4099 := (hR3859).mono hK4009
                      refine Shift.done ?_
                      exact ⟨[(0, (.pointer (some ((⟨bp0, 0, none⟩ : Addr).add 0)))), (1, (sv vp1)), (2, (sv vp2)), (7, (.int .i64 x917)), (9, (.string x926)), (10, (.int .i64 i2713)), (11, (.pointer (some ((⟨b3169, 0, none⟩ : Addr).add 0)))), (17, (.int .i64 i3852)), (56, (.int .i64 (p0_threads.length : Int))), (57, (.int .i64 i2713)), (102, (.int .i64 (p0_threads.length : Int))), (103, (.int .i64 i3852)), (124, (sv v4007)), (125, (.int .i64 (x4002.length : Int))), (126, (.int .i64 0))], ⟨rfl, rfl, rfl, rfl, rfl, rfl, rfl, rfl, rfl, rfl, rfl, rfl, rfl, rfl, rfl, trivial⟩, 0, es3853, ck3854, m3855, v3857, l3858, rs3860, rfl, rfl, H, hs4098, hs4099⟩
                    rintro n4097 _ K4100 _ hK4101 ⟨i4088, es4089, ck4090, m4091, v4093, l4094, rs4096, rfl, rfl, H, hM4092, hR4095⟩
                    obtain ⟨m4102, k4103, rfl, hkk4104, H⟩ := lps3 H
                    unfold M_linear_search_run_L4 at H
                    refine Cw_seq ?_
                    refine Cw_region ?_
                    refine Ow_q rfl rfl rfl (Qt_cmp rfl rfl rfl) ?_
                    refine Ow_nil ?_
                    refine Cw_seq ?_
                    refine Cw_cond rfl ?_ ?_
                    · intro h4106
                      have h4106 := dcd_t (h4106)
                      have H := ift h4106 H
                      refine Cw_skip ?_
                      refine Cw_seq ?_
                      refine Cw_block ?_
                      refine Cw_seq ?_
                      refine Cw_region ?_
                      obtain ⟨x4138, hx4139, H⟩ := bnd H
                      have hs4140 := (hs4010).mono hK4101
                      obtain ⟨r4141, hr4142, hk4143⟩ := Slr.at hs4140 hx4139
                      obtain rfl := hr4142
                      refine Ow_q rfl rfl rfl (Q_ix (T := TyA2Result) hs4140 hx4139 rfl rfl rfl rfl rfl) ?_
                      refine Ow_q rfl rfl rfl (Qt_loadA (m := 10) (cs := (A2Result.cells x4138)) rfl rfl rfl rfl ⟨rfl, Rdc.k hk4143 rfl⟩) ?_
                      refine Ow_cons rfl (OpW_alloc (cs := (A2Result.cells (A2Result.mk (Result.mk 0 0 0 false 0) (Result.mk 0 0 0 false 0)))) rfl rfl rfl rfl (fun b4144 => ?_))
                      refine Ow_cons rfl (OpW_store (vs := (A2Result.cells x4138)) (all' := (A2Result.cells x4138)) rfl rfl rfl rfl rfl .here rfl rfl rfl ?_)
                      refine Ow_nil ?_
                      refine Cw_seq ?_
                      refine Cw_region ?_
                      refine Ow_q rfl rfl rfl (Qt_move rfl) ?_
                      refine Ow_q rfl rfl rfl (Qt_move rfl) ?_
                      refine Ow_q rfl rfl rfl (Qt_move rfl) ?_
                      refine Ow_q rfl rfl rfl (Qt_move rfl) ?_
                      refine Ow_q rfl rfl rfl (Qt_ixArr (q := 0) (m := 0) rfl rfl rfl rfl rfl (by decide) rfl (by decide)) ?_
                      refine Ow_q rfl rfl rfl (Qt_loadA (m := 5) (cs := (Result.cells x4138.x0)) rfl rfl rfl rfl ⟨rfl, Rdc.blk (.head _) rfl⟩) ?_
                      refine Ow_q rfl rfl rfl (Qt_build (cs := (Done.cells (Done.mk i2713 x4138.x0))) rfl rfl rfl rfl rfl rfl) ?_
                      refine Ow_q rfl rfl rfl (Qt_move rfl) ?_
                      refine Ow_q rfl rfl rfl (Qt_ixArr (q := 1) (m := 5) rfl rfl rfl rfl rfl (by decide) rfl (by decide)) ?_
                      refine Ow_q rfl rfl rfl (Qt_loadA (m := 5) (cs := (Result.cells x4138.x1)) rfl rfl rfl rfl ⟨rfl, Rdc.blk (.head _) rfl⟩) ?_
                      refine Ow_q rfl rfl rfl (Qt_build (cs := (Done.cells (Done.mk i3852 x4138.x1))) rfl rfl rfl rfl rfl rfl) ?_
                      have hR4146 : RowR TyDone K4100 [(Done.cells (Done.mk i2713 x4138.x0)), (Done.cells (Done.mk i3852 x4138.x1))] [(Done.mk i2713 x4138.x0), (Done.mk i3852 x4138.x1)] := RowR.cons rfl (RowR.cons rfl (RowR.nil))
                      refine Ow_cons rfl (O_lit (T := TyDone) (rows := [(Done.cells (Done.mk i2713 x4138.x0)), (Done.cells (Done.mk i3852 x4138.x1))]) (l := [(Done.mk i2713 x4138.x0), (Done.mk i3852 x4138.x1)]) rfl rfl rfl hR4146 rfl rfl rfl rfl rfl rfl rfl rfl (fun v4145 => ?_))
                      refine Ow.shift (Shift.settle (T := TyDone) .here hR4146 rfl (fun K4147 hK4148 hs4149 => Shift.done ?_))
                      obtain ⟨x4150, x4151, x4152, hx4153, H⟩ := bnd3 H
                      refine Ow.shift (Shift.pull (.there (.there (.there (.there (.there .here))))) (Shift.done ?_))
                      refine Ow.shift (Shift.pull (.there (.there (.there (.there (.there .here))))) (Shift.done ?_))
                      refine Ow.shift (Shift.pull (.there (.there (.there (.there .here)))) (Shift.done ?_))
                      have hs4154 := (((hs3988).mono hK4009).mono hK4101).mono hK4148
                      have hs4155 := (hM4092).mono hK4148
                      have hs4156 := (hR4095).mono hK4148
                      have hs4157 := (((hs3989).mono hK4009).mono hK4101).mono hK4148
                      have hs4158 := (((hs4004).mono hK4009).mono hK4101).mono hK4148
                      have hs4159 := (((((((hs930).mono hK932).mono hK2725).mono hK3597).mono hK3863).mono hK4009).mono hK4101).mono hK4148
                      refine Ow_cons rfl (OpW_call rfl Tryd.call55 rfl rfl (c_M_linear_search_place rc ih bp0 p0_threads vp0_threads p0_open_ m4091 bp0_failed es4089 ck4090 l4094 v4093 rs4096 p1 vp1 p2 vp2 [(Done.mk i2713 x4138.x0), (Done.mk i3852 x4138.x1)] v4145 x4150 x4151 x4152 hx4153 _ _ hs4154 hs4155 hs4156 hs4157 hs4158 hs4149 hs4159) ?_)
                      rintro _ K4164 _ hK4165 ⟨v4160, rs4161, es4162, b4163, rfl, rfl, hs4166, hs4167⟩
                      refine Ow_nil ?_
                      refine Cw_cond rfl ?_ ?_
                      · intro h4168
                        have H := ift h4168 H
                        refine Cw_seq ?_
                        refine Cw_region ?_
                        refine Ow_q rfl rfl rfl (Qt_assign rfl) ?_
                        refine Ow_nil ?_
                        refine Cw_ret ?_
                        obtain ⟨ey0, ez0_order, eubp0_failed⟩ := inj3 H
                        subst y0 z0_order ubp0_failed
                        refine ⟨(by first | exact .inl rfl | exact .inr rfl), [(.bool true)], ⟨(.bool true), _, rfl, rfl, rfl⟩, ?_⟩
                        refine Shift.pull (.there (.there .here)) ?_
                        refine Shift.pull (.there (.there .here)) ?_
                        refine Shift.pull (.there (.there .here)) ?_
                        refine Shift.rem (.there (.there (.there .here))) ?_
                        refine Shift.rem (.there (.there (.there .here))) ?_
                        refine Shift.rem (.there (.there (.there .here))) ?_
                        refine Shift.rem (.there (.there (.there .here))) ?_
                        refine Shift.done ?_
                        exact ⟨v4160, rs4161, es4162, b4163, rfl, rfl, hs4166, hs4167⟩
                      · intro h4168
                        have H := iff_ (btf h4168) H
                        refine Cw_skip ?_
                        refine Cw_region ?_
                        refine Ow_q rfl rfl rfl (Qt_arith (e := wI (i4088 + 1)) rfl rfl rfl rfl) ?_
                        refine Ow_q rfl rfl rfl (Qt_move rfl) ?_
                        refine Ow_nil ?_
                        refine Shift.pull (.there (.there (.there (.there (.there (.there .here)))))) ?_
                        refine Shift.pull (.there (.there .here)) ?_
                        refine Shift.pull (.there (.there (.there .here))) ?_
                        refine Shift.pull (.there (.there (.there (.there (.there (.there .here)))))) ?_
                        refine Shift.pull (.there (.there (.there (.there .here)))) ?_
                        refine Shift.rem (.there (.there (.there (.there (.there .here))))) ?_
                        refine Shift.rem (.there (.there (.there (.there (.there .here))))) ?_
                        refine Shift.done ?_
                        exact ⟨[(0, (.pointer (some ((⟨bp0, 0, none⟩ : Addr).add 0)))), (1, (sv vp1)), (2, (sv vp2)), (7, (.int .i64 x917)), (9, (.string x926)), (10, (.int .i64 i2713)), (11, (.pointer (some ((⟨b3169, 0, none⟩ : Addr).add 0)))), (17, (.int .i64 i3852)), (56, (.int .i64 (p0_threads.length : Int))), (57, (.int .i64 i2713)), (102, (.int .i64 (p0_threads.length : Int))), (103, (.int .i64 i3852)), (124, (sv v4007)), (125, (.int .i64 (x4002.length : Int))), (126, (.int .i64 (wI (i4088 + 1))))], ⟨rfl, rfl, rfl, rfl, rfl, rfl, rfl, rfl, rfl, rfl, rfl, rfl, rfl, rfl, rfl, trivial⟩, _, Nat.lt_succ_self _, (wI (i4088 + 1)), es4162, b4163, x4152, v4160, x4151, rs4161, rfl, rfl, (hkk4104 ▸ H), hs4167, hs4166⟩
                    · intro h4106
                      have h4106 := dcd_f (h4106)
                      have H := iff_ h4106 H
                      refine Cw_exit ?_
                      refine Shift.pull (.there (.there (.there .here))) ?_
                      refine Shift.pull (.there (.there (.there .here))) ?_
                      refine Shift.pull (.there (.there (.there .here))) ?_
                      refine Shift.pull (.there (.there (.there .here))) ?_
                      refine Shift.rem (.there (.there (.there (.there .here)))) ?_
                      refine Shift.done ?_
                      exact ⟨[(0, (.pointer (some ((⟨bp0, 0, none⟩ : Addr).add 0)))), (1, (sv vp1)), (2, (sv vp2)), (7, (.int .i64 x917)), (9, (.string x926)), (10, (.int .i64 i2713)), (11, (.pointer (some ((⟨b3169, 0, none⟩ : Addr).add 0)))), (56, (.int .i64 (p0_threads.length : Int))), (57, (.int .i64 i2713)), (102, (.int .i64 (p0_threads.length : Int))), (103, (.int .i64 i3852))], ⟨rfl, rfl, rfl, rfl, rfl, rfl, rfl, rfl, rfl, rfl, rfl, trivial⟩, es4089, ck4090, m4091, v4093, l4094, rs4096, rfl, rfl, H, hM4092, hR4095⟩
                rintro _ K4169 _ hK4170 ⟨es3977, ck3978, m3979, v3981, l3982, rs3984, rfl, rfl, H, hM3980, hR3983⟩
                unfold M_linear_search_run_J5 at H
                refine Cw_region ?_
                refine Ow_q rfl rfl rfl (Qt_arith (e := wI (i3852 + 1)) rfl rfl rfl rfl) ?_
                refine Ow_q rfl rfl rfl (Qt_move rfl) ?_
                refine Ow_nil ?_
                refine Shift.pull (.there (.there (.there .here))) ?_
                refine Shift.pull (.there (.there (.there .here))) ?_
                refine Shift.pull (.there (.there (.there .here))) ?_
                refine Shift.pull (.there (.there (.there .here))) ?_
                refine Shift.done ?_
                exact ⟨[(0, (.pointer (some ((⟨bp0, 0, none⟩ : Addr).add 0)))), (1, (sv vp1)), (2, (sv vp2)), (7, (.int .i64 x917)), (9, (.string x926)), (10, (.int .i64 i2713)), (11, (.pointer (some ((⟨b3169, 0, none⟩ : Addr).add 0)))), (56, (.int .i64 (p0_threads.length : Int))), (57, (.int .i64 i2713)), (102, (.int .i64 (p0_threads.length : Int))), (103, (.int .i64 (wI (i3852 + 1))))], ⟨rfl, rfl, rfl, rfl, rfl, rfl, rfl, rfl, rfl, rfl, rfl, trivial⟩, _, Nat.lt_succ_self _, (wI (i3852 + 1)), es3977, ck3978, m3979, v3981, l3982, rs3984, rfl, rfl, (hkk3866 ▸ H), hM3980, hR3983⟩
              · intro h3868
                have h3868 := dcd_f (h3868)
                have H := iff_ h3868 H
                refine Cw_exit ?_
                refine Shift.pull (.there (.there (.there .here))) ?_
                refine Shift.pull (.there (.there (.there .here))) ?_
                refine Shift.pull (.there (.there .here)) ?_
                refine Shift.rem (.there (.there (.there .here))) ?_
                refine Shift.done ?_
                exact ⟨[(0, (.pointer (some ((⟨bp0, 0, none⟩ : Addr).add 0)))), (1, (sv vp1)), (2, (sv vp2)), (7, (.int .i64 x917)), (9, (.string x926)), (56, (.int .i64 (p0_threads.length : Int))), (57, (.int .i64 i2713))], ⟨rfl, rfl, rfl, rfl, rfl, rfl, rfl, trivial⟩, es3853, ck3854, m3855, v3857, l3858, rs3860, rfl, rfl, H, hM3856, hR3859⟩
          rintro _ K4171 _ hK4172 ⟨es3152, ck3153, m3154, v3156, l3157, rs3159, rfl, rfl, H, hM3155, hR3158⟩
          unfold M_linear_search_run_J2 at H
          refine Cw_region ?_
          refine Ow_q rfl rfl rfl (Qt_arith (e := wI (i2713 + 1)) rfl rfl rfl rfl) ?_
          refine Ow_q rfl rfl rfl (Qt_move rfl) ?_
          refine Ow_nil ?_
          refine Shift.pull (.there (.there .here)) ?_
          refine Shift.pull (.there (.there .here)) ?_
          refine Shift.pull (.there (.there .here)) ?_
          refine Shift.done ?_
          exact ⟨[(0, (.pointer (some ((⟨bp0, 0, none⟩ : Addr).add 0)))), (1, (sv vp1)), (2, (sv vp2)), (7, (.int .i64 x917)), (9, (.string x926)), (56, (.int .i64 (p0_threads.length : Int))), (57, (.int .i64 (wI (i2713 + 1))))], ⟨rfl, rfl, rfl, rfl, rfl, rfl, rfl, trivial⟩, _, Nat.lt_succ_self _, (wI (i2713 + 1)), es3152, ck3153, m3154, v3156, l3157, rs3159, rfl, rfl, (hkk2728 ▸ H), hM3155, hR3158⟩
        · intro h2730
          have h2730 := dcd_f (h2730)
          have H := iff_ h2730 H
          refine Cw_exit ?_
          refine Shift.pull (.there (.there .here)) ?_
          refine Shift.pull (.there (.there .here)) ?_
          refine Shift.pull (.there (.there .here)) ?_
          refine Shift.done ?_
          exact ⟨[(0, (.pointer (some ((⟨bp0, 0, none⟩ : Addr).add 0)))), (9, (.string x926))], ⟨rfl, rfl, trivial⟩, es2714, ck2715, m2716, v2718, l2719, rs2721, rfl, rfl, H, hM2717, hR2720⟩
      rintro _ K4173 _ hK4174 ⟨es1826, ck1827, m1828, v1830, l1831, rs1833, rfl, rfl, H, hM1829, hR1832⟩
      unfold M_linear_search_run_J1 at H
      refine Cw_seq ?_
      refine Cw_region ?_
      refine Ow_q rfl rfl rfl (Qt_move rfl) ?_
      refine Ow_q rfl rfl rfl (Qt_nilCheck rfl) ?_
      refine Ow_q rfl rfl rfl (Qt_fieldAddr (m := 3) rfl rfl rfl rfl rfl) ?_
      refine Ow_q rfl rfl rfl (Qt_load1 (v := (.map (some bp0_failed))) rfl rfl rfl (Rdc.blk (.head _) rfl)) ?_
      refine Ow_q rfl rfl rfl (Qt_move rfl) ?_
      refine Ow_cons rfl (O_mapSet (T := Ty.bool) (kv := Value.string) (k := x926) (x1 := true) (KeyK.str rfl) hM1829 (.tail _ (.head _)) rfl rfl rfl rfl rfl (fun es4175 ck4176 hM4177 => ⟨_, (.there .here), ?_⟩))
      refine Ow_nil ?_
      refine Cw_seq ?_
      refine Cw_region ?_
      refine Ow_q rfl rfl rfl (Qt_assign rfl) ?_
      refine Ow_nil ?_
      refine Cw_ret ?_
      obtain ⟨ey0, ez0_order, eubp0_failed⟩ := inj3 H
      subst y0 z0_order ubp0_failed
      refine ⟨(by first | exact .inl rfl | exact .inr rfl), [(.bool false)], ⟨(.bool false), _, rfl, rfl, rfl⟩, ?_⟩
      refine Shift.pull (.there .here) ?_
      refine Shift.pull (.there (.there .here)) ?_
      refine Shift.pull (.there (.there .here)) ?_
      refine Shift.done ?_
      exact ⟨v1830, rs1833, es4175, ck4176, rfl, rfl, hR1832, hM4177⟩

set_option maxHeartbeats 1000000 in
theorem c_M_linear_Witness (p0 : Config) (vp0_capacities : SV) (vp0_starts : SV) (p1 : List (List Op)) (vp1 : SV) (p2 : List Event) (vp2 : SV) (y0 : List Done) (y1 : Bool) (H : M_linear_Witness p0 p1 p2 = some (y0, y1)) (K : Kp) (G : List Ent) (hp0_capacities : Slr Ty.i64 K (sv vp0_capacities) p0.capacities) (hp0_starts : Slr Ty.u64 K (sv vp0_starts) p0.starts) (hp1 : Slr (Ty.sl TyOp) K (sv vp1) p1) (hp2 : Slr TyEvent K (sv vp2) p2) (hT : TabK K) :
    Fc Tryd.prog 15 #[(.agg (Config.cells p0 vp0_capacities vp0_starts).toArray), (sv vp1), (sv vp2)] K (G) (fun v K' G' => ∃ (wy0 : SV) (rswy0 : List (List Value)), v = (.tuple #[(sv wy0), (.bool y1)]) ∧ (.row (sv wy0) 47 6 rswy0.flatten) :: G = G' ∧ RowR TyDone K' rswy0 y0) := by
  refine Fc_body Tryd.func15 rfl Tryd.ntmps15 Tryd.results15 rfl ?_
  unfold M_linear_Witness at H
  refine Cw_seq ?_
  refine Cw_region ?_
  refine Ow_cons rfl (OpW_box (cs := (Config.cells p0 vp0_capacities vp0_starts)) rfl rfl rfl (fun b117 => ?_))
  refine Ow_q rfl rfl rfl (Qt_assign rfl) ?_
  refine Ow_q rfl rfl rfl (Qt_assign rfl) ?_
  refine Ow_nil ?_
  refine Cw_seq ?_
  refine Cw_region ?_
  refine Ow_q rfl rfl rfl (Qt_move rfl) ?_
  refine Ow_q rfl rfl rfl (Qt_move rfl) ?_
  obtain ⟨x118, x119, x120, hx121, H⟩ := bnd3 H
  refine Ow_cons rfl (OpW_call rfl Tryd.call28 rfl rfl (c_M_linear_begin p1 vp1 p2 vp2 x118 x119 x120 hx121 _ _ hp1 hp2) ?_)
  rintro _ K127 _ hK128 ⟨b122, v123, b124, es125, b126, rfl, rfl, hs129, hs130⟩
  refine Ow_q rfl rfl rfl (Qt_assign rfl) ?_
  refine Ow_nil ?_
  refine Cw_seq ?_
  refine Cw_region ?_
  refine Ow_q rfl rfl rfl (Qt_move rfl) ?_
  refine Ow_q rfl rfl rfl (Qt_nilCheck rfl) ?_
  refine Ow_q rfl rfl rfl (Qt_fieldAddr (m := 1) rfl rfl rfl rfl rfl) ?_
  refine Ow_cons rfl (OpW_store (vs := [(.bool true)]) (all' := [(sv v123), (.bool true), .nilFunc, (.map (some b124)), (sv nilS)]) rfl rfl rfl rfl rfl (.there .here) rfl rfl rfl ?_)
  refine Ow_nil ?_
  refine Cw_seq ?_
  refine Cw_join (fun env' K' G' => ∃ (t323 : Bool) (es324 : Array MapEntry) (ck325 : Nat) (m326 : ByteArray → Option Bool) (v328 : SV) (l329 : List Done) (rs331 : List (List Value)), [(8, (.pointer (some ((⟨b122, 0, none⟩ : Addr).add 0)))), (22, (.bool t323))] = env' ∧ (.blk b122 82 [(sv v123), (.bool true), .nilFunc, (.map (some b124)), (sv v328)]) :: (.obj b124 (.map es324 ck325)) :: (.row (sv v328) 47 6 rs331.flatten) :: G = G' ∧ M_linear_Witness_J1 x118 t323 m326 l329 = some (y0, y1) ∧ MapR Ty.bool Value.string K' es324 m326 ∧ RowR TyDone K' rs331 l329) ?_ ?_
  · skip
    obtain ⟨x333, hx334, H⟩ := bnd H
    obtain ⟨x339, hx340, H⟩ := bnd H
    obtain ⟨x351, x352, x353, hx354, H⟩ := bnd3 H
    refine Cw_region_any [.blk b117 27 (Config.cells p0 vp0_capacities vp0_starts)] rfl (Inc.cons (.tail _ (.tail _ (.head _))) Inc.nil) ?_
    refine Aw_q 0 rfl (by kernel_rfl) (by kernel_rfl) (by kernel_rfl) rfl rfl rfl (Qt_move rfl) ?_
    refine Aw_q 1 rfl (by kernel_rfl) (by kernel_rfl) (by kernel_rfl) rfl rfl rfl (Qt_move rfl) ?_
    have hs368 := (hp1).mono hK128
    refine Aw_q 2 rfl (by kernel_rfl) (by kernel_rfl) (by kernel_rfl) rfl rfl rfl (Q_len (T := (Ty.sl TyOp)) hs368 rfl rfl) ?_
    refine Aw_q 4 rfl (by kernel_rfl) (by kernel_rfl) (by kernel_rfl) rfl rfl rfl (Qt_loadA (m := 3) (cs := (Config.cells p0 vp0_capacities vp0_starts)) rfl rfl rfl rfl ⟨rfl, Rdc.blk (.head _) rfl⟩) ?_
    refine Aw_two 3 5 (by kernel_rfl) ?_ ?_
    · skip
      refine id (Ax_mk rfl rfl ?_)
      refine O_make (T := Ty.i64) (r := [(.int .i64 0)]) rfl rfl rfl hx334 rfl rfl rfl rfl rfl rfl rfl rfl rfl rfl (fun v369 rs370 hR371 hz372 => ⟨(Inc.cons (.tail _ (.tail _ (.tail _ (.head _)))) Inc.nil), ?_⟩)
      refine Aw_one 5 (by kernel_rfl) (Ax_mk rfl rfl ?_)
      have hs373 := (hp0_capacities).mono hK128
      have hs374 := (hp0_starts).mono hK128
      refine OpW_call rfl Tryd.call30 rfl rfl (c_M_model_New p0 vp0_capacities vp0_starts x339 hx340 _ _ hs373 hs374) ?_
      rintro _ K376 _ hK377 ⟨v375, rfl, rfl, hs378⟩
      refine ⟨(Inc.cons (.tail _ (.tail _ (.tail _ (.tail _ (.head _))))) Inc.nil), ?_⟩
      refine Aw_one 6 (by kernel_rfl) (Ax_mk rfl rfl ?_)
      have hs382 := (hR371).mono hK377
      refine OpW.shift (Shift.settle (T := Ty.i64) (.there .here) hs382 rfl (fun K379 hK380 hs381 => Shift.done ?_))
      have hR383 : RowR TyDone K379 [] [] := RowR.nil
      refine OpW.shift (Shift.nilRow 47 6 (Shift.done ?_))
      refine OpW.shift (Shift.pull (.there (.there (.there .here))) (Shift.done ?_))
      refine OpW.shift (Shift.pull (.there (.there (.there (.there .here)))) (Shift.done ?_))
      have hs384 := ((hs129).mono hK377).mono hK380
      have hs385 := ((hs130).mono hK377).mono hK380
      have hs386 := (hs378).mono hK380
      have hs387 := (((hT).mono hK128).mono hK377).mono hK380
      refine OpW_call rfl Tryd.call29 rfl rfl (c_M_linear_search_run 100 b122 x118 v123 true x120 b124 es125 b126 ([] : List Done) nilS ([] : List (List Value)) x333 v369 x339 v375 x351 x352 x353 hx354 _ _ hs384 hs385 hR383 hs381 hs386 hs387) ?_
      rintro _ K392 _ hK393 ⟨v388, rs389, es390, b391, rfl, rfl, hs394, hs395⟩
      refine ⟨(Inc.cons (.tail _ (.tail _ (.tail _ (.tail _ (.tail _ (.head _)))))) Inc.nil), ?_⟩
      refine Aw_q 7 rfl (by kernel_rfl) (by kernel_rfl) (by kernel_rfl) rfl rfl rfl (Qt_not rfl) ?_
      refine Aw_done (by kernel_rfl) ?_
      refine Shift.pull (.there .here) ?_
      refine Shift.pull (.there (.there .here)) ?_
      refine Shift.pull (.there (.there .here)) ?_
      refine Shift.rem (.there (.there (.there .here))) ?_
      refine Shift.rem (.there (.there (.there .here))) ?_
      refine Shift.rem (.there (.there (.there .here))) ?_
      refine Shift.done ?_
      exact ⟨[(8, (.pointer (some ((⟨b122, 0, none⟩ : Addr).add 0)))), (22, (.bool (!(x351))))], ⟨rfl, rfl, trivial⟩, (!(x351)), es390, b391, x353, v388, x352, rs389, rfl, rfl, H, hs395, hs394⟩
    · skip
      refine id (Ax_mk rfl rfl ?_)
      have hs396 := (hp0_capacities).mono hK128
      have hs397 := (hp0_starts).mono hK128
      refine OpW_call rfl Tryd.call30 rfl rfl (c_M_model_New p0 vp0_capacities vp0_starts x339 hx340 _ _ hs396 hs397) ?_
      rintro _ K399 _ hK400 ⟨v398, rfl, rfl, hs401⟩
      refine ⟨(Inc.cons (.tail _ (.tail _ (.tail _ (.head _)))) Inc.nil), ?_⟩
      refine Aw_one 3 (by kernel_rfl) (Ax_mk rfl rfl ?_)
      refine O_make (T := Ty.i64) (r := [(.int .i64 0)]) rfl rfl rfl hx334 rfl rfl rfl rfl rfl rfl rfl rfl rfl rfl (fun v402 rs403 hR404 hz405 => ⟨(Inc.cons (.tail _ (.tail _ (.tail _ (.tail _ (.head _))))) Inc.nil), ?_⟩)
      refine Aw_one 6 (by kernel_rfl) (Ax_mk rfl rfl ?_)
      refine OpW.shift (Shift.settle (T := Ty.i64) .here hR404 rfl (fun K406 hK407 hs408 => Shift.done ?_))
      have hR409 : RowR TyDone K406 [] [] := RowR.nil
      refine OpW.shift (Shift.nilRow 47 6 (Shift.done ?_))
      refine OpW.shift (Shift.pull (.there (.there (.there .here))) (Shift.done ?_))
      refine OpW.shift (Shift.pull (.there (.there (.there (.there .here)))) (Shift.done ?_))
      have hs410 := ((hs129).mono hK400).mono hK407
      have hs411 := ((hs130).mono hK400).mono hK407
      have hs412 := (hs401).mono hK407
      have hs413 := (((hT).mono hK128).mono hK400).mono hK407
      refine OpW_call rfl Tryd.call29 rfl rfl (c_M_linear_search_run 100 b122 x118 v123 true x120 b124 es125 b126 ([] : List Done) nilS ([] : List (List Value)) x333 v402 x339 v398 x351 x352 x353 hx354 _ _ hs410 hs411 hR409 hs408 hs412 hs413) ?_
      rintro _ K418 _ hK419 ⟨v414, rs415, es416, b417, rfl, rfl, hs420, hs421⟩
      refine ⟨(Inc.cons (.tail _ (.tail _ (.tail _ (.tail _ (.tail _ (.head _)))))) Inc.nil), ?_⟩
      refine Aw_q 7 rfl (by kernel_rfl) (by kernel_rfl) (by kernel_rfl) rfl rfl rfl (Qt_not rfl) ?_
      refine Aw_done (by kernel_rfl) ?_
      refine Shift.pull (.there .here) ?_
      refine Shift.pull (.there (.there .here)) ?_
      refine Shift.pull (.there (.there .here)) ?_
      refine Shift.rem (.there (.there (.there .here))) ?_
      refine Shift.rem (.there (.there (.there .here))) ?_
      refine Shift.rem (.there (.there (.there .here))) ?_
      refine Shift.done ?_
      exact ⟨[(8, (.pointer (some ((⟨b122, 0, none⟩ : Addr).add 0)))), (22, (.bool (!(x351))))], ⟨rfl, rfl, trivial⟩, (!(x351)), es416, b417, x353, v414, x352, rs415, rfl, rfl, H, hs421, hs420⟩
  rintro _ K422 _ hK423 ⟨t323, es324, ck325, m326, v328, l329, rs331, rfl, rfl, H, hM327, hR330⟩
  unfold M_linear_Witness_J1 at H
  refine Cw_cond rfl ?_ ?_
  · intro h424
    have H := ift h424 H
    refine Cw_seq ?_
    refine Cw_region ?_
    refine Ow_q rfl rfl rfl (Qt_assign rfl) ?_
    refine Ow_q rfl rfl rfl (Qt_assign rfl) ?_
    refine Ow_nil ?_
    refine Cw_ret ?_
    obtain ⟨ey0, ey1⟩ := inj2 H
    subst y0 y1
    refine ⟨(by first | exact .inl rfl | exact .inr rfl), [(sv nilS), (.bool false)], ⟨(sv nilS), _, rfl, rfl, ⟨(.bool false), _, rfl, rfl, rfl⟩⟩, ?_⟩
    have hR425 : RowR TyDone K422 [] [] := RowR.nil
    refine Shift.nilRow 47 6 ?_
    refine Shift.rem (.there .here) ?_
    refine Shift.rem (.there .here) ?_
    refine Shift.rem (.there .here) ?_
    refine Shift.done ?_
    exact ⟨nilS, ([] : List (List Value)), rfl, rfl, hR425⟩
  · intro h424
    have H := iff_ (btf h424) H
    refine Cw_skip ?_
    refine Cw_seq ?_
    refine Cw_region ?_
    refine Ow_q rfl rfl rfl (Qt_move rfl) ?_
    refine Ow_q rfl rfl rfl (Qt_nilCheck rfl) ?_
    refine Ow_q rfl rfl rfl (Qt_fieldAddr (m := 4) rfl rfl rfl rfl rfl) ?_
    refine Ow_q rfl rfl rfl (Qt_load1 (v := (sv v328)) rfl rfl rfl (Rdc.blk (.head _) rfl)) ?_
    refine Ow_q rfl rfl rfl (Qt_assign rfl) ?_
    refine Ow_q rfl rfl rfl (Qt_assign rfl) ?_
    refine Ow_nil ?_
    refine Cw_ret ?_
    obtain ⟨ey0, ey1⟩ := inj2 H
    subst y0 y1
    refine ⟨(by first | exact .inl rfl | exact .inr rfl), [(sv v328), (.bool true)], ⟨(sv v328), _, rfl, rfl, ⟨(.bool true), _, rfl, rfl, rfl⟩⟩, ?_⟩
    refine Shift.pull (.there (.there .here)) ?_
    refine Shift.rem (.there .here) ?_
    refine Shift.rem (.there .here) ?_
    refine Shift.done ?_
    exact ⟨v328, rs331, rfl, rfl, hR330⟩

set_option maxHeartbeats 1000000 in
theorem c_M_linear_Check (p0 : Config) (vp0_capacities : SV) (vp0_starts : SV) (p1 : List (List Op)) (vp1 : SV) (p2 : List Event) (vp2 : SV) (y0 : Bool) (H : M_linear_Check p0 p1 p2 = some y0) (K : Kp) (G : List Ent) (hp0_capacities : Slr Ty.i64 K (sv vp0_capacities) p0.capacities) (hp0_starts : Slr Ty.u64 K (sv vp0_starts) p0.starts) (hp1 : Slr (Ty.sl TyOp) K (sv vp1) p1) (hp2 : Slr TyEvent K (sv vp2) p2) (hT : TabK K) :
    Fc Tryd.prog 9 #[(.agg (Config.cells p0 vp0_capacities vp0_starts).toArray), (sv vp1), (sv vp2)] K (G) (fun v K' G' => v = (.bool y0) ∧ G = G') := by
  refine Fc_body Tryd.func9 rfl Tryd.ntmps9 Tryd.results9 rfl ?_
  unfold M_linear_Check at H
  refine Cw_seq ?_
  refine Cw_region ?_
  refine Ow_cons rfl (OpW_box (cs := (Config.cells p0 vp0_capacities vp0_starts)) rfl rfl rfl (fun b10 => ?_))
  refine Ow_q rfl rfl rfl (Qt_assign rfl) ?_
  refine Ow_nil ?_
  refine Cw_seq ?_
  refine Cw_region ?_
  refine Ow_q rfl rfl rfl (Qt_loadA (m := 3) (cs := (Config.cells p0 vp0_capacities vp0_starts)) rfl rfl rfl rfl ⟨rfl, Rdc.blk (.head _) rfl⟩) ?_
  refine Ow_q rfl rfl rfl (Qt_move rfl) ?_
  refine Ow_q rfl rfl rfl (Qt_move rfl) ?_
  obtain ⟨x11, x12, hx13, H⟩ := bnd2 H
  refine Ow_cons rfl (OpW_call rfl Tryd.call15 rfl rfl (c_M_linear_Witness p0 vp0_capacities vp0_starts p1 vp1 p2 vp2 x11 x12 hx13 _ _ hp0_capacities hp0_starts hp1 hp2 hT) ?_)
  rintro _ K16 _ hK17 ⟨v14, rs15, rfl, rfl, hs18⟩
  refine Ow_q rfl rfl rfl (Qt_move rfl) ?_
  refine Ow_q rfl rfl rfl (Qt_extract rfl rfl) ?_
  refine Ow_q rfl rfl rfl (Qt_extract rfl rfl) ?_
  refine Ow_q rfl rfl rfl (Qt_assign rfl) ?_
  refine Ow_q rfl rfl rfl (Qt_assign rfl) ?_
  refine Ow_nil ?_
  refine Cw_seq ?_
  refine Cw_region ?_
  refine Ow_q rfl rfl rfl (Qt_move rfl) ?_
  refine Ow_q rfl rfl rfl (Qt_assign rfl) ?_
  refine Ow_nil ?_
  refine Cw_ret ?_
  obtain ey0 := inj1 H
  subst y0
  refine ⟨(by first | exact .inl rfl | exact .inr rfl), [(.bool x12)], ⟨(.bool x12), _, rfl, rfl, rfl⟩, ?_⟩
  refine Shift.rem .here ?_
  refine Shift.rem .here ?_
  refine Shift.done ?_
  exact ⟨rfl, rfl⟩


end Go.Hx

namespace Go.Hx
open Go Go.Proofs
set_option linter.unusedSimpArgs false
set_option linter.unusedVariables false
set_option maxRecDepth 10000
set_option maxHeartbeats 1000000 in
theorem c_M_law17_awake  (y0 : Bool) (H : M_law17_awake = some y0) (K : Kp) (G : List Ent) (hT : TabK K) :
    Fc Tryd.prog 6 #[] K (G) (fun v K' G' => v = (.bool y0) ∧ G = G') := by
  refine Fc_body Tryd.func6 rfl Tryd.ntmps6 Tryd.results6 rfl ?_
  unfold M_law17_awake at H
  refine Cw_seq ?_
  refine Cw_region ?_
  refine Ow_q rfl rfl rfl (Qt_assign rfl) ?_
  refine Ow_nil ?_
  refine Cw_seq ?_
  refine Cw_region ?_
  have hR80 : RowR Ty.i64 K [[(.int .i64 1)]] [1] := RowR.cons rfl (RowR.nil)
  refine Ow_cons rfl (O_lit (T := Ty.i64) (rows := [[(.int .i64 1)]]) (l := [1]) rfl rfl rfl hR80 rfl rfl rfl rfl rfl rfl rfl rfl (fun v79 => ?_))
  have hR82 : RowR Ty.u64 K [[(.int .u64 0)]] [0] := RowR.cons rfl (RowR.nil)
  refine Ow_cons rfl (O_lit (T := Ty.u64) (rows := [[(.int .u64 0)]]) (l := [0]) rfl rfl rfl hR82 rfl rfl rfl rfl rfl rfl rfl rfl (fun v81 => ?_))
  refine Ow.shift (Shift.settle (T := Ty.i64) (.there .here) hR80 rfl (fun K83 hK84 hs85 => Shift.done ?_))
  have hs89 := (hR82).mono hK84
  refine Ow.shift (Shift.settle (T := Ty.u64) .here hs89 rfl (fun K86 hK87 hs88 => Shift.done ?_))
  refine Ow_q rfl rfl rfl (Qt_build (cs := (Config.cells (Config.mk [1] [0] 2) v79 v81)) rfl rfl rfl rfl rfl rfl) ?_
  refine Ow_cons rfl (OpW_alloc (cs := (Config.cells (Config.mk [] [] 0) nilS nilS)) rfl rfl rfl rfl (fun b90 => ?_))
  refine Ow_cons rfl (OpW_store (vs := (Config.cells (Config.mk [1] [0] 2) v79 v81)) (all' := (Config.cells (Config.mk [1] [0] 2) v79 v81)) rfl rfl rfl rfl rfl .here rfl rfl rfl ?_)
  refine Ow_nil ?_
  refine Cw_seq ?_
  refine Cw_region ?_
  refine Ow_q rfl rfl rfl (Qt_build (cs := (Op.cells (Op.mk 1 0 0 5 0 [] []) nilS nilS)) rfl rfl rfl rfl rfl rfl) ?_
  have hR92 : RowR TyOp K86 [(Op.cells (Op.mk 1 0 0 5 0 [] []) nilS nilS)] [(Op.mk 1 0 0 5 0 [] [])] := RowR.cons ⟨nilS, nilS, rfl, (Slr.nil TyCase _), (Slr.nil Ty.i64 _)⟩ (RowR.nil)
  refine Ow_cons rfl (O_lit (T := TyOp) (rows := [(Op.cells (Op.mk 1 0 0 5 0 [] []) nilS nilS)]) (l := [(Op.mk 1 0 0 5 0 [] [])]) rfl rfl rfl hR92 rfl rfl rfl rfl rfl rfl rfl rfl (fun v91 => ?_))
  refine Ow_q rfl rfl rfl (Qt_build (cs := (Op.cells (Op.mk 2 0 0 0 0 [] []) nilS nilS)) rfl rfl rfl rfl rfl rfl) ?_
  have hR94 : RowR TyOp K86 [(Op.cells (Op.mk 2 0 0 0 0 [] []) nilS nilS)] [(Op.mk 2 0 0 0 0 [] [])] := RowR.cons ⟨nilS, nilS, rfl, (Slr.nil TyCase _), (Slr.nil Ty.i64 _)⟩ (RowR.nil)
  refine Ow_cons rfl (O_lit (T := TyOp) (rows := [(Op.cells (Op.mk 2 0 0 0 0 [] []) nilS nilS)]) (l := [(Op.mk 2 0 0 0 0 [] [])]) rfl rfl rfl hR94 rfl rfl rfl rfl rfl rfl rfl rfl (fun v93 => ?_))
  refine Ow.shift (Shift.settle (T := TyOp) (.there .here) hR92 rfl (fun K95 hK96 hs97 => Shift.done ?_))
  have hs101 := (hR94).mono hK96
  refine Ow.shift (Shift.settle (T := TyOp) .here hs101 rfl (fun K98 hK99 hs100 => Shift.done ?_))
  have hs104 := (hs97).mono hK99
  have hR103 : RowR (Ty.sl TyOp) K98 [[(sv v91)], [(sv v93)]] [[(Op.mk 1 0 0 5 0 [] [])], [(Op.mk 2 0 0 0 0 [] [])]] := RowR.cons ⟨v91, rfl, hs104⟩ (RowR.cons ⟨v93, rfl, hs100⟩ (RowR.nil))
  refine Ow_cons rfl (O_lit (T := (Ty.sl TyOp)) (rows := [[(sv v91)], [(sv v93)]]) (l := [[(Op.mk 1 0 0 5 0 [] [])], [(Op.mk 2 0 0 0 0 [] [])]]) rfl rfl rfl hR103 rfl rfl rfl rfl rfl rfl rfl rfl (fun v102 => ?_))
  refine Ow_q rfl rfl rfl (Qt_assign rfl) ?_
  refine Ow_nil ?_
  refine Cw_seq ?_
  refine Cw_region ?_
  refine Ow_q rfl rfl rfl (Qt_build (cs := (Result.cells (Result.mk 2 (-1) 5 true 0))) rfl rfl rfl rfl rfl rfl) ?_
  refine Ow_cons rfl (OpW_alloc (cs := (Result.cells (Result.mk 0 0 0 false 0))) rfl rfl rfl rfl (fun b105 => ?_))
  refine Ow_cons rfl (OpW_store (vs := (Result.cells (Result.mk 2 (-1) 5 true 0))) (all' := (Result.cells (Result.mk 2 (-1) 5 true 0))) rfl rfl rfl rfl rfl .here rfl rfl rfl ?_)
  refine Ow_nil ?_
  refine Cw_seq ?_
  refine Cw_region ?_
  refine Ow_q rfl rfl rfl (Qt_build (cs := (Event.cells (Event.mk 1 0 false (Result.mk 0 0 0 false 0)))) rfl rfl rfl rfl rfl rfl) ?_
  refine Ow_q rfl rfl rfl (Qt_loadA (m := 5) (cs := (Result.cells (Result.mk 2 (-1) 5 true 0))) rfl rfl rfl rfl ⟨rfl, Rdc.blk (.head _) rfl⟩) ?_
  refine Ow_q rfl rfl rfl (Qt_build (cs := (Event.cells (Event.mk 1 0 true (Result.mk 2 (-1) 5 true 0)))) rfl rfl rfl rfl rfl rfl) ?_
  refine Ow_q rfl rfl rfl (Qt_build (cs := (Event.cells (Event.mk 0 0 false (Result.mk 0 0 0 false 0)))) rfl rfl rfl rfl rfl rfl) ?_
  have hR107 : RowR TyEvent K98 [(Event.cells (Event.mk 1 0 false (Result.mk 0 0 0 false 0))), (Event.cells (Event.mk 1 0 true (Result.mk 2 (-1) 5 true 0))), (Event.cells (Event.mk 0 0 false (Result.mk 0 0 0 false 0)))] [(Event.mk 1 0 false (Result.mk 0 0 0 false 0)), (Event.mk 1 0 true (Result.mk 2 (-1) 5 true 0)), (Event.mk 0 0 false (Result.mk 0 0 0 false 0))] := RowR.cons rfl (RowR.cons rfl (RowR.cons rfl (RowR.nil)))
  refine Ow_cons rfl (O_lit (T := TyEvent) (rows := [(Event.cells (Event.mk 1 0 false (Result.mk 0 0 0 false 0))), (Event.cells (Event.mk 1 0 true (Result.mk 2 (-1) 5 true 0))), (Event.cells (Event.mk 0 0 false (Result.mk 0 0 0 false 0)))]) (l := [(Event.mk 1 0 false (Result.mk 0 0 0 false 0)), (Event.mk 1 0 true (Result.mk 2 (-1) 5 true 0)), (Event.mk 0 0 false (Result.mk 0 0 0 false 0))]) rfl rfl rfl hR107 rfl rfl rfl rfl rfl rfl rfl rfl (fun v106 => ?_))
  refine Ow_q rfl rfl rfl (Qt_assign rfl) ?_
  refine Ow_nil ?_
  refine Cw_seq ?_
  refine Cw_region ?_
  refine Ow_q rfl rfl rfl (Qt_build (cs := (Event.cells (Event.mk 0 0 false (Result.mk 0 0 0 false 0)))) rfl rfl rfl rfl rfl rfl) ?_
  refine Ow_q rfl rfl rfl (Qt_build (cs := (Event.cells (Event.mk 1 0 false (Result.mk 0 0 0 false 0)))) rfl rfl rfl rfl rfl rfl) ?_
  refine Ow_q rfl rfl rfl (Qt_loadA (m := 5) (cs := (Result.cells (Result.mk 2 (-1) 5 true 0))) rfl rfl rfl rfl ⟨rfl, Rdc.blk (.tail _ (.head _)) rfl⟩) ?_
  refine Ow_q rfl rfl rfl (Qt_build (cs := (Event.cells (Event.mk 1 0 true (Result.mk 2 (-1) 5 true 0)))) rfl rfl rfl rfl rfl rfl) ?_
  have hR109 : RowR TyEvent K98 [(Event.cells (Event.mk 0 0 false (Result.mk 0 0 0 false 0))), (Event.cells (Event.mk 1 0 false (Result.mk 0 0 0 false 0))), (Event.cells (Event.mk 1 0 true (Result.mk 2 (-1) 5 true 0)))] [(Event.mk 0 0 false (Result.mk 0 0 0 false 0)), (Event.mk 1 0 false (Result.mk 0 0 0 false 0)), (Event.mk 1 0 true (Result.mk 2 (-1) 5 true 0))] := RowR.cons rfl (RowR.cons rfl (RowR.cons rfl (RowR.nil)))
  refine Ow_cons rfl (O_lit (T := TyEvent) (rows := [(Event.cells (Event.mk 0 0 false (Result.mk 0 0 0 false 0))), (Event.cells (Event.mk 1 0 false (Result.mk 0 0 0 false 0))), (Event.cells (Event.mk 1 0 true (Result.mk 2 (-1) 5 true 0)))]) (l := [(Event.mk 0 0 false (Result.mk 0 0 0 false 0)), (Event.mk 1 0 false (Result.mk 0 0 0 false 0)), (Event.mk 1 0 true (Result.mk 2 (-1) 5 true 0))]) rfl rfl rfl hR109 rfl rfl rfl rfl rfl rfl rfl rfl (fun v108 => ?_))
  refine Ow_q rfl rfl rfl (Qt_assign rfl) ?_
  refine Ow_nil ?_
  refine Cw_seq ?_
  refine Cw_region ?_
  refine Ow_q rfl rfl rfl (Qt_loadA (m := 3) (cs := (Config.cells (Config.mk [1] [0] 2) v79 v81)) rfl rfl rfl rfl ⟨rfl, Rdc.blk (.tail _ (.tail _ (.tail _ (.tail _ (.tail _ (.tail _ (.head _))))))) rfl⟩) ?_
  refine Ow_q rfl rfl rfl (Qt_move rfl) ?_
  refine Ow_q rfl rfl rfl (Qt_move rfl) ?_
  refine Ow.shift (Shift.settle (T := (Ty.sl TyOp)) (.there (.there (.there .here))) hR103 rfl (fun K110 hK111 hs112 => Shift.done ?_))
  have hs116 := (hR109).mono hK111
  refine Ow.shift (Shift.settle (T := TyEvent) .here hs116 rfl (fun K113 hK114 hs115 => Shift.done ?_))
  obtain ⟨x117, x118, hx119, H⟩ := bnd2 H
  have hs120 := (((((hs85).mono hK87).mono hK96).mono hK99).mono hK111).mono hK114
  have hs121 := ((((hs88).mono hK96).mono hK99).mono hK111).mono hK114
  have hs122 := (hs112).mono hK114
  have hs123 := ((((((hT).mono hK84).mono hK87).mono hK96).mono hK99).mono hK111).mono hK114
  refine Ow_cons rfl (OpW_call rfl Tryd.call15 rfl rfl (c_M_linear_Witness (Config.mk [1] [0] 2) v79 v81 [[(Op.mk 1 0 0 5 0 [] [])], [(Op.mk 2 0 0 0 0 [] [])]] v102 [(Event.mk 0 0 false (Result.mk 0 0 0 false 0)), (Event.mk 1 0 false (Result.mk 0 0 0 false 0)), (Event.mk 1 0 true (Result.mk 2 (-1) 5 true 0))] v108 x117 x118 hx119 _ _ hs120 hs121 hs122 hs115 hs123) ?_)
  rintro _ K126 _ hK127 ⟨v124, rs125, rfl, rfl, hs128⟩
  refine Ow_q rfl rfl rfl (Qt_move rfl) ?_
  refine Ow_q rfl rfl rfl (Qt_extract rfl rfl) ?_
  refine Ow_q rfl rfl rfl (Qt_extract rfl rfl) ?_
  refine Ow_q rfl rfl rfl (Qt_assign rfl) ?_
  refine Ow_q rfl rfl rfl (Qt_assign rfl) ?_
  refine Ow_nil ?_
  refine Cw_join (fun env' K' G' => ∃ (t154 : Bool), [(0, (.bool t154))] = env' ∧ G = G' ∧ M_law17_awake_J1 t154 = some y0) ?_ ?_
  · skip
    refine Cw_region ?_
    refine Ow_q rfl rfl rfl (Qt_loadA (m := 3) (cs := (Config.cells (Config.mk [1] [0] 2) v79 v81)) rfl rfl rfl rfl ⟨rfl, Rdc.blk (.tail _ (.tail _ (.tail _ (.tail _ (.tail _ (.tail _ (.tail _ (.head _)))))))) rfl⟩) ?_
    refine Ow_q rfl rfl rfl (Qt_move rfl) ?_
    refine Ow_q rfl rfl rfl (Qt_move rfl) ?_
    have hs158 := (((hR107).mono hK111).mono hK114).mono hK127
    refine Ow.shift (Shift.settle (T := TyEvent) (.there (.there .here)) hs158 rfl (fun K155 hK156 hs157 => Shift.done ?_))
    obtain ⟨x159, hx160, H⟩ := bnd H
    have hs161 := ((hs120).mono hK127).mono hK156
    have hs162 := ((hs121).mono hK127).mono hK156
    have hs163 := ((hs122).mono hK127).mono hK156
    have hs164 := ((hs123).mono hK127).mono hK156
    refine Ow_cons rfl (OpW_call rfl Tryd.call9 rfl rfl (c_M_linear_Check (Config.mk [1] [0] 2) v79 v81 [[(Op.mk 1 0 0 5 0 [] [])], [(Op.mk 2 0 0 0 0 [] [])]] v102 [(Event.mk 1 0 false (Result.mk 0 0 0 false 0)), (Event.mk 1 0 true (Result.mk 2 (-1) 5 true 0)), (Event.mk 0 0 false (Result.mk 0 0 0 false 0))] v106 x159 hx160 _ _ hs161 hs162 hs163 hs157 hs164) ?_)
    rintro _ K165 _ hK166 ⟨rfl, rfl⟩
    refine Ow_q rfl rfl rfl (Qt_not rfl) ?_
    refine Ow_q rfl rfl rfl (Qt_move rfl) ?_
    refine Ow_caseG rfl rfl rfl ?_ ?_
    · intro h167
      have h167 := nt_t (h167)
      have H := iff_ (btf h167) H
      refine Ow_qw rfl rfl rfl rfl rfl rfl (Qt_loadA (m := 3) (cs := (Config.cells (Config.mk [1] [0] 2) v79 v81)) rfl rfl rfl rfl ⟨rfl, Rdc.blk (.tail _ (.tail _ (.tail _ (.tail _ (.tail _ (.tail _ (.tail _ (.head _)))))))) rfl⟩) ?_
      refine Ow_qw rfl rfl rfl rfl rfl rfl (Qt_move rfl) ?_
      refine Ow_qw rfl rfl rfl rfl rfl rfl (Qt_move rfl) ?_
      obtain ⟨x168, hx169, H⟩ := bnd H
      have hs170 := (hs161).mono hK166
      have hs171 := (hs162).mono hK166
      have hs172 := (hs163).mono hK166
      have hs173 := (((hs115).mono hK127).mono hK156).mono hK166
      have hs174 := (hs164).mono hK166
      refine Ow_want rfl rfl rfl rfl (OpW_call rfl Tryd.call9 rfl rfl (c_M_linear_Check (Config.mk [1] [0] 2) v79 v81 [[(Op.mk 1 0 0 5 0 [] [])], [(Op.mk 2 0 0 0 0 [] [])]] v102 [(Event.mk 0 0 false (Result.mk 0 0 0 false 0)), (Event.mk 1 0 false (Result.mk 0 0 0 false 0)), (Event.mk 1 0 true (Result.mk 2 (-1) 5 true 0))] v108 x168 hx169 _ _ hs170 hs171 hs172 hs173 hs174) ?_)
      rintro _ K175 _ hK176 ⟨rfl, rfl⟩
      refine Ow_q rfl rfl rfl (Qt_pick_t rfl rfl) ?_
      refine Ow_q rfl rfl rfl (Qt_move rfl) ?_
      refine Ow_caseG rfl rfl rfl ?_ ?_
      · intro h177
        have H := ift h177 H
        refine Ow_qw rfl rfl rfl rfl rfl rfl (Qt_move rfl) ?_
        refine Ow_q rfl rfl rfl (Qt_pick_t rfl rfl) ?_
        refine Ow_q rfl rfl rfl (Qt_move rfl) ?_
        refine Ow_caseG rfl rfl rfl ?_ ?_
        · intro h178
          have H := ift h178 H
          refine Ow_qw rfl rfl rfl rfl rfl rfl (Qt_move rfl) ?_
          have hs179 := (((hs128).mono hK156).mono hK166).mono hK176
          refine Ow_qw rfl rfl rfl rfl rfl rfl (Q_lenR (T := TyDone) (.head _) hs179 rfl rfl rfl) ?_
          refine Ow_qw rfl rfl rfl rfl rfl rfl (Qt_cmp rfl rfl rfl) ?_
          refine Ow_q rfl rfl rfl (Qt_pick_t rfl rfl) ?_
          refine Ow_q rfl rfl rfl (Qt_assign rfl) ?_
          refine Ow_nil ?_
          refine Shift.rem .here ?_
          refine Shift.rem .here ?_
          refine Shift.rem .here ?_
          refine Shift.rem .here ?_
          refine Shift.rem .here ?_
          refine Shift.rem .here ?_
          refine Shift.rem .here ?_
          refine Shift.rem .here ?_
          refine Shift.rem .here ?_
          refine Shift.rem .here ?_
          refine Shift.done ?_
          exact ⟨[(0, (.bool (dcd ((x117.length : Int) = 2))))], ⟨rfl, trivial⟩, (dcd ((x117.length : Int) = 2)), rfl, rfl, H⟩
        · intro h178
          have H := iff_ (btf h178) H
          refine Ow_pass rfl rfl rfl rfl rfl rfl rfl ?_
          refine Ow_pass rfl rfl rfl rfl rfl rfl rfl ?_
          refine Ow_pass rfl rfl rfl rfl rfl rfl rfl ?_
          refine Ow_q rfl rfl rfl (Qt_pick_f rfl rfl) ?_
          refine Ow_q rfl rfl rfl (Qt_assign rfl) ?_
          refine Ow_nil ?_
          refine Shift.rem .here ?_
          refine Shift.rem .here ?_
          refine Shift.rem .here ?_
          refine Shift.rem .here ?_
          refine Shift.rem .here ?_
          refine Shift.rem .here ?_
          refine Shift.rem .here ?_
          refine Shift.rem .here ?_
          refine Shift.rem .here ?_
          refine Shift.rem .here ?_
          refine Shift.done ?_
          exact ⟨[(0, (.bool false))], ⟨rfl, trivial⟩, false, rfl, rfl, H⟩
      · intro h177
        have H := iff_ (btf h177) H
        refine Ow_pass rfl rfl rfl rfl rfl rfl rfl ?_
        refine Ow_q rfl rfl rfl (Qt_pick_f rfl rfl) ?_
        refine Ow_q rfl rfl rfl (Qt_move rfl) ?_
        refine Ow_pass rfl rfl rfl rfl rfl rfl rfl ?_
        refine Ow_pass rfl rfl rfl rfl rfl rfl rfl ?_
        refine Ow_pass rfl rfl rfl rfl rfl rfl rfl ?_
        refine Ow_q rfl rfl rfl (Qt_pick_f rfl rfl) ?_
        refine Ow_q rfl rfl rfl (Qt_assign rfl) ?_
        refine Ow_nil ?_
        refine Shift.rem .here ?_
        refine Shift.rem .here ?_
        refine Shift.rem .here ?_
        refine Shift.rem .here ?_
        refine Shift.rem .here ?_
        refine Shift.rem .here ?_
        refine Shift.rem .here ?_
        refine Shift.rem .here ?_
        refine Shift.rem .here ?_
        refine Shift.rem .here ?_
        refine Shift.done ?_
        exact ⟨[(0, (.bool false))], ⟨rfl, trivial⟩, false, rfl, rfl, H⟩
    · intro h167
      have h167 := nt_f (h167)
      have H := ift h167 H
      refine Ow_pass rfl rfl rfl rfl rfl rfl rfl ?_
      refine Ow_pass rfl rfl rfl rfl rfl rfl rfl ?_
      refine Ow_pass rfl rfl rfl rfl rfl rfl rfl ?_
      refine Ow_pass rfl rfl rfl rfl rfl rfl rfl ?_
      refine Ow_q rfl rfl rfl (Qt_pick_f rfl rfl) ?_
      refine Ow_q rfl rfl rfl (Qt_move rfl) ?_
      refine Ow_pass rfl rfl rfl rfl rfl rfl rfl ?_
      refine Ow_q rfl rfl rfl (Qt_pick_f rfl rfl) ?_
      refine Ow_q rfl rfl rfl (Qt_move rfl) ?_
      refine Ow_pass rfl rfl rfl rfl rfl rfl rfl ?_
      refine Ow_pass rfl rfl rfl rfl rfl rfl rfl ?_
      refine Ow_pass rfl rfl rfl rfl rfl rfl rfl ?_
      refine Ow_q rfl rfl rfl (Qt_pick_f rfl rfl) ?_
      refine Ow_q rfl rfl rfl (Qt_assign rfl) ?_
      refine Ow_nil ?_
      refine Shift.rem .here ?_
      refine Shift.rem .here ?_
      refine Shift.rem .here ?_
      refine Shift.rem .here ?_
      refine Shift.rem .here ?_
      refine Shift.rem .here ?_
      refine Shift.rem .here ?_
      refine Shift.rem .here ?_
      refine Shift.rem .here ?_
      refine Shift.rem .here ?_
      refine Shift.done ?_
      exact ⟨[(0, (.bool false))], ⟨rfl, trivial⟩, false, rfl, rfl, H⟩
  rintro _ K180 _ hK181 ⟨t154, rfl, rfl, H⟩
  unfold M_law17_awake_J1 at H
  refine Cw_ret ?_
  obtain ey0 := inj1 H
  subst y0
  refine ⟨(by first | exact .inl rfl | exact .inr rfl), [(.bool t154)], ⟨(.bool t154), _, rfl, rfl, rfl⟩, ?_⟩
  refine Shift.done ?_
  exact ⟨rfl, rfl⟩



end Go.Hx
