/- Printed by program. -/
import Derived.Test.YtlegagccaeoidaaXFM
import Derived.Test.YtlegagccaeoidaaXFWCases1
namespace Go.Hx
open Go Go.Proofs
set_option linter.unusedSimpArgs false
set_option linter.unusedVariables false
set_option maxRecDepth 10000
set_option maxHeartbeats 1000000 in
theorem c_M_slices_IndexFunc_api_Case_api_Case_1f35 (p0 : List Case) (vp0 : SV) (y0 : Int) (H : M_slices_IndexFunc_api_Case_api_Case_1f35 p0 = some y0) (K : Kp) (G : List Ent) (hp0 : Slr TyCase K (sv vp0) p0) :
    Fc Try.prog 47 #[(sv vp0), (.func (.func 35) #[] #[])] K (G) (fun v K' G' => v = (.int .i64 y0) ∧ G = G') := by
  refine Fc_body Try.func47 rfl Try.ntmps47 Try.results47 rfl ?_
  unfold M_slices_IndexFunc_api_Case_api_Case_1f35 at H
  refine Cw_seq ?_
  refine Cw_region ?_
  refine Ow_q rfl rfl rfl (Qt_assign rfl) ?_
  refine Ow_nil ?_
  refine Cw_join (fun env' K' G' => [] = env' ∧ G = G' ∧ M_slices_IndexFunc_api_Case_api_Case_1f35_J1 = some y0) ?_ ?_
  · skip
    refine Cw_seq ?_
    refine Cw_region ?_
    refine Ow_q rfl rfl rfl (Qt_move rfl) ?_
    refine Ow_q rfl rfl rfl (Q_len (T := TyCase) hp0 rfl rfl) ?_
    refine Ow_q rfl rfl rfl (Qt_move rfl) ?_
    refine Ow_nil ?_
    refine Cw_block ?_
    refine Cw_loopM (fun n81 env' K' G' => ∃ (i80 : Int), [(0, (sv vp0)), (1, (.func (.func 35) #[] #[])), (7, (.int .i64 (p0.length : Int))), (8, (.int .i64 i80))] = env' ∧ K = K' ∧ G = G' ∧ lp1 (M_slices_IndexFunc_api_Case_api_Case_1f35_L1 p0) n81 i80 = some y0) BIG ?_ ?_
    · skip
      refine Shift.done ?_
      exact ⟨[(0, (sv vp0)), (1, (.func (.func 35) #[] #[])), (7, (.int .i64 (p0.length : Int))), (8, (.int .i64 0))], ⟨rfl, rfl, rfl, rfl, trivial⟩, 0, rfl, rfl, rfl, H⟩
    rintro n81 _ _ _ - ⟨i80, rfl, rfl, rfl, H⟩
    obtain ⟨m82, k83, rfl, hkk84, H⟩ := lps1 H
    unfold M_slices_IndexFunc_api_Case_api_Case_1f35_L1 at H
    refine Cw_seq ?_
    refine Cw_region ?_
    refine Ow_q rfl rfl rfl (Qt_cmp rfl rfl rfl) ?_
    refine Ow_nil ?_
    refine Cw_seq ?_
    refine Cw_cond rfl ?_ ?_
    · intro h86
      have h86 := dcd_t (h86)
      have H := ift h86 H
      refine Cw_skip ?_
      refine Cw_seq ?_
      refine Cw_block ?_
      refine Cw_seq ?_
      refine Cw_region ?_
      refine Ow_q rfl rfl rfl (Qt_move rfl) ?_
      refine Ow_q rfl rfl rfl (Qt_assign rfl) ?_
      refine Ow_nil ?_
      refine Cw_seq ?_
      refine Cw_region ?_
      refine Ow_q rfl rfl rfl (Qt_move rfl) ?_
      refine Ow_q rfl rfl rfl (Qt_move rfl) ?_
      refine Ow_q rfl rfl rfl (Qt_move rfl) ?_
      obtain ⟨x95, hx96, H⟩ := bnd H
      obtain ⟨r97, hr98, hk99⟩ := Slr.at hp0 hx96
      obtain rfl := hr98
      refine Ow_q rfl rfl rfl (Q_ix (T := TyCase) hp0 hx96 rfl rfl rfl rfl rfl) ?_
      refine Ow_q rfl rfl rfl (Qt_loadA (m := 3) (cs := (Case.cells x95)) rfl rfl rfl rfl ⟨rfl, Rdc.k hk99 rfl⟩) ?_
      obtain ⟨x100, hx101, H⟩ := bnd H
      refine Ow_cons rfl (OpW_call rfl Try.call35 rfl rfl (c_M_cases_Check_1 x95 x100 hx101 _ _ ) ?_)
      rintro _ _ _ - ⟨rfl, rfl, rfl⟩
      refine Ow_nil ?_
      refine Cw_cond rfl ?_ ?_
      · intro h102
        have H := ift h102 H
        refine Cw_seq ?_
        refine Cw_region ?_
        refine Ow_q rfl rfl rfl (Qt_move rfl) ?_
        refine Ow_q rfl rfl rfl (Qt_assign rfl) ?_
        refine Ow_nil ?_
        refine Cw_ret ?_
        obtain ey0 := inj1 H
        subst y0
        refine ⟨(by first | exact .inl rfl | exact .inr rfl), [(.int .i64 i80)], ⟨(.int .i64 i80), _, rfl, rfl, rfl⟩, ?_⟩
        refine Shift.done ?_
        exact ⟨rfl, rfl⟩
      · intro h102
        have H := iff_ (btf h102) H
        refine Cw_skip ?_
        refine Cw_region ?_
        refine Ow_q rfl rfl rfl (Qt_arith (e := wI (i80 + 1)) rfl rfl rfl rfl) ?_
        refine Ow_q rfl rfl rfl (Qt_move rfl) ?_
        refine Ow_nil ?_
        refine Shift.done ?_
        exact ⟨[(0, (sv vp0)), (1, (.func (.func 35) #[] #[])), (7, (.int .i64 (p0.length : Int))), (8, (.int .i64 (wI (i80 + 1))))], ⟨rfl, rfl, rfl, rfl, trivial⟩, _, Nat.lt_succ_self _, (wI (i80 + 1)), rfl, rfl, rfl, (hkk84 ▸ H)⟩
    · intro h86
      have h86 := dcd_f (h86)
      have H := iff_ h86 H
      refine Cw_exit ?_
      refine Shift.done ?_
      exact ⟨[], trivial, rfl, rfl, H⟩
  rintro _ K103 _ hK104 ⟨rfl, rfl, H⟩
  unfold M_slices_IndexFunc_api_Case_api_Case_1f35_J1 at H
  refine Cw_seq ?_
  refine Cw_region ?_
  refine Ow_q rfl rfl rfl (Qt_assign rfl) ?_
  refine Ow_nil ?_
  refine Cw_ret ?_
  obtain ey0 := inj1 H
  subst y0
  refine ⟨(by first | exact .inl rfl | exact .inr rfl), [(.int .i64 (-1))], ⟨(.int .i64 (-1)), _, rfl, rfl, rfl⟩, ?_⟩
  refine Shift.done ?_
  exact ⟨rfl, rfl⟩

set_option maxHeartbeats 1000000 in
theorem c_M_slices_ContainsFunc_api_Case_api_Case_1f35 (p0 : List Case) (vp0 : SV) (y0 : Bool) (H : M_slices_ContainsFunc_api_Case_api_Case_1f35 p0 = some y0) (K : Kp) (G : List Ent) (hp0 : Slr TyCase K (sv vp0) p0) :
    Fc Try.prog 34 #[(sv vp0), (.func (.func 35) #[] #[])] K (G) (fun v K' G' => v = (.bool y0) ∧ G = G') := by
  refine Fc_body Try.func34 rfl Try.ntmps34 Try.results34 rfl ?_
  unfold M_slices_ContainsFunc_api_Case_api_Case_1f35 at H
  refine Cw_seq ?_
  refine Cw_region ?_
  refine Ow_q rfl rfl rfl (Qt_assign rfl) ?_
  refine Ow_nil ?_
  refine Cw_seq ?_
  refine Cw_region ?_
  refine Ow_q rfl rfl rfl (Qt_move rfl) ?_
  refine Ow_q rfl rfl rfl (Qt_move rfl) ?_
  obtain ⟨x5, hx6, H⟩ := bnd H
  refine Ow_cons rfl (OpW_call rfl Try.call47 rfl rfl (c_M_slices_IndexFunc_api_Case_api_Case_1f35 p0 vp0 x5 hx6 _ _ hp0) ?_)
  rintro _ K7 _ hK8 ⟨rfl, rfl⟩
  refine Ow_q rfl rfl rfl (Qt_cmp rfl rfl rfl) ?_
  refine Ow_q rfl rfl rfl (Qt_assign rfl) ?_
  refine Ow_nil ?_
  refine Cw_ret ?_
  obtain ey0 := inj1 H
  subst y0
  refine ⟨(by first | exact .inl rfl | exact .inr rfl), [(.bool (dcd (x5 ≥ 0)))], ⟨(.bool (dcd (x5 ≥ 0))), _, rfl, rfl, rfl⟩, ?_⟩
  refine Shift.done ?_
  exact ⟨rfl, rfl⟩

set_option maxHeartbeats 1000000 in
theorem c_M_slices_IndexFunc_api_Case_api_Case_1f48 (p0 : List Case) (vp0 : SV) (y0 : Int) (H : M_slices_IndexFunc_api_Case_api_Case_1f48 p0 = some y0) (K : Kp) (G : List Ent) (hp0 : Slr TyCase K (sv vp0) p0) :
    Fc Try.prog 47 #[(sv vp0), (.func (.func 48) #[] #[])] K (G) (fun v K' G' => v = (.int .i64 y0) ∧ G = G') := by
  refine Fc_body Try.func47 rfl Try.ntmps47 Try.results47 rfl ?_
  unfold M_slices_IndexFunc_api_Case_api_Case_1f48 at H
  refine Cw_seq ?_
  refine Cw_region ?_
  refine Ow_q rfl rfl rfl (Qt_assign rfl) ?_
  refine Ow_nil ?_
  refine Cw_join (fun env' K' G' => [] = env' ∧ G = G' ∧ M_slices_IndexFunc_api_Case_api_Case_1f48_J1 = some y0) ?_ ?_
  · skip
    refine Cw_seq ?_
    refine Cw_region ?_
    refine Ow_q rfl rfl rfl (Qt_move rfl) ?_
    refine Ow_q rfl rfl rfl (Q_len (T := TyCase) hp0 rfl rfl) ?_
    refine Ow_q rfl rfl rfl (Qt_move rfl) ?_
    refine Ow_nil ?_
    refine Cw_block ?_
    refine Cw_loopM (fun n81 env' K' G' => ∃ (i80 : Int), [(0, (sv vp0)), (1, (.func (.func 48) #[] #[])), (7, (.int .i64 (p0.length : Int))), (8, (.int .i64 i80))] = env' ∧ K = K' ∧ G = G' ∧ lp1 (M_slices_IndexFunc_api_Case_api_Case_1f48_L1 p0) n81 i80 = some y0) BIG ?_ ?_
    · skip
      refine Shift.done ?_
      exact ⟨[(0, (sv vp0)), (1, (.func (.func 48) #[] #[])), (7, (.int .i64 (p0.length : Int))), (8, (.int .i64 0))], ⟨rfl, rfl, rfl, rfl, trivial⟩, 0, rfl, rfl, rfl, H⟩
    rintro n81 _ _ _ - ⟨i80, rfl, rfl, rfl, H⟩
    obtain ⟨m82, k83, rfl, hkk84, H⟩ := lps1 H
    unfold M_slices_IndexFunc_api_Case_api_Case_1f48_L1 at H
    refine Cw_seq ?_
    refine Cw_region ?_
    refine Ow_q rfl rfl rfl (Qt_cmp rfl rfl rfl) ?_
    refine Ow_nil ?_
    refine Cw_seq ?_
    refine Cw_cond rfl ?_ ?_
    · intro h86
      have h86 := dcd_t (h86)
      have H := ift h86 H
      refine Cw_skip ?_
      refine Cw_seq ?_
      refine Cw_block ?_
      refine Cw_seq ?_
      refine Cw_region ?_
      refine Ow_q rfl rfl rfl (Qt_move rfl) ?_
      refine Ow_q rfl rfl rfl (Qt_assign rfl) ?_
      refine Ow_nil ?_
      refine Cw_seq ?_
      refine Cw_region ?_
      refine Ow_q rfl rfl rfl (Qt_move rfl) ?_
      refine Ow_q rfl rfl rfl (Qt_move rfl) ?_
      refine Ow_q rfl rfl rfl (Qt_move rfl) ?_
      obtain ⟨x95, hx96, H⟩ := bnd H
      obtain ⟨r97, hr98, hk99⟩ := Slr.at hp0 hx96
      obtain rfl := hr98
      refine Ow_q rfl rfl rfl (Q_ix (T := TyCase) hp0 hx96 rfl rfl rfl rfl rfl) ?_
      refine Ow_q rfl rfl rfl (Qt_loadA (m := 3) (cs := (Case.cells x95)) rfl rfl rfl rfl ⟨rfl, Rdc.k hk99 rfl⟩) ?_
      obtain ⟨x100, hx101, H⟩ := bnd H
      refine Ow_cons rfl (OpW_call rfl Try.call48 rfl rfl (c_M_cases_shape_1 x95 x100 hx101 _ _ ) ?_)
      rintro _ _ _ - ⟨rfl, rfl, rfl⟩
      refine Ow_nil ?_
      refine Cw_cond rfl ?_ ?_
      · intro h102
        have H := ift h102 H
        refine Cw_seq ?_
        refine Cw_region ?_
        refine Ow_q rfl rfl rfl (Qt_move rfl) ?_
        refine Ow_q rfl rfl rfl (Qt_assign rfl) ?_
        refine Ow_nil ?_
        refine Cw_ret ?_
        obtain ey0 := inj1 H
        subst y0
        refine ⟨(by first | exact .inl rfl | exact .inr rfl), [(.int .i64 i80)], ⟨(.int .i64 i80), _, rfl, rfl, rfl⟩, ?_⟩
        refine Shift.done ?_
        exact ⟨rfl, rfl⟩
      · intro h102
        have H := iff_ (btf h102) H
        refine Cw_skip ?_
        refine Cw_region ?_
        refine Ow_q rfl rfl rfl (Qt_arith (e := wI (i80 + 1)) rfl rfl rfl rfl) ?_
        refine Ow_q rfl rfl rfl (Qt_move rfl) ?_
        refine Ow_nil ?_
        refine Shift.done ?_
        exact ⟨[(0, (sv vp0)), (1, (.func (.func 48) #[] #[])), (7, (.int .i64 (p0.length : Int))), (8, (.int .i64 (wI (i80 + 1))))], ⟨rfl, rfl, rfl, rfl, trivial⟩, _, Nat.lt_succ_self _, (wI (i80 + 1)), rfl, rfl, rfl, (hkk84 ▸ H)⟩
    · intro h86
      have h86 := dcd_f (h86)
      have H := iff_ h86 H
      refine Cw_exit ?_
      refine Shift.done ?_
      exact ⟨[], trivial, rfl, rfl, H⟩
  rintro _ K103 _ hK104 ⟨rfl, rfl, H⟩
  unfold M_slices_IndexFunc_api_Case_api_Case_1f48_J1 at H
  refine Cw_seq ?_
  refine Cw_region ?_
  refine Ow_q rfl rfl rfl (Qt_assign rfl) ?_
  refine Ow_nil ?_
  refine Cw_ret ?_
  obtain ey0 := inj1 H
  subst y0
  refine ⟨(by first | exact .inl rfl | exact .inr rfl), [(.int .i64 (-1))], ⟨(.int .i64 (-1)), _, rfl, rfl, rfl⟩, ?_⟩
  refine Shift.done ?_
  exact ⟨rfl, rfl⟩

set_option maxHeartbeats 1000000 in
theorem c_M_slices_ContainsFunc_api_Case_api_Case_1f48 (p0 : List Case) (vp0 : SV) (y0 : Bool) (H : M_slices_ContainsFunc_api_Case_api_Case_1f48 p0 = some y0) (K : Kp) (G : List Ent) (hp0 : Slr TyCase K (sv vp0) p0) :
    Fc Try.prog 34 #[(sv vp0), (.func (.func 48) #[] #[])] K (G) (fun v K' G' => v = (.bool y0) ∧ G = G') := by
  refine Fc_body Try.func34 rfl Try.ntmps34 Try.results34 rfl ?_
  unfold M_slices_ContainsFunc_api_Case_api_Case_1f48 at H
  refine Cw_seq ?_
  refine Cw_region ?_
  refine Ow_q rfl rfl rfl (Qt_assign rfl) ?_
  refine Ow_nil ?_
  refine Cw_seq ?_
  refine Cw_region ?_
  refine Ow_q rfl rfl rfl (Qt_move rfl) ?_
  refine Ow_q rfl rfl rfl (Qt_move rfl) ?_
  obtain ⟨x5, hx6, H⟩ := bnd H
  refine Ow_cons rfl (OpW_call rfl Try.call47 rfl rfl (c_M_slices_IndexFunc_api_Case_api_Case_1f48 p0 vp0 x5 hx6 _ _ hp0) ?_)
  rintro _ K7 _ hK8 ⟨rfl, rfl⟩
  refine Ow_q rfl rfl rfl (Qt_cmp rfl rfl rfl) ?_
  refine Ow_q rfl rfl rfl (Qt_assign rfl) ?_
  refine Ow_nil ?_
  refine Cw_ret ?_
  obtain ey0 := inj1 H
  subst y0
  refine ⟨(by first | exact .inl rfl | exact .inr rfl), [(.bool (dcd (x5 ≥ 0)))], ⟨(.bool (dcd (x5 ≥ 0))), _, rfl, rfl, rfl⟩, ?_⟩
  refine Shift.done ?_
  exact ⟨rfl, rfl⟩


end Go.Hx
