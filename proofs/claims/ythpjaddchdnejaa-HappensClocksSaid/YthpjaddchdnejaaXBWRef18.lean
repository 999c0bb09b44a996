/- Printed by program. -/
import Derived.Test.YthpjaddchdnejaaXBM
namespace Go.Hx
open Go Go.Proofs
set_option linter.unusedSimpArgs false
set_option linter.unusedVariables false
set_option maxRecDepth 10000
set_option maxHeartbeats 1000000 in
theorem c_M_ref18_find (p0 : List Ref18_clock) (vp0 : SV) (rsp0 : List (List Value)) (p1 : Int) (y0 : Int) (H : M_ref18_find p0 p1 = some y0) (K : Kp) (G : List Ent) (hp0 : RowR TyRef18_clock K rsp0 p0) :
    Fc Try.prog 52 #[(sv vp0), (.int .i64 p1)] K ((.row (sv vp0) 91 2 rsp0.flatten) :: G) (fun v K' G' => v = (.int .i64 y0) ∧ (.row (sv vp0) 91 2 rsp0.flatten) :: G = G') := by
  refine Fc_body Try.func52 rfl Try.ntmps52 Try.results52 rfl ?_
  unfold M_ref18_find at H
  refine Cw_seq ?_
  refine Cw_region ?_
  refine Ow_q rfl rfl rfl (Qt_assign rfl) ?_
  refine Ow_nil ?_
  refine Cw_join (fun env' K' G' => [] = env' ∧ (.row (sv vp0) 91 2 rsp0.flatten) :: G = G' ∧ M_ref18_find_J1 p0 = some y0) ?_ ?_
  · skip
    refine Cw_seq ?_
    refine Cw_region ?_
    refine Ow_q rfl rfl rfl (Qt_assign rfl) ?_
    refine Ow_nil ?_
    refine Cw_block ?_
    refine Cw_loopM (fun n81 env' K' G' => ∃ (i80 : Int), [(0, (sv vp0)), (1, (.int .i64 p1)), (5, (.int .i64 i80))] = env' ∧ K = K' ∧ (.row (sv vp0) 91 2 rsp0.flatten) :: G = G' ∧ lp1 (M_ref18_find_L1 p0 p1) n81 i80 = some y0) BIG ?_ ?_
    · skip
      refine Shift.done ?_
      exact ⟨[(0, (sv vp0)), (1, (.int .i64 p1)), (5, (.int .i64 0))], ⟨rfl, rfl, rfl, trivial⟩, 0, rfl, rfl, rfl, H⟩
    rintro n81 _ _ _ - ⟨i80, rfl, rfl, rfl, H⟩
    obtain ⟨m82, k83, rfl, hkk84, H⟩ := lps1 H
    unfold M_ref18_find_L1 at H
    refine Cw_seq ?_
    refine Cw_seq ?_
    refine Cw_region ?_
    refine Ow_q rfl rfl rfl (Qt_move rfl) ?_
    refine Ow_q rfl rfl rfl (Qt_move rfl) ?_
    refine Ow_q rfl rfl rfl (Q_lenR (T := TyRef18_clock) (.head _) hp0 rfl rfl rfl) ?_
    refine Ow_q rfl rfl rfl (Qt_cmp rfl rfl rfl) ?_
    refine Ow_nil ?_
    refine Cw_cond rfl ?_ ?_
    · intro h86
      have h86 := dcd_t (h86)
      have H := ift h86 H
      refine Cw_skip ?_
      refine Cw_seq ?_
      refine Cw_block ?_
      refine Cw_seq ?_
      refine Cw_region ?_
      refine Ow_q rfl rfl rfl (Qt_move rfl) ?_
      refine Ow_q rfl rfl rfl (Qt_move rfl) ?_
      obtain ⟨x95, hx96, H⟩ := bnd H
      obtain ⟨r97, hq98, hr99⟩ := RowR.at hp0 hx96
      obtain ⟨v100, rfl, hs101⟩ := hr99
      refine Ow_q rfl rfl rfl (Q_ixR (T := TyRef18_clock) (.head _) hp0 hq98 (getI_ix hx96).1 rfl rfl rfl rfl rfl) ?_
      refine Ow_q rfl rfl rfl (Qt_fieldAddr (m := 0) rfl rfl rfl rfl rfl) ?_
      refine Ow_q rfl rfl rfl (Qt_load1 (v := (.int .i64 x95.address)) rfl rfl rfl (Rd_row (T := TyRef18_clock) (.head _) hp0 hq98 rfl rfl)) ?_
      refine Ow_q rfl rfl rfl (Qt_move rfl) ?_
      refine Ow_q rfl rfl rfl (Qt_cmp rfl rfl rfl) ?_
      refine Ow_nil ?_
      refine Cw_cond rfl ?_ ?_
      · intro h102
        have h102 := dcd_t (h102)
        have H := ift h102 H
        refine Cw_seq ?_
        refine Cw_region ?_
        refine Ow_q rfl rfl rfl (Qt_move rfl) ?_
        refine Ow_q rfl rfl rfl (Qt_assign rfl) ?_
        refine Ow_nil ?_
        refine Cw_ret ?_
        obtain ey0 := inj1 H
        subst y0
        refine ⟨(by first | exact .inl rfl | exact .inr rfl), [(.int .i64 i80)], ⟨(.int .i64 i80), _, rfl, rfl, rfl⟩, ?_⟩
        refine Shift.done ?_
        exact ⟨rfl, rfl⟩
      · intro h102
        have h102 := dcd_f (h102)
        have H := iff_ h102 H
        refine Cw_skip ?_
        refine Cw_region ?_
        refine Ow_q rfl rfl rfl (Qt_move rfl) ?_
        refine Ow_q rfl rfl rfl (Qt_arith (e := wI (i80 + 1)) rfl rfl rfl rfl) ?_
        refine Ow_q rfl rfl rfl (Qt_assign rfl) ?_
        refine Ow_nil ?_
        refine Shift.done ?_
        exact ⟨[(0, (sv vp0)), (1, (.int .i64 p1)), (5, (.int .i64 (wI (i80 + 1))))], ⟨rfl, rfl, rfl, trivial⟩, _, Nat.lt_succ_self _, (wI (i80 + 1)), rfl, rfl, rfl, (hkk84 ▸ H)⟩
    · intro h86
      have h86 := dcd_f (h86)
      have H := iff_ h86 H
      refine Cw_exit ?_
      refine Shift.done ?_
      exact ⟨[], trivial, rfl, rfl, H⟩
  rintro _ K103 _ hK104 ⟨rfl, rfl, H⟩
  unfold M_ref18_find_J1 at H
  refine Cw_seq ?_
  refine Cw_region ?_
  refine Ow_q rfl rfl rfl (Qt_assign rfl) ?_
  refine Ow_nil ?_
  refine Cw_ret ?_
  obtain ey0 := inj1 H
  subst y0
  refine ⟨(by first | exact .inl rfl | exact .inr rfl), [(.int .i64 (-1))], ⟨(.int .i64 (-1)), _, rfl, rfl, rfl⟩, ?_⟩
  refine Shift.done ?_
  exact ⟨rfl, rfl⟩

set_option maxHeartbeats 1000000 in
theorem c_M_ref18_join (p0 : List Int) (vp0 : SV) (p1 : List Int) (vp1 : SV) (y0 : List Int) (H : M_ref18_join p0 p1 = some y0) (K : Kp) (G : List Ent) (hp0 : Slr Ty.i64 K (sv vp0) p0) (hp1 : Slr Ty.i64 K (sv vp1) p1) :
    Fc Try.prog 53 #[(sv vp0), (sv vp1)] K (G) (fun v K' G' => ∃ (wy0 : SV) (rswy0 : List (List Value)), v = (sv wy0) ∧ (.row (sv wy0) 3 1 rswy0.flatten) :: G = G' ∧ RowR Ty.i64 K' rswy0 y0) := by
  refine Fc_body Try.func53 rfl Try.ntmps53 Try.results53 rfl ?_
  unfold M_ref18_join at H
  refine Cw_seq ?_
  refine Cw_region ?_
  refine Ow_q rfl rfl rfl (Qt_assign rfl) ?_
  refine Ow_nil ?_
  refine Cw_seq ?_
  refine Cw_region ?_
  refine Ow_q rfl rfl rfl (Qt_move rfl) ?_
  have hR97 : RowR Ty.i64 K [] [] := RowR.nil
  refine Ow.shift (Shift.nilRow 3 1 (Shift.done ?_))
  obtain ⟨x98, hx99, H⟩ := bnd H
  refine Ow_cons rfl (O_appRow (T := Ty.i64) (bytes := 8) rfl rfl rfl (.head _) hR97 (SrcT.sl hp0) hx99 rfl rfl rfl rfl rfl rfl rfl rfl (fun v100 rs101 hR102 => ⟨_, .here, ?_⟩))
  refine Ow_q rfl rfl rfl (Qt_assign rfl) ?_
  refine Ow_nil ?_
  refine Cw_join (fun env' K' G' => ∃ (l186 : List Int) (rs188 : List (List Value)), [(5, (sv v100))] = env' ∧ (.row (sv v100) 3 1 rs188.flatten) :: G = G' ∧ M_ref18_join_J1 l186 = some y0 ∧ RowR Ty.i64 K' rs188 l186) ?_ ?_
  · skip
    refine Cw_seq ?_
    refine Cw_region ?_
    refine Ow_q rfl rfl rfl (Qt_assign rfl) ?_
    refine Ow_nil ?_
    refine Cw_block ?_
    refine Cw_loopM (fun n272 env' K' G' => ∃ (l268 : List Int) (rs270 : List (List Value)) (i271 : Int), [(1, (sv vp1)), (5, (sv v100)), (6, (.int .i64 i271))] = env' ∧ K = K' ∧ (.row (sv v100) 3 1 rs270.flatten) :: G = G' ∧ lp2 (M_ref18_join_L1 p1) n272 l268 i271 = some y0 ∧ RowR Ty.i64 K' rs270 l268) BIG ?_ ?_
    · skip
      refine Shift.done ?_
      exact ⟨[(1, (sv vp1)), (5, (sv v100)), (6, (.int .i64 0))], ⟨rfl, rfl, rfl, trivial⟩, x98, rs101, 0, rfl, rfl, rfl, H, hR102⟩
    rintro n272 _ _ _ - ⟨l268, rs270, i271, rfl, rfl, rfl, H, hR269⟩
    obtain ⟨m273, k274, rfl, hkk275, H⟩ := lps2 H
    unfold M_ref18_join_L1 at H
    refine Cw_seq ?_
    refine Cw_join (fun env' K' G' => ∃ (t280 : Bool), [(1, (sv vp1)), (5, (sv v100)), (6, (.int .i64 i271)), (18, (.bool t280))] = env' ∧ K = K' ∧ (.row (sv v100) 3 1 rs270.flatten) :: G = G' ∧ M_ref18_join_J2 p1 l268 i271 k274 t280 = some y0) ?_ ?_
    · skip
      refine Cw_region ?_
      refine Ow_q rfl rfl rfl (Qt_move rfl) ?_
      refine Ow_q rfl rfl rfl (Qt_move rfl) ?_
      refine Ow_q rfl rfl rfl (Q_lenR (T := Ty.i64) (.head _) hR269 rfl rfl rfl) ?_
      refine Ow_q rfl rfl rfl (Qt_cmp rfl rfl rfl) ?_
      refine Ow_q rfl rfl rfl (Qt_move rfl) ?_
      refine Ow_caseG rfl rfl rfl ?_ ?_
      · intro h281
        have h281 := dcd_t (h281)
        have H := ift h281 H
        refine Ow_qw rfl rfl rfl rfl rfl rfl (Qt_move rfl) ?_
        refine Ow_qw rfl rfl rfl rfl rfl rfl (Qt_move rfl) ?_
        refine Ow_qw rfl rfl rfl rfl rfl rfl (Q_len (T := Ty.i64) hp1 rfl rfl) ?_
        refine Ow_qw rfl rfl rfl rfl rfl rfl (Qt_cmp rfl rfl rfl) ?_
        refine Ow_q rfl rfl rfl (Qt_pick_t rfl rfl) ?_
        refine Ow_nil ?_
        refine Shift.done ?_
        exact ⟨[(1, (sv vp1)), (5, (sv v100)), (6, (.int .i64 i271)), (18, (.bool (dcd (i271 < (p1.length : Int)))))], ⟨rfl, rfl, rfl, rfl, trivial⟩, (dcd (i271 < (p1.length : Int))), rfl, rfl, rfl, H⟩
      · intro h281
        have h281 := dcd_f (h281)
        have H := iff_ h281 H
        refine Ow_pass rfl rfl rfl rfl rfl rfl rfl ?_
        refine Ow_pass rfl rfl rfl rfl rfl rfl rfl ?_
        refine Ow_pass rfl rfl rfl rfl rfl rfl rfl ?_
        refine Ow_pass rfl rfl rfl rfl rfl rfl rfl ?_
        refine Ow_q rfl rfl rfl (Qt_pick_f rfl rfl) ?_
        refine Ow_nil ?_
        refine Shift.done ?_
        exact ⟨[(1, (sv vp1)), (5, (sv v100)), (6, (.int .i64 i271)), (18, (.bool false))], ⟨rfl, rfl, rfl, rfl, trivial⟩, false, rfl, rfl, rfl, H⟩
    rintro _ _ _ - ⟨t280, rfl, rfl, rfl, H⟩
    unfold M_ref18_join_J2 at H
    refine Cw_cond rfl ?_ ?_
    · intro h282
      have H := ift h282 H
      refine Cw_skip ?_
      refine Cw_seq ?_
      refine Cw_block ?_
      obtain ⟨x311, hx312, H⟩ := bnd H
      obtain ⟨x316, hx317, H⟩ := bnd H
      obtain ⟨x321, hx322, H⟩ := bnd H
      refine Cw_region_any [] rfl Inc.nil ?_
      refine Aw_q 0 rfl (by kernel_rfl) (by kernel_rfl) (by kernel_rfl) rfl rfl rfl (Qt_move rfl) ?_
      refine Aw_q 1 rfl (by kernel_rfl) (by kernel_rfl) (by kernel_rfl) rfl rfl rfl (Qt_move rfl) ?_
      refine Aw_q 2 rfl (by kernel_rfl) (by kernel_rfl) (by kernel_rfl) rfl rfl rfl (Qt_move rfl) ?_
      refine Aw_q 3 rfl (by kernel_rfl) (by kernel_rfl) (by kernel_rfl) rfl rfl rfl (Qt_move rfl) ?_
      refine Aw_q 6 rfl (by kernel_rfl) (by kernel_rfl) (by kernel_rfl) rfl rfl rfl (Qt_move rfl) ?_
      refine Aw_q 7 rfl (by kernel_rfl) (by kernel_rfl) (by kernel_rfl) rfl rfl rfl (Qt_move rfl) ?_
      obtain ⟨r328, hr329, hk330⟩ := Slr.at hp1 hx317
      obtain rfl := hr329
      refine Aw_q 8 rfl (by kernel_rfl) (by kernel_rfl) (by kernel_rfl) rfl rfl rfl (Q_ix (T := Ty.i64) hp1 hx317 rfl rfl rfl rfl rfl) ?_
      refine Aw_q 9 rfl (by kernel_rfl) (by kernel_rfl) (by kernel_rfl) rfl rfl rfl (Qt_load1 (v := (.int .i64 x316)) rfl rfl rfl (Rdc.k hk330 rfl)) ?_
      obtain ⟨r331, hq332, hr333⟩ := RowR.at hR269 hx312
      obtain rfl := hr333
      refine Aw_one 4 (by kernel_rfl) (Ax_mk rfl rfl (OpW_of_Qt rfl rfl (Q_ixR (T := Ty.i64) (.head _) hR269 hq332 (getI_ix hx312).1 rfl rfl rfl rfl rfl) ⟨Inc.nil, ?_⟩))
      refine Aw_one 5 (by kernel_rfl) (Ax_mk rfl rfl (OpW_of_Qt rfl rfl (Qt_load1 (v := (.int .i64 x311)) rfl rfl rfl (Rd_row (T := Ty.i64) (.head _) hR269 hq332 rfl rfl)) ⟨Inc.nil, ?_⟩))
      refine Aw_q 10 rfl (by kernel_rfl) (by kernel_rfl) (by kernel_rfl) rfl rfl rfl (Qt_max2 rfl rfl) ?_
      obtain ⟨r334, hq335, hr336⟩ := RowR.at hR269 hx322
      obtain rfl := hr336
      refine Aw_one 11 (by kernel_rfl) (Ax_mk rfl rfl (OpW_of_Qt rfl rfl (Q_ixR (T := Ty.i64) (.head _) hR269 hq335 (getI_ix hx322).1 rfl rfl rfl rfl rfl) ⟨Inc.nil, ?_⟩))
      refine Aw_one 12 (by kernel_rfl) (Ax_mk rfl rfl ?_)
      refine O_storeR (T := Ty.i64) (vs := [(.int .i64 (if x311 < x316 then x316 else x311))]) (r' := [(.int .i64 (if x311 < x316 then x316 else x311))]) (l' := (setI l268 i271 (if x311 < x316 then x316 else x311))) rfl rfl rfl rfl rfl .here hR269 hq335 rfl rfl rfl (RowR.set i271 hR269 rfl) (fun hR337 => ⟨Inc.nil, ?_⟩)
      have hE338 := set_at hq335 (v := [(.int .i64 (if x311 < x316 then x316 else x311))])
      refine Aw_done (by kernel_rfl) ?_
      refine Cw_region ?_
      refine Ow_q rfl rfl rfl (Qt_move rfl) ?_
      refine Ow_q rfl rfl rfl (Qt_arith (e := wI (i271 + 1)) rfl rfl rfl rfl) ?_
      refine Ow_q rfl rfl rfl (Qt_assign rfl) ?_
      refine Ow_nil ?_
      refine Shift.done ?_
      exact ⟨[(1, (sv vp1)), (5, (sv v100)), (6, (.int .i64 (wI (i271 + 1))))], ⟨rfl, rfl, rfl, trivial⟩, _, Nat.lt_succ_self _, (setI l268 i271 (if x311 < x316 then x316 else x311)), (rs270.set i271.toNat [(.int .i64 (if x311 < x316 then x316 else x311))]), (wI (i271 + 1)), rfl, rfl, rfl, (hkk275 ▸ H), hR337⟩
    · intro h282
      have H := iff_ (btf h282) H
      refine Cw_exit ?_
      refine Shift.done ?_
      exact ⟨[(5, (sv v100))], ⟨rfl, trivial⟩, l268, rs270, rfl, rfl, H, hR269⟩
  rintro _ K339 _ hK340 ⟨l186, rs188, rfl, rfl, H, hR187⟩
  unfold M_ref18_join_J1 at H
  refine Cw_seq ?_
  refine Cw_region ?_
  refine Ow_q rfl rfl rfl (Qt_move rfl) ?_
  refine Ow_q rfl rfl rfl (Qt_assign rfl) ?_
  refine Ow_nil ?_
  refine Cw_ret ?_
  obtain ey0 := inj1 H
  subst y0
  refine ⟨(by first | exact .inl rfl | exact .inr rfl), [(sv v100)], ⟨(sv v100), _, rfl, rfl, rfl⟩, ?_⟩
  refine Shift.done ?_
  exact ⟨v100, rs188, rfl, rfl, hR187⟩

set_option maxHeartbeats 1000000 in
theorem c_M_ref18_Clocks (p0 : List Item) (vp0 : SV) (p1 : Int) (y0 : List (List Int)) (H : M_ref18_Clocks p0 p1 = some y0) (K : Kp) (G : List Ent) (hp0 : Slr TyItem K (sv vp0) p0) :
    Fc Try.prog 36 #[(sv vp0), (.int .i64 p1)] K (G) (fun v K' G' => ∃ (wy0 : SV), v = (sv wy0) ∧ (.tok 44 1 [(sv wy0)]) :: G = G' ∧ Slr (Ty.sl Ty.i64) K' (sv wy0) y0) := by
  refine Fc_body Try.func36 rfl Try.ntmps36 Try.results36 rfl ?_
  unfold M_ref18_Clocks at H
  refine Cw_seq ?_
  refine Cw_region ?_
  refine Ow_q rfl rfl rfl (Qt_assign rfl) ?_
  refine Ow_nil ?_
  refine Cw_seq ?_
  refine Cw_region ?_
  refine Ow_q rfl rfl rfl (Qt_move rfl) ?_
  obtain ⟨x374, hx375, H⟩ := bnd H
  refine Ow_cons rfl (O_make (T := (Ty.sl Ty.i64)) (r := [(sv nilS)]) rfl rfl rfl hx375 rfl rfl rfl rfl rfl rfl rfl rfl rfl ⟨nilS, rfl, (Slr.nil Ty.i64 _)⟩ (fun v376 rs377 hR378 hz379 => ?_))
  obtain ⟨vs380, hvsvs380, rfl⟩ : ∃ vs : List Value, vs = List.replicate p1.toNat (sv nilS) ∧ rs377 = vs.map one := ⟨_, rfl, by rw [hz379]; exact map_one_replicate.symm⟩
  refine Ow.shift (Shift.nilTokV hvsvs380 3 1  (Shift.done ?_))
  refine Ow_q rfl rfl rfl (Qt_assign rfl) ?_
  refine Ow_nil ?_
  refine Cw_join (fun env' K' G' => ∃ (l435 : List (List Int)) (rs437 : List (List Value)), [(0, (sv vp0)), (5, (sv v376))] = env' ∧ (.row (sv v376) 44 1 rs437.flatten) :: G = G' ∧ M_ref18_Clocks_J1 p0 l435 = some y0 ∧ RowR (Ty.sl Ty.i64) K' rs437 l435) ?_ ?_
  · skip
    refine Cw_seq ?_
    refine Cw_region ?_
    refine Ow_q rfl rfl rfl (Qt_assign rfl) ?_
    refine Ow_nil ?_
    refine Cw_block ?_
    refine Cw_loopM (fun n492 env' K' G' => ∃ (l488 : List (List Int)) (rs490 : List (List Value)) (i491 : Int), [(0, (sv vp0)), (1, (.int .i64 p1)), (5, (sv v376)), (6, (.int .i64 i491))] = env' ∧ (.row (sv v376) 44 1 rs490.flatten) :: G = G' ∧ lp2 (M_ref18_Clocks_L1 p0 p1) n492 l488 i491 = some y0 ∧ RowR (Ty.sl Ty.i64) K' rs490 l488) BIG ?_ ?_
    · skip
      refine Shift.pull (.there .here) ?_
      refine Shift.rem (.there .here) ?_
      refine Shift.done ?_
      exact ⟨[(0, (sv vp0)), (1, (.int .i64 p1)), (5, (sv v376)), (6, (.int .i64 0))], ⟨rfl, rfl, rfl, rfl, trivial⟩, x374, (vs380.map one), 0, rfl, rfl, H, hR378⟩
    rintro n492 _ K493 _ hK494 ⟨l488, rs490, i491, rfl, rfl, H, hR489⟩
    obtain ⟨m495, k496, rfl, hkk497, H⟩ := lps2 H
    unfold M_ref18_Clocks_L1 at H
    refine Cw_seq ?_
    refine Cw_seq ?_
    refine Cw_region ?_
    refine Ow_q rfl rfl rfl (Qt_move rfl) ?_
    refine Ow_q rfl rfl rfl (Qt_move rfl) ?_
    refine Ow_q rfl rfl rfl (Qt_cmp rfl rfl rfl) ?_
    refine Ow_nil ?_
    refine Cw_cond rfl ?_ ?_
    · intro h499
      have h499 := dcd_t (h499)
      have H := ift h499 H
      refine Cw_skip ?_
      refine Cw_seq ?_
      refine Cw_block ?_
      refine Cw_region ?_
      refine Ow_q rfl rfl rfl (Qt_move rfl) ?_
      refine Ow_q rfl rfl rfl (Qt_move rfl) ?_
      refine Ow_q rfl rfl rfl (Qt_move rfl) ?_
      obtain ⟨x519, hx520, H⟩ := bnd H
      refine Ow_cons rfl (O_make (T := Ty.i64) (r := [(.int .i64 0)]) rfl rfl rfl hx520 rfl rfl rfl rfl rfl rfl rfl rfl rfl rfl (fun v521 rs522 hR523 hz524 => ?_))
      obtain ⟨x525, hx526, H⟩ := bnd H
      obtain ⟨r527, hq528, hr529⟩ := RowR.at hR489 hx526
      obtain ⟨v530, rfl, hs531⟩ := hr529
      refine Ow_q rfl rfl rfl (Q_ixR (T := (Ty.sl Ty.i64)) (.tail _ (.head _)) hR489 hq528 (getI_ix hx526).1 rfl rfl rfl rfl rfl) ?_
      refine Ow.shift (Shift.settle (T := Ty.i64) .here hR523 rfl (fun K532 hK533 hs534 => Shift.done ?_))
      have hs535 := (hR489).mono hK533
      refine Ow_cons rfl (O_storeR (T := (Ty.sl Ty.i64)) (vs := [(sv v521)]) (r' := [(sv v521)]) (l' := (setI l488 i491 x519)) rfl rfl rfl rfl rfl (.there .here) hs535 hq528 rfl rfl rfl (RowR.set i491 hs535 ⟨v521, rfl, hs534⟩) (fun hR536 => ?_))
      have hE537 := set_at hq528 (v := [(sv v521)])
      refine Ow_nil ?_
      refine Cw_region ?_
      refine Ow_q rfl rfl rfl (Qt_move rfl) ?_
      refine Ow_q rfl rfl rfl (Qt_arith (e := wI (i491 + 1)) rfl rfl rfl rfl) ?_
      refine Ow_q rfl rfl rfl (Qt_assign rfl) ?_
      refine Ow_nil ?_
      refine Shift.pull (.there .here) ?_
      refine Shift.rem (.there .here) ?_
      refine Shift.done ?_
      exact ⟨[(0, (sv vp0)), (1, (.int .i64 p1)), (5, (sv v376)), (6, (.int .i64 (wI (i491 + 1))))], ⟨rfl, rfl, rfl, rfl, trivial⟩, _, Nat.lt_succ_self _, (setI l488 i491 x519), (rs490.set i491.toNat [(sv v521)]), (wI (i491 + 1)), rfl, rfl, (hkk497 ▸ H), hR536⟩
    · intro h499
      have h499 := dcd_f (h499)
      have H := iff_ h499 H
      refine Cw_exit ?_
      refine Shift.done ?_
      exact ⟨[(0, (sv vp0)), (5, (sv v376))], ⟨rfl, rfl, trivial⟩, l488, rs490, rfl, rfl, H, hR489⟩
  rintro _ K538 _ hK539 ⟨l435, rs437, rfl, rfl, H, hR436⟩
  unfold M_ref18_Clocks_J1 at H
  refine Cw_seq ?_
  refine Cw_region ?_
  refine Ow_q rfl rfl rfl (Qt_assign rfl) ?_
  refine Ow_nil ?_
  refine Cw_seq ?_
  refine Cw_region ?_
  refine Ow_q rfl rfl rfl (Qt_assign rfl) ?_
  refine Ow_nil ?_
  refine Cw_join (fun env' K' G' => ∃ (v843 : SV) (l844 : List (List Int)), [(8, (sv v843))] = env' ∧ (.tok 44 1 [(sv v843)]) :: G = G' ∧ M_ref18_Clocks_J2 l844 = some y0 ∧ Slr (Ty.sl Ty.i64) K' (sv v843) l844) ?_ ?_
  · skip
    refine Cw_seq ?_
    refine Cw_region ?_
    refine Ow_q rfl rfl rfl (Qt_assign rfl) ?_
    refine Ow_nil ?_
    refine Cw_block ?_
    refine Cw_loopM (fun n1149 env' K' G' => ∃ (l1138 : List (List Int)) (rs1140 : List (List Value)) (v1141 : SV) (l1142 : List Ref18_clock) (rs1144 : List (List Value)) (v1145 : SV) (l1146 : List (List Int)) (i1148 : Int), [(0, (sv vp0)), (5, (sv v376)), (7, (sv v1141)), (8, (sv v1145)), (9, (.int .i64 i1148))] = env' ∧ (.row (sv v376) 44 1 rs1140.flatten) :: (.row (sv v1141) 91 2 rs1144.flatten) :: (.tok 44 1 [(sv v1145)]) :: G = G' ∧ lp4 (M_ref18_Clocks_L2 p0) n1149 l1138 l1142 l1146 i1148 = some y0 ∧ RowR (Ty.sl Ty.i64) K' rs1140 l1138 ∧ RowR TyRef18_clock K' rs1144 l1142 ∧ Slr (Ty.sl Ty.i64) K' (sv v1145) l1146) BIG ?_ ?_
    · skip
      have hR1150 : RowR TyRef18_clock K538 [] [] := RowR.nil
      refine Shift.nilRow 91 2 ?_
      refine Shift.nilTok1 44 1 ?_
      refine Shift.pull (.there .here) ?_
      refine Shift.pull (.there (.there .here)) ?_
      refine Shift.done ?_
      exact ⟨[(0, (sv vp0)), (5, (sv v376)), (7, (sv nilS)), (8, (sv nilS)), (9, (.int .i64 0))], ⟨rfl, rfl, rfl, rfl, rfl, trivial⟩, l435, rs437, nilS, ([] : List Ref18_clock), ([] : List (List Value)), nilS, ([] : List (List Int)), 0, rfl, rfl, H, hR436, hR1150, (Slr.nil (Ty.sl Ty.i64) _)⟩
    rintro n1149 _ K1151 _ hK1152 ⟨l1138, rs1140, v1141, l1142, rs1144, v1145, l1146, i1148, rfl, rfl, H, hR1139, hR1143, hs1147⟩
    obtain ⟨m1153, k1154, rfl, hkk1155, H⟩ := lps4 H
    unfold M_ref18_Clocks_L2 at H
    refine Cw_seq ?_
    refine Cw_seq ?_
    refine Cw_region ?_
    refine Ow_q rfl rfl rfl (Qt_move rfl) ?_
    refine Ow_q rfl rfl rfl (Qt_move rfl) ?_
    have hs1158 := ((hp0).mono hK539).mono hK1152
    refine Ow_q rfl rfl rfl (Q_len (T := TyItem) hs1158 rfl rfl) ?_
    refine Ow_q rfl rfl rfl (Qt_cmp rfl rfl rfl) ?_
    refine Ow_nil ?_
    refine Cw_cond rfl ?_ ?_
    · intro h1159
      have h1159 := dcd_t (h1159)
      have H := ift h1159 H
      refine Cw_skip ?_
      refine Cw_seq ?_
      refine Cw_block ?_
      refine Cw_seq ?_
      obtain ⟨x1318, hx1319, H⟩ := bnd H
      obtain ⟨x1323, hx1324, H⟩ := bnd H
      refine Cw_region_any [.row (sv v376) 44 1 rs1140.flatten, .row (sv v1141) 91 2 rs1144.flatten, .tok 44 1 [(sv v1145)]] rfl (Inc.cons (.head _) (Inc.cons (.tail _ (.head _)) (Inc.cons (.tail _ (.tail _ (.head _))) Inc.nil))) ?_
      refine Aw_q 0 rfl (by kernel_rfl) (by kernel_rfl) (by kernel_rfl) rfl rfl rfl (Qt_move rfl) ?_
      refine Aw_q 1 rfl (by kernel_rfl) (by kernel_rfl) (by kernel_rfl) rfl rfl rfl (Qt_move rfl) ?_
      obtain ⟨r1329, hr1330, hk1331⟩ := Slr.at hs1158 hx1319
      obtain rfl := hr1330
      refine Aw_q 2 rfl (by kernel_rfl) (by kernel_rfl) (by kernel_rfl) rfl rfl rfl (Q_ix (T := TyItem) hs1158 hx1319 rfl rfl rfl rfl rfl) ?_
      refine Aw_q 3 rfl (by kernel_rfl) (by kernel_rfl) (by kernel_rfl) rfl rfl rfl (Qt_fieldAddr (m := 0) rfl rfl rfl rfl rfl) ?_
      refine Aw_q 4 rfl (by kernel_rfl) (by kernel_rfl) (by kernel_rfl) rfl rfl rfl (Qt_load1 (v := (.int .i64 x1318.thread)) rfl rfl rfl (Rdc.k hk1331 rfl)) ?_
      refine Aw_q 5 rfl (by kernel_rfl) (by kernel_rfl) (by kernel_rfl) rfl rfl rfl (Qt_move rfl) ?_
      refine Aw_q 6 rfl (by kernel_rfl) (by kernel_rfl) (by kernel_rfl) rfl rfl rfl (Qt_move rfl) ?_
      obtain ⟨r1332, hr1333, hk1334⟩ := Slr.at hs1158 hx1324
      obtain rfl := hr1333
      refine Aw_q 7 rfl (by kernel_rfl) (by kernel_rfl) (by kernel_rfl) rfl rfl rfl (Q_ix (T := TyItem) hs1158 hx1324 rfl rfl rfl rfl rfl) ?_
      refine Aw_q 8 rfl (by kernel_rfl) (by kernel_rfl) (by kernel_rfl) rfl rfl rfl (Qt_fieldAddr (m := 1) rfl rfl rfl rfl rfl) ?_
      refine Aw_q 9 rfl (by kernel_rfl) (by kernel_rfl) (by kernel_rfl) rfl rfl rfl (Qt_loadA (m := 5) (cs := (Access.cells x1323.access)) rfl rfl rfl rfl ⟨rfl, Rdc.k hk1334 rfl⟩) ?_
      refine Aw_one 10 (by kernel_rfl) (Ax_mk rfl rfl ?_)
      refine OpW_alloc (cs := (Access.cells (Access.mk 0 0 0 0 0))) rfl rfl rfl rfl (fun b1335 => ⟨(Inc.cons (.tail _ (.head _)) (Inc.cons (.tail _ (.tail _ (.head _))) (Inc.cons (.tail _ (.tail _ (.tail _ (.head _)))) Inc.nil))), ?_⟩)
      refine Aw_q 11 rfl (by kernel_rfl) (by kernel_rfl) (by kernel_rfl) rfl rfl rfl (Qt_assign rfl) ?_
      refine Aw_one 12 (by kernel_rfl) (Ax_mk rfl rfl ?_)
      refine OpW_store (vs := (Access.cells x1323.access)) (all' := (Access.cells x1323.access)) rfl rfl rfl rfl rfl .here rfl rfl rfl ⟨(Inc.cons (.tail _ (.head _)) (Inc.cons (.tail _ (.tail _ (.head _))) (Inc.cons (.tail _ (.tail _ (.tail _ (.head _)))) Inc.nil))), ?_⟩
      refine Aw_done (by kernel_rfl) ?_
      refine Cw_seq ?_
      refine Cw_region ?_
      refine Ow_q rfl rfl rfl (Qt_move rfl) ?_
      refine Ow_q rfl rfl rfl (Qt_move rfl) ?_
      obtain ⟨x1336, hx1337, H⟩ := bnd H
      obtain ⟨r1338, hq1339, hr1340⟩ := RowR.at hR1139 hx1337
      obtain ⟨v1341, rfl, hs1342⟩ := hr1340
      refine Ow_q rfl rfl rfl (Q_ixR (T := (Ty.sl Ty.i64)) (.tail _ (.head _)) hR1139 hq1339 (getI_ix hx1337).1 rfl rfl rfl rfl rfl) ?_
      refine Ow_q rfl rfl rfl (Qt_load1 (v := (sv v1341)) rfl rfl rfl (Rd_row (T := (Ty.sl Ty.i64)) (.tail _ (.head _)) hR1139 hq1339 rfl rfl)) ?_
      have hR1343 : RowR Ty.i64 K1151 [] [] := RowR.nil
      refine Ow.shift (Shift.nilRow 3 1 (Shift.done ?_))
      obtain ⟨x1344, hx1345, H⟩ := bnd H
      refine Ow_cons rfl (O_appRow (T := Ty.i64) (bytes := 8) rfl rfl rfl (.head _) hR1343 (SrcT.sl hs1342) hx1345 rfl rfl rfl rfl rfl rfl rfl rfl (fun v1346 rs1347 hR1348 => ⟨_, .here, ?_⟩))
      refine Ow_q rfl rfl rfl (Qt_assign rfl) ?_
      refine Ow_nil ?_
      refine Cw_seq ?_
      refine Cw_region ?_
      refine Ow_q rfl rfl rfl (Qt_move rfl) ?_
      refine Ow_q rfl rfl rfl (Qt_move rfl) ?_
      obtain ⟨x1349, hx1350, H⟩ := bnd H
      obtain ⟨r1351, hq1352, hr1353⟩ := RowR.at hR1348 hx1350
      obtain rfl := hr1353
      refine Ow_q rfl rfl rfl (Q_ixR (T := Ty.i64) (.head _) hR1348 hq1352 (getI_ix hx1350).1 rfl rfl rfl rfl rfl) ?_
      refine Ow_q rfl rfl rfl (Qt_load1 (v := (.int .i64 x1349)) rfl rfl rfl (Rd_row (T := Ty.i64) (.head _) hR1348 hq1352 rfl rfl)) ?_
      refine Ow_q rfl rfl rfl (Qt_arith (e := wI (x1349 + 1)) rfl rfl rfl rfl) ?_
      obtain ⟨x1354, hx1355, H⟩ := bnd H
      obtain ⟨r1356, hq1357, hr1358⟩ := RowR.at hR1348 hx1355
      obtain rfl := hr1358
      refine Ow_q rfl rfl rfl (Q_ixR (T := Ty.i64) (.head _) hR1348 hq1357 (getI_ix hx1355).1 rfl rfl rfl rfl rfl) ?_
      refine Ow_cons rfl (O_storeR (T := Ty.i64) (vs := [(.int .i64 (wI (x1349 + 1)))]) (r' := [(.int .i64 (wI (x1349 + 1)))]) (l' := (setI x1344 x1318.thread (wI (x1349 + 1)))) rfl rfl rfl rfl rfl .here hR1348 hq1357 rfl rfl rfl (RowR.set x1318.thread hR1348 rfl) (fun hR1359 => ?_))
      have hE1360 := set_at hq1357 (v := [(.int .i64 (wI (x1349 + 1)))])
      refine Ow_nil ?_
      refine Cw_seq ?_
      refine Cw_region ?_
      refine Ow_q rfl rfl rfl (Qt_move rfl) ?_
      refine Ow_q rfl rfl rfl (Qt_fieldAddr (m := 1) rfl rfl rfl rfl rfl) ?_
      refine Ow_q rfl rfl rfl (Qt_load1 (v := (.int .i64 x1323.access.address)) rfl rfl rfl (Rdc.blk (.tail _ (.head _)) rfl)) ?_
      obtain ⟨x1361, hx1362, H⟩ := bnd H
      refine Ow.shift (Shift.pull (.there (.there (.there .here))) (Shift.done ?_))
      refine Ow_cons rfl (OpW_call rfl Try.call52 rfl rfl (c_M_ref18_find l1142 v1141 rs1144 x1323.access.address x1361 hx1362 _ _ hR1143) ?_)
      rintro _ K1363 _ hK1364 ⟨rfl, rfl⟩
      refine Ow_q rfl rfl rfl (Qt_assign rfl) ?_
      refine Ow_nil ?_
      refine Cw_join (fun env' K' G' => ∃ (v1390 : SV) (l1391 : List Int) (rs1393 : List (List Value)), [(0, (sv vp0)), (5, (sv v376)), (7, (sv v1141)), (8, (sv v1145)), (9, (.int .i64 i1148)), (10, (.int .i64 x1318.thread)), (11, (.pointer (some ((⟨b1335, 0, none⟩ : Addr).add 0)))), (12, (sv v1390)), (13, (.int .i64 x1361))] = env' ∧ (.blk b1335 54 (Access.cells x1323.access)) :: (.row (sv v1390) 3 1 rs1393.flatten) :: (.row (sv v1141) 91 2 rs1144.flatten) :: (.row (sv v376) 44 1 rs1140.flatten) :: (.tok 44 1 [(sv v1145)]) :: G = G' ∧ M_ref18_Clocks_J3 p0 l1138 l1142 l1146 i1148 x1318 x1361 x1323 k1154 l1391 = some y0 ∧ RowR Ty.i64 K' rs1393 l1391) ?_ ?_
      · skip
        refine Cw_join (fun env' K' G' => ∃ (t1397 : Bool), [(0, (sv vp0)), (5, (sv v376)), (7, (sv v1141)), (8, (sv v1145)), (9, (.int .i64 i1148)), (10, (.int .i64 x1318.thread)), (11, (.pointer (some ((⟨b1335, 0, none⟩ : Addr).add 0)))), (12, (sv v1346)), (13, (.int .i64 x1361)), (73, (.bool t1397))] = env' ∧ K1363 = K' ∧ (.blk b1335 54 (Access.cells x1323.access)) :: (.row (sv v1141) 91 2 rs1144.flatten) :: (.row (sv v1346) 3 1 (rs1347.set x1318.thread.toNat [(.int .i64 (wI (x1349 + 1)))]).flatten) :: (.row (sv v376) 44 1 rs1140.flatten) :: (.tok 44 1 [(sv v1145)]) :: G = G' ∧ M_ref18_Clocks_J4 p0 l1138 l1142 l1146 i1148 x1318 x1344 x1349 x1361 x1323 k1154 t1397 = some y0) ?_ ?_
        · skip
          refine Cw_region ?_
          refine Ow_q rfl rfl rfl (Qt_move rfl) ?_
          refine Ow_q rfl rfl rfl (Qt_cmp rfl rfl rfl) ?_
          refine Ow_q rfl rfl rfl (Qt_move rfl) ?_
          refine Ow_caseG rfl rfl rfl ?_ ?_
          · intro h1398
            have h1398 := dcd_t (h1398)
            have H := ift h1398 H
            refine Ow_qw rfl rfl rfl rfl rfl rfl (Qt_fieldAddr (m := 0) rfl rfl rfl rfl rfl) ?_
            refine Ow_qw rfl rfl rfl rfl rfl rfl (Qt_load1 (v := (.int .i64 x1323.access.kind)) rfl rfl rfl (Rdc.blk (.tail _ (.tail _ (.head _))) rfl)) ?_
            refine Ow_qw rfl rfl rfl rfl rfl rfl (Qt_cmp rfl rfl rfl) ?_
            refine Ow_qw rfl rfl rfl rfl rfl rfl (Qt_move rfl) ?_
            refine Ow_caseG rfl rfl rfl ?_ ?_
            · intro h1399
              have h1399 := dcd_t (h1399)
              have H := ift h1399 H
              refine Ow_pass rfl rfl rfl rfl rfl rfl rfl ?_
              refine Ow_pass rfl rfl rfl rfl rfl rfl rfl ?_
              refine Ow_pass rfl rfl rfl rfl rfl rfl rfl ?_
              refine Ow_qw rfl rfl rfl rfl rfl rfl (Qt_pick_t rfl rfl) ?_
              refine Ow_qw rfl rfl rfl rfl rfl rfl (Qt_move rfl) ?_
              refine Ow_pass rfl rfl rfl rfl rfl rfl rfl ?_
              refine Ow_pass rfl rfl rfl rfl rfl rfl rfl ?_
              refine Ow_pass rfl rfl rfl rfl rfl rfl rfl ?_
              refine Ow_qw rfl rfl rfl rfl rfl rfl (Qt_pick_t rfl rfl) ?_
              refine Ow_q rfl rfl rfl (Qt_pick_t rfl rfl) ?_
              refine Ow_nil ?_
              refine Shift.pull (.there (.there (.there (.there .here)))) ?_
              refine Shift.pull (.there (.there (.there (.there .here)))) ?_
              refine Shift.pull (.there (.there (.there .here))) ?_
              refine Shift.pull (.there (.there (.there .here))) ?_
              refine Shift.pull (.there (.there (.there (.there .here)))) ?_
              refine Shift.done ?_
              exact ⟨[(0, (sv vp0)), (5, (sv v376)), (7, (sv v1141)), (8, (sv v1145)), (9, (.int .i64 i1148)), (10, (.int .i64 x1318.thread)), (11, (.pointer (some ((⟨b1335, 0, none⟩ : Addr).add 0)))), (12, (sv v1346)), (13, (.int .i64 x1361)), (73, (.bool true))], ⟨rfl, rfl, rfl, rfl, rfl, rfl, rfl, rfl, rfl, rfl, trivial⟩, true, rfl, rfl, rfl, H⟩
            · intro h1399
              have h1399 := dcd_f (h1399)
              have H := iff_ h1399 H
              refine Ow_qw rfl rfl rfl rfl rfl rfl (Qt_fieldAddr (m := 0) rfl rfl rfl rfl rfl) ?_
              refine Ow_qw rfl rfl rfl rfl rfl rfl (Qt_load1 (v := (.int .i64 x1323.access.kind)) rfl rfl rfl (Rdc.blk (.tail _ (.tail _ (.head _))) rfl)) ?_
              refine Ow_qw rfl rfl rfl rfl rfl rfl (Qt_cmp rfl rfl rfl) ?_
              refine Ow_qw rfl rfl rfl rfl rfl rfl (Qt_pick_f rfl rfl) ?_
              refine Ow_qw rfl rfl rfl rfl rfl rfl (Qt_move rfl) ?_
              refine Ow_caseG rfl rfl rfl ?_ ?_
              · intro h1400
                have h1400 := dcd_t (h1400)
                have H := ift h1400 H
                refine Ow_pass rfl rfl rfl rfl rfl rfl rfl ?_
                refine Ow_pass rfl rfl rfl rfl rfl rfl rfl ?_
                refine Ow_pass rfl rfl rfl rfl rfl rfl rfl ?_
                refine Ow_qw rfl rfl rfl rfl rfl rfl (Qt_pick_t rfl rfl) ?_
                refine Ow_q rfl rfl rfl (Qt_pick_t rfl rfl) ?_
                refine Ow_nil ?_
                refine Shift.pull (.there (.there (.there (.there .here)))) ?_
                refine Shift.pull (.there (.there (.there (.there .here)))) ?_
                refine Shift.pull (.there (.there (.there .here))) ?_
                refine Shift.pull (.there (.there (.there .here))) ?_
                refine Shift.pull (.there (.there (.there (.there .here)))) ?_
                refine Shift.done ?_
                exact ⟨[(0, (sv vp0)), (5, (sv v376)), (7, (sv v1141)), (8, (sv v1145)), (9, (.int .i64 i1148)), (10, (.int .i64 x1318.thread)), (11, (.pointer (some ((⟨b1335, 0, none⟩ : Addr).add 0)))), (12, (sv v1346)), (13, (.int .i64 x1361)), (73, (.bool true))], ⟨rfl, rfl, rfl, rfl, rfl, rfl, rfl, rfl, rfl, rfl, trivial⟩, true, rfl, rfl, rfl, H⟩
              · intro h1400
                have h1400 := dcd_f (h1400)
                have H := iff_ h1400 H
                refine Ow_qw rfl rfl rfl rfl rfl rfl (Qt_fieldAddr (m := 0) rfl rfl rfl rfl rfl) ?_
                refine Ow_qw rfl rfl rfl rfl rfl rfl (Qt_load1 (v := (.int .i64 x1323.access.kind)) rfl rfl rfl (Rdc.blk (.tail _ (.tail _ (.head _))) rfl)) ?_
                refine Ow_qw rfl rfl rfl rfl rfl rfl (Qt_cmp rfl rfl rfl) ?_
                refine Ow_qw rfl rfl rfl rfl rfl rfl (Qt_pick_f rfl rfl) ?_
                refine Ow_q rfl rfl rfl (Qt_pick_t rfl rfl) ?_
                refine Ow_nil ?_
                refine Shift.pull (.there (.there (.there (.there .here)))) ?_
                refine Shift.pull (.there (.there (.there (.there .here)))) ?_
                refine Shift.pull (.there (.there (.there .here))) ?_
                refine Shift.pull (.there (.there (.there .here))) ?_
                refine Shift.pull (.there (.there (.there (.there .here)))) ?_
                refine Shift.done ?_
                exact ⟨[(0, (sv vp0)), (5, (sv v376)), (7, (sv v1141)), (8, (sv v1145)), (9, (.int .i64 i1148)), (10, (.int .i64 x1318.thread)), (11, (.pointer (some ((⟨b1335, 0, none⟩ : Addr).add 0)))), (12, (sv v1346)), (13, (.int .i64 x1361)), (73, (.bool (dcd (x1323.access.kind = 4))))], ⟨rfl, rfl, rfl, rfl, rfl, rfl, rfl, rfl, rfl, rfl, trivial⟩, (dcd (x1323.access.kind = 4)), rfl, rfl, rfl, H⟩
          · intro h1398
            have h1398 := dcd_f (h1398)
            have H := iff_ h1398 H
            refine Ow_pass rfl rfl rfl rfl rfl rfl rfl ?_
            refine Ow_pass rfl rfl rfl rfl rfl rfl rfl ?_
            refine Ow_pass rfl rfl rfl rfl rfl rfl rfl ?_
            refine Ow_pass rfl rfl rfl rfl rfl rfl rfl ?_
            refine Ow_passU rfl rfl rfl rfl rfl ?_
            refine Ow_passU rfl rfl rfl rfl rfl ?_
            refine Ow_passU rfl rfl rfl rfl rfl ?_
            refine Ow_pass rfl rfl rfl rfl rfl rfl rfl ?_
            refine Ow_pass rfl rfl rfl rfl rfl rfl rfl ?_
            refine Ow_passU rfl rfl rfl rfl rfl ?_
            refine Ow_passU rfl rfl rfl rfl rfl ?_
            refine Ow_passU rfl rfl rfl rfl rfl ?_
            refine Ow_pass rfl rfl rfl rfl rfl rfl rfl ?_
            refine Ow_q rfl rfl rfl (Qt_pick_f rfl rfl) ?_
            refine Ow_nil ?_
            refine Shift.pull (.there (.there (.there (.there .here)))) ?_
            refine Shift.pull (.there (.there (.there (.there .here)))) ?_
            refine Shift.pull (.there (.there (.there .here))) ?_
            refine Shift.pull (.there (.there (.there .here))) ?_
            refine Shift.pull (.there (.there (.there (.there .here)))) ?_
            refine Shift.done ?_
            exact ⟨[(0, (sv vp0)), (5, (sv v376)), (7, (sv v1141)), (8, (sv v1145)), (9, (.int .i64 i1148)), (10, (.int .i64 x1318.thread)), (11, (.pointer (some ((⟨b1335, 0, none⟩ : Addr).add 0)))), (12, (sv v1346)), (13, (.int .i64 x1361)), (73, (.bool false))], ⟨rfl, rfl, rfl, rfl, rfl, rfl, rfl, rfl, rfl, rfl, trivial⟩, false, rfl, rfl, rfl, H⟩
        rintro _ _ _ - ⟨t1397, rfl, rfl, rfl, H⟩
        unfold M_ref18_Clocks_J4 at H
        refine Cw_cond rfl ?_ ?_
        · intro h1401
          have H := ift h1401 H
          refine Cw_region ?_
          refine Ow_q rfl rfl rfl (Qt_move rfl) ?_
          refine Ow_q rfl rfl rfl (Qt_move rfl) ?_
          refine Ow_q rfl rfl rfl (Qt_move rfl) ?_
          obtain ⟨x1402, hx1403, H⟩ := bnd H
          have hs1404 := (hR1143).mono hK1364
          obtain ⟨r1405, hq1406, hr1407⟩ := RowR.at hs1404 hx1403
          obtain ⟨v1408, rfl, hs1409⟩ := hr1407
          refine Ow_q rfl rfl rfl (Q_ixR (T := TyRef18_clock) (.tail _ (.head _)) hs1404 hq1406 (getI_ix hx1403).1 rfl rfl rfl rfl rfl) ?_
          refine Ow_q rfl rfl rfl (Qt_fieldAddr (m := 1) rfl rfl rfl rfl rfl) ?_
          refine Ow_q rfl rfl rfl (Qt_load1 (v := (sv v1408)) rfl rfl rfl (Rd_row (T := TyRef18_clock) (.tail _ (.head _)) hs1404 hq1406 rfl rfl)) ?_
          have hs1413 := (hR1359).mono hK1364
          refine Ow.shift (Shift.settle (T := Ty.i64) (.there (.there .here)) hs1413 rfl (fun K1410 hK1411 hs1412 => Shift.done ?_))
          obtain ⟨x1414, hx1415, H⟩ := bnd H
          have hs1416 := (hs1409).mono hK1411
          refine Ow_cons rfl (OpW_call rfl Try.call53 rfl rfl (c_M_ref18_join (setI x1344 x1318.thread (wI (x1349 + 1))) v1346 x1402.at_ v1408 x1414 hx1415 _ _ hs1412 hs1416) ?_)
          rintro _ K1419 _ hK1420 ⟨v1417, rs1418, rfl, rfl, hs1421⟩
          refine Ow_q rfl rfl rfl (Qt_assign rfl) ?_
          refine Ow_nil ?_
          refine Shift.pull (.there (.there (.there (.there (.there .here))))) ?_
          refine Shift.pull (.there (.there (.there (.there (.there .here))))) ?_
          refine Shift.pull (.there (.there (.there (.there .here)))) ?_
          refine Shift.pull (.there (.there (.there .here))) ?_
          refine Shift.pull (.there (.there (.there (.there .here)))) ?_
          refine Shift.rem (.there (.there (.there (.there (.there .here))))) ?_
          refine Shift.done ?_
          exact ⟨[(0, (sv vp0)), (5, (sv v376)), (7, (sv v1141)), (8, (sv v1145)), (9, (.int .i64 i1148)), (10, (.int .i64 x1318.thread)), (11, (.pointer (some ((⟨b1335, 0, none⟩ : Addr).add 0)))), (12, (sv v1417)), (13, (.int .i64 x1361))], ⟨rfl, rfl, rfl, rfl, rfl, rfl, rfl, rfl, rfl, trivial⟩, v1417, x1414, rs1418, rfl, rfl, H, hs1421⟩
        · intro h1401
          have H := iff_ (btf h1401) H
          refine Cw_skip ?_
          refine Shift.pull (.there (.there (.there (.there .here)))) ?_
          refine Shift.pull (.there (.there (.there (.there .here)))) ?_
          refine Shift.pull (.there (.there (.there .here))) ?_
          refine Shift.pull (.there (.there (.there (.there .here)))) ?_
          refine Shift.pull (.there (.there (.there (.there .here)))) ?_
          have hs1422 := (hR1359).mono hK1364
          refine Shift.done ?_
          exact ⟨[(0, (sv vp0)), (5, (sv v376)), (7, (sv v1141)), (8, (sv v1145)), (9, (.int .i64 i1148)), (10, (.int .i64 x1318.thread)), (11, (.pointer (some ((⟨b1335, 0, none⟩ : Addr).add 0)))), (12, (sv v1346)), (13, (.int .i64 x1361))], ⟨rfl, rfl, rfl, rfl, rfl, rfl, rfl, rfl, rfl, trivial⟩, v1346, (setI x1344 x1318.thread (wI (x1349 + 1))), (rs1347.set x1318.thread.toNat [(.int .i64 (wI (x1349 + 1)))]), rfl, rfl, H, hs1422⟩
      rintro _ K1423 _ hK1424 ⟨v1390, l1391, rs1393, rfl, rfl, H, hR1392⟩
      unfold M_ref18_Clocks_J3 at H
      refine Cw_join (fun env' K' G' => ∃ (v1461 : SV) (l1462 : List Ref18_clock) (rs1464 : List (List Value)), [(0, (sv vp0)), (5, (sv v376)), (7, (sv v1461)), (8, (sv v1145)), (9, (.int .i64 i1148)), (10, (.int .i64 x1318.thread)), (12, (sv v1390))] = env' ∧ (.row (sv v1461) 91 2 rs1464.flatten) :: (.tok 3 1 [(sv v1390)]) :: (.row (sv v376) 44 1 rs1140.flatten) :: (.tok 44 1 [(sv v1145)]) :: G = G' ∧ M_ref18_Clocks_J5 p0 l1138 l1146 i1148 x1318 l1391 k1154 l1462 = some y0 ∧ RowR TyRef18_clock K' rs1464 l1462 ∧ Slr Ty.i64 K' (sv v1390) l1391) ?_ ?_
      · skip
        refine Cw_join (fun env' K' G' => ∃ (t1474 : Bool), [(0, (sv vp0)), (5, (sv v376)), (7, (sv v1141)), (8, (sv v1145)), (9, (.int .i64 i1148)), (10, (.int .i64 x1318.thread)), (11, (.pointer (some ((⟨b1335, 0, none⟩ : Addr).add 0)))), (12, (sv v1390)), (13, (.int .i64 x1361)), (95, (.bool t1474))] = env' ∧ K1423 = K' ∧ (.blk b1335 54 (Access.cells x1323.access)) :: (.row (sv v1390) 3 1 rs1393.flatten) :: (.row (sv v1141) 91 2 rs1144.flatten) :: (.row (sv v376) 44 1 rs1140.flatten) :: (.tok 44 1 [(sv v1145)]) :: G = G' ∧ M_ref18_Clocks_J6 p0 l1138 l1142 l1146 i1148 x1318 l1391 x1361 x1323 k1154 t1474 = some y0) ?_ ?_
        · skip
          refine Cw_region ?_
          refine Ow_q rfl rfl rfl (Qt_fieldAddr (m := 0) rfl rfl rfl rfl rfl) ?_
          refine Ow_q rfl rfl rfl (Qt_load1 (v := (.int .i64 x1323.access.kind)) rfl rfl rfl (Rdc.blk (.head _) rfl)) ?_
          refine Ow_q rfl rfl rfl (Qt_cmp rfl rfl rfl) ?_
          refine Ow_q rfl rfl rfl (Qt_move rfl) ?_
          refine Ow_caseG rfl rfl rfl ?_ ?_
          · intro h1475
            have h1475 := dcd_t (h1475)
            have H := ift h1475 H
            refine Ow_pass rfl rfl rfl rfl rfl rfl rfl ?_
            refine Ow_pass rfl rfl rfl rfl rfl rfl rfl ?_
            refine Ow_pass rfl rfl rfl rfl rfl rfl rfl ?_
            refine Ow_pass rfl rfl rfl rfl rfl rfl rfl ?_
            refine Ow_passU rfl rfl rfl rfl rfl ?_
            refine Ow_passU rfl rfl rfl rfl rfl ?_
            refine Ow_passU rfl rfl rfl rfl rfl ?_
            refine Ow_passU rfl rfl rfl rfl rfl ?_
            refine Ow_passU rfl rfl rfl rfl rfl ?_
            refine Ow_pass rfl rfl rfl rfl rfl rfl rfl ?_
            refine Ow_q rfl rfl rfl (Qt_pick_t rfl rfl) ?_
            refine Ow_nil ?_
            refine Shift.pull (.there (.there (.there (.there .here)))) ?_
            refine Shift.pull (.there (.there (.there (.there .here)))) ?_
            refine Shift.pull (.there (.there (.there (.there .here)))) ?_
            refine Shift.pull (.there (.there (.there (.there .here)))) ?_
            refine Shift.pull (.there (.there (.there (.there .here)))) ?_
            refine Shift.done ?_
            exact ⟨[(0, (sv vp0)), (5, (sv v376)), (7, (sv v1141)), (8, (sv v1145)), (9, (.int .i64 i1148)), (10, (.int .i64 x1318.thread)), (11, (.pointer (some ((⟨b1335, 0, none⟩ : Addr).add 0)))), (12, (sv v1390)), (13, (.int .i64 x1361)), (95, (.bool true))], ⟨rfl, rfl, rfl, rfl, rfl, rfl, rfl, rfl, rfl, rfl, trivial⟩, true, rfl, rfl, rfl, H⟩
          · intro h1475
            have h1475 := dcd_f (h1475)
            have H := iff_ h1475 H
            refine Ow_qw rfl rfl rfl rfl rfl rfl (Qt_fieldAddr (m := 0) rfl rfl rfl rfl rfl) ?_
            refine Ow_qw rfl rfl rfl rfl rfl rfl (Qt_load1 (v := (.int .i64 x1323.access.kind)) rfl rfl rfl (Rdc.blk (.head _) rfl)) ?_
            refine Ow_qw rfl rfl rfl rfl rfl rfl (Qt_cmp rfl rfl rfl) ?_
            refine Ow_qw rfl rfl rfl rfl rfl rfl (Qt_move rfl) ?_
            refine Ow_caseG rfl rfl rfl ?_ ?_
            · intro h1476
              have h1476 := dcd_t (h1476)
              have H := ift h1476 H
              refine Ow_qw rfl rfl rfl rfl rfl rfl (Qt_move rfl) ?_
              refine Ow_qw rfl rfl rfl rfl rfl rfl (Qt_move rfl) ?_
              obtain ⟨x1477, hx1478, H⟩ := bnd H
              have hs1479 := ((hs1158).mono hK1364).mono hK1424
              obtain ⟨r1480, hr1481, hk1482⟩ := Slr.at hs1479 hx1478
              obtain rfl := hr1481
              refine Ow_qw rfl rfl rfl rfl rfl rfl (Q_ix (T := TyItem) hs1479 hx1478 rfl rfl rfl rfl rfl) ?_
              refine Ow_qw rfl rfl rfl rfl rfl rfl (Qt_fieldAddr (m := 7) rfl rfl rfl rfl rfl) ?_
              refine Ow_qw rfl rfl rfl rfl rfl rfl (Qt_load1 (v := (.bool x1477.ok)) rfl rfl rfl (Rdc.k hk1482 rfl)) ?_
              refine Ow_qw rfl rfl rfl rfl rfl rfl (Qt_pick_t rfl rfl) ?_
              refine Ow_q rfl rfl rfl (Qt_pick_f rfl rfl) ?_
              refine Ow_nil ?_
              refine Shift.pull (.there (.there (.there (.there .here)))) ?_
              refine Shift.pull (.there (.there (.there (.there .here)))) ?_
              refine Shift.pull (.there (.there (.there (.there .here)))) ?_
              refine Shift.pull (.there (.there (.there (.there .here)))) ?_
              refine Shift.pull (.there (.there (.there (.there .here)))) ?_
              refine Shift.done ?_
              exact ⟨[(0, (sv vp0)), (5, (sv v376)), (7, (sv v1141)), (8, (sv v1145)), (9, (.int .i64 i1148)), (10, (.int .i64 x1318.thread)), (11, (.pointer (some ((⟨b1335, 0, none⟩ : Addr).add 0)))), (12, (sv v1390)), (13, (.int .i64 x1361)), (95, (.bool x1477.ok))], ⟨rfl, rfl, rfl, rfl, rfl, rfl, rfl, rfl, rfl, rfl, trivial⟩, x1477.ok, rfl, rfl, rfl, H⟩
            · intro h1476
              have h1476 := dcd_f (h1476)
              have H := iff_ h1476 H
              refine Ow_pass rfl rfl rfl rfl rfl rfl rfl ?_
              refine Ow_pass rfl rfl rfl rfl rfl rfl rfl ?_
              refine Ow_pass rfl rfl rfl rfl rfl rfl rfl ?_
              refine Ow_pass rfl rfl rfl rfl rfl rfl rfl ?_
              refine Ow_pass rfl rfl rfl rfl rfl rfl rfl ?_
              refine Ow_qw rfl rfl rfl rfl rfl rfl (Qt_pick_f rfl rfl) ?_
              refine Ow_q rfl rfl rfl (Qt_pick_f rfl rfl) ?_
              refine Ow_nil ?_
              refine Shift.pull (.there (.there (.there (.there .here)))) ?_
              refine Shift.pull (.there (.there (.there (.there .here)))) ?_
              refine Shift.pull (.there (.there (.there (.there .here)))) ?_
              refine Shift.pull (.there (.there (.there (.there .here)))) ?_
              refine Shift.pull (.there (.there (.there (.there .here)))) ?_
              refine Shift.done ?_
              exact ⟨[(0, (sv vp0)), (5, (sv v376)), (7, (sv v1141)), (8, (sv v1145)), (9, (.int .i64 i1148)), (10, (.int .i64 x1318.thread)), (11, (.pointer (some ((⟨b1335, 0, none⟩ : Addr).add 0)))), (12, (sv v1390)), (13, (.int .i64 x1361)), (95, (.bool false))], ⟨rfl, rfl, rfl, rfl, rfl, rfl, rfl, rfl, rfl, rfl, trivial⟩, false, rfl, rfl, rfl, H⟩
        rintro _ _ _ - ⟨t1474, rfl, rfl, rfl, H⟩
        unfold M_ref18_Clocks_J6 at H
        refine Cw_cond rfl ?_ ?_
        · intro h1483
          have H := ift h1483 H
          refine Cw_seq ?_
          refine Cw_region ?_
          refine Ow_q rfl rfl rfl (Qt_move rfl) ?_
          refine Ow_q rfl rfl rfl (Qt_cmp rfl rfl rfl) ?_
          refine Ow_nil ?_
          refine Cw_cond rfl ?_ ?_
          · intro h1484
            have h1484 := dcd_t (h1484)
            have H := ift h1484 H
            refine Cw_region ?_
            refine Ow_q rfl rfl rfl (Qt_move rfl) ?_
            refine Ow_q rfl rfl rfl (Qt_fieldAddr (m := 1) rfl rfl rfl rfl rfl) ?_
            refine Ow_q rfl rfl rfl (Qt_load1 (v := (.int .i64 x1323.access.address)) rfl rfl rfl (Rdc.blk (.head _) rfl)) ?_
            refine Ow_q rfl rfl rfl (Qt_move rfl) ?_
            refine Ow.shift (Shift.settle (T := Ty.i64) (.there .here) hR1392 rfl (fun K1485 hK1486 hs1487 => Shift.done ?_))
            refine Ow_q rfl rfl rfl (Qt_build (cs := (Ref18_clock.cells (Ref18_clock.mk x1323.access.address l1391) v1390)) rfl rfl rfl rfl rfl rfl) ?_
            have hR1489 : RowR TyRef18_clock K1485 [(Ref18_clock.cells (Ref18_clock.mk x1323.access.address l1391) v1390)] [(Ref18_clock.mk x1323.access.address l1391)] := RowR.cons ⟨v1390, rfl, hs1487⟩ (RowR.nil)
            refine Ow_cons rfl (O_lit (T := TyRef18_clock) (rows := [(Ref18_clock.cells (Ref18_clock.mk x1323.access.address l1391) v1390)]) (l := [(Ref18_clock.mk x1323.access.address l1391)]) rfl rfl rfl hR1489 rfl rfl rfl rfl rfl rfl rfl rfl (fun v1488 => ?_))
            obtain ⟨x1490, hx1491, H⟩ := bnd H
            have hs1495 := (((hR1143).mono hK1364).mono hK1424).mono hK1486
            refine Ow_cons rfl (O_appRow (T := TyRef18_clock) (bytes := 32) rfl rfl rfl (.tail _ (.tail _ (.tail _ (.head _)))) hs1495 (SrcT.row (.head _) hR1489 rfl) hx1491 rfl rfl rfl rfl rfl rfl rfl rfl (fun v1492 rs1493 hR1494 => ⟨_, (.there (.there (.there .here))), ?_⟩))
            refine Ow.shift (Shift.rem .here (Shift.done ?_))
            refine Ow_q rfl rfl rfl (Qt_assign rfl) ?_
            refine Ow_nil ?_
            refine Shift.pull (.there (.there (.there (.there .here)))) ?_
            refine Shift.pull (.there (.there (.there (.there .here)))) ?_
            refine Shift.pull (.there (.there (.there .here))) ?_
            refine Shift.pull (.there (.there (.there (.there .here)))) ?_
            refine Shift.rem (.there (.there (.there (.there .here)))) ?_
            refine Shift.done ?_
            exact ⟨[(0, (sv vp0)), (5, (sv v376)), (7, (sv v1492)), (8, (sv v1145)), (9, (.int .i64 i1148)), (10, (.int .i64 x1318.thread)), (12, (sv v1390))], ⟨rfl, rfl, rfl, rfl, rfl, rfl, rfl, trivial⟩, v1492, x1490, rs1493, rfl, rfl, H, hR1494, hs1487⟩
          · intro h1484
            have h1484 := dcd_f (h1484)
            have H := iff_ h1484 H
            refine Cw_region ?_
            refine Ow_q rfl rfl rfl (Qt_move rfl) ?_
            refine Ow_q rfl rfl rfl (Qt_move rfl) ?_
            refine Ow_q rfl rfl rfl (Qt_move rfl) ?_
            obtain ⟨x1496, hx1497, H⟩ := bnd H
            have hs1498 := ((hR1143).mono hK1364).mono hK1424
            obtain ⟨r1499, hq1500, hr1501⟩ := RowR.at hs1498 hx1497
            obtain ⟨v1502, rfl, hs1503⟩ := hr1501
            refine Ow_q rfl rfl rfl (Q_ixR (T := TyRef18_clock) (.tail _ (.tail _ (.head _))) hs1498 hq1500 (getI_ix hx1497).1 rfl rfl rfl rfl rfl) ?_
            refine Ow_q rfl rfl rfl (Qt_fieldAddr (m := 1) rfl rfl rfl rfl rfl) ?_
            refine Ow.shift (Shift.settle (T := Ty.i64) (.there .here) hR1392 rfl (fun K1504 hK1505 hs1506 => Shift.done ?_))
            have hs1507 := (hs1498).mono hK1505
            refine Ow_cons rfl (O_storeR (T := TyRef18_clock) (vs := [(sv v1390)]) (r' := (Ref18_clock.cells (Ref18_clock.mk x1496.address l1391) v1390)) (l' := (setI l1142 x1361 (Ref18_clock.mk x1496.address l1391))) rfl rfl rfl rfl rfl (.there (.there .here)) hs1507 hq1500 rfl rfl rfl (RowR.set x1361 hs1507 ⟨v1390, rfl, hs1506⟩) (fun hR1508 => ?_))
            have hE1509 := set_at hq1500 (v := (Ref18_clock.cells (Ref18_clock.mk x1496.address l1391) v1390))
            refine Ow_nil ?_
            refine Shift.pull (.there (.there (.there (.there .here)))) ?_
            refine Shift.pull (.there (.there (.there (.there .here)))) ?_
            refine Shift.pull (.there (.there (.there .here))) ?_
            refine Shift.pull (.there (.there (.there (.there .here)))) ?_
            refine Shift.rem (.there (.there (.there (.there .here)))) ?_
            refine Shift.done ?_
            exact ⟨[(0, (sv vp0)), (5, (sv v376)), (7, (sv v1141)), (8, (sv v1145)), (9, (.int .i64 i1148)), (10, (.int .i64 x1318.thread)), (12, (sv v1390))], ⟨rfl, rfl, rfl, rfl, rfl, rfl, rfl, trivial⟩, v1141, (setI l1142 x1361 (Ref18_clock.mk x1496.address l1391)), (rs1144.set x1361.toNat (Ref18_clock.cells (Ref18_clock.mk x1496.address l1391) v1390)), rfl, rfl, H, hR1508, hs1506⟩
        · intro h1483
          have H := iff_ (btf h1483) H
          refine Cw_skip ?_
          refine Shift.settle (T := Ty.i64) (.there .here) hR1392 rfl ?_
          intro K1510 hK1511 hs1512
          refine Shift.pull (.there (.there (.there (.there .here)))) ?_
          refine Shift.pull (.there (.there (.there (.there .here)))) ?_
          refine Shift.pull (.there (.there (.there .here))) ?_
          refine Shift.pull (.there (.there (.there (.there .here)))) ?_
          refine Shift.rem (.there (.there (.there (.there .here)))) ?_
          have hs1513 := (((hR1143).mono hK1364).mono hK1424).mono hK1511
          refine Shift.done ?_
          exact ⟨[(0, (sv vp0)), (5, (sv v376)), (7, (sv v1141)), (8, (sv v1145)), (9, (.int .i64 i1148)), (10, (.int .i64 x1318.thread)), (12, (sv v1390))], ⟨rfl, rfl, rfl, rfl, rfl, rfl, rfl, trivial⟩, v1141, l1142, rs1144, rfl, rfl, H, hs1513, hs1512⟩
      rintro _ K1514 _ hK1515 ⟨v1461, l1462, rs1464, rfl, rfl, H, hR1463, hs1465⟩
      unfold M_ref18_Clocks_J5 at H
      refine Cw_seq ?_
      refine Cw_region ?_
      refine Ow_q rfl rfl rfl (Qt_move rfl) ?_
      refine Ow_q rfl rfl rfl (Qt_move rfl) ?_
      refine Ow_q rfl rfl rfl (Qt_move rfl) ?_
      obtain ⟨x1516, hx1517, H⟩ := bnd H
      have hs1518 := (((hR1139).mono hK1364).mono hK1424).mono hK1515
      obtain ⟨r1519, hq1520, hr1521⟩ := RowR.at hs1518 hx1517
      obtain ⟨v1522, rfl, hs1523⟩ := hr1521
      refine Ow_q rfl rfl rfl (Q_ixR (T := (Ty.sl Ty.i64)) (.tail _ (.tail _ (.head _))) hs1518 hq1520 (getI_ix hx1517).1 rfl rfl rfl rfl rfl) ?_
      refine Ow_cons rfl (O_storeR (T := (Ty.sl Ty.i64)) (vs := [(sv v1390)]) (r' := [(sv v1390)]) (l' := (setI l1138 x1318.thread l1391)) rfl rfl rfl rfl rfl (.there (.there .here)) hs1518 hq1520 rfl rfl rfl (RowR.set x1318.thread hs1518 ⟨v1390, rfl, hs1465⟩) (fun hR1524 => ?_))
      have hE1525 := set_at hq1520 (v := [(sv v1390)])
      refine Ow_nil ?_
      refine Cw_region ?_
      refine Ow_q rfl rfl rfl (Qt_move rfl) ?_
      refine Ow_q rfl rfl rfl (Qt_move rfl) ?_
      have hR1527 : RowR (Ty.sl Ty.i64) K1514 [[(sv v1390)]] [l1391] := RowR.cons ⟨v1390, rfl, hs1465⟩ (RowR.nil)
      refine Ow_cons rfl (O_lit (T := (Ty.sl Ty.i64)) (rows := [[(sv v1390)]]) (l := [l1391]) rfl rfl rfl hR1527 rfl rfl rfl rfl rfl rfl rfl rfl (fun v1526 => ?_))
      obtain ⟨x1528, hx1529, H⟩ := bnd H
      have hs1534 := (((hs1147).mono hK1364).mono hK1424).mono hK1515
      refine Ow_cons rfl (O_appTok (T := (Ty.sl Ty.i64)) (bytes := 24) (q := 0) rfl rfl rfl hs1534 (.tail _ (.tail _ (.tail _ (.tail _ (.head _))))) rfl (SrcT.row (.head _) hR1527 rfl) hx1529 rfl rfl rfl rfl rfl rfl rfl rfl (fun v1530 K1531 hK1532 hs1533 => ⟨_, (.there (.there (.there (.there .here)))), ?_⟩))
      refine Ow.shift (Shift.rem .here (Shift.done ?_))
      refine Ow_q rfl rfl rfl (Qt_assign rfl) ?_
      refine Ow_nil ?_
      refine Cw_region ?_
      refine Ow_q rfl rfl rfl (Qt_move rfl) ?_
      refine Ow_q rfl rfl rfl (Qt_arith (e := wI (i1148 + 1)) rfl rfl rfl rfl) ?_
      refine Ow_q rfl rfl rfl (Qt_assign rfl) ?_
      refine Ow_nil ?_
      refine Shift.pull (.there (.there (.there .here))) ?_
      refine Shift.pull (.there .here) ?_
      refine Shift.pull (.there (.there (.there .here))) ?_
      refine Shift.rem (.there (.there (.there .here))) ?_
      have hs1535 := (hR1524).mono hK1532
      have hs1536 := (hR1463).mono hK1532
      refine Shift.done ?_
      exact ⟨[(0, (sv vp0)), (5, (sv v376)), (7, (sv v1461)), (8, (sv v1530)), (9, (.int .i64 (wI (i1148 + 1))))], ⟨rfl, rfl, rfl, rfl, rfl, trivial⟩, _, Nat.lt_succ_self _, (setI l1138 x1318.thread l1391), (rs1140.set x1318.thread.toNat [(sv v1390)]), v1461, l1462, rs1464, v1530, x1528, (wI (i1148 + 1)), rfl, rfl, (hkk1155 ▸ H), hs1535, hs1536, hs1533⟩
    · intro h1159
      have h1159 := dcd_f (h1159)
      have H := iff_ h1159 H
      refine Cw_exit ?_
      refine Shift.pull (.there (.there .here)) ?_
      refine Shift.rem (.there .here) ?_
      refine Shift.rem (.there .here) ?_
      refine Shift.done ?_
      exact ⟨[(8, (sv v1145))], ⟨rfl, trivial⟩, v1145, l1146, rfl, rfl, H, hs1147⟩
  rintro _ K1537 _ hK1538 ⟨v843, l844, rfl, rfl, H, hs845⟩
  unfold M_ref18_Clocks_J2 at H
  refine Cw_seq ?_
  refine Cw_region ?_
  refine Ow_q rfl rfl rfl (Qt_move rfl) ?_
  refine Ow_q rfl rfl rfl (Qt_assign rfl) ?_
  refine Ow_nil ?_
  refine Cw_ret ?_
  obtain ey0 := inj1 H
  subst y0
  refine ⟨(by first | exact .inl rfl | exact .inr rfl), [(sv v843)], ⟨(sv v843), _, rfl, rfl, rfl⟩, ?_⟩
  refine Shift.done ?_
  exact ⟨v843, rfl, rfl, hs845⟩

set_option maxHeartbeats 1000000 in
theorem c_M_ref18_before (p0 : List Item) (vp0 : SV) (p1 : List (List Int)) (vp1 : SV) (p2 : Int) (p3 : Int) (y0 : Bool) (H : M_ref18_before p0 p1 p2 p3 = some y0) (K : Kp) (G : List Ent) (hp0 : Slr TyItem K (sv vp0) p0) (hp1 : Slr (Ty.sl Ty.i64) K (sv vp1) p1) :
    Fc Try.prog 56 #[(sv vp0), (sv vp1), (.int .i64 p2), (.int .i64 p3)] K (G) (fun v K' G' => v = (.bool y0) ∧ K = K' ∧ G = G') := by
  refine Fc_body Try.func56 rfl Try.ntmps56 Try.results56 rfl ?_
  unfold M_ref18_before at H
  refine Cw_seq ?_
  refine Cw_region ?_
  refine Ow_q rfl rfl rfl (Qt_assign rfl) ?_
  refine Ow_nil ?_
  refine Cw_seq ?_
  refine Cw_join (fun env' K' G' => ∃ (i60 : Int) (i61 : Int) (t62 : Bool), [(0, (sv vp0)), (1, (sv vp1)), (2, (.int .i64 i60)), (3, (.int .i64 i61)), (22, (.bool t62))] = env' ∧ K = K' ∧ G = G' ∧ M_ref18_before_J1 p0 p1 i60 i61 t62 = some y0) ?_ ?_
  · skip
    refine Cw_region ?_
    refine Ow_q rfl rfl rfl (Qt_move rfl) ?_
    refine Ow_q rfl rfl rfl (Qt_cmp rfl rfl rfl) ?_
    refine Ow_q rfl rfl rfl (Qt_move rfl) ?_
    refine Ow_caseG rfl rfl rfl ?_ ?_
    · intro h63
      have h63 := dcd_t (h63)
      have H := ift h63 H
      refine Ow_pass rfl rfl rfl rfl rfl rfl rfl ?_
      refine Ow_pass rfl rfl rfl rfl rfl rfl rfl ?_
      refine Ow_pass rfl rfl rfl rfl rfl rfl rfl ?_
      refine Ow_q rfl rfl rfl (Qt_pick_t rfl rfl) ?_
      refine Ow_q rfl rfl rfl (Qt_move rfl) ?_
      refine Ow_pass rfl rfl rfl rfl rfl rfl rfl ?_
      refine Ow_pass rfl rfl rfl rfl rfl rfl rfl ?_
      refine Ow_pass rfl rfl rfl rfl rfl rfl rfl ?_
      refine Ow_pass rfl rfl rfl rfl rfl rfl rfl ?_
      refine Ow_q rfl rfl rfl (Qt_pick_t rfl rfl) ?_
      refine Ow_nil ?_
      refine Shift.done ?_
      exact ⟨[(0, (sv vp0)), (1, (sv vp1)), (2, (.int .i64 p2)), (3, (.int .i64 p3)), (22, (.bool true))], ⟨rfl, rfl, rfl, rfl, rfl, trivial⟩, p2, p3, true, rfl, rfl, rfl, H⟩
    · intro h63
      have h63 := dcd_f (h63)
      have H := iff_ h63 H
      refine Ow_qw rfl rfl rfl rfl rfl rfl (Qt_move rfl) ?_
      refine Ow_qw rfl rfl rfl rfl rfl rfl (Qt_move rfl) ?_
      refine Ow_qw rfl rfl rfl rfl rfl rfl (Qt_cmp rfl rfl rfl) ?_
      refine Ow_q rfl rfl rfl (Qt_pick_f rfl rfl) ?_
      refine Ow_q rfl rfl rfl (Qt_move rfl) ?_
      refine Ow_caseG rfl rfl rfl ?_ ?_
      · intro h64
        have h64 := dcd_t (h64)
        have H := ift h64 H
        refine Ow_pass rfl rfl rfl rfl rfl rfl rfl ?_
        refine Ow_pass rfl rfl rfl rfl rfl rfl rfl ?_
        refine Ow_pass rfl rfl rfl rfl rfl rfl rfl ?_
        refine Ow_pass rfl rfl rfl rfl rfl rfl rfl ?_
        refine Ow_q rfl rfl rfl (Qt_pick_t rfl rfl) ?_
        refine Ow_nil ?_
        refine Shift.done ?_
        exact ⟨[(0, (sv vp0)), (1, (sv vp1)), (2, (.int .i64 p2)), (3, (.int .i64 p3)), (22, (.bool true))], ⟨rfl, rfl, rfl, rfl, rfl, trivial⟩, p2, p3, true, rfl, rfl, rfl, H⟩
      · intro h64
        have h64 := dcd_f (h64)
        have H := iff_ h64 H
        refine Ow_qw rfl rfl rfl rfl rfl rfl (Qt_move rfl) ?_
        refine Ow_qw rfl rfl rfl rfl rfl rfl (Qt_move rfl) ?_
        refine Ow_qw rfl rfl rfl rfl rfl rfl (Q_len (T := TyItem) hp0 rfl rfl) ?_
        refine Ow_qw rfl rfl rfl rfl rfl rfl (Qt_cmp rfl rfl rfl) ?_
        refine Ow_q rfl rfl rfl (Qt_pick_f rfl rfl) ?_
        refine Ow_nil ?_
        refine Shift.done ?_
        exact ⟨[(0, (sv vp0)), (1, (sv vp1)), (2, (.int .i64 p2)), (3, (.int .i64 p3)), (22, (.bool (dcd (p3 ≥ (p0.length : Int)))))], ⟨rfl, rfl, rfl, rfl, rfl, trivial⟩, p2, p3, (dcd (p3 ≥ (p0.length : Int))), rfl, rfl, rfl, H⟩
  rintro _ _ _ - ⟨i60, i61, t62, rfl, rfl, rfl, H⟩
  unfold M_ref18_before_J1 at H
  refine Cw_cond rfl ?_ ?_
  · intro h65
    have H := ift h65 H
    refine Cw_seq ?_
    refine Cw_region ?_
    refine Ow_q rfl rfl rfl (Qt_assign rfl) ?_
    refine Ow_nil ?_
    refine Cw_ret ?_
    obtain ey0 := inj1 H
    subst y0
    refine ⟨(by first | exact .inl rfl | exact .inr rfl), [(.bool false)], ⟨(.bool false), _, rfl, rfl, rfl⟩, ?_⟩
    refine Shift.done ?_
    exact ⟨rfl, rfl, rfl⟩
  · intro h65
    have H := iff_ (btf h65) H
    refine Cw_skip ?_
    refine Cw_seq ?_
    refine Cw_region ?_
    refine Ow_q rfl rfl rfl (Qt_move rfl) ?_
    refine Ow_q rfl rfl rfl (Qt_move rfl) ?_
    obtain ⟨x66, hx67, H⟩ := bnd H
    obtain ⟨r68, hr69, hk70⟩ := Slr.at hp0 hx67
    obtain rfl := hr69
    refine Ow_q rfl rfl rfl (Q_ix (T := TyItem) hp0 hx67 rfl rfl rfl rfl rfl) ?_
    refine Ow_q rfl rfl rfl (Qt_fieldAddr (m := 0) rfl rfl rfl rfl rfl) ?_
    refine Ow_q rfl rfl rfl (Qt_load1 (v := (.int .i64 x66.thread)) rfl rfl rfl (Rdc.k hk70 rfl)) ?_
    refine Ow_q rfl rfl rfl (Qt_assign rfl) ?_
    refine Ow_nil ?_
    refine Cw_seq ?_
    obtain ⟨x71, hx72, H⟩ := bnd H
    obtain ⟨x78, hx79, H⟩ := bnd H
    obtain ⟨x83, hx84, H⟩ := bnd H
    obtain ⟨x90, hx91, H⟩ := bnd H
    refine Cw_region_any [] rfl Inc.nil ?_
    refine Aw_q 0 rfl (by kernel_rfl) (by kernel_rfl) (by kernel_rfl) rfl rfl rfl (Qt_move rfl) ?_
    refine Aw_q 1 rfl (by kernel_rfl) (by kernel_rfl) (by kernel_rfl) rfl rfl rfl (Qt_move rfl) ?_
    obtain ⟨r95, hr96, hk97⟩ := Slr.at hp1 hx72
    obtain ⟨v98, rfl, hs99⟩ := hr96
    refine Aw_q 2 rfl (by kernel_rfl) (by kernel_rfl) (by kernel_rfl) rfl rfl rfl (Q_ix (T := (Ty.sl Ty.i64)) hp1 hx72 rfl rfl rfl rfl rfl) ?_
    refine Aw_q 3 rfl (by kernel_rfl) (by kernel_rfl) (by kernel_rfl) rfl rfl rfl (Qt_load1 (v := (sv v98)) rfl rfl rfl (Rdc.k hk97 rfl)) ?_
    refine Aw_q 4 rfl (by kernel_rfl) (by kernel_rfl) (by kernel_rfl) rfl rfl rfl (Qt_move rfl) ?_
    obtain ⟨r100, hr101, hk102⟩ := Slr.at hs99 hx79
    obtain rfl := hr101
    refine Aw_q 5 rfl (by kernel_rfl) (by kernel_rfl) (by kernel_rfl) rfl rfl rfl (Q_ix (T := Ty.i64) hs99 hx79 rfl rfl rfl rfl rfl) ?_
    refine Aw_q 6 rfl (by kernel_rfl) (by kernel_rfl) (by kernel_rfl) rfl rfl rfl (Qt_load1 (v := (.int .i64 x78)) rfl rfl rfl (Rdc.k hk102 rfl)) ?_
    refine Aw_q 7 rfl (by kernel_rfl) (by kernel_rfl) (by kernel_rfl) rfl rfl rfl (Qt_move rfl) ?_
    refine Aw_q 8 rfl (by kernel_rfl) (by kernel_rfl) (by kernel_rfl) rfl rfl rfl (Qt_move rfl) ?_
    obtain ⟨r103, hr104, hk105⟩ := Slr.at hp1 hx84
    obtain ⟨v106, rfl, hs107⟩ := hr104
    refine Aw_q 9 rfl (by kernel_rfl) (by kernel_rfl) (by kernel_rfl) rfl rfl rfl (Q_ix (T := (Ty.sl Ty.i64)) hp1 hx84 rfl rfl rfl rfl rfl) ?_
    refine Aw_q 10 rfl (by kernel_rfl) (by kernel_rfl) (by kernel_rfl) rfl rfl rfl (Qt_load1 (v := (sv v106)) rfl rfl rfl (Rdc.k hk105 rfl)) ?_
    refine Aw_q 11 rfl (by kernel_rfl) (by kernel_rfl) (by kernel_rfl) rfl rfl rfl (Qt_move rfl) ?_
    obtain ⟨r108, hr109, hk110⟩ := Slr.at hs107 hx91
    obtain rfl := hr109
    refine Aw_q 12 rfl (by kernel_rfl) (by kernel_rfl) (by kernel_rfl) rfl rfl rfl (Q_ix (T := Ty.i64) hs107 hx91 rfl rfl rfl rfl rfl) ?_
    refine Aw_q 13 rfl (by kernel_rfl) (by kernel_rfl) (by kernel_rfl) rfl rfl rfl (Qt_load1 (v := (.int .i64 x90)) rfl rfl rfl (Rdc.k hk110 rfl)) ?_
    refine Aw_q 14 rfl (by kernel_rfl) (by kernel_rfl) (by kernel_rfl) rfl rfl rfl (Qt_cmp rfl rfl rfl) ?_
    refine Aw_q 15 rfl (by kernel_rfl) (by kernel_rfl) (by kernel_rfl) rfl rfl rfl (Qt_assign rfl) ?_
    refine Aw_done (by kernel_rfl) ?_
    refine Cw_ret ?_
    obtain ey0 := inj1 H
    subst y0
    refine ⟨(by first | exact .inl rfl | exact .inr rfl), [(.bool (dcd (x78 ≥ x90)))], ⟨(.bool (dcd (x78 ≥ x90))), _, rfl, rfl, rfl⟩, ?_⟩
    refine Shift.done ?_
    exact ⟨rfl, rfl, rfl⟩

set_option maxHeartbeats 1000000 in
theorem c_M_ref18_Before (p0 : List Item) (vp0 : SV) (p1 : Int) (p2 : Int) (p3 : Int) (y0 : Bool) (H : M_ref18_Before p0 p1 p2 p3 = some y0) (K : Kp) (G : List Ent) (hp0 : Slr TyItem K (sv vp0) p0) :
    Fc Try.prog 43 #[(sv vp0), (.int .i64 p1), (.int .i64 p2), (.int .i64 p3)] K (G) (fun v K' G' => v = (.bool y0) ∧ G = G') := by
  refine Fc_body Try.func43 rfl Try.ntmps43 Try.results43 rfl ?_
  unfold M_ref18_Before at H
  refine Cw_seq ?_
  refine Cw_region ?_
  refine Ow_q rfl rfl rfl (Qt_assign rfl) ?_
  refine Ow_nil ?_
  refine Cw_seq ?_
  refine Cw_region ?_
  refine Ow_q rfl rfl rfl (Qt_move rfl) ?_
  refine Ow_q rfl rfl rfl (Qt_move rfl) ?_
  refine Ow_q rfl rfl rfl (Qt_move rfl) ?_
  obtain ⟨x10, hx11, H⟩ := bnd H
  refine Ow_cons rfl (OpW_call rfl Try.call36 rfl rfl (c_M_ref18_Clocks p0 vp0 p1 x10 hx11 _ _ hp0) ?_)
  rintro _ K13 _ hK14 ⟨v12, rfl, rfl, hs15⟩
  refine Ow_q rfl rfl rfl (Qt_move rfl) ?_
  refine Ow_q rfl rfl rfl (Qt_move rfl) ?_
  obtain ⟨x16, hx17, H⟩ := bnd H
  have hs18 := (hp0).mono hK14
  refine Ow_cons rfl (OpW_call rfl Try.call56 rfl rfl (c_M_ref18_before p0 vp0 x10 v12 p2 p3 x16 hx17 _ _ hs18 hs15) ?_)
  rintro _ _ _ - ⟨rfl, rfl, rfl⟩
  refine Ow_q rfl rfl rfl (Qt_assign rfl) ?_
  refine Ow_nil ?_
  refine Cw_ret ?_
  obtain ey0 := inj1 H
  subst y0
  refine ⟨(by first | exact .inl rfl | exact .inr rfl), [(.bool x16)], ⟨(.bool x16), _, rfl, rfl, rfl⟩, ?_⟩
  refine Shift.rem .here ?_
  refine Shift.done ?_
  exact ⟨rfl, rfl⟩


end Go.Hx
