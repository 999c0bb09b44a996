/- Printed by program. -/
import Derived.Test.YthpjaddchdnejaaXBM
namespace Go.Hx
open Go Go.Proofs
set_option linter.unusedSimpArgs false
set_option linter.unusedVariables false
set_option maxRecDepth 10000
set_option maxHeartbeats 1000000 in
theorem c_M_ref16_Calls (p0 : List Event) (vp0 : SV) (y0 : List A2Int) (H : M_ref16_Calls p0 = some y0) (K : Kp) (G : List Ent) (hp0 : Slr TyEvent K (sv vp0) p0) :
    Fc Try.prog 19 #[(sv vp0)] K (G) (fun v K' G' => ∃ (wy0 : SV), v = (sv wy0) ∧ (.tok 36 2 [(sv wy0)]) :: G = G' ∧ Slr TyA2Int K' (sv wy0) y0) := by
  refine Fc_body Try.func19 rfl Try.ntmps19 Try.results19 rfl ?_
  unfold M_ref16_Calls at H
  refine Cw_seq ?_
  refine Cw_region ?_
  refine Ow_q rfl rfl rfl (Qt_assign rfl) ?_
  refine Ow_nil ?_
  refine Cw_seq ?_
  refine Cw_region ?_
  refine Ow_q rfl rfl rfl (Qt_assign rfl) ?_
  refine Ow_nil ?_
  refine Cw_join (fun env' K' G' => ∃ (v182 : SV) (l183 : List A2Int), [(3, (sv v182))] = env' ∧ (.tok 36 2 [(sv v182)]) :: G = G' ∧ M_ref16_Calls_J1 l183 = some y0 ∧ Slr TyA2Int K' (sv v182) l183) ?_ ?_
  · skip
    refine Cw_seq ?_
    refine Cw_region ?_
    refine Ow_q rfl rfl rfl (Qt_assign rfl) ?_
    refine Ow_nil ?_
    refine Cw_block ?_
    refine Cw_loopM (fun n273 env' K' G' => ∃ (v269 : SV) (l270 : List A2Int) (i272 : Int), [(0, (sv vp0)), (3, (sv v269)), (4, (.int .i64 i272))] = env' ∧ (.tok 36 2 [(sv v269)]) :: G = G' ∧ lp2 (M_ref16_Calls_L1 p0) n273 l270 i272 = some y0 ∧ Slr TyA2Int K' (sv v269) l270) BIG ?_ ?_
    · skip
      refine Shift.nilTok1 36 2 ?_
      refine Shift.done ?_
      exact ⟨[(0, (sv vp0)), (3, (sv nilS)), (4, (.int .i64 0))], ⟨rfl, rfl, rfl, trivial⟩, nilS, ([] : List A2Int), 0, rfl, rfl, H, (Slr.nil TyA2Int _)⟩
    rintro n273 _ K274 _ hK275 ⟨v269, l270, i272, rfl, rfl, H, hs271⟩
    obtain ⟨m276, k277, rfl, hkk278, H⟩ := lps2 H
    unfold M_ref16_Calls_L1 at H
    refine Cw_seq ?_
    refine Cw_seq ?_
    refine Cw_region ?_
    refine Ow_q rfl rfl rfl (Qt_move rfl) ?_
    refine Ow_q rfl rfl rfl (Qt_move rfl) ?_
    have hs281 := (hp0).mono hK275
    refine Ow_q rfl rfl rfl (Q_len (T := TyEvent) hs281 rfl rfl) ?_
    refine Ow_q rfl rfl rfl (Qt_cmp rfl rfl rfl) ?_
    refine Ow_nil ?_
    refine Cw_cond rfl ?_ ?_
    · intro h282
      have h282 := dcd_t (h282)
      have H := ift h282 H
      refine Cw_skip ?_
      refine Cw_seq ?_
      refine Cw_block ?_
      refine Cw_seq ?_
      refine Cw_region ?_
      refine Ow_q rfl rfl rfl (Qt_move rfl) ?_
      refine Ow_q rfl rfl rfl (Qt_move rfl) ?_
      obtain ⟨x319, hx320, H⟩ := bnd H
      obtain ⟨r321, hr322, hk323⟩ := Slr.at hs281 hx320
      obtain rfl := hr322
      refine Ow_q rfl rfl rfl (Q_ix (T := TyEvent) hs281 hx320 rfl rfl rfl rfl rfl) ?_
      refine Ow_q rfl rfl rfl (Qt_fieldAddr (m := 2) rfl rfl rfl rfl rfl) ?_
      refine Ow_q rfl rfl rfl (Qt_load1 (v := (.bool x319.ret)) rfl rfl rfl (Rdc.k hk323 rfl)) ?_
      refine Ow_q rfl rfl rfl (Qt_not rfl) ?_
      refine Ow_nil ?_
      refine Cw_cond rfl ?_ ?_
      · intro h324
        have h324 := nt_t (h324)
        have H := iff_ (btf h324) H
        obtain ⟨x325, hx326, H⟩ := bnd H
        obtain ⟨x330, hx331, H⟩ := bnd H
        obtain ⟨x337, hx338, H⟩ := bnd H
        refine Cw_region_any [] rfl Inc.nil ?_
        refine Aw_q 0 rfl (by kernel_rfl) (by kernel_rfl) (by kernel_rfl) rfl rfl rfl (Qt_move rfl) ?_
        refine Aw_q 1 rfl (by kernel_rfl) (by kernel_rfl) (by kernel_rfl) rfl rfl rfl (Qt_move rfl) ?_
        refine Aw_q 2 rfl (by kernel_rfl) (by kernel_rfl) (by kernel_rfl) rfl rfl rfl (Qt_move rfl) ?_
        obtain ⟨r343, hr344, hk345⟩ := Slr.at hs281 hx326
        obtain rfl := hr344
        refine Aw_q 3 rfl (by kernel_rfl) (by kernel_rfl) (by kernel_rfl) rfl rfl rfl (Q_ix (T := TyEvent) hs281 hx326 rfl rfl rfl rfl rfl) ?_
        refine Aw_q 4 rfl (by kernel_rfl) (by kernel_rfl) (by kernel_rfl) rfl rfl rfl (Qt_fieldAddr (m := 0) rfl rfl rfl rfl rfl) ?_
        refine Aw_q 5 rfl (by kernel_rfl) (by kernel_rfl) (by kernel_rfl) rfl rfl rfl (Qt_load1 (v := (.int .i64 x325.thread)) rfl rfl rfl (Rdc.k hk345 rfl)) ?_
        refine Aw_q 6 rfl (by kernel_rfl) (by kernel_rfl) (by kernel_rfl) rfl rfl rfl (Qt_move rfl) ?_
        refine Aw_q 7 rfl (by kernel_rfl) (by kernel_rfl) (by kernel_rfl) rfl rfl rfl (Qt_move rfl) ?_
        obtain ⟨r346, hr347, hk348⟩ := Slr.at hs281 hx331
        obtain rfl := hr347
        refine Aw_q 8 rfl (by kernel_rfl) (by kernel_rfl) (by kernel_rfl) rfl rfl rfl (Q_ix (T := TyEvent) hs281 hx331 rfl rfl rfl rfl rfl) ?_
        refine Aw_q 9 rfl (by kernel_rfl) (by kernel_rfl) (by kernel_rfl) rfl rfl rfl (Qt_fieldAddr (m := 1) rfl rfl rfl rfl rfl) ?_
        refine Aw_q 10 rfl (by kernel_rfl) (by kernel_rfl) (by kernel_rfl) rfl rfl rfl (Qt_load1 (v := (.int .i64 x330.op)) rfl rfl rfl (Rdc.k hk348 rfl)) ?_
        refine Aw_q 11 rfl (by kernel_rfl) (by kernel_rfl) (by kernel_rfl) rfl rfl rfl (Qt_buildArr (cs := (A2Int.cells (A2Int.mk x325.thread x330.op))) rfl rfl rfl rfl rfl rfl) ?_
        have hR350 : RowR TyA2Int K274 [(A2Int.cells (A2Int.mk x325.thread x330.op))] [(A2Int.mk x325.thread x330.op)] := RowR.cons rfl (RowR.nil)
        refine Aw_one 12 (by kernel_rfl) (Ax_mk rfl rfl (O_lit (T := TyA2Int) (rows := [(A2Int.cells (A2Int.mk x325.thread x330.op))]) (l := [(A2Int.mk x325.thread x330.op)]) rfl rfl rfl hR350 rfl rfl rfl rfl rfl rfl rfl rfl (fun v349 => ⟨Inc.nil, ?_⟩)))
        refine Aw_one 13 (by kernel_rfl) (Ax_mk rfl rfl (O_appTok (T := TyA2Int) (bytes := 16) (q := 0) rfl rfl rfl hs271 (.tail _ (.head _)) rfl (SrcT.row (.head _) hR350 rfl) hx338 rfl rfl rfl rfl rfl rfl rfl rfl (fun v351 K352 hK353 hs354 => ⟨_, (.there .here), ⟨Inc.nil, ?_⟩⟩)))
        refine Aw.shift (Shift.rem .here (Shift.done ⟨Inc.nil, ?_⟩))
        refine Aw_q 14 rfl (by kernel_rfl) (by kernel_rfl) (by kernel_rfl) rfl rfl rfl (Qt_assign rfl) ?_
        refine Aw_done (by kernel_rfl) ?_
        refine Cw_region ?_
        refine Ow_q rfl rfl rfl (Qt_move rfl) ?_
        refine Ow_q rfl rfl rfl (Qt_arith (e := wI (i272 + 1)) rfl rfl rfl rfl) ?_
        refine Ow_q rfl rfl rfl (Qt_assign rfl) ?_
        refine Ow_nil ?_
        refine Shift.done ?_
        exact ⟨[(0, (sv vp0)), (3, (sv v351)), (4, (.int .i64 (wI (i272 + 1))))], ⟨rfl, rfl, rfl, trivial⟩, _, Nat.lt_succ_self _, v351, x337, (wI (i272 + 1)), rfl, rfl, (hkk278 ▸ H), hs354⟩
      · intro h324
        have h324 := nt_f (h324)
        have H := ift h324 H
        refine Cw_skip ?_
        refine Cw_region ?_
        refine Ow_q rfl rfl rfl (Qt_move rfl) ?_
        refine Ow_q rfl rfl rfl (Qt_arith (e := wI (i272 + 1)) rfl rfl rfl rfl) ?_
        refine Ow_q rfl rfl rfl (Qt_assign rfl) ?_
        refine Ow_nil ?_
        refine Shift.done ?_
        exact ⟨[(0, (sv vp0)), (3, (sv v269)), (4, (.int .i64 (wI (i272 + 1))))], ⟨rfl, rfl, rfl, trivial⟩, _, Nat.lt_succ_self _, v269, l270, (wI (i272 + 1)), rfl, rfl, (hkk278 ▸ H), hs271⟩
    · intro h282
      have h282 := dcd_f (h282)
      have H := iff_ h282 H
      refine Cw_exit ?_
      refine Shift.done ?_
      exact ⟨[(3, (sv v269))], ⟨rfl, trivial⟩, v269, l270, rfl, rfl, H, hs271⟩
  rintro _ K355 _ hK356 ⟨v182, l183, rfl, rfl, H, hs184⟩
  unfold M_ref16_Calls_J1 at H
  refine Cw_seq ?_
  refine Cw_region ?_
  refine Ow_q rfl rfl rfl (Qt_move rfl) ?_
  refine Ow_q rfl rfl rfl (Qt_assign rfl) ?_
  refine Ow_nil ?_
  refine Cw_ret ?_
  obtain ey0 := inj1 H
  subst y0
  refine ⟨(by first | exact .inl rfl | exact .inr rfl), [(sv v182)], ⟨(sv v182), _, rfl, rfl, rfl⟩, ?_⟩
  refine Shift.done ?_
  exact ⟨v182, rfl, rfl, hs184⟩

set_option maxHeartbeats 1000000 in
theorem c_M_ref16_find (p0 : List Event) (vp0 : SV) (p1 : Int) (p2 : Int) (p3 : Bool) (y0 : Int) (H : M_ref16_find p0 p1 p2 p3 = some y0) (K : Kp) (G : List Ent) (hp0 : Slr TyEvent K (sv vp0) p0) :
    Fc Try.prog 47 #[(sv vp0), (.int .i64 p1), (.int .i64 p2), (.bool p3)] K (G) (fun v K' G' => v = (.int .i64 y0) ∧ G = G') := by
  refine Fc_body Try.func47 rfl Try.ntmps47 Try.results47 rfl ?_
  unfold M_ref16_find at H
  refine Cw_seq ?_
  refine Cw_region ?_
  refine Ow_q rfl rfl rfl (Qt_assign rfl) ?_
  refine Ow_nil ?_
  refine Cw_join (fun env' K' G' => [] = env' ∧ G = G' ∧ M_ref16_find_J1 = some y0) ?_ ?_
  · skip
    refine Cw_seq ?_
    refine Cw_region ?_
    refine Ow_q rfl rfl rfl (Qt_assign rfl) ?_
    refine Ow_nil ?_
    refine Cw_block ?_
    refine Cw_loopM (fun n157 env' K' G' => ∃ (i156 : Int), [(0, (sv vp0)), (1, (.int .i64 p1)), (2, (.int .i64 p2)), (3, (.bool p3)), (9, (.int .i64 i156))] = env' ∧ K = K' ∧ G = G' ∧ lp1 (M_ref16_find_L1 p0 p1 p2 p3) n157 i156 = some y0) BIG ?_ ?_
    · skip
      refine Shift.done ?_
      exact ⟨[(0, (sv vp0)), (1, (.int .i64 p1)), (2, (.int .i64 p2)), (3, (.bool p3)), (9, (.int .i64 0))], ⟨rfl, rfl, rfl, rfl, rfl, trivial⟩, 0, rfl, rfl, rfl, H⟩
    rintro n157 _ _ _ - ⟨i156, rfl, rfl, rfl, H⟩
    obtain ⟨m158, k159, rfl, hkk160, H⟩ := lps1 H
    unfold M_ref16_find_L1 at H
    refine Cw_seq ?_
    refine Cw_seq ?_
    refine Cw_region ?_
    refine Ow_q rfl rfl rfl (Qt_move rfl) ?_
    refine Ow_q rfl rfl rfl (Qt_move rfl) ?_
    refine Ow_q rfl rfl rfl (Q_len (T := TyEvent) hp0 rfl rfl) ?_
    refine Ow_q rfl rfl rfl (Qt_cmp rfl rfl rfl) ?_
    refine Ow_nil ?_
    refine Cw_cond rfl ?_ ?_
    · intro h162
      have h162 := dcd_t (h162)
      have H := ift h162 H
      refine Cw_skip ?_
      refine Cw_seq ?_
      refine Cw_block ?_
      refine Cw_join (fun env' K' G' => ∃ (t199 : Bool), [(0, (sv vp0)), (1, (.int .i64 p1)), (2, (.int .i64 p2)), (3, (.bool p3)), (9, (.int .i64 i156)), (40, (.bool t199))] = env' ∧ K = K' ∧ G = G' ∧ M_ref16_find_J2 p0 p1 p2 p3 i156 k159 t199 = some y0) ?_ ?_
      · skip
        refine Cw_region ?_
        refine Ow_q rfl rfl rfl (Qt_move rfl) ?_
        refine Ow_q rfl rfl rfl (Qt_move rfl) ?_
        obtain ⟨x200, hx201, H⟩ := bnd H
        obtain ⟨r202, hr203, hk204⟩ := Slr.at hp0 hx201
        obtain rfl := hr203
        refine Ow_q rfl rfl rfl (Q_ix (T := TyEvent) hp0 hx201 rfl rfl rfl rfl rfl) ?_
        refine Ow_q rfl rfl rfl (Qt_fieldAddr (m := 0) rfl rfl rfl rfl rfl) ?_
        refine Ow_q rfl rfl rfl (Qt_load1 (v := (.int .i64 x200.thread)) rfl rfl rfl (Rdc.k hk204 rfl)) ?_
        refine Ow_q rfl rfl rfl (Qt_move rfl) ?_
        refine Ow_q rfl rfl rfl (Qt_cmp rfl rfl rfl) ?_
        refine Ow_q rfl rfl rfl (Qt_move rfl) ?_
        refine Ow_caseG rfl rfl rfl ?_ ?_
        · intro h205
          have h205 := dcd_t (h205)
          have H := ift h205 H
          refine Ow_qw rfl rfl rfl rfl rfl rfl (Qt_move rfl) ?_
          refine Ow_qw rfl rfl rfl rfl rfl rfl (Qt_move rfl) ?_
          obtain ⟨x206, hx207, H⟩ := bnd H
          obtain ⟨r208, hr209, hk210⟩ := Slr.at hp0 hx207
          obtain rfl := hr209
          refine Ow_qw rfl rfl rfl rfl rfl rfl (Q_ix (T := TyEvent) hp0 hx207 rfl rfl rfl rfl rfl) ?_
          refine Ow_qw rfl rfl rfl rfl rfl rfl (Qt_fieldAddr (m := 1) rfl rfl rfl rfl rfl) ?_
          refine Ow_qw rfl rfl rfl rfl rfl rfl (Qt_load1 (v := (.int .i64 x206.op)) rfl rfl rfl (Rdc.k hk210 rfl)) ?_
          refine Ow_qw rfl rfl rfl rfl rfl rfl (Qt_move rfl) ?_
          refine Ow_qw rfl rfl rfl rfl rfl rfl (Qt_cmp rfl rfl rfl) ?_
          refine Ow_q rfl rfl rfl (Qt_pick_t rfl rfl) ?_
          refine Ow_q rfl rfl rfl (Qt_move rfl) ?_
          refine Ow_caseG rfl rfl rfl ?_ ?_
          · intro h211
            have h211 := dcd_t (h211)
            have H := ift h211 H
            refine Ow_qw rfl rfl rfl rfl rfl rfl (Qt_move rfl) ?_
            refine Ow_qw rfl rfl rfl rfl rfl rfl (Qt_move rfl) ?_
            obtain ⟨x212, hx213, H⟩ := bnd H
            obtain ⟨r214, hr215, hk216⟩ := Slr.at hp0 hx213
            obtain rfl := hr215
            refine Ow_qw rfl rfl rfl rfl rfl rfl (Q_ix (T := TyEvent) hp0 hx213 rfl rfl rfl rfl rfl) ?_
            refine Ow_qw rfl rfl rfl rfl rfl rfl (Qt_fieldAddr (m := 2) rfl rfl rfl rfl rfl) ?_
            refine Ow_qw rfl rfl rfl rfl rfl rfl (Qt_load1 (v := (.bool x212.ret)) rfl rfl rfl (Rdc.k hk216 rfl)) ?_
            refine Ow_qw rfl rfl rfl rfl rfl rfl (Qt_move rfl) ?_
            refine Ow_qw rfl rfl rfl rfl rfl rfl (Qt_eqB rfl rfl rfl) ?_
            refine Ow_q rfl rfl rfl (Qt_pick_t rfl rfl) ?_
            refine Ow_nil ?_
            refine Shift.done ?_
            exact ⟨[(0, (sv vp0)), (1, (.int .i64 p1)), (2, (.int .i64 p2)), (3, (.bool p3)), (9, (.int .i64 i156)), (40, (.bool (x212.ret == p3)))], ⟨rfl, rfl, rfl, rfl, rfl, rfl, trivial⟩, (x212.ret == p3), rfl, rfl, rfl, H⟩
          · intro h211
            have h211 := dcd_f (h211)
            have H := iff_ h211 H
            refine Ow_pass rfl rfl rfl rfl rfl rfl rfl ?_
            refine Ow_pass rfl rfl rfl rfl rfl rfl rfl ?_
            refine Ow_pass rfl rfl rfl rfl rfl rfl rfl ?_
            refine Ow_pass rfl rfl rfl rfl rfl rfl rfl ?_
            refine Ow_pass rfl rfl rfl rfl rfl rfl rfl ?_
            refine Ow_pass rfl rfl rfl rfl rfl rfl rfl ?_
            refine Ow_pass rfl rfl rfl rfl rfl rfl rfl ?_
            refine Ow_q rfl rfl rfl (Qt_pick_f rfl rfl) ?_
            refine Ow_nil ?_
            refine Shift.done ?_
            exact ⟨[(0, (sv vp0)), (1, (.int .i64 p1)), (2, (.int .i64 p2)), (3, (.bool p3)), (9, (.int .i64 i156)), (40, (.bool false))], ⟨rfl, rfl, rfl, rfl, rfl, rfl, trivial⟩, false, rfl, rfl, rfl, H⟩
        · intro h205
          have h205 := dcd_f (h205)
          have H := iff_ h205 H
          refine Ow_pass rfl rfl rfl rfl rfl rfl rfl ?_
          refine Ow_pass rfl rfl rfl rfl rfl rfl rfl ?_
          refine Ow_pass rfl rfl rfl rfl rfl rfl rfl ?_
          refine Ow_pass rfl rfl rfl rfl rfl rfl rfl ?_
          refine Ow_pass rfl rfl rfl rfl rfl rfl rfl ?_
          refine Ow_pass rfl rfl rfl rfl rfl rfl rfl ?_
          refine Ow_pass rfl rfl rfl rfl rfl rfl rfl ?_
          refine Ow_q rfl rfl rfl (Qt_pick_f rfl rfl) ?_
          refine Ow_q rfl rfl rfl (Qt_move rfl) ?_
          refine Ow_pass rfl rfl rfl rfl rfl rfl rfl ?_
          refine Ow_pass rfl rfl rfl rfl rfl rfl rfl ?_
          refine Ow_pass rfl rfl rfl rfl rfl rfl rfl ?_
          refine Ow_pass rfl rfl rfl rfl rfl rfl rfl ?_
          refine Ow_pass rfl rfl rfl rfl rfl rfl rfl ?_
          refine Ow_pass rfl rfl rfl rfl rfl rfl rfl ?_
          refine Ow_pass rfl rfl rfl rfl rfl rfl rfl ?_
          refine Ow_q rfl rfl rfl (Qt_pick_f rfl rfl) ?_
          refine Ow_nil ?_
          refine Shift.done ?_
          exact ⟨[(0, (sv vp0)), (1, (.int .i64 p1)), (2, (.int .i64 p2)), (3, (.bool p3)), (9, (.int .i64 i156)), (40, (.bool false))], ⟨rfl, rfl, rfl, rfl, rfl, rfl, trivial⟩, false, rfl, rfl, rfl, H⟩
      rintro _ _ _ - ⟨t199, rfl, rfl, rfl, H⟩
      unfold M_ref16_find_J2 at H
      refine Cw_cond rfl ?_ ?_
      · intro h217
        have H := ift h217 H
        refine Cw_seq ?_
        refine Cw_region ?_
        refine Ow_q rfl rfl rfl (Qt_move rfl) ?_
        refine Ow_q rfl rfl rfl (Qt_assign rfl) ?_
        refine Ow_nil ?_
        refine Cw_ret ?_
        obtain ey0 := inj1 H
        subst y0
        refine ⟨(by first | exact .inl rfl | exact .inr rfl), [(.int .i64 i156)], ⟨(.int .i64 i156), _, rfl, rfl, rfl⟩, ?_⟩
        refine Shift.done ?_
        exact ⟨rfl, rfl⟩
      · intro h217
        have H := iff_ (btf h217) H
        refine Cw_skip ?_
        refine Cw_region ?_
        refine Ow_q rfl rfl rfl (Qt_move rfl) ?_
        refine Ow_q rfl rfl rfl (Qt_arith (e := wI (i156 + 1)) rfl rfl rfl rfl) ?_
        refine Ow_q rfl rfl rfl (Qt_assign rfl) ?_
        refine Ow_nil ?_
        refine Shift.done ?_
        exact ⟨[(0, (sv vp0)), (1, (.int .i64 p1)), (2, (.int .i64 p2)), (3, (.bool p3)), (9, (.int .i64 (wI (i156 + 1))))], ⟨rfl, rfl, rfl, rfl, rfl, trivial⟩, _, Nat.lt_succ_self _, (wI (i156 + 1)), rfl, rfl, rfl, (hkk160 ▸ H)⟩
    · intro h162
      have h162 := dcd_f (h162)
      have H := iff_ h162 H
      refine Cw_exit ?_
      refine Shift.done ?_
      exact ⟨[], trivial, rfl, rfl, H⟩
  rintro _ K218 _ hK219 ⟨rfl, rfl, H⟩
  unfold M_ref16_find_J1 at H
  refine Cw_seq ?_
  refine Cw_region ?_
  refine Ow_q rfl rfl rfl (Qt_assign rfl) ?_
  refine Ow_nil ?_
  refine Cw_ret ?_
  obtain ey0 := inj1 H
  subst y0
  refine ⟨(by first | exact .inl rfl | exact .inr rfl), [(.int .i64 (-1))], ⟨(.int .i64 (-1)), _, rfl, rfl, rfl⟩, ?_⟩
  refine Shift.done ?_
  exact ⟨rfl, rfl⟩

set_option maxHeartbeats 1000000 in
theorem c_M_ref16_Precedes (p0 : List Event) (vp0 : SV) (p1 : A2Int) (p2 : A2Int) (y0 : Bool) (H : M_ref16_Precedes p0 p1 p2 = some y0) (K : Kp) (G : List Ent) (hp0 : Slr TyEvent K (sv vp0) p0) :
    Fc Try.prog 21 #[(sv vp0), (.agg (A2Int.cells p1).toArray), (.agg (A2Int.cells p2).toArray)] K (G) (fun v K' G' => v = (.bool y0) ∧ G = G') := by
  refine Fc_body Try.func21 rfl Try.ntmps21 Try.results21 rfl ?_
  unfold M_ref16_Precedes at H
  refine Cw_seq ?_
  refine Cw_region ?_
  refine Ow_cons rfl (OpW_box (cs := (A2Int.cells p1)) rfl rfl rfl (fun b20 => ?_))
  refine Ow_cons rfl (OpW_box (cs := (A2Int.cells p2)) rfl rfl rfl (fun b21 => ?_))
  refine Ow_q rfl rfl rfl (Qt_assign rfl) ?_
  refine Ow_nil ?_
  refine Cw_seq ?_
  obtain ⟨x22, hx23, H⟩ := bnd H
  obtain ⟨x26, hx27, H⟩ := bnd H
  refine Cw_region_any [.blk b21 36 (A2Int.cells p2), .blk b20 36 (A2Int.cells p1)] rfl (Inc.cons (.head _) (Inc.cons (.tail _ (.head _)) Inc.nil)) ?_
  refine Aw_q 0 rfl (by kernel_rfl) (by kernel_rfl) (by kernel_rfl) rfl rfl rfl (Qt_move rfl) ?_
  refine Aw_q 1 rfl (by kernel_rfl) (by kernel_rfl) (by kernel_rfl) rfl rfl rfl (Qt_ixArr (q := 0) (m := 0) rfl rfl rfl rfl rfl (by decide) rfl (by decide)) ?_
  refine Aw_q 2 rfl (by kernel_rfl) (by kernel_rfl) (by kernel_rfl) rfl rfl rfl (Qt_load1 (v := (.int .i64 p1.x0)) rfl rfl rfl (Rdc.blk (.tail _ (.head _)) rfl)) ?_
  refine Aw_q 3 rfl (by kernel_rfl) (by kernel_rfl) (by kernel_rfl) rfl rfl rfl (Qt_ixArr (q := 1) (m := 1) rfl rfl rfl rfl rfl (by decide) rfl (by decide)) ?_
  refine Aw_q 4 rfl (by kernel_rfl) (by kernel_rfl) (by kernel_rfl) rfl rfl rfl (Qt_load1 (v := (.int .i64 p1.x1)) rfl rfl rfl (Rdc.blk (.tail _ (.head _)) rfl)) ?_
  refine Aw_q 6 rfl (by kernel_rfl) (by kernel_rfl) (by kernel_rfl) rfl rfl rfl (Qt_move rfl) ?_
  refine Aw_q 7 rfl (by kernel_rfl) (by kernel_rfl) (by kernel_rfl) rfl rfl rfl (Qt_ixArr (q := 0) (m := 0) rfl rfl rfl rfl rfl (by decide) rfl (by decide)) ?_
  refine Aw_q 8 rfl (by kernel_rfl) (by kernel_rfl) (by kernel_rfl) rfl rfl rfl (Qt_load1 (v := (.int .i64 p2.x0)) rfl rfl rfl (Rdc.blk (.head _) rfl)) ?_
  refine Aw_q 9 rfl (by kernel_rfl) (by kernel_rfl) (by kernel_rfl) rfl rfl rfl (Qt_ixArr (q := 1) (m := 1) rfl rfl rfl rfl rfl (by decide) rfl (by decide)) ?_
  refine Aw_q 10 rfl (by kernel_rfl) (by kernel_rfl) (by kernel_rfl) rfl rfl rfl (Qt_load1 (v := (.int .i64 p2.x1)) rfl rfl rfl (Rdc.blk (.head _) rfl)) ?_
  refine Aw_one 5 (by kernel_rfl) (Ax_mk rfl rfl (OpW_call rfl Try.call47 rfl rfl (c_M_ref16_find p0 vp0 p1.x0 p1.x1 true x22 hx23 _ _ hp0) ?_))
  rintro _ K31 _ hK32 ⟨rfl, rfl⟩
  refine ⟨(Inc.cons (.head _) (Inc.cons (.tail _ (.head _)) Inc.nil)), ?_⟩
  have hs33 := (hp0).mono hK32
  refine Aw_one 11 (by kernel_rfl) (Ax_mk rfl rfl (OpW_call rfl Try.call47 rfl rfl (c_M_ref16_find p0 vp0 p2.x0 p2.x1 false x26 hx27 _ _ hs33) ?_))
  rintro _ K34 _ hK35 ⟨rfl, rfl⟩
  refine ⟨(Inc.cons (.head _) (Inc.cons (.tail _ (.head _)) Inc.nil)), ?_⟩
  refine Aw_q 12 rfl (by kernel_rfl) (by kernel_rfl) (by kernel_rfl) rfl rfl rfl (Qt_assign rfl) ?_
  refine Aw_q 13 rfl (by kernel_rfl) (by kernel_rfl) (by kernel_rfl) rfl rfl rfl (Qt_assign rfl) ?_
  refine Aw_done (by kernel_rfl) ?_
  refine Cw_join (fun env' K' G' => ∃ (t38 : Bool), [(6, (.bool t38))] = env' ∧ K34 = K' ∧ G = G' ∧ M_ref16_Precedes_J1 t38 = some y0) ?_ ?_
  · skip
    refine Cw_region ?_
    refine Ow_q rfl rfl rfl (Qt_move rfl) ?_
    refine Ow_q rfl rfl rfl (Qt_cmp rfl rfl rfl) ?_
    refine Ow_q rfl rfl rfl (Qt_move rfl) ?_
    refine Ow_caseG rfl rfl rfl ?_ ?_
    · intro h39
      have h39 := dcd_t (h39)
      have H := ift h39 H
      refine Ow_qw rfl rfl rfl rfl rfl rfl (Qt_move rfl) ?_
      refine Ow_qw rfl rfl rfl rfl rfl rfl (Qt_cmp rfl rfl rfl) ?_
      refine Ow_q rfl rfl rfl (Qt_pick_t rfl rfl) ?_
      refine Ow_q rfl rfl rfl (Qt_move rfl) ?_
      refine Ow_caseG rfl rfl rfl ?_ ?_
      · intro h40
        have h40 := dcd_t (h40)
        have H := ift h40 H
        refine Ow_qw rfl rfl rfl rfl rfl rfl (Qt_move rfl) ?_
        refine Ow_qw rfl rfl rfl rfl rfl rfl (Qt_move rfl) ?_
        refine Ow_qw rfl rfl rfl rfl rfl rfl (Qt_cmp rfl rfl rfl) ?_
        refine Ow_q rfl rfl rfl (Qt_pick_t rfl rfl) ?_
        refine Ow_q rfl rfl rfl (Qt_assign rfl) ?_
        refine Ow_nil ?_
        refine Shift.rem .here ?_
        refine Shift.rem .here ?_
        refine Shift.done ?_
        exact ⟨[(6, (.bool (dcd (x22 < x26))))], ⟨rfl, trivial⟩, (dcd (x22 < x26)), rfl, rfl, rfl, H⟩
      · intro h40
        have h40 := dcd_f (h40)
        have H := iff_ h40 H
        refine Ow_pass rfl rfl rfl rfl rfl rfl rfl ?_
        refine Ow_pass rfl rfl rfl rfl rfl rfl rfl ?_
        refine Ow_pass rfl rfl rfl rfl rfl rfl rfl ?_
        refine Ow_q rfl rfl rfl (Qt_pick_f rfl rfl) ?_
        refine Ow_q rfl rfl rfl (Qt_assign rfl) ?_
        refine Ow_nil ?_
        refine Shift.rem .here ?_
        refine Shift.rem .here ?_
        refine Shift.done ?_
        exact ⟨[(6, (.bool false))], ⟨rfl, trivial⟩, false, rfl, rfl, rfl, H⟩
    · intro h39
      have h39 := dcd_f (h39)
      have H := iff_ h39 H
      refine Ow_pass rfl rfl rfl rfl rfl rfl rfl ?_
      refine Ow_pass rfl rfl rfl rfl rfl rfl rfl ?_
      refine Ow_q rfl rfl rfl (Qt_pick_f rfl rfl) ?_
      refine Ow_q rfl rfl rfl (Qt_move rfl) ?_
      refine Ow_pass rfl rfl rfl rfl rfl rfl rfl ?_
      refine Ow_pass rfl rfl rfl rfl rfl rfl rfl ?_
      refine Ow_pass rfl rfl rfl rfl rfl rfl rfl ?_
      refine Ow_q rfl rfl rfl (Qt_pick_f rfl rfl) ?_
      refine Ow_q rfl rfl rfl (Qt_assign rfl) ?_
      refine Ow_nil ?_
      refine Shift.rem .here ?_
      refine Shift.rem .here ?_
      refine Shift.done ?_
      exact ⟨[(6, (.bool false))], ⟨rfl, trivial⟩, false, rfl, rfl, rfl, H⟩
  rintro _ _ _ - ⟨t38, rfl, rfl, rfl, H⟩
  unfold M_ref16_Precedes_J1 at H
  refine Cw_ret ?_
  obtain ey0 := inj1 H
  subst y0
  refine ⟨(by first | exact .inl rfl | exact .inr rfl), [(.bool t38)], ⟨(.bool t38), _, rfl, rfl, rfl⟩, ?_⟩
  refine Shift.done ?_
  exact ⟨rfl, rfl⟩

set_option maxHeartbeats 1000000 in
theorem c_M_ref16_Returned (p0 : List Event) (vp0 : SV) (p1 : Int) (p2 : Int) (y0 : Result) (y1 : Int) (H : M_ref16_Returned p0 p1 p2 = some (y0, y1)) (K : Kp) (G : List Ent) (hp0 : Slr TyEvent K (sv vp0) p0) :
    Fc Try.prog 25 #[(sv vp0), (.int .i64 p1), (.int .i64 p2)] K (G) (fun v K' G' => v = (.tuple #[(.agg (Result.cells y0).toArray), (.int .i64 y1)]) ∧ G = G') := by
  refine Fc_body Try.func25 rfl Try.ntmps25 Try.results25 rfl ?_
  unfold M_ref16_Returned at H
  refine Cw_seq ?_
  refine Cw_region ?_
  refine Ow_cons rfl (OpW_alloc (cs := (Result.cells (Result.mk 0 0 0 false 0))) rfl rfl rfl rfl (fun b13 => ?_))
  refine Ow_q rfl rfl rfl (Qt_assign rfl) ?_
  refine Ow_nil ?_
  refine Cw_seq ?_
  refine Cw_region ?_
  refine Ow_q rfl rfl rfl (Qt_move rfl) ?_
  refine Ow_q rfl rfl rfl (Qt_move rfl) ?_
  refine Ow_q rfl rfl rfl (Qt_move rfl) ?_
  obtain ⟨x14, hx15, H⟩ := bnd H
  refine Ow_cons rfl (OpW_call rfl Try.call47 rfl rfl (c_M_ref16_find p0 vp0 p1 p2 true x14 hx15 _ _ hp0) ?_)
  rintro _ K16 _ hK17 ⟨rfl, rfl⟩
  refine Ow_q rfl rfl rfl (Qt_assign rfl) ?_
  refine Ow_nil ?_
  refine Cw_seq ?_
  refine Cw_seq ?_
  refine Cw_region ?_
  refine Ow_q rfl rfl rfl (Qt_move rfl) ?_
  refine Ow_q rfl rfl rfl (Qt_cmp rfl rfl rfl) ?_
  refine Ow_nil ?_
  refine Cw_cond rfl ?_ ?_
  · intro h19
    have h19 := dcd_t (h19)
    have H := ift h19 H
    refine Cw_seq ?_
    refine Cw_region ?_
    refine Ow_q rfl rfl rfl (Qt_build (cs := (Result.cells (Result.mk 0 0 0 false 0))) rfl rfl rfl rfl rfl rfl) ?_
    refine Ow_cons rfl (OpW_store (vs := (Result.cells (Result.mk 0 0 0 false 0))) (all' := (Result.cells (Result.mk 0 0 0 false 0))) rfl rfl rfl rfl rfl .here rfl rfl rfl ?_)
    refine Ow_q rfl rfl rfl (Qt_assign rfl) ?_
    refine Ow_nil ?_
    refine Cw_ret ?_
    obtain ⟨ey0, ey1⟩ := inj2 H
    subst y0 y1
    refine ⟨(by first | exact .inl rfl | exact .inr rfl), [(.agg (Result.cells (Result.mk 0 0 0 false 0)).toArray), (.int .i64 (-1))], ⟨(.agg (Result.cells (Result.mk 0 0 0 false 0)).toArray), _, rfl, ⟨_, 5, (Result.cells (Result.mk 0 0 0 false 0)), rfl, rfl, rfl, rfl, ⟨rfl, Rdc.blk (.head _) rfl⟩, rfl⟩, ⟨(.int .i64 (-1)), _, rfl, rfl, rfl⟩⟩, ?_⟩
    refine Shift.rem .here ?_
    refine Shift.done ?_
    exact ⟨rfl, rfl⟩
  · intro h19
    have h19 := dcd_f (h19)
    have H := iff_ h19 H
    refine Cw_skip ?_
    refine Cw_seq ?_
    refine Cw_region ?_
    refine Ow_q rfl rfl rfl (Qt_move rfl) ?_
    refine Ow_q rfl rfl rfl (Qt_move rfl) ?_
    obtain ⟨x20, hx21, H⟩ := bnd H
    have hs22 := (hp0).mono hK17
    obtain ⟨r23, hr24, hk25⟩ := Slr.at hs22 hx21
    obtain rfl := hr24
    refine Ow_q rfl rfl rfl (Q_ix (T := TyEvent) hs22 hx21 rfl rfl rfl rfl rfl) ?_
    refine Ow_q rfl rfl rfl (Qt_fieldAddr (m := 3) rfl rfl rfl rfl rfl) ?_
    refine Ow_q rfl rfl rfl (Qt_loadA (m := 5) (cs := (Result.cells x20.result)) rfl rfl rfl rfl ⟨rfl, Rdc.k hk25 rfl⟩) ?_
    refine Ow_q rfl rfl rfl (Qt_move rfl) ?_
    refine Ow_cons rfl (OpW_store (vs := (Result.cells x20.result)) (all' := (Result.cells x20.result)) rfl rfl rfl rfl rfl .here rfl rfl rfl ?_)
    refine Ow_q rfl rfl rfl (Qt_assign rfl) ?_
    refine Ow_nil ?_
    refine Cw_ret ?_
    obtain ⟨ey0, ey1⟩ := inj2 H
    subst y0 y1
    refine ⟨(by first | exact .inl rfl | exact .inr rfl), [(.agg (Result.cells x20.result).toArray), (.int .i64 x14)], ⟨(.agg (Result.cells x20.result).toArray), _, rfl, ⟨_, 5, (Result.cells x20.result), rfl, rfl, rfl, rfl, ⟨rfl, Rdc.blk (.head _) rfl⟩, rfl⟩, ⟨(.int .i64 x14), _, rfl, rfl, rfl⟩⟩, ?_⟩
    refine Shift.rem .here ?_
    refine Shift.done ?_
    exact ⟨rfl, rfl⟩

set_option maxHeartbeats 1000000 in
theorem c_M_ref16_Called (p0 : List Event) (vp0 : SV) (p1 : Int) (p2 : Int) (y0 : Int) (H : M_ref16_Called p0 p1 p2 = some y0) (K : Kp) (G : List Ent) (hp0 : Slr TyEvent K (sv vp0) p0) :
    Fc Try.prog 27 #[(sv vp0), (.int .i64 p1), (.int .i64 p2)] K (G) (fun v K' G' => v = (.int .i64 y0) ∧ G = G') := by
  refine Fc_body Try.func27 rfl Try.ntmps27 Try.results27 rfl ?_
  unfold M_ref16_Called at H
  refine Cw_seq ?_
  refine Cw_region ?_
  refine Ow_q rfl rfl rfl (Qt_assign rfl) ?_
  refine Ow_nil ?_
  refine Cw_seq ?_
  refine Cw_region ?_
  refine Ow_q rfl rfl rfl (Qt_move rfl) ?_
  refine Ow_q rfl rfl rfl (Qt_move rfl) ?_
  refine Ow_q rfl rfl rfl (Qt_move rfl) ?_
  obtain ⟨x5, hx6, H⟩ := bnd H
  refine Ow_cons rfl (OpW_call rfl Try.call47 rfl rfl (c_M_ref16_find p0 vp0 p1 p2 false x5 hx6 _ _ hp0) ?_)
  rintro _ K7 _ hK8 ⟨rfl, rfl⟩
  refine Ow_q rfl rfl rfl (Qt_assign rfl) ?_
  refine Ow_nil ?_
  refine Cw_ret ?_
  obtain ey0 := inj1 H
  subst y0
  refine ⟨(by first | exact .inl rfl | exact .inr rfl), [(.int .i64 x5)], ⟨(.int .i64 x5), _, rfl, rfl, rfl⟩, ?_⟩
  refine Shift.done ?_
  exact ⟨rfl, rfl⟩

set_option maxHeartbeats 1000000 in
theorem c_M_ref16_Without (p0 : List Event) (vp0 : SV) (p1 : Int) (y0 : List Event) (H : M_ref16_Without p0 p1 = some y0) (K : Kp) (G : List Ent) (hp0 : Slr TyEvent K (sv vp0) p0) :
    Fc Try.prog 30 #[(sv vp0), (.int .i64 p1)] K (G) (fun v K' G' => ∃ (wy0 : SV), v = (sv wy0) ∧ (.tok 34 8 [(sv wy0)]) :: G = G' ∧ Slr TyEvent K' (sv wy0) y0) := by
  refine Fc_body Try.func30 rfl Try.ntmps30 Try.results30 rfl ?_
  unfold M_ref16_Without at H
  refine Cw_seq ?_
  refine Cw_region ?_
  refine Ow_q rfl rfl rfl (Qt_assign rfl) ?_
  refine Ow_nil ?_
  refine Cw_seq ?_
  refine Cw_region ?_
  refine Ow_q rfl rfl rfl (Qt_assign rfl) ?_
  refine Ow_nil ?_
  refine Cw_join (fun env' K' G' => ∃ (v113 : SV) (l114 : List Event), [(5, (sv v113))] = env' ∧ (.tok 34 8 [(sv v113)]) :: G = G' ∧ M_ref16_Without_J1 l114 = some y0 ∧ Slr TyEvent K' (sv v113) l114) ?_ ?_
  · skip
    refine Cw_seq ?_
    refine Cw_region ?_
    refine Ow_q rfl rfl rfl (Qt_assign rfl) ?_
    refine Ow_nil ?_
    refine Cw_block ?_
    refine Cw_loopM (fun n170 env' K' G' => ∃ (v166 : SV) (l167 : List Event) (i169 : Int), [(0, (sv vp0)), (1, (.int .i64 p1)), (5, (sv v166)), (6, (.int .i64 i169))] = env' ∧ (.tok 34 8 [(sv v166)]) :: G = G' ∧ lp2 (M_ref16_Without_L1 p0 p1) n170 l167 i169 = some y0 ∧ Slr TyEvent K' (sv v166) l167) BIG ?_ ?_
    · skip
      refine Shift.nilTok1 34 8 ?_
      refine Shift.done ?_
      exact ⟨[(0, (sv vp0)), (1, (.int .i64 p1)), (5, (sv nilS)), (6, (.int .i64 0))], ⟨rfl, rfl, rfl, rfl, trivial⟩, nilS, ([] : List Event), 0, rfl, rfl, H, (Slr.nil TyEvent _)⟩
    rintro n170 _ K171 _ hK172 ⟨v166, l167, i169, rfl, rfl, H, hs168⟩
    obtain ⟨m173, k174, rfl, hkk175, H⟩ := lps2 H
    unfold M_ref16_Without_L1 at H
    refine Cw_seq ?_
    refine Cw_seq ?_
    refine Cw_region ?_
    refine Ow_q rfl rfl rfl (Qt_move rfl) ?_
    refine Ow_q rfl rfl rfl (Qt_move rfl) ?_
    have hs178 := (hp0).mono hK172
    refine Ow_q rfl rfl rfl (Q_len (T := TyEvent) hs178 rfl rfl) ?_
    refine Ow_q rfl rfl rfl (Qt_cmp rfl rfl rfl) ?_
    refine Ow_nil ?_
    refine Cw_cond rfl ?_ ?_
    · intro h179
      have h179 := dcd_t (h179)
      have H := ift h179 H
      refine Cw_skip ?_
      refine Cw_seq ?_
      refine Cw_block ?_
      refine Cw_seq ?_
      refine Cw_region ?_
      refine Ow_q rfl rfl rfl (Qt_move rfl) ?_
      refine Ow_q rfl rfl rfl (Qt_move rfl) ?_
      obtain ⟨x199, hx200, H⟩ := bnd H
      obtain ⟨r201, hr202, hk203⟩ := Slr.at hs178 hx200
      obtain rfl := hr202
      refine Ow_q rfl rfl rfl (Q_ix (T := TyEvent) hs178 hx200 rfl rfl rfl rfl rfl) ?_
      refine Ow_q rfl rfl rfl (Qt_fieldAddr (m := 0) rfl rfl rfl rfl rfl) ?_
      refine Ow_q rfl rfl rfl (Qt_load1 (v := (.int .i64 x199.thread)) rfl rfl rfl (Rdc.k hk203 rfl)) ?_
      refine Ow_q rfl rfl rfl (Qt_move rfl) ?_
      refine Ow_q rfl rfl rfl (Qt_cmp rfl rfl rfl) ?_
      refine Ow_nil ?_
      refine Cw_cond rfl ?_ ?_
      · intro h204
        have h204 := dcd_f (nt_t (h204))
        have H := iff_ h204 H
        refine Cw_region ?_
        refine Ow_q rfl rfl rfl (Qt_move rfl) ?_
        refine Ow_q rfl rfl rfl (Qt_move rfl) ?_
        refine Ow_q rfl rfl rfl (Qt_move rfl) ?_
        obtain ⟨x205, hx206, H⟩ := bnd H
        obtain ⟨r207, hr208, hk209⟩ := Slr.at hs178 hx206
        obtain rfl := hr208
        refine Ow_q rfl rfl rfl (Q_ix (T := TyEvent) hs178 hx206 rfl rfl rfl rfl rfl) ?_
        refine Ow_q rfl rfl rfl (Qt_loadA (m := 8) (cs := (Event.cells x205)) rfl rfl rfl rfl ⟨rfl, Rdc.k hk209 rfl⟩) ?_
        have hR211 : RowR TyEvent K171 [(Event.cells x205)] [x205] := RowR.cons rfl (RowR.nil)
        refine Ow_cons rfl (O_lit (T := TyEvent) (rows := [(Event.cells x205)]) (l := [x205]) rfl rfl rfl hR211 rfl rfl rfl rfl rfl rfl rfl rfl (fun v210 => ?_))
        obtain ⟨x212, hx213, H⟩ := bnd H
        refine Ow_cons rfl (O_appTok (T := TyEvent) (bytes := 64) (q := 0) rfl rfl rfl hs168 (.tail _ (.head _)) rfl (SrcT.row (.head _) hR211 rfl) hx213 rfl rfl rfl rfl rfl rfl rfl rfl (fun v214 K215 hK216 hs217 => ⟨_, (.there .here), ?_⟩))
        refine Ow.shift (Shift.rem .here (Shift.done ?_))
        refine Ow_q rfl rfl rfl (Qt_assign rfl) ?_
        refine Ow_nil ?_
        refine Cw_region ?_
        refine Ow_q rfl rfl rfl (Qt_move rfl) ?_
        refine Ow_q rfl rfl rfl (Qt_arith (e := wI (i169 + 1)) rfl rfl rfl rfl) ?_
        refine Ow_q rfl rfl rfl (Qt_assign rfl) ?_
        refine Ow_nil ?_
        refine Shift.done ?_
        exact ⟨[(0, (sv vp0)), (1, (.int .i64 p1)), (5, (sv v214)), (6, (.int .i64 (wI (i169 + 1))))], ⟨rfl, rfl, rfl, rfl, trivial⟩, _, Nat.lt_succ_self _, v214, x212, (wI (i169 + 1)), rfl, rfl, (hkk175 ▸ H), hs217⟩
      · intro h204
        have h204 := dcd_t (nt_f (h204))
        have H := ift h204 H
        refine Cw_skip ?_
        refine Cw_region ?_
        refine Ow_q rfl rfl rfl (Qt_move rfl) ?_
        refine Ow_q rfl rfl rfl (Qt_arith (e := wI (i169 + 1)) rfl rfl rfl rfl) ?_
        refine Ow_q rfl rfl rfl (Qt_assign rfl) ?_
        refine Ow_nil ?_
        refine Shift.done ?_
        exact ⟨[(0, (sv vp0)), (1, (.int .i64 p1)), (5, (sv v166)), (6, (.int .i64 (wI (i169 + 1))))], ⟨rfl, rfl, rfl, rfl, trivial⟩, _, Nat.lt_succ_self _, v166, l167, (wI (i169 + 1)), rfl, rfl, (hkk175 ▸ H), hs168⟩
    · intro h179
      have h179 := dcd_f (h179)
      have H := iff_ h179 H
      refine Cw_exit ?_
      refine Shift.done ?_
      exact ⟨[(5, (sv v166))], ⟨rfl, trivial⟩, v166, l167, rfl, rfl, H, hs168⟩
  rintro _ K218 _ hK219 ⟨v113, l114, rfl, rfl, H, hs115⟩
  unfold M_ref16_Without_J1 at H
  refine Cw_seq ?_
  refine Cw_region ?_
  refine Ow_q rfl rfl rfl (Qt_move rfl) ?_
  refine Ow_q rfl rfl rfl (Qt_assign rfl) ?_
  refine Ow_nil ?_
  refine Cw_ret ?_
  obtain ey0 := inj1 H
  subst y0
  refine ⟨(by first | exact .inl rfl | exact .inr rfl), [(sv v113)], ⟨(sv v113), _, rfl, rfl, rfl⟩, ?_⟩
  refine Shift.done ?_
  exact ⟨v113, rfl, rfl, hs115⟩

set_option maxHeartbeats 1000000 in
theorem c_M_ref16_SameEvents (p0 : List Event) (vp0 : SV) (p1 : List Event) (vp1 : SV) (y0 : Bool) (H : M_ref16_SameEvents p0 p1 = some y0) (K : Kp) (G : List Ent) (hp0 : Slr TyEvent K (sv vp0) p0) (hp1 : Slr TyEvent K (sv vp1) p1) :
    Fc Try.prog 28 #[(sv vp0), (sv vp1)] K (G) (fun v K' G' => v = (.bool y0) ∧ G = G') := by
  refine Fc_body Try.func28 rfl Try.ntmps28 Try.results28 rfl ?_
  unfold M_ref16_SameEvents at H
  refine Cw_seq ?_
  refine Cw_region ?_
  refine Ow_q rfl rfl rfl (Qt_assign rfl) ?_
  refine Ow_nil ?_
  refine Cw_seq ?_
  refine Cw_seq ?_
  refine Cw_region ?_
  refine Ow_q rfl rfl rfl (Qt_move rfl) ?_
  refine Ow_q rfl rfl rfl (Q_len (T := TyEvent) hp0 rfl rfl) ?_
  refine Ow_q rfl rfl rfl (Qt_move rfl) ?_
  refine Ow_q rfl rfl rfl (Q_len (T := TyEvent) hp1 rfl rfl) ?_
  refine Ow_q rfl rfl rfl (Qt_cmp rfl rfl rfl) ?_
  refine Ow_nil ?_
  refine Cw_cond rfl ?_ ?_
  · intro h53
    have h53 := dcd_f (nt_t (h53))
    have H := iff_ h53 H
    refine Cw_seq ?_
    refine Cw_region ?_
    refine Ow_q rfl rfl rfl (Qt_assign rfl) ?_
    refine Ow_nil ?_
    refine Cw_ret ?_
    obtain ey0 := inj1 H
    subst y0
    refine ⟨(by first | exact .inl rfl | exact .inr rfl), [(.bool false)], ⟨(.bool false), _, rfl, rfl, rfl⟩, ?_⟩
    refine Shift.done ?_
    exact ⟨rfl, rfl⟩
  · intro h53
    have h53 := dcd_t (nt_f (h53))
    have H := ift h53 H
    refine Cw_skip ?_
    refine Cw_join (fun env' K' G' => [] = env' ∧ G = G' ∧ M_ref16_SameEvents_J1 = some y0) ?_ ?_
    · skip
      refine Cw_seq ?_
      refine Cw_region ?_
      refine Ow_q rfl rfl rfl (Qt_assign rfl) ?_
      refine Ow_nil ?_
      refine Cw_block ?_
      refine Cw_loopM (fun n150 env' K' G' => ∃ (i149 : Int), [(0, (sv vp0)), (1, (sv vp1)), (5, (.int .i64 i149))] = env' ∧ K = K' ∧ G = G' ∧ lp1 (M_ref16_SameEvents_L1 p0 p1) n150 i149 = some y0) BIG ?_ ?_
      · skip
        refine Shift.done ?_
        exact ⟨[(0, (sv vp0)), (1, (sv vp1)), (5, (.int .i64 0))], ⟨rfl, rfl, rfl, trivial⟩, 0, rfl, rfl, rfl, H⟩
      rintro n150 _ _ _ - ⟨i149, rfl, rfl, rfl, H⟩
      obtain ⟨m151, k152, rfl, hkk153, H⟩ := lps1 H
      unfold M_ref16_SameEvents_L1 at H
      refine Cw_seq ?_
      refine Cw_seq ?_
      refine Cw_region ?_
      refine Ow_q rfl rfl rfl (Qt_move rfl) ?_
      refine Ow_q rfl rfl rfl (Qt_move rfl) ?_
      refine Ow_q rfl rfl rfl (Q_len (T := TyEvent) hp0 rfl rfl) ?_
      refine Ow_q rfl rfl rfl (Qt_cmp rfl rfl rfl) ?_
      refine Ow_nil ?_
      refine Cw_cond rfl ?_ ?_
      · intro h155
        have h155 := dcd_t (h155)
        have H := ift h155 H
        refine Cw_skip ?_
        refine Cw_seq ?_
        refine Cw_block ?_
        refine Cw_seq ?_
        obtain ⟨x173, hx174, H⟩ := bnd H
        obtain ⟨x178, hx179, H⟩ := bnd H
        refine Cw_region_any [] rfl Inc.nil ?_
        refine Aw_q 0 rfl (by kernel_rfl) (by kernel_rfl) (by kernel_rfl) rfl rfl rfl (Qt_move rfl) ?_
        refine Aw_q 1 rfl (by kernel_rfl) (by kernel_rfl) (by kernel_rfl) rfl rfl rfl (Qt_move rfl) ?_
        obtain ⟨r183, hr184, hk185⟩ := Slr.at hp0 hx174
        obtain rfl := hr184
        refine Aw_q 2 rfl (by kernel_rfl) (by kernel_rfl) (by kernel_rfl) rfl rfl rfl (Q_ix (T := TyEvent) hp0 hx174 rfl rfl rfl rfl rfl) ?_
        refine Aw_q 3 rfl (by kernel_rfl) (by kernel_rfl) (by kernel_rfl) rfl rfl rfl (Qt_loadA (m := 8) (cs := (Event.cells x173)) rfl rfl rfl rfl ⟨rfl, Rdc.k hk185 rfl⟩) ?_
        refine Aw_q 4 rfl (by kernel_rfl) (by kernel_rfl) (by kernel_rfl) rfl rfl rfl (Qt_move rfl) ?_
        refine Aw_q 5 rfl (by kernel_rfl) (by kernel_rfl) (by kernel_rfl) rfl rfl rfl (Qt_move rfl) ?_
        obtain ⟨r186, hr187, hk188⟩ := Slr.at hp1 hx179
        obtain rfl := hr187
        refine Aw_q 6 rfl (by kernel_rfl) (by kernel_rfl) (by kernel_rfl) rfl rfl rfl (Q_ix (T := TyEvent) hp1 hx179 rfl rfl rfl rfl rfl) ?_
        refine Aw_q 7 rfl (by kernel_rfl) (by kernel_rfl) (by kernel_rfl) rfl rfl rfl (Qt_loadA (m := 8) (cs := (Event.cells x178)) rfl rfl rfl rfl ⟨rfl, Rdc.k hk188 rfl⟩) ?_
        refine Aw_q 8 rfl (by kernel_rfl) (by kernel_rfl) (by kernel_rfl) rfl rfl rfl (Qt_neS rfl rfl (fun w => Event.eqrun x173 x178 w) (by kernel_rfl)) ?_
        refine Aw_done (by kernel_rfl) ?_
        refine Cw_cond rfl ?_ ?_
        · intro h189
          have h189 := dcd_f (nt_t (h189))
          have H := iff_ h189 H
          refine Cw_seq ?_
          refine Cw_region ?_
          refine Ow_q rfl rfl rfl (Qt_assign rfl) ?_
          refine Ow_nil ?_
          refine Cw_ret ?_
          obtain ey0 := inj1 H
          subst y0
          refine ⟨(by first | exact .inl rfl | exact .inr rfl), [(.bool false)], ⟨(.bool false), _, rfl, rfl, rfl⟩, ?_⟩
          refine Shift.done ?_
          exact ⟨rfl, rfl⟩
        · intro h189
          have h189 := dcd_t (nt_f (h189))
          have H := ift h189 H
          refine Cw_skip ?_
          refine Cw_region ?_
          refine Ow_q rfl rfl rfl (Qt_move rfl) ?_
          refine Ow_q rfl rfl rfl (Qt_arith (e := wI (i149 + 1)) rfl rfl rfl rfl) ?_
          refine Ow_q rfl rfl rfl (Qt_assign rfl) ?_
          refine Ow_nil ?_
          refine Shift.done ?_
          exact ⟨[(0, (sv vp0)), (1, (sv vp1)), (5, (.int .i64 (wI (i149 + 1))))], ⟨rfl, rfl, rfl, trivial⟩, _, Nat.lt_succ_self _, (wI (i149 + 1)), rfl, rfl, rfl, (hkk153 ▸ H)⟩
      · intro h155
        have h155 := dcd_f (h155)
        have H := iff_ h155 H
        refine Cw_exit ?_
        refine Shift.done ?_
        exact ⟨[], trivial, rfl, rfl, H⟩
    rintro _ K190 _ hK191 ⟨rfl, rfl, H⟩
    unfold M_ref16_SameEvents_J1 at H
    refine Cw_seq ?_
    refine Cw_region ?_
    refine Ow_q rfl rfl rfl (Qt_assign rfl) ?_
    refine Ow_nil ?_
    refine Cw_ret ?_
    obtain ey0 := inj1 H
    subst y0
    refine ⟨(by first | exact .inl rfl | exact .inr rfl), [(.bool true)], ⟨(.bool true), _, rfl, rfl, rfl⟩, ?_⟩
    refine Shift.done ?_
    exact ⟨rfl, rfl⟩

set_option maxHeartbeats 1000000 in
theorem c_M_ref16_SameCalls (p0 : List A2Int) (vp0 : SV) (p1 : List A2Int) (vp1 : SV) (y0 : Bool) (H : M_ref16_SameCalls p0 p1 = some y0) (K : Kp) (G : List Ent) (hp0 : Slr TyA2Int K (sv vp0) p0) (hp1 : Slr TyA2Int K (sv vp1) p1) :
    Fc Try.prog 31 #[(sv vp0), (sv vp1)] K (G) (fun v K' G' => v = (.bool y0) ∧ G = G') := by
  refine Fc_body Try.func31 rfl Try.ntmps31 Try.results31 rfl ?_
  unfold M_ref16_SameCalls at H
  refine Cw_seq ?_
  refine Cw_region ?_
  refine Ow_q rfl rfl rfl (Qt_assign rfl) ?_
  refine Ow_nil ?_
  refine Cw_seq ?_
  refine Cw_seq ?_
  refine Cw_region ?_
  refine Ow_q rfl rfl rfl (Qt_move rfl) ?_
  refine Ow_q rfl rfl rfl (Q_len (T := TyA2Int) hp0 rfl rfl) ?_
  refine Ow_q rfl rfl rfl (Qt_move rfl) ?_
  refine Ow_q rfl rfl rfl (Q_len (T := TyA2Int) hp1 rfl rfl) ?_
  refine Ow_q rfl rfl rfl (Qt_cmp rfl rfl rfl) ?_
  refine Ow_nil ?_
  refine Cw_cond rfl ?_ ?_
  · intro h53
    have h53 := dcd_f (nt_t (h53))
    have H := iff_ h53 H
    refine Cw_seq ?_
    refine Cw_region ?_
    refine Ow_q rfl rfl rfl (Qt_assign rfl) ?_
    refine Ow_nil ?_
    refine Cw_ret ?_
    obtain ey0 := inj1 H
    subst y0
    refine ⟨(by first | exact .inl rfl | exact .inr rfl), [(.bool false)], ⟨(.bool false), _, rfl, rfl, rfl⟩, ?_⟩
    refine Shift.done ?_
    exact ⟨rfl, rfl⟩
  · intro h53
    have h53 := dcd_t (nt_f (h53))
    have H := ift h53 H
    refine Cw_skip ?_
    refine Cw_join (fun env' K' G' => [] = env' ∧ G = G' ∧ M_ref16_SameCalls_J1 = some y0) ?_ ?_
    · skip
      refine Cw_seq ?_
      refine Cw_region ?_
      refine Ow_q rfl rfl rfl (Qt_assign rfl) ?_
      refine Ow_nil ?_
      refine Cw_block ?_
      refine Cw_loopM (fun n150 env' K' G' => ∃ (i149 : Int), [(0, (sv vp0)), (1, (sv vp1)), (5, (.int .i64 i149))] = env' ∧ K = K' ∧ G = G' ∧ lp1 (M_ref16_SameCalls_L1 p0 p1) n150 i149 = some y0) BIG ?_ ?_
      · skip
        refine Shift.done ?_
        exact ⟨[(0, (sv vp0)), (1, (sv vp1)), (5, (.int .i64 0))], ⟨rfl, rfl, rfl, trivial⟩, 0, rfl, rfl, rfl, H⟩
      rintro n150 _ _ _ - ⟨i149, rfl, rfl, rfl, H⟩
      obtain ⟨m151, k152, rfl, hkk153, H⟩ := lps1 H
      unfold M_ref16_SameCalls_L1 at H
      refine Cw_seq ?_
      refine Cw_seq ?_
      refine Cw_region ?_
      refine Ow_q rfl rfl rfl (Qt_move rfl) ?_
      refine Ow_q rfl rfl rfl (Qt_move rfl) ?_
      refine Ow_q rfl rfl rfl (Q_len (T := TyA2Int) hp0 rfl rfl) ?_
      refine Ow_q rfl rfl rfl (Qt_cmp rfl rfl rfl) ?_
      refine Ow_nil ?_
      refine Cw_cond rfl ?_ ?_
      · intro h155
        have h155 := dcd_t (h155)
        have H := ift h155 H
        refine Cw_skip ?_
        refine Cw_seq ?_
        refine Cw_block ?_
        refine Cw_seq ?_
        obtain ⟨x173, hx174, H⟩ := bnd H
        obtain ⟨x178, hx179, H⟩ := bnd H
        refine Cw_region_any [] rfl Inc.nil ?_
        refine Aw_q 0 rfl (by kernel_rfl) (by kernel_rfl) (by kernel_rfl) rfl rfl rfl (Qt_move rfl) ?_
        refine Aw_q 1 rfl (by kernel_rfl) (by kernel_rfl) (by kernel_rfl) rfl rfl rfl (Qt_move rfl) ?_
        obtain ⟨r183, hr184, hk185⟩ := Slr.at hp0 hx174
        obtain rfl := hr184
        refine Aw_q 2 rfl (by kernel_rfl) (by kernel_rfl) (by kernel_rfl) rfl rfl rfl (Q_ix (T := TyA2Int) hp0 hx174 rfl rfl rfl rfl rfl) ?_
        refine Aw_q 3 rfl (by kernel_rfl) (by kernel_rfl) (by kernel_rfl) rfl rfl rfl (Qt_loadA (m := 2) (cs := (A2Int.cells x173)) rfl rfl rfl rfl ⟨rfl, Rdc.k hk185 rfl⟩) ?_
        refine Aw_q 4 rfl (by kernel_rfl) (by kernel_rfl) (by kernel_rfl) rfl rfl rfl (Qt_move rfl) ?_
        refine Aw_q 5 rfl (by kernel_rfl) (by kernel_rfl) (by kernel_rfl) rfl rfl rfl (Qt_move rfl) ?_
        obtain ⟨r186, hr187, hk188⟩ := Slr.at hp1 hx179
        obtain rfl := hr187
        refine Aw_q 6 rfl (by kernel_rfl) (by kernel_rfl) (by kernel_rfl) rfl rfl rfl (Q_ix (T := TyA2Int) hp1 hx179 rfl rfl rfl rfl rfl) ?_
        refine Aw_q 7 rfl (by kernel_rfl) (by kernel_rfl) (by kernel_rfl) rfl rfl rfl (Qt_loadA (m := 2) (cs := (A2Int.cells x178)) rfl rfl rfl rfl ⟨rfl, Rdc.k hk188 rfl⟩) ?_
        refine Aw_q 8 rfl (by kernel_rfl) (by kernel_rfl) (by kernel_rfl) rfl rfl rfl (Qt_neS rfl rfl (fun w => A2Int.eqrun x173 x178 w) (by kernel_rfl)) ?_
        refine Aw_done (by kernel_rfl) ?_
        refine Cw_cond rfl ?_ ?_
        · intro h189
          have h189 := dcd_f (nt_t (h189))
          have H := iff_ h189 H
          refine Cw_seq ?_
          refine Cw_region ?_
          refine Ow_q rfl rfl rfl (Qt_assign rfl) ?_
          refine Ow_nil ?_
          refine Cw_ret ?_
          obtain ey0 := inj1 H
          subst y0
          refine ⟨(by first | exact .inl rfl | exact .inr rfl), [(.bool false)], ⟨(.bool false), _, rfl, rfl, rfl⟩, ?_⟩
          refine Shift.done ?_
          exact ⟨rfl, rfl⟩
        · intro h189
          have h189 := dcd_t (nt_f (h189))
          have H := ift h189 H
          refine Cw_skip ?_
          refine Cw_region ?_
          refine Ow_q rfl rfl rfl (Qt_move rfl) ?_
          refine Ow_q rfl rfl rfl (Qt_arith (e := wI (i149 + 1)) rfl rfl rfl rfl) ?_
          refine Ow_q rfl rfl rfl (Qt_assign rfl) ?_
          refine Ow_nil ?_
          refine Shift.done ?_
          exact ⟨[(0, (sv vp0)), (1, (sv vp1)), (5, (.int .i64 (wI (i149 + 1))))], ⟨rfl, rfl, rfl, trivial⟩, _, Nat.lt_succ_self _, (wI (i149 + 1)), rfl, rfl, rfl, (hkk153 ▸ H)⟩
      · intro h155
        have h155 := dcd_f (h155)
        have H := iff_ h155 H
        refine Cw_exit ?_
        refine Shift.done ?_
        exact ⟨[], trivial, rfl, rfl, H⟩
    rintro _ K190 _ hK191 ⟨rfl, rfl, H⟩
    unfold M_ref16_SameCalls_J1 at H
    refine Cw_seq ?_
    refine Cw_region ?_
    refine Ow_q rfl rfl rfl (Qt_assign rfl) ?_
    refine Ow_nil ?_
    refine Cw_ret ?_
    obtain ey0 := inj1 H
    subst y0
    refine ⟨(by first | exact .inl rfl | exact .inr rfl), [(.bool true)], ⟨(.bool true), _, rfl, rfl, rfl⟩, ?_⟩
    refine Shift.done ?_
    exact ⟨rfl, rfl⟩

set_option maxHeartbeats 1000000 in
theorem c_M_ref16_Open (p0 : List Event) (vp0 : SV) (y0 : List A2Int) (H : M_ref16_Open p0 = some y0) (K : Kp) (G : List Ent) (hp0 : Slr TyEvent K (sv vp0) p0) :
    Fc Try.prog 32 #[(sv vp0)] K (G) (fun v K' G' => ∃ (wy0 : SV), v = (sv wy0) ∧ (.tok 36 2 [(sv wy0)]) :: G = G' ∧ Slr TyA2Int K' (sv wy0) y0) := by
  refine Fc_body Try.func32 rfl Try.ntmps32 Try.results32 rfl ?_
  unfold M_ref16_Open at H
  refine Cw_seq ?_
  refine Cw_region ?_
  refine Ow_q rfl rfl rfl (Qt_assign rfl) ?_
  refine Ow_nil ?_
  refine Cw_seq ?_
  refine Cw_region ?_
  refine Ow_q rfl rfl rfl (Qt_assign rfl) ?_
  refine Ow_nil ?_
  refine Cw_seq ?_
  refine Cw_region ?_
  refine Ow_q rfl rfl rfl (Qt_move rfl) ?_
  obtain ⟨x107, hx108, H⟩ := bnd H
  refine Ow_cons rfl (OpW_call rfl Try.call19 rfl rfl (c_M_ref16_Calls p0 vp0 x107 hx108 _ _ hp0) ?_)
  rintro _ K110 _ hK111 ⟨v109, rfl, rfl, hs112⟩
  refine Ow_q rfl rfl rfl (Qt_assign rfl) ?_
  refine Ow_nil ?_
  refine Cw_join (fun env' K' G' => ∃ (v208 : SV) (l209 : List A2Int), [(3, (sv v208))] = env' ∧ (.tok 36 2 [(sv v208)]) :: G = G' ∧ M_ref16_Open_J1 l209 = some y0 ∧ Slr TyA2Int K' (sv v208) l209) ?_ ?_
  · skip
    refine Cw_seq ?_
    refine Cw_region ?_
    refine Ow_q rfl rfl rfl (Qt_assign rfl) ?_
    refine Ow_nil ?_
    refine Cw_block ?_
    refine Cw_loopM (fun n306 env' K' G' => ∃ (v302 : SV) (l303 : List A2Int) (i305 : Int), [(0, (sv vp0)), (3, (sv v302)), (4, (sv v109)), (5, (.int .i64 i305))] = env' ∧ (.tok 36 2 [(sv v302)]) :: (.tok 36 2 [(sv v109)]) :: G = G' ∧ lp2 (M_ref16_Open_L1 p0 x107) n306 l303 i305 = some y0 ∧ Slr TyA2Int K' (sv v302) l303) BIG ?_ ?_
    · skip
      refine Shift.nilTok1 36 2 ?_
      refine Shift.pull (.there .here) ?_
      refine Shift.pull (.there .here) ?_
      refine Shift.done ?_
      exact ⟨[(0, (sv vp0)), (3, (sv nilS)), (4, (sv v109)), (5, (.int .i64 0))], ⟨rfl, rfl, rfl, rfl, trivial⟩, nilS, ([] : List A2Int), 0, rfl, rfl, H, (Slr.nil TyA2Int _)⟩
    rintro n306 _ K307 _ hK308 ⟨v302, l303, i305, rfl, rfl, H, hs304⟩
    obtain ⟨m309, k310, rfl, hkk311, H⟩ := lps2 H
    unfold M_ref16_Open_L1 at H
    refine Cw_seq ?_
    refine Cw_seq ?_
    refine Cw_region ?_
    refine Ow_q rfl rfl rfl (Qt_move rfl) ?_
    refine Ow_q rfl rfl rfl (Qt_move rfl) ?_
    have hs314 := (hs112).mono hK308
    refine Ow_q rfl rfl rfl (Q_len (T := TyA2Int) hs314 rfl rfl) ?_
    refine Ow_q rfl rfl rfl (Qt_cmp rfl rfl rfl) ?_
    refine Ow_nil ?_
    refine Cw_cond rfl ?_ ?_
    · intro h315
      have h315 := dcd_t (h315)
      have H := ift h315 H
      refine Cw_skip ?_
      refine Cw_seq ?_
      refine Cw_block ?_
      refine Cw_seq ?_
      obtain ⟨x356, hx357, H⟩ := bnd H
      obtain ⟨x361, hx362, H⟩ := bnd H
      obtain ⟨x366, hx367, H⟩ := bnd H
      refine Cw_region_any [.tok 36 2 [(sv v302)], .tok 36 2 [(sv v109)]] rfl (Inc.cons (.head _) (Inc.cons (.tail _ (.head _)) Inc.nil)) ?_
      refine Aw_q 0 rfl (by kernel_rfl) (by kernel_rfl) (by kernel_rfl) rfl rfl rfl (Qt_move rfl) ?_
      refine Aw_q 1 rfl (by kernel_rfl) (by kernel_rfl) (by kernel_rfl) rfl rfl rfl (Qt_move rfl) ?_
      refine Aw_q 2 rfl (by kernel_rfl) (by kernel_rfl) (by kernel_rfl) rfl rfl rfl (Qt_move rfl) ?_
      obtain ⟨r371, hr372, hk373⟩ := Slr.at hs314 hx357
      obtain rfl := hr372
      refine Aw_q 3 rfl (by kernel_rfl) (by kernel_rfl) (by kernel_rfl) rfl rfl rfl (Q_ix (T := TyA2Int) hs314 hx357 rfl rfl rfl rfl rfl) ?_
      refine Aw_q 4 rfl (by kernel_rfl) (by kernel_rfl) (by kernel_rfl) rfl rfl rfl (Qt_ixArr (q := 0) (m := 0) rfl rfl rfl rfl rfl (by decide) rfl (by decide)) ?_
      refine Aw_q 5 rfl (by kernel_rfl) (by kernel_rfl) (by kernel_rfl) rfl rfl rfl (Qt_load1 (v := (.int .i64 x356.x0)) rfl rfl rfl (Rdc.k hk373 rfl)) ?_
      refine Aw_q 6 rfl (by kernel_rfl) (by kernel_rfl) (by kernel_rfl) rfl rfl rfl (Qt_move rfl) ?_
      refine Aw_q 7 rfl (by kernel_rfl) (by kernel_rfl) (by kernel_rfl) rfl rfl rfl (Qt_move rfl) ?_
      obtain ⟨r374, hr375, hk376⟩ := Slr.at hs314 hx362
      obtain rfl := hr375
      refine Aw_q 8 rfl (by kernel_rfl) (by kernel_rfl) (by kernel_rfl) rfl rfl rfl (Q_ix (T := TyA2Int) hs314 hx362 rfl rfl rfl rfl rfl) ?_
      refine Aw_q 9 rfl (by kernel_rfl) (by kernel_rfl) (by kernel_rfl) rfl rfl rfl (Qt_ixArr (q := 1) (m := 1) rfl rfl rfl rfl rfl (by decide) rfl (by decide)) ?_
      refine Aw_q 10 rfl (by kernel_rfl) (by kernel_rfl) (by kernel_rfl) rfl rfl rfl (Qt_load1 (v := (.int .i64 x361.x1)) rfl rfl rfl (Rdc.k hk376 rfl)) ?_
      have hs377 := ((hp0).mono hK111).mono hK308
      refine Aw_one 11 (by kernel_rfl) (Ax_mk rfl rfl (OpW_call rfl Try.call47 rfl rfl (c_M_ref16_find p0 vp0 x356.x0 x361.x1 true x366 hx367 _ _ hs377) ?_))
      rintro _ K378 _ hK379 ⟨rfl, rfl⟩
      refine ⟨(Inc.cons (.head _) (Inc.cons (.tail _ (.head _)) Inc.nil)), ?_⟩
      refine Aw_q 12 rfl (by kernel_rfl) (by kernel_rfl) (by kernel_rfl) rfl rfl rfl (Qt_cmp rfl rfl rfl) ?_
      refine Aw_done (by kernel_rfl) ?_
      refine Cw_cond rfl ?_ ?_
      · intro h380
        have h380 := dcd_t (h380)
        have H := ift h380 H
        refine Cw_region ?_
        refine Ow_q rfl rfl rfl (Qt_move rfl) ?_
        refine Ow_q rfl rfl rfl (Qt_move rfl) ?_
        refine Ow_q rfl rfl rfl (Qt_move rfl) ?_
        obtain ⟨x381, hx382, H⟩ := bnd H
        have hs383 := (hs314).mono hK379
        obtain ⟨r384, hr385, hk386⟩ := Slr.at hs383 hx382
        obtain rfl := hr385
        refine Ow_q rfl rfl rfl (Q_ix (T := TyA2Int) hs383 hx382 rfl rfl rfl rfl rfl) ?_
        refine Ow_q rfl rfl rfl (Qt_loadA (m := 2) (cs := (A2Int.cells x381)) rfl rfl rfl rfl ⟨rfl, Rdc.k hk386 rfl⟩) ?_
        have hR388 : RowR TyA2Int K378 [(A2Int.cells x381)] [x381] := RowR.cons rfl (RowR.nil)
        refine Ow_cons rfl (O_lit (T := TyA2Int) (rows := [(A2Int.cells x381)]) (l := [x381]) rfl rfl rfl hR388 rfl rfl rfl rfl rfl rfl rfl rfl (fun v387 => ?_))
        obtain ⟨x389, hx390, H⟩ := bnd H
        have hs395 := (hs304).mono hK379
        refine Ow_cons rfl (O_appTok (T := TyA2Int) (bytes := 16) (q := 0) rfl rfl rfl hs395 (.tail _ (.head _)) rfl (SrcT.row (.head _) hR388 rfl) hx390 rfl rfl rfl rfl rfl rfl rfl rfl (fun v391 K392 hK393 hs394 => ⟨_, (.there .here), ?_⟩))
        refine Ow.shift (Shift.rem .here (Shift.done ?_))
        refine Ow_q rfl rfl rfl (Qt_assign rfl) ?_
        refine Ow_nil ?_
        refine Cw_region ?_
        refine Ow_q rfl rfl rfl (Qt_move rfl) ?_
        refine Ow_q rfl rfl rfl (Qt_arith (e := wI (i305 + 1)) rfl rfl rfl rfl) ?_
        refine Ow_q rfl rfl rfl (Qt_assign rfl) ?_
        refine Ow_nil ?_
        refine Shift.pull (.there .here) ?_
        refine Shift.pull (.there .here) ?_
        refine Shift.done ?_
        exact ⟨[(0, (sv vp0)), (3, (sv v391)), (4, (sv v109)), (5, (.int .i64 (wI (i305 + 1))))], ⟨rfl, rfl, rfl, rfl, trivial⟩, _, Nat.lt_succ_self _, v391, x389, (wI (i305 + 1)), rfl, rfl, (hkk311 ▸ H), hs394⟩
      · intro h380
        have h380 := dcd_f (h380)
        have H := iff_ h380 H
        refine Cw_skip ?_
        refine Cw_region ?_
        refine Ow_q rfl rfl rfl (Qt_move rfl) ?_
        refine Ow_q rfl rfl rfl (Qt_arith (e := wI (i305 + 1)) rfl rfl rfl rfl) ?_
        refine Ow_q rfl rfl rfl (Qt_assign rfl) ?_
        refine Ow_nil ?_
        refine Shift.pull (.there .here) ?_
        refine Shift.pull (.there .here) ?_
        have hs396 := (hs304).mono hK379
        refine Shift.done ?_
        exact ⟨[(0, (sv vp0)), (3, (sv v302)), (4, (sv v109)), (5, (.int .i64 (wI (i305 + 1))))], ⟨rfl, rfl, rfl, rfl, trivial⟩, _, Nat.lt_succ_self _, v302, l303, (wI (i305 + 1)), rfl, rfl, (hkk311 ▸ H), hs396⟩
    · intro h315
      have h315 := dcd_f (h315)
      have H := iff_ h315 H
      refine Cw_exit ?_
      refine Shift.rem (.there .here) ?_
      refine Shift.done ?_
      exact ⟨[(3, (sv v302))], ⟨rfl, trivial⟩, v302, l303, rfl, rfl, H, hs304⟩
  rintro _ K397 _ hK398 ⟨v208, l209, rfl, rfl, H, hs210⟩
  unfold M_ref16_Open_J1 at H
  refine Cw_seq ?_
  refine Cw_region ?_
  refine Ow_q rfl rfl rfl (Qt_move rfl) ?_
  refine Ow_q rfl rfl rfl (Qt_assign rfl) ?_
  refine Ow_nil ?_
  refine Cw_ret ?_
  obtain ey0 := inj1 H
  subst y0
  refine ⟨(by first | exact .inl rfl | exact .inr rfl), [(sv v208)], ⟨(sv v208), _, rfl, rfl, rfl⟩, ?_⟩
  refine Shift.done ?_
  exact ⟨v208, rfl, rfl, hs210⟩

set_option maxHeartbeats 1000000 in
theorem c_M_ref16_Check (p0 : List Event) (vp0 : SV) (p1 : List (List Op)) (vp1 : SV) (y0 : Bool) (H : M_ref16_Check p0 p1 = some y0) (K : Kp) (G : List Ent) (hp0 : Slr TyEvent K (sv vp0) p0) (hp1 : Slr (Ty.sl TyOp) K (sv vp1) p1) :
    Fc Try.prog 17 #[(sv vp0), (sv vp1)] K (G) (fun v K' G' => v = (.bool y0) ∧ G = G') := by
  refine Fc_body Try.func17 rfl Try.ntmps17 Try.results17 rfl ?_
  unfold M_ref16_Check at H
  refine Cw_seq ?_
  refine Cw_region ?_
  refine Ow_q rfl rfl rfl (Qt_assign rfl) ?_
  refine Ow_nil ?_
  refine Cw_seq ?_
  refine Cw_region ?_
  refine Ow_q rfl rfl rfl (Qt_move rfl) ?_
  refine Ow_q rfl rfl rfl (Q_len (T := (Ty.sl TyOp)) hp1 rfl rfl) ?_
  obtain ⟨x248, hx249, H⟩ := bnd H
  refine Ow_cons rfl (O_make (T := Ty.i64) (r := [(.int .i64 0)]) rfl rfl rfl hx249 rfl rfl rfl rfl rfl rfl rfl rfl rfl rfl (fun v250 rs251 hR252 hz253 => ?_))
  refine Ow_q rfl rfl rfl (Qt_assign rfl) ?_
  refine Ow_nil ?_
  refine Cw_seq ?_
  refine Cw_region ?_
  refine Ow_q rfl rfl rfl (Qt_move rfl) ?_
  refine Ow_q rfl rfl rfl (Q_len (T := (Ty.sl TyOp)) hp1 rfl rfl) ?_
  obtain ⟨x254, hx255, H⟩ := bnd H
  refine Ow_cons rfl (O_make (T := Ty.bool) (r := [(.bool false)]) rfl rfl rfl hx255 rfl rfl rfl rfl rfl rfl rfl rfl rfl rfl (fun v256 rs257 hR258 hz259 => ?_))
  refine Ow_q rfl rfl rfl (Qt_assign rfl) ?_
  refine Ow_nil ?_
  refine Cw_join (fun env' K' G' => [] = env' ∧ G = G' ∧ M_ref16_Check_J1 = some y0) ?_ ?_
  · skip
    refine Cw_seq ?_
    refine Cw_region ?_
    refine Ow_q rfl rfl rfl (Qt_assign rfl) ?_
    refine Ow_nil ?_
    refine Cw_block ?_
    refine Cw_loopM (fun n712 env' K' G' => ∃ (l705 : List Int) (rs707 : List (List Value)) (l708 : List Bool) (rs710 : List (List Value)) (i711 : Int), [(0, (sv vp0)), (1, (sv vp1)), (5, (sv v250)), (6, (sv v256)), (7, (.int .i64 i711))] = env' ∧ K = K' ∧ (.row (sv v250) 3 1 rs707.flatten) :: (.row (sv v256) 4 1 rs710.flatten) :: G = G' ∧ lp3 (M_ref16_Check_L1 p0 p1) n712 l705 l708 i711 = some y0 ∧ RowR Ty.i64 K' rs707 l705 ∧ RowR Ty.bool K' rs710 l708) BIG ?_ ?_
    · skip
      refine Shift.pull (.there .here) ?_
      refine Shift.done ?_
      exact ⟨[(0, (sv vp0)), (1, (sv vp1)), (5, (sv v250)), (6, (sv v256)), (7, (.int .i64 0))], ⟨rfl, rfl, rfl, rfl, rfl, trivial⟩, x248, rs251, x254, rs257, 0, rfl, rfl, rfl, H, hR252, hR258⟩
    rintro n712 _ _ _ - ⟨l705, rs707, l708, rs710, i711, rfl, rfl, rfl, H, hR706, hR709⟩
    obtain ⟨m713, k714, rfl, hkk715, H⟩ := lps3 H
    unfold M_ref16_Check_L1 at H
    refine Cw_seq ?_
    refine Cw_seq ?_
    refine Cw_region ?_
    refine Ow_q rfl rfl rfl (Qt_move rfl) ?_
    refine Ow_q rfl rfl rfl (Qt_move rfl) ?_
    refine Ow_q rfl rfl rfl (Q_len (T := TyEvent) hp0 rfl rfl) ?_
    refine Ow_q rfl rfl rfl (Qt_cmp rfl rfl rfl) ?_
    refine Ow_nil ?_
    refine Cw_cond rfl ?_ ?_
    · intro h717
      have h717 := dcd_t (h717)
      have H := ift h717 H
      refine Cw_skip ?_
      refine Cw_seq ?_
      refine Cw_block ?_
      refine Cw_seq ?_
      refine Cw_region ?_
      refine Ow_q rfl rfl rfl (Qt_move rfl) ?_
      refine Ow_q rfl rfl rfl (Qt_move rfl) ?_
      obtain ⟨x808, hx809, H⟩ := bnd H
      obtain ⟨r810, hr811, hk812⟩ := Slr.at hp0 hx809
      obtain rfl := hr811
      refine Ow_q rfl rfl rfl (Q_ix (T := TyEvent) hp0 hx809 rfl rfl rfl rfl rfl) ?_
      refine Ow_q rfl rfl rfl (Qt_loadA (m := 8) (cs := (Event.cells x808)) rfl rfl rfl rfl ⟨rfl, Rdc.k hk812 rfl⟩) ?_
      refine Ow_cons rfl (OpW_alloc (cs := (Event.cells (Event.mk 0 0 false (Result.mk 0 0 0 false 0)))) rfl rfl rfl rfl (fun b813 => ?_))
      refine Ow_cons rfl (OpW_store (vs := (Event.cells x808)) (all' := (Event.cells x808)) rfl rfl rfl rfl rfl .here rfl rfl rfl ?_)
      refine Ow_nil ?_
      refine Cw_seq ?_
      refine Cw_region ?_
      refine Ow_q rfl rfl rfl (Qt_fieldAddr (m := 0) rfl rfl rfl rfl rfl) ?_
      refine Ow_q rfl rfl rfl (Qt_load1 (v := (.int .i64 x808.thread)) rfl rfl rfl (Rdc.blk (.head _) rfl)) ?_
      refine Ow_q rfl rfl rfl (Qt_assign rfl) ?_
      refine Ow_nil ?_
      refine Cw_seq ?_
      refine Cw_join (fun env' K' G' => ∃ (t860 : Bool), [(0, (sv vp0)), (1, (sv vp1)), (5, (sv v250)), (6, (sv v256)), (7, (.int .i64 i711)), (8, (.pointer (some ((⟨b813, 0, none⟩ : Addr).add 0)))), (9, (.int .i64 x808.thread)), (53, (.bool t860))] = env' ∧ K = K' ∧ (.blk b813 34 (Event.cells x808)) :: (.row (sv v250) 3 1 rs707.flatten) :: (.row (sv v256) 4 1 rs710.flatten) :: G = G' ∧ M_ref16_Check_J2 p0 p1 l705 l708 i711 x808 k714 t860 = some y0) ?_ ?_
      · skip
        rcases bool_ct (dcd (x808.thread < 0)) with hb_ | hb_ <;> revert hb_
        · intro h861
          have h861 := dcd_t (h861)
          have H := ift h861 H
          refine Cw_region_any [.blk b813 34 (Event.cells x808), .row (sv v250) 3 1 rs707.flatten, .row (sv v256) 4 1 rs710.flatten] rfl (Inc.cons (.head _) (Inc.cons (.tail _ (.head _)) (Inc.cons (.tail _ (.tail _ (.head _))) Inc.nil))) ?_
          refine Aw_q 0 rfl (by kernel_rfl) (by kernel_rfl) (by kernel_rfl) rfl rfl rfl (Qt_move rfl) ?_
          refine Aw_q 1 rfl (by kernel_rfl) (by kernel_rfl) (by kernel_rfl) rfl rfl rfl (Qt_cmp rfl rfl rfl) ?_
          refine Aw_q 2 rfl (by kernel_rfl) (by kernel_rfl) (by kernel_rfl) rfl rfl rfl (Qt_move rfl) ?_
          refine Aw.known (d := 30) rfl (dcd_pos h861) ?_
          refine Aw_pass 3 rfl (by kernel_rfl) (by kernel_rfl) (by kernel_rfl) rfl rfl rfl rfl rfl rfl rfl ?_
          refine Aw_pass 4 rfl (by kernel_rfl) (by kernel_rfl) (by kernel_rfl) rfl rfl rfl rfl rfl rfl rfl ?_
          refine Aw_pass 5 rfl (by kernel_rfl) (by kernel_rfl) (by kernel_rfl) rfl rfl rfl rfl rfl rfl rfl ?_
          refine Aw_pass 6 rfl (by kernel_rfl) (by kernel_rfl) (by kernel_rfl) rfl rfl rfl rfl rfl rfl rfl ?_
          refine Aw_q 7 rfl (by kernel_rfl) (by kernel_rfl) (by kernel_rfl) rfl rfl rfl (Qt_pick_t rfl rfl) ?_
          refine Aw_q 8 rfl (by kernel_rfl) (by kernel_rfl) (by kernel_rfl) rfl rfl rfl (Qt_move rfl) ?_
          refine Aw_pass 9 rfl (by kernel_rfl) (by kernel_rfl) (by kernel_rfl) rfl rfl rfl rfl rfl rfl rfl ?_
          refine Aw_pass 10 rfl (by kernel_rfl) (by kernel_rfl) (by kernel_rfl) rfl rfl rfl rfl rfl rfl rfl ?_
          refine Aw_pass 11 rfl (by kernel_rfl) (by kernel_rfl) (by kernel_rfl) rfl rfl rfl rfl rfl rfl rfl ?_
          refine Aw_pass 12 rfl (by kernel_rfl) (by kernel_rfl) (by kernel_rfl) rfl rfl rfl rfl rfl rfl rfl ?_
          refine Aw_pass 13 rfl (by kernel_rfl) (by kernel_rfl) (by kernel_rfl) rfl rfl rfl rfl rfl rfl rfl ?_
          refine Aw_pass 14 rfl (by kernel_rfl) (by kernel_rfl) (by kernel_rfl) rfl rfl rfl rfl rfl rfl rfl ?_
          refine Aw_pass 15 rfl (by kernel_rfl) (by kernel_rfl) (by kernel_rfl) rfl rfl rfl rfl rfl rfl rfl ?_
          refine Aw_q 16 rfl (by kernel_rfl) (by kernel_rfl) (by kernel_rfl) rfl rfl rfl (Qt_pick_t rfl rfl) ?_
          refine Aw_q 17 rfl (by kernel_rfl) (by kernel_rfl) (by kernel_rfl) rfl rfl rfl (Qt_move rfl) ?_
          refine Aw_pass 18 rfl (by kernel_rfl) (by kernel_rfl) (by kernel_rfl) rfl rfl rfl rfl rfl rfl rfl ?_
          refine Aw_pass 19 rfl (by kernel_rfl) (by kernel_rfl) (by kernel_rfl) rfl rfl rfl rfl rfl rfl rfl ?_
          refine Aw_pass 20 rfl (by kernel_rfl) (by kernel_rfl) (by kernel_rfl) rfl rfl rfl rfl rfl rfl rfl ?_
          refine Aw_pass 21 rfl (by kernel_rfl) (by kernel_rfl) (by kernel_rfl) rfl rfl rfl rfl rfl rfl rfl ?_
          refine Aw_pass 22 rfl (by kernel_rfl) (by kernel_rfl) (by kernel_rfl) rfl rfl rfl rfl rfl rfl rfl ?_
          refine Aw_pass 23 rfl (by kernel_rfl) (by kernel_rfl) (by kernel_rfl) rfl rfl rfl rfl rfl rfl rfl ?_
          refine Aw_pass 24 rfl (by kernel_rfl) (by kernel_rfl) (by kernel_rfl) rfl rfl rfl rfl rfl rfl rfl ?_
          refine Aw_q 25 rfl (by kernel_rfl) (by kernel_rfl) (by kernel_rfl) rfl rfl rfl (Qt_pick_t rfl rfl) ?_
          refine Aw_done (by kernel_rfl) ?_
          refine Shift.pull (.there (.there .here)) ?_
          refine Shift.pull (.there (.there .here)) ?_
          refine Shift.pull (.there (.there .here)) ?_
          refine Shift.done ?_
          exact ⟨[(0, (sv vp0)), (1, (sv vp1)), (5, (sv v250)), (6, (sv v256)), (7, (.int .i64 i711)), (8, (.pointer (some ((⟨b813, 0, none⟩ : Addr).add 0)))), (9, (.int .i64 x808.thread)), (53, (.bool true))], ⟨rfl, rfl, rfl, rfl, rfl, rfl, rfl, rfl, trivial⟩, true, rfl, rfl, rfl, H⟩
        · intro h861
          have h861 := dcd_f (h861)
          have H := iff_ h861 H
          rcases bool_ct (dcd (x808.thread ≥ (p1.length : Int))) with hb_ | hb_ <;> revert hb_
          · intro h862
            have h862 := dcd_t (h862)
            have H := ift h862 H
            refine Cw_region_any [.blk b813 34 (Event.cells x808), .row (sv v250) 3 1 rs707.flatten, .row (sv v256) 4 1 rs710.flatten] rfl (Inc.cons (.head _) (Inc.cons (.tail _ (.head _)) (Inc.cons (.tail _ (.tail _ (.head _))) Inc.nil))) ?_
            refine Aw_q 0 rfl (by kernel_rfl) (by kernel_rfl) (by kernel_rfl) rfl rfl rfl (Qt_move rfl) ?_
            refine Aw_q 1 rfl (by kernel_rfl) (by kernel_rfl) (by kernel_rfl) rfl rfl rfl (Qt_cmp rfl rfl rfl) ?_
            refine Aw_q 2 rfl (by kernel_rfl) (by kernel_rfl) (by kernel_rfl) rfl rfl rfl (Qt_move rfl) ?_
            refine Aw.known (d := 30) rfl (dcd_neg h861) ?_
            refine Aw_qw 3 rfl (by kernel_rfl) (by kernel_rfl) (by kernel_rfl) rfl rfl rfl rfl rfl rfl (Qt_move rfl) ?_
            refine Aw_qw 4 rfl (by kernel_rfl) (by kernel_rfl) (by kernel_rfl) rfl rfl rfl rfl rfl rfl (Qt_move rfl) ?_
            refine Aw_qw 5 rfl (by kernel_rfl) (by kernel_rfl) (by kernel_rfl) rfl rfl rfl rfl rfl rfl (Q_len (T := (Ty.sl TyOp)) hp1 rfl rfl) ?_
            refine Aw_qw 6 rfl (by kernel_rfl) (by kernel_rfl) (by kernel_rfl) rfl rfl rfl rfl rfl rfl (Qt_cmp rfl rfl rfl) ?_
            refine Aw_q 7 rfl (by kernel_rfl) (by kernel_rfl) (by kernel_rfl) rfl rfl rfl (Qt_pick_f rfl rfl) ?_
            refine Aw_q 8 rfl (by kernel_rfl) (by kernel_rfl) (by kernel_rfl) rfl rfl rfl (Qt_move rfl) ?_
            refine Aw.known (d := 36) rfl (dcd_pos h862) ?_
            refine Aw_pass 9 rfl (by kernel_rfl) (by kernel_rfl) (by kernel_rfl) rfl rfl rfl rfl rfl rfl rfl ?_
            refine Aw_pass 10 rfl (by kernel_rfl) (by kernel_rfl) (by kernel_rfl) rfl rfl rfl rfl rfl rfl rfl ?_
            refine Aw_pass 11 rfl (by kernel_rfl) (by kernel_rfl) (by kernel_rfl) rfl rfl rfl rfl rfl rfl rfl ?_
            refine Aw_pass 12 rfl (by kernel_rfl) (by kernel_rfl) (by kernel_rfl) rfl rfl rfl rfl rfl rfl rfl ?_
            refine Aw_pass 13 rfl (by kernel_rfl) (by kernel_rfl) (by kernel_rfl) rfl rfl rfl rfl rfl rfl rfl ?_
            refine Aw_pass 14 rfl (by kernel_rfl) (by kernel_rfl) (by kernel_rfl) rfl rfl rfl rfl rfl rfl rfl ?_
            refine Aw_pass 15 rfl (by kernel_rfl) (by kernel_rfl) (by kernel_rfl) rfl rfl rfl rfl rfl rfl rfl ?_
            refine Aw_q 16 rfl (by kernel_rfl) (by kernel_rfl) (by kernel_rfl) rfl rfl rfl (Qt_pick_t rfl rfl) ?_
            refine Aw_q 17 rfl (by kernel_rfl) (by kernel_rfl) (by kernel_rfl) rfl rfl rfl (Qt_move rfl) ?_
            refine Aw_pass 18 rfl (by kernel_rfl) (by kernel_rfl) (by kernel_rfl) rfl rfl rfl rfl rfl rfl rfl ?_
            refine Aw_pass 19 rfl (by kernel_rfl) (by kernel_rfl) (by kernel_rfl) rfl rfl rfl rfl rfl rfl rfl ?_
            refine Aw_pass 20 rfl (by kernel_rfl) (by kernel_rfl) (by kernel_rfl) rfl rfl rfl rfl rfl rfl rfl ?_
            refine Aw_pass 21 rfl (by kernel_rfl) (by kernel_rfl) (by kernel_rfl) rfl rfl rfl rfl rfl rfl rfl ?_
            refine Aw_pass 22 rfl (by kernel_rfl) (by kernel_rfl) (by kernel_rfl) rfl rfl rfl rfl rfl rfl rfl ?_
            refine Aw_pass 23 rfl (by kernel_rfl) (by kernel_rfl) (by kernel_rfl) rfl rfl rfl rfl rfl rfl rfl ?_
            refine Aw_pass 24 rfl (by kernel_rfl) (by kernel_rfl) (by kernel_rfl) rfl rfl rfl rfl rfl rfl rfl ?_
            refine Aw_q 25 rfl (by kernel_rfl) (by kernel_rfl) (by kernel_rfl) rfl rfl rfl (Qt_pick_t rfl rfl) ?_
            refine Aw_done (by kernel_rfl) ?_
            refine Shift.pull (.there (.there .here)) ?_
            refine Shift.pull (.there (.there .here)) ?_
            refine Shift.pull (.there (.there .here)) ?_
            refine Shift.done ?_
            exact ⟨[(0, (sv vp0)), (1, (sv vp1)), (5, (sv v250)), (6, (sv v256)), (7, (.int .i64 i711)), (8, (.pointer (some ((⟨b813, 0, none⟩ : Addr).add 0)))), (9, (.int .i64 x808.thread)), (53, (.bool true))], ⟨rfl, rfl, rfl, rfl, rfl, rfl, rfl, rfl, trivial⟩, true, rfl, rfl, rfl, H⟩
          · intro h862
            have h862 := dcd_f (h862)
            have H := iff_ h862 H
            obtain ⟨x863, hx864, H⟩ := bnd H
            rcases bool_ct (!(dcd (x808.op = x863))) with hb_ | hb_ <;> revert hb_
            · intro h868
              have h868 := dcd_f (nt_t (h868))
              have H := iff_ h868 H
              refine Cw_region_any [.blk b813 34 (Event.cells x808), .row (sv v250) 3 1 rs707.flatten, .row (sv v256) 4 1 rs710.flatten] rfl (Inc.cons (.head _) (Inc.cons (.tail _ (.head _)) (Inc.cons (.tail _ (.tail _ (.head _))) Inc.nil))) ?_
              refine Aw_q 0 rfl (by kernel_rfl) (by kernel_rfl) (by kernel_rfl) rfl rfl rfl (Qt_move rfl) ?_
              refine Aw_q 1 rfl (by kernel_rfl) (by kernel_rfl) (by kernel_rfl) rfl rfl rfl (Qt_cmp rfl rfl rfl) ?_
              refine Aw_q 2 rfl (by kernel_rfl) (by kernel_rfl) (by kernel_rfl) rfl rfl rfl (Qt_move rfl) ?_
              refine Aw.known (d := 30) rfl (dcd_neg h861) ?_
              refine Aw_qw 3 rfl (by kernel_rfl) (by kernel_rfl) (by kernel_rfl) rfl rfl rfl rfl rfl rfl (Qt_move rfl) ?_
              refine Aw_qw 4 rfl (by kernel_rfl) (by kernel_rfl) (by kernel_rfl) rfl rfl rfl rfl rfl rfl (Qt_move rfl) ?_
              refine Aw_qw 5 rfl (by kernel_rfl) (by kernel_rfl) (by kernel_rfl) rfl rfl rfl rfl rfl rfl (Q_len (T := (Ty.sl TyOp)) hp1 rfl rfl) ?_
              refine Aw_qw 6 rfl (by kernel_rfl) (by kernel_rfl) (by kernel_rfl) rfl rfl rfl rfl rfl rfl (Qt_cmp rfl rfl rfl) ?_
              refine Aw_q 7 rfl (by kernel_rfl) (by kernel_rfl) (by kernel_rfl) rfl rfl rfl (Qt_pick_f rfl rfl) ?_
              refine Aw_q 8 rfl (by kernel_rfl) (by kernel_rfl) (by kernel_rfl) rfl rfl rfl (Qt_move rfl) ?_
              refine Aw.known (d := 36) rfl (dcd_neg h862) ?_
              refine Aw_qw 9 rfl (by kernel_rfl) (by kernel_rfl) (by kernel_rfl) rfl rfl rfl rfl rfl rfl (Qt_fieldAddr (m := 1) rfl rfl rfl rfl rfl) ?_
              refine Aw_qw 10 rfl (by kernel_rfl) (by kernel_rfl) (by kernel_rfl) rfl rfl rfl rfl rfl rfl (Qt_load1 (v := (.int .i64 x808.op)) rfl rfl rfl (Rdc.blk (.head _) rfl)) ?_
              refine Aw_qw 11 rfl (by kernel_rfl) (by kernel_rfl) (by kernel_rfl) rfl rfl rfl rfl rfl rfl (Qt_move rfl) ?_
              refine Aw_qw 12 rfl (by kernel_rfl) (by kernel_rfl) (by kernel_rfl) rfl rfl rfl rfl rfl rfl (Qt_move rfl) ?_
              obtain ⟨r869, hq870, hr871⟩ := RowR.at hR706 hx864
              obtain rfl := hr871
              refine Aw_qw 13 rfl (by kernel_rfl) (by kernel_rfl) (by kernel_rfl) rfl rfl rfl rfl rfl rfl (Q_ixR (T := Ty.i64) (.tail _ (.head _)) hR706 hq870 (getI_ix hx864).1 rfl rfl rfl rfl rfl) ?_
              refine Aw_qw 14 rfl (by kernel_rfl) (by kernel_rfl) (by kernel_rfl) rfl rfl rfl rfl rfl rfl (Qt_load1 (v := (.int .i64 x863)) rfl rfl rfl (Rd_row (T := Ty.i64) (.tail _ (.head _)) hR706 hq870 rfl rfl)) ?_
              refine Aw_qw 15 rfl (by kernel_rfl) (by kernel_rfl) (by kernel_rfl) rfl rfl rfl rfl rfl rfl (Qt_cmp rfl rfl rfl) ?_
              refine Aw_q 16 rfl (by kernel_rfl) (by kernel_rfl) (by kernel_rfl) rfl rfl rfl (Qt_pick_f rfl rfl) ?_
              refine Aw_q 17 rfl (by kernel_rfl) (by kernel_rfl) (by kernel_rfl) rfl rfl rfl (Qt_move rfl) ?_
              refine Aw.known (d := 45) rfl (nt_mt (dcd_neg h868)) ?_
              refine Aw_pass 18 rfl (by kernel_rfl) (by kernel_rfl) (by kernel_rfl) rfl rfl rfl rfl rfl rfl rfl ?_
              refine Aw_pass 19 rfl (by kernel_rfl) (by kernel_rfl) (by kernel_rfl) rfl rfl rfl rfl rfl rfl rfl ?_
              refine Aw_pass 20 rfl (by kernel_rfl) (by kernel_rfl) (by kernel_rfl) rfl rfl rfl rfl rfl rfl rfl ?_
              refine Aw_pass 21 rfl (by kernel_rfl) (by kernel_rfl) (by kernel_rfl) rfl rfl rfl rfl rfl rfl rfl ?_
              refine Aw_pass 22 rfl (by kernel_rfl) (by kernel_rfl) (by kernel_rfl) rfl rfl rfl rfl rfl rfl rfl ?_
              refine Aw_pass 23 rfl (by kernel_rfl) (by kernel_rfl) (by kernel_rfl) rfl rfl rfl rfl rfl rfl rfl ?_
              refine Aw_pass 24 rfl (by kernel_rfl) (by kernel_rfl) (by kernel_rfl) rfl rfl rfl rfl rfl rfl rfl ?_
              refine Aw_q 25 rfl (by kernel_rfl) (by kernel_rfl) (by kernel_rfl) rfl rfl rfl (Qt_pick_t rfl rfl) ?_
              refine Aw_done (by kernel_rfl) ?_
              refine Shift.pull (.there (.there .here)) ?_
              refine Shift.pull (.there (.there .here)) ?_
              refine Shift.pull (.there (.there .here)) ?_
              refine Shift.done ?_
              exact ⟨[(0, (sv vp0)), (1, (sv vp1)), (5, (sv v250)), (6, (sv v256)), (7, (.int .i64 i711)), (8, (.pointer (some ((⟨b813, 0, none⟩ : Addr).add 0)))), (9, (.int .i64 x808.thread)), (53, (.bool true))], ⟨rfl, rfl, rfl, rfl, rfl, rfl, rfl, rfl, trivial⟩, true, rfl, rfl, rfl, H⟩
            · intro h868
              have h868 := dcd_t (nt_f (h868))
              have H := ift h868 H
              obtain ⟨x872, hx873, H⟩ := bnd H
              refine Cw_region_any [.blk b813 34 (Event.cells x808), .row (sv v250) 3 1 rs707.flatten, .row (sv v256) 4 1 rs710.flatten] rfl (Inc.cons (.head _) (Inc.cons (.tail _ (.head _)) (Inc.cons (.tail _ (.tail _ (.head _))) Inc.nil))) ?_
              refine Aw_q 0 rfl (by kernel_rfl) (by kernel_rfl) (by kernel_rfl) rfl rfl rfl (Qt_move rfl) ?_
              refine Aw_q 1 rfl (by kernel_rfl) (by kernel_rfl) (by kernel_rfl) rfl rfl rfl (Qt_cmp rfl rfl rfl) ?_
              refine Aw_q 2 rfl (by kernel_rfl) (by kernel_rfl) (by kernel_rfl) rfl rfl rfl (Qt_move rfl) ?_
              refine Aw.known (d := 30) rfl (dcd_neg h861) ?_
              refine Aw_qw 3 rfl (by kernel_rfl) (by kernel_rfl) (by kernel_rfl) rfl rfl rfl rfl rfl rfl (Qt_move rfl) ?_
              refine Aw_qw 4 rfl (by kernel_rfl) (by kernel_rfl) (by kernel_rfl) rfl rfl rfl rfl rfl rfl (Qt_move rfl) ?_
              refine Aw_qw 5 rfl (by kernel_rfl) (by kernel_rfl) (by kernel_rfl) rfl rfl rfl rfl rfl rfl (Q_len (T := (Ty.sl TyOp)) hp1 rfl rfl) ?_
              refine Aw_qw 6 rfl (by kernel_rfl) (by kernel_rfl) (by kernel_rfl) rfl rfl rfl rfl rfl rfl (Qt_cmp rfl rfl rfl) ?_
              refine Aw_q 7 rfl (by kernel_rfl) (by kernel_rfl) (by kernel_rfl) rfl rfl rfl (Qt_pick_f rfl rfl) ?_
              refine Aw_q 8 rfl (by kernel_rfl) (by kernel_rfl) (by kernel_rfl) rfl rfl rfl (Qt_move rfl) ?_
              refine Aw.known (d := 36) rfl (dcd_neg h862) ?_
              refine Aw_qw 9 rfl (by kernel_rfl) (by kernel_rfl) (by kernel_rfl) rfl rfl rfl rfl rfl rfl (Qt_fieldAddr (m := 1) rfl rfl rfl rfl rfl) ?_
              refine Aw_qw 10 rfl (by kernel_rfl) (by kernel_rfl) (by kernel_rfl) rfl rfl rfl rfl rfl rfl (Qt_load1 (v := (.int .i64 x808.op)) rfl rfl rfl (Rdc.blk (.head _) rfl)) ?_
              refine Aw_qw 11 rfl (by kernel_rfl) (by kernel_rfl) (by kernel_rfl) rfl rfl rfl rfl rfl rfl (Qt_move rfl) ?_
              refine Aw_qw 12 rfl (by kernel_rfl) (by kernel_rfl) (by kernel_rfl) rfl rfl rfl rfl rfl rfl (Qt_move rfl) ?_
              obtain ⟨r877, hq878, hr879⟩ := RowR.at hR706 hx864
              obtain rfl := hr879
              refine Aw_qw 13 rfl (by kernel_rfl) (by kernel_rfl) (by kernel_rfl) rfl rfl rfl rfl rfl rfl (Q_ixR (T := Ty.i64) (.tail _ (.head _)) hR706 hq878 (getI_ix hx864).1 rfl rfl rfl rfl rfl) ?_
              refine Aw_qw 14 rfl (by kernel_rfl) (by kernel_rfl) (by kernel_rfl) rfl rfl rfl rfl rfl rfl (Qt_load1 (v := (.int .i64 x863)) rfl rfl rfl (Rd_row (T := Ty.i64) (.tail _ (.head _)) hR706 hq878 rfl rfl)) ?_
              refine Aw_qw 15 rfl (by kernel_rfl) (by kernel_rfl) (by kernel_rfl) rfl rfl rfl rfl rfl rfl (Qt_cmp rfl rfl rfl) ?_
              refine Aw_q 16 rfl (by kernel_rfl) (by kernel_rfl) (by kernel_rfl) rfl rfl rfl (Qt_pick_f rfl rfl) ?_
              refine Aw_q 17 rfl (by kernel_rfl) (by kernel_rfl) (by kernel_rfl) rfl rfl rfl (Qt_move rfl) ?_
              refine Aw.known (d := 45) rfl (nt_mf (dcd_pos h868)) ?_
              refine Aw_qw 18 rfl (by kernel_rfl) (by kernel_rfl) (by kernel_rfl) rfl rfl rfl rfl rfl rfl (Qt_fieldAddr (m := 2) rfl rfl rfl rfl rfl) ?_
              refine Aw_qw 19 rfl (by kernel_rfl) (by kernel_rfl) (by kernel_rfl) rfl rfl rfl rfl rfl rfl (Qt_load1 (v := (.bool x808.ret)) rfl rfl rfl (Rdc.blk (.head _) rfl)) ?_
              refine Aw_qw 20 rfl (by kernel_rfl) (by kernel_rfl) (by kernel_rfl) rfl rfl rfl rfl rfl rfl (Qt_move rfl) ?_
              refine Aw_qw 21 rfl (by kernel_rfl) (by kernel_rfl) (by kernel_rfl) rfl rfl rfl rfl rfl rfl (Qt_move rfl) ?_
              obtain ⟨r880, hq881, hr882⟩ := RowR.at hR709 hx873
              obtain rfl := hr882
              refine Aw_qw 22 rfl (by kernel_rfl) (by kernel_rfl) (by kernel_rfl) rfl rfl rfl rfl rfl rfl (Q_ixR (T := Ty.bool) (.tail _ (.tail _ (.head _))) hR709 hq881 (getI_ix hx873).1 rfl rfl rfl rfl rfl) ?_
              refine Aw_qw 23 rfl (by kernel_rfl) (by kernel_rfl) (by kernel_rfl) rfl rfl rfl rfl rfl rfl (Qt_load1 (v := (.bool x872)) rfl rfl rfl (Rd_row (T := Ty.bool) (.tail _ (.tail _ (.head _))) hR709 hq881 rfl rfl)) ?_
              refine Aw_qw 24 rfl (by kernel_rfl) (by kernel_rfl) (by kernel_rfl) rfl rfl rfl rfl rfl rfl (Qt_neB rfl rfl rfl) ?_
              refine Aw_q 25 rfl (by kernel_rfl) (by kernel_rfl) (by kernel_rfl) rfl rfl rfl (Qt_pick_f rfl rfl) ?_
              refine Aw_done (by kernel_rfl) ?_
              refine Shift.pull (.there (.there .here)) ?_
              refine Shift.pull (.there (.there .here)) ?_
              refine Shift.pull (.there (.there .here)) ?_
              refine Shift.done ?_
              exact ⟨[(0, (sv vp0)), (1, (sv vp1)), (5, (sv v250)), (6, (sv v256)), (7, (.int .i64 i711)), (8, (.pointer (some ((⟨b813, 0, none⟩ : Addr).add 0)))), (9, (.int .i64 x808.thread)), (53, (.bool (!((x808.ret == x872)))))], ⟨rfl, rfl, rfl, rfl, rfl, rfl, rfl, rfl, trivial⟩, (!((x808.ret == x872))), rfl, rfl, rfl, H⟩
      rintro _ _ _ - ⟨t860, rfl, rfl, rfl, H⟩
      unfold M_ref16_Check_J2 at H
      refine Cw_cond rfl ?_ ?_
      · intro h883
        have H := ift h883 H
        refine Cw_seq ?_
        refine Cw_region ?_
        refine Ow_q rfl rfl rfl (Qt_assign rfl) ?_
        refine Ow_nil ?_
        refine Cw_ret ?_
        obtain ey0 := inj1 H
        subst y0
        refine ⟨(by first | exact .inl rfl | exact .inr rfl), [(.bool false)], ⟨(.bool false), _, rfl, rfl, rfl⟩, ?_⟩
        refine Shift.rem .here ?_
        refine Shift.rem .here ?_
        refine Shift.rem .here ?_
        refine Shift.done ?_
        exact ⟨rfl, rfl⟩
      · intro h883
        have H := iff_ (btf h883) H
        refine Cw_skip ?_
        refine Cw_seq ?_
        refine Cw_join (fun env' K' G' => ∃ (t946 : Bool), [(0, (sv vp0)), (1, (sv vp1)), (5, (sv v250)), (6, (sv v256)), (7, (.int .i64 i711)), (8, (.pointer (some ((⟨b813, 0, none⟩ : Addr).add 0)))), (9, (.int .i64 x808.thread)), (74, (.bool t946))] = env' ∧ K = K' ∧ (.blk b813 34 (Event.cells x808)) :: (.row (sv v250) 3 1 rs707.flatten) :: (.row (sv v256) 4 1 rs710.flatten) :: G = G' ∧ M_ref16_Check_J3 p0 p1 l705 l708 i711 x808 k714 t946 = some y0) ?_ ?_
        · skip
          rcases bool_ct (!(x808.ret)) with hb_ | hb_ <;> revert hb_
          · intro h947
            have h947 := nt_t (h947)
            have H := iff_ (btf h947) H
            obtain ⟨x948, hx949, H⟩ := bnd H
            obtain ⟨x953, hx954, H⟩ := bnd H
            rcases bool_ct (dcd (x948 ≥ (x953.length : Int))) with hb_ | hb_ <;> revert hb_
            · intro h960
              have h960 := dcd_t (h960)
              have H := ift h960 H
              refine Cw_region_any [.blk b813 34 (Event.cells x808), .row (sv v250) 3 1 rs707.flatten, .row (sv v256) 4 1 rs710.flatten] rfl (Inc.cons (.head _) (Inc.cons (.tail _ (.head _)) (Inc.cons (.tail _ (.tail _ (.head _))) Inc.nil))) ?_
              refine Aw_q 0 rfl (by kernel_rfl) (by kernel_rfl) (by kernel_rfl) rfl rfl rfl (Qt_fieldAddr (m := 2) rfl rfl rfl rfl rfl) ?_
              refine Aw_q 1 rfl (by kernel_rfl) (by kernel_rfl) (by kernel_rfl) rfl rfl rfl (Qt_load1 (v := (.bool x808.ret)) rfl rfl rfl (Rdc.blk (.head _) rfl)) ?_
              refine Aw_q 2 rfl (by kernel_rfl) (by kernel_rfl) (by kernel_rfl) rfl rfl rfl (Qt_not rfl) ?_
              refine Aw_q 3 rfl (by kernel_rfl) (by kernel_rfl) (by kernel_rfl) rfl rfl rfl (Qt_move rfl) ?_
              refine Aw.known (d := 57) rfl (nt_mt (h947)) ?_
              refine Aw_qw 4 rfl (by kernel_rfl) (by kernel_rfl) (by kernel_rfl) rfl rfl rfl rfl rfl rfl (Qt_move rfl) ?_
              refine Aw_qw 5 rfl (by kernel_rfl) (by kernel_rfl) (by kernel_rfl) rfl rfl rfl rfl rfl rfl (Qt_move rfl) ?_
              obtain ⟨r961, hq962, hr963⟩ := RowR.at hR706 hx949
              obtain rfl := hr963
              refine Aw_qw 6 rfl (by kernel_rfl) (by kernel_rfl) (by kernel_rfl) rfl rfl rfl rfl rfl rfl (Q_ixR (T := Ty.i64) (.tail _ (.head _)) hR706 hq962 (getI_ix hx949).1 rfl rfl rfl rfl rfl) ?_
              refine Aw_qw 7 rfl (by kernel_rfl) (by kernel_rfl) (by kernel_rfl) rfl rfl rfl rfl rfl rfl (Qt_load1 (v := (.int .i64 x948)) rfl rfl rfl (Rd_row (T := Ty.i64) (.tail _ (.head _)) hR706 hq962 rfl rfl)) ?_
              refine Aw_qw 8 rfl (by kernel_rfl) (by kernel_rfl) (by kernel_rfl) rfl rfl rfl rfl rfl rfl (Qt_move rfl) ?_
              refine Aw_qw 9 rfl (by kernel_rfl) (by kernel_rfl) (by kernel_rfl) rfl rfl rfl rfl rfl rfl (Qt_move rfl) ?_
              obtain ⟨r964, hr965, hk966⟩ := Slr.at hp1 hx954
              obtain ⟨v967, rfl, hs968⟩ := hr965
              refine Aw_qw 10 rfl (by kernel_rfl) (by kernel_rfl) (by kernel_rfl) rfl rfl rfl rfl rfl rfl (Q_ix (T := (Ty.sl TyOp)) hp1 hx954 rfl rfl rfl rfl rfl) ?_
              refine Aw_qw 11 rfl (by kernel_rfl) (by kernel_rfl) (by kernel_rfl) rfl rfl rfl rfl rfl rfl (Qt_load1 (v := (sv v967)) rfl rfl rfl (Rdc.k hk966 rfl)) ?_
              refine Aw_qw 12 rfl (by kernel_rfl) (by kernel_rfl) (by kernel_rfl) rfl rfl rfl rfl rfl rfl (Q_len (T := TyOp) hs968 rfl rfl) ?_
              refine Aw_qw 13 rfl (by kernel_rfl) (by kernel_rfl) (by kernel_rfl) rfl rfl rfl rfl rfl rfl (Qt_cmp rfl rfl rfl) ?_
              refine Aw_qw 14 rfl (by kernel_rfl) (by kernel_rfl) (by kernel_rfl) rfl rfl rfl rfl rfl rfl (Qt_move rfl) ?_
              refine Aw.known (d := 68) rfl (dcd_pos h960) ?_
              refine Aw_pass 15 rfl (by kernel_rfl) (by kernel_rfl) (by kernel_rfl) rfl rfl rfl rfl rfl rfl rfl ?_
              refine Aw_pass 16 rfl (by kernel_rfl) (by kernel_rfl) (by kernel_rfl) rfl rfl rfl rfl rfl rfl rfl ?_
              refine Aw_pass 17 rfl (by kernel_rfl) (by kernel_rfl) (by kernel_rfl) rfl rfl rfl rfl rfl rfl rfl ?_
              refine Aw_pass 18 rfl (by kernel_rfl) (by kernel_rfl) (by kernel_rfl) rfl rfl rfl rfl rfl rfl rfl ?_
              refine Aw_qw 19 rfl (by kernel_rfl) (by kernel_rfl) (by kernel_rfl) rfl rfl rfl rfl rfl rfl (Qt_pick_t rfl rfl) ?_
              refine Aw_q 20 rfl (by kernel_rfl) (by kernel_rfl) (by kernel_rfl) rfl rfl rfl (Qt_pick_t rfl rfl) ?_
              refine Aw_done (by kernel_rfl) ?_
              refine Shift.pull (.there (.there .here)) ?_
              refine Shift.pull (.there (.there .here)) ?_
              refine Shift.pull (.there (.there .here)) ?_
              refine Shift.done ?_
              exact ⟨[(0, (sv vp0)), (1, (sv vp1)), (5, (sv v250)), (6, (sv v256)), (7, (.int .i64 i711)), (8, (.pointer (some ((⟨b813, 0, none⟩ : Addr).add 0)))), (9, (.int .i64 x808.thread)), (74, (.bool true))], ⟨rfl, rfl, rfl, rfl, rfl, rfl, rfl, rfl, trivial⟩, true, rfl, rfl, rfl, H⟩
            · intro h960
              have h960 := dcd_f (h960)
              have H := iff_ h960 H
              refine Cw_region_any [.blk b813 34 (Event.cells x808), .row (sv v250) 3 1 rs707.flatten, .row (sv v256) 4 1 rs710.flatten] rfl (Inc.cons (.head _) (Inc.cons (.tail _ (.head _)) (Inc.cons (.tail _ (.tail _ (.head _))) Inc.nil))) ?_
              refine Aw_q 0 rfl (by kernel_rfl) (by kernel_rfl) (by kernel_rfl) rfl rfl rfl (Qt_fieldAddr (m := 2) rfl rfl rfl rfl rfl) ?_
              refine Aw_q 1 rfl (by kernel_rfl) (by kernel_rfl) (by kernel_rfl) rfl rfl rfl (Qt_load1 (v := (.bool x808.ret)) rfl rfl rfl (Rdc.blk (.head _) rfl)) ?_
              refine Aw_q 2 rfl (by kernel_rfl) (by kernel_rfl) (by kernel_rfl) rfl rfl rfl (Qt_not rfl) ?_
              refine Aw_q 3 rfl (by kernel_rfl) (by kernel_rfl) (by kernel_rfl) rfl rfl rfl (Qt_move rfl) ?_
              refine Aw.known (d := 57) rfl (nt_mt (h947)) ?_
              refine Aw_qw 4 rfl (by kernel_rfl) (by kernel_rfl) (by kernel_rfl) rfl rfl rfl rfl rfl rfl (Qt_move rfl) ?_
              refine Aw_qw 5 rfl (by kernel_rfl) (by kernel_rfl) (by kernel_rfl) rfl rfl rfl rfl rfl rfl (Qt_move rfl) ?_
              obtain ⟨r969, hq970, hr971⟩ := RowR.at hR706 hx949
              obtain rfl := hr971
              refine Aw_qw 6 rfl (by kernel_rfl) (by kernel_rfl) (by kernel_rfl) rfl rfl rfl rfl rfl rfl (Q_ixR (T := Ty.i64) (.tail _ (.head _)) hR706 hq970 (getI_ix hx949).1 rfl rfl rfl rfl rfl) ?_
              refine Aw_qw 7 rfl (by kernel_rfl) (by kernel_rfl) (by kernel_rfl) rfl rfl rfl rfl rfl rfl (Qt_load1 (v := (.int .i64 x948)) rfl rfl rfl (Rd_row (T := Ty.i64) (.tail _ (.head _)) hR706 hq970 rfl rfl)) ?_
              refine Aw_qw 8 rfl (by kernel_rfl) (by kernel_rfl) (by kernel_rfl) rfl rfl rfl rfl rfl rfl (Qt_move rfl) ?_
              refine Aw_qw 9 rfl (by kernel_rfl) (by kernel_rfl) (by kernel_rfl) rfl rfl rfl rfl rfl rfl (Qt_move rfl) ?_
              obtain ⟨r972, hr973, hk974⟩ := Slr.at hp1 hx954
              obtain ⟨v975, rfl, hs976⟩ := hr973
              refine Aw_qw 10 rfl (by kernel_rfl) (by kernel_rfl) (by kernel_rfl) rfl rfl rfl rfl rfl rfl (Q_ix (T := (Ty.sl TyOp)) hp1 hx954 rfl rfl rfl rfl rfl) ?_
              refine Aw_qw 11 rfl (by kernel_rfl) (by kernel_rfl) (by kernel_rfl) rfl rfl rfl rfl rfl rfl (Qt_load1 (v := (sv v975)) rfl rfl rfl (Rdc.k hk974 rfl)) ?_
              refine Aw_qw 12 rfl (by kernel_rfl) (by kernel_rfl) (by kernel_rfl) rfl rfl rfl rfl rfl rfl (Q_len (T := TyOp) hs976 rfl rfl) ?_
              refine Aw_qw 13 rfl (by kernel_rfl) (by kernel_rfl) (by kernel_rfl) rfl rfl rfl rfl rfl rfl (Qt_cmp rfl rfl rfl) ?_
              refine Aw_qw 14 rfl (by kernel_rfl) (by kernel_rfl) (by kernel_rfl) rfl rfl rfl rfl rfl rfl (Qt_move rfl) ?_
              refine Aw.known (d := 68) rfl (dcd_neg h960) ?_
              refine Aw_qw 15 rfl (by kernel_rfl) (by kernel_rfl) (by kernel_rfl) rfl rfl rfl rfl rfl rfl (Qt_fieldAddr (m := 3) rfl rfl rfl rfl rfl) ?_
              refine Aw_qw 16 rfl (by kernel_rfl) (by kernel_rfl) (by kernel_rfl) rfl rfl rfl rfl rfl rfl (Qt_loadA (m := 5) (cs := (Result.cells x808.result)) rfl rfl rfl rfl ⟨rfl, Rdc.blk (.head _) rfl⟩) ?_
              refine Aw_qw 17 rfl (by kernel_rfl) (by kernel_rfl) (by kernel_rfl) rfl rfl rfl rfl rfl rfl (Qt_build (cs := (Result.cells (Result.mk 0 0 0 false 0))) rfl rfl rfl rfl rfl rfl) ?_
              refine Aw_qw 18 rfl (by kernel_rfl) (by kernel_rfl) (by kernel_rfl) rfl rfl rfl rfl rfl rfl (Qt_neS rfl rfl (fun w => Result.eqrun x808.result (Result.mk 0 0 0 false 0) w) (by kernel_rfl)) ?_
              refine Aw_qw 19 rfl (by kernel_rfl) (by kernel_rfl) (by kernel_rfl) rfl rfl rfl rfl rfl rfl (Qt_pick_f rfl rfl) ?_
              refine Aw_q 20 rfl (by kernel_rfl) (by kernel_rfl) (by kernel_rfl) rfl rfl rfl (Qt_pick_t rfl rfl) ?_
              refine Aw_done (by kernel_rfl) ?_
              refine Shift.pull (.there (.there .here)) ?_
              refine Shift.pull (.there (.there .here)) ?_
              refine Shift.pull (.there (.there .here)) ?_
              refine Shift.done ?_
              exact ⟨[(0, (sv vp0)), (1, (sv vp1)), (5, (sv v250)), (6, (sv v256)), (7, (.int .i64 i711)), (8, (.pointer (some ((⟨b813, 0, none⟩ : Addr).add 0)))), (9, (.int .i64 x808.thread)), (74, (.bool (!(dcd (x808.result = (Result.mk 0 0 0 false 0))))))], ⟨rfl, rfl, rfl, rfl, rfl, rfl, rfl, rfl, trivial⟩, (!(dcd (x808.result = (Result.mk 0 0 0 false 0)))), rfl, rfl, rfl, H⟩
          · intro h947
            have h947 := nt_f (h947)
            have H := ift h947 H
            refine Cw_region_any [.blk b813 34 (Event.cells x808), .row (sv v250) 3 1 rs707.flatten, .row (sv v256) 4 1 rs710.flatten] rfl (Inc.cons (.head _) (Inc.cons (.tail _ (.head _)) (Inc.cons (.tail _ (.tail _ (.head _))) Inc.nil))) ?_
            refine Aw_q 0 rfl (by kernel_rfl) (by kernel_rfl) (by kernel_rfl) rfl rfl rfl (Qt_fieldAddr (m := 2) rfl rfl rfl rfl rfl) ?_
            refine Aw_q 1 rfl (by kernel_rfl) (by kernel_rfl) (by kernel_rfl) rfl rfl rfl (Qt_load1 (v := (.bool x808.ret)) rfl rfl rfl (Rdc.blk (.head _) rfl)) ?_
            refine Aw_q 2 rfl (by kernel_rfl) (by kernel_rfl) (by kernel_rfl) rfl rfl rfl (Qt_not rfl) ?_
            refine Aw_q 3 rfl (by kernel_rfl) (by kernel_rfl) (by kernel_rfl) rfl rfl rfl (Qt_move rfl) ?_
            refine Aw.known (d := 57) rfl (nt_mf (h947)) ?_
            refine Aw_pass 4 rfl (by kernel_rfl) (by kernel_rfl) (by kernel_rfl) rfl rfl rfl rfl rfl rfl rfl ?_
            refine Aw_pass 5 rfl (by kernel_rfl) (by kernel_rfl) (by kernel_rfl) rfl rfl rfl rfl rfl rfl rfl ?_
            refine Aw_pass 6 rfl (by kernel_rfl) (by kernel_rfl) (by kernel_rfl) rfl rfl rfl rfl rfl rfl rfl ?_
            refine Aw_pass 7 rfl (by kernel_rfl) (by kernel_rfl) (by kernel_rfl) rfl rfl rfl rfl rfl rfl rfl ?_
            refine Aw_pass 8 rfl (by kernel_rfl) (by kernel_rfl) (by kernel_rfl) rfl rfl rfl rfl rfl rfl rfl ?_
            refine Aw_pass 9 rfl (by kernel_rfl) (by kernel_rfl) (by kernel_rfl) rfl rfl rfl rfl rfl rfl rfl ?_
            refine Aw_pass 10 rfl (by kernel_rfl) (by kernel_rfl) (by kernel_rfl) rfl rfl rfl rfl rfl rfl rfl ?_
            refine Aw_pass 11 rfl (by kernel_rfl) (by kernel_rfl) (by kernel_rfl) rfl rfl rfl rfl rfl rfl rfl ?_
            refine Aw_pass 12 rfl (by kernel_rfl) (by kernel_rfl) (by kernel_rfl) rfl rfl rfl rfl rfl rfl rfl ?_
            refine Aw_pass 13 rfl (by kernel_rfl) (by kernel_rfl) (by kernel_rfl) rfl rfl rfl rfl rfl rfl rfl ?_
            refine Aw_pass 14 rfl (by kernel_rfl) (by kernel_rfl) (by kernel_rfl) rfl rfl rfl rfl rfl rfl rfl ?_
            refine Aw_passU 15 rfl (by kernel_rfl) (by kernel_rfl) (by kernel_rfl) rfl rfl rfl rfl rfl ?_
            refine Aw_passU 16 rfl (by kernel_rfl) (by kernel_rfl) (by kernel_rfl) rfl rfl rfl rfl rfl ?_
            refine Aw_passU 17 rfl (by kernel_rfl) (by kernel_rfl) (by kernel_rfl) rfl rfl rfl rfl rfl ?_
            refine Aw_passU 18 rfl (by kernel_rfl) (by kernel_rfl) (by kernel_rfl) rfl rfl rfl rfl rfl ?_
            refine Aw_pass 19 rfl (by kernel_rfl) (by kernel_rfl) (by kernel_rfl) rfl rfl rfl rfl rfl rfl rfl ?_
            refine Aw_q 20 rfl (by kernel_rfl) (by kernel_rfl) (by kernel_rfl) rfl rfl rfl (Qt_pick_f rfl rfl) ?_
            refine Aw_done (by kernel_rfl) ?_
            refine Shift.pull (.there (.there .here)) ?_
            refine Shift.pull (.there (.there .here)) ?_
            refine Shift.pull (.there (.there .here)) ?_
            refine Shift.done ?_
            exact ⟨[(0, (sv vp0)), (1, (sv vp1)), (5, (sv v250)), (6, (sv v256)), (7, (.int .i64 i711)), (8, (.pointer (some ((⟨b813, 0, none⟩ : Addr).add 0)))), (9, (.int .i64 x808.thread)), (74, (.bool false))], ⟨rfl, rfl, rfl, rfl, rfl, rfl, rfl, rfl, trivial⟩, false, rfl, rfl, rfl, H⟩
        rintro _ _ _ - ⟨t946, rfl, rfl, rfl, H⟩
        unfold M_ref16_Check_J3 at H
        refine Cw_cond rfl ?_ ?_
        · intro h977
          have H := ift h977 H
          refine Cw_seq ?_
          refine Cw_region ?_
          refine Ow_q rfl rfl rfl (Qt_assign rfl) ?_
          refine Ow_nil ?_
          refine Cw_ret ?_
          obtain ey0 := inj1 H
          subst y0
          refine ⟨(by first | exact .inl rfl | exact .inr rfl), [(.bool false)], ⟨(.bool false), _, rfl, rfl, rfl⟩, ?_⟩
          refine Shift.rem .here ?_
          refine Shift.rem .here ?_
          refine Shift.rem .here ?_
          refine Shift.done ?_
          exact ⟨rfl, rfl⟩
        · intro h977
          have H := iff_ (btf h977) H
          refine Cw_skip ?_
          refine Cw_join (fun env' K' G' => ∃ (l991 : List Int) (rs993 : List (List Value)), [(0, (sv vp0)), (1, (sv vp1)), (5, (sv v250)), (6, (sv v256)), (7, (.int .i64 i711)), (9, (.int .i64 x808.thread))] = env' ∧ K = K' ∧ (.row (sv v250) 3 1 rs993.flatten) :: (.row (sv v256) 4 1 rs710.flatten) :: G = G' ∧ M_ref16_Check_J4 p0 p1 l708 i711 x808 k714 l991 = some y0 ∧ RowR Ty.i64 K' rs993 l991) ?_ ?_
          · skip
            refine Cw_seq ?_
            refine Cw_region ?_
            refine Ow_q rfl rfl rfl (Qt_fieldAddr (m := 2) rfl rfl rfl rfl rfl) ?_
            refine Ow_q rfl rfl rfl (Qt_load1 (v := (.bool x808.ret)) rfl rfl rfl (Rdc.blk (.head _) rfl)) ?_
            refine Ow_nil ?_
            refine Cw_cond rfl ?_ ?_
            · intro h994
              have H := ift h994 H
              refine Cw_region ?_
              refine Ow_q rfl rfl rfl (Qt_move rfl) ?_
              refine Ow_q rfl rfl rfl (Qt_move rfl) ?_
              obtain ⟨x995, hx996, H⟩ := bnd H
              obtain ⟨r997, hq998, hr999⟩ := RowR.at hR706 hx996
              obtain rfl := hr999
              refine Ow_q rfl rfl rfl (Q_ixR (T := Ty.i64) (.tail _ (.head _)) hR706 hq998 (getI_ix hx996).1 rfl rfl rfl rfl rfl) ?_
              refine Ow_q rfl rfl rfl (Qt_load1 (v := (.int .i64 x995)) rfl rfl rfl (Rd_row (T := Ty.i64) (.tail _ (.head _)) hR706 hq998 rfl rfl)) ?_
              refine Ow_q rfl rfl rfl (Qt_arith (e := wI (x995 + 1)) rfl rfl rfl rfl) ?_
              obtain ⟨x1000, hx1001, H⟩ := bnd H
              obtain ⟨r1002, hq1003, hr1004⟩ := RowR.at hR706 hx1001
              obtain rfl := hr1004
              refine Ow_q rfl rfl rfl (Q_ixR (T := Ty.i64) (.tail _ (.head _)) hR706 hq1003 (getI_ix hx1001).1 rfl rfl rfl rfl rfl) ?_
              refine Ow_cons rfl (O_storeR (T := Ty.i64) (vs := [(.int .i64 (wI (x995 + 1)))]) (r' := [(.int .i64 (wI (x995 + 1)))]) (l' := (setI l705 x808.thread (wI (x995 + 1)))) rfl rfl rfl rfl rfl (.there .here) hR706 hq1003 rfl rfl rfl (RowR.set x808.thread hR706 rfl) (fun hR1005 => ?_))
              have hE1006 := set_at hq1003 (v := [(.int .i64 (wI (x995 + 1)))])
              refine Ow_nil ?_
              refine Shift.pull (.there (.there .here)) ?_
              refine Shift.pull (.there (.there .here)) ?_
              refine Shift.rem (.there (.there .here)) ?_
              refine Shift.done ?_
              exact ⟨[(0, (sv vp0)), (1, (sv vp1)), (5, (sv v250)), (6, (sv v256)), (7, (.int .i64 i711)), (9, (.int .i64 x808.thread))], ⟨rfl, rfl, rfl, rfl, rfl, rfl, trivial⟩, (setI l705 x808.thread (wI (x995 + 1))), (rs707.set x808.thread.toNat [(.int .i64 (wI (x995 + 1)))]), rfl, rfl, rfl, H, hR1005⟩
            · intro h994
              have H := iff_ (btf h994) H
              refine Cw_skip ?_
              refine Shift.pull (.there (.there .here)) ?_
              refine Shift.pull (.there (.there .here)) ?_
              refine Shift.rem (.there (.there .here)) ?_
              refine Shift.done ?_
              exact ⟨[(0, (sv vp0)), (1, (sv vp1)), (5, (sv v250)), (6, (sv v256)), (7, (.int .i64 i711)), (9, (.int .i64 x808.thread))], ⟨rfl, rfl, rfl, rfl, rfl, rfl, trivial⟩, l705, rs707, rfl, rfl, rfl, H, hR706⟩
          rintro _ _ _ - ⟨l991, rs993, rfl, rfl, rfl, H, hR992⟩
          unfold M_ref16_Check_J4 at H
          refine Cw_region ?_
          refine Ow_q rfl rfl rfl (Qt_move rfl) ?_
          refine Ow_q rfl rfl rfl (Qt_move rfl) ?_
          refine Ow_q rfl rfl rfl (Qt_move rfl) ?_
          refine Ow_q rfl rfl rfl (Qt_move rfl) ?_
          obtain ⟨x1007, hx1008, H⟩ := bnd H
          obtain ⟨r1009, hq1010, hr1011⟩ := RowR.at hR709 hx1008
          obtain rfl := hr1011
          refine Ow_q rfl rfl rfl (Q_ixR (T := Ty.bool) (.tail _ (.head _)) hR709 hq1010 (getI_ix hx1008).1 rfl rfl rfl rfl rfl) ?_
          refine Ow_q rfl rfl rfl (Qt_load1 (v := (.bool x1007)) rfl rfl rfl (Rd_row (T := Ty.bool) (.tail _ (.head _)) hR709 hq1010 rfl rfl)) ?_
          refine Ow_q rfl rfl rfl (Qt_not rfl) ?_
          obtain ⟨x1012, hx1013, H⟩ := bnd H
          obtain ⟨r1014, hq1015, hr1016⟩ := RowR.at hR709 hx1013
          obtain rfl := hr1016
          refine Ow_q rfl rfl rfl (Q_ixR (T := Ty.bool) (.tail _ (.head _)) hR709 hq1015 (getI_ix hx1013).1 rfl rfl rfl rfl rfl) ?_
          refine Ow_cons rfl (O_storeR (T := Ty.bool) (vs := [(.bool (!(x1007)))]) (r' := [(.bool (!(x1007)))]) (l' := (setI l708 x808.thread (!(x1007)))) rfl rfl rfl rfl rfl (.there .here) hR709 hq1015 rfl rfl rfl (RowR.set x808.thread hR709 rfl) (fun hR1017 => ?_))
          have hE1018 := set_at hq1015 (v := [(.bool (!(x1007)))])
          refine Ow_nil ?_
          refine Cw_region ?_
          refine Ow_q rfl rfl rfl (Qt_move rfl) ?_
          refine Ow_q rfl rfl rfl (Qt_arith (e := wI (i711 + 1)) rfl rfl rfl rfl) ?_
          refine Ow_q rfl rfl rfl (Qt_assign rfl) ?_
          refine Ow_nil ?_
          refine Shift.pull (.there .here) ?_
          refine Shift.pull (.there .here) ?_
          refine Shift.done ?_
          exact ⟨[(0, (sv vp0)), (1, (sv vp1)), (5, (sv v250)), (6, (sv v256)), (7, (.int .i64 (wI (i711 + 1))))], ⟨rfl, rfl, rfl, rfl, rfl, trivial⟩, _, Nat.lt_succ_self _, l991, rs993, (setI l708 x808.thread (!(x1007))), (rs710.set x808.thread.toNat [(.bool (!(x1007)))]), (wI (i711 + 1)), rfl, rfl, rfl, (hkk715 ▸ H), hR992, hR1017⟩
    · intro h717
      have h717 := dcd_f (h717)
      have H := iff_ h717 H
      refine Cw_exit ?_
      refine Shift.rem .here ?_
      refine Shift.rem .here ?_
      refine Shift.done ?_
      exact ⟨[], trivial, rfl, rfl, H⟩
  rintro _ K1019 _ hK1020 ⟨rfl, rfl, H⟩
  unfold M_ref16_Check_J1 at H
  refine Cw_seq ?_
  refine Cw_region ?_
  refine Ow_q rfl rfl rfl (Qt_assign rfl) ?_
  refine Ow_nil ?_
  refine Cw_ret ?_
  obtain ey0 := inj1 H
  subst y0
  refine ⟨(by first | exact .inl rfl | exact .inr rfl), [(.bool true)], ⟨(.bool true), _, rfl, rfl, rfl⟩, ?_⟩
  refine Shift.done ?_
  exact ⟨rfl, rfl⟩


end Go.Hx
