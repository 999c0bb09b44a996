/- Printed by program. -/
import Derived.Test.YtlegagccaeoidaaXFM
namespace Go.Hx
open Go Go.Proofs
set_option linter.unusedSimpArgs false
set_option linter.unusedVariables false
set_option maxRecDepth 10000
set_option maxHeartbeats 1000000 in
theorem c_M_draw_rest (p0 : Int) (p1 : Int) (y0 : Int) (H : M_draw_rest p0 p1 = some y0) (K : Kp) (G : List Ent)  :
    Fc Try.prog 53 #[(.int .i64 p0), (.int .i64 p1)] K (G) (fun v K' G' => v = (.int .i64 y0) ∧ K = K' ∧ G = G') := by
  refine Fc_body Try.func53 rfl Try.ntmps53 Try.results53 rfl ?_
  unfold M_draw_rest at H
  refine Cw_seq ?_
  refine Cw_region ?_
  refine Ow_q rfl rfl rfl (Qt_assign rfl) ?_
  refine Ow_nil ?_
  refine Cw_seq ?_
  refine Cw_region ?_
  refine Ow_q rfl rfl rfl (Qt_move rfl) ?_
  refine Ow_q rfl rfl rfl (Qt_move rfl) ?_
  obtain ⟨x5, hx6, H⟩ := bnd H
  refine Ow_q rfl rfl rfl (Q_rem hx6 rfl rfl) ?_
  refine Ow_q rfl rfl rfl (Qt_move rfl) ?_
  refine Ow_q rfl rfl rfl (Qt_arith (e := wI (x5 + p1)) rfl rfl rfl rfl) ?_
  refine Ow_q rfl rfl rfl (Qt_move rfl) ?_
  obtain ⟨x7, hx8, H⟩ := bnd H
  refine Ow_q rfl rfl rfl (Q_rem hx8 rfl rfl) ?_
  refine Ow_q rfl rfl rfl (Qt_assign rfl) ?_
  refine Ow_nil ?_
  refine Cw_ret ?_
  obtain ey0 := inj1 H
  subst y0
  refine ⟨(by first | exact .inl rfl | exact .inr rfl), [(.int .i64 x7)], ⟨(.int .i64 x7), _, rfl, rfl, rfl⟩, ?_⟩
  refine Shift.done ?_
  exact ⟨rfl, rfl, rfl⟩

set_option maxHeartbeats 1000000 in
theorem c_M_draw_Order (p0 : Int) (p1 : List Int) (vp1 : SV) (y0 : List Int) (H : M_draw_Order p0 p1 = some y0) (K : Kp) (G : List Ent) (hp1 : Slr Ty.i64 K (sv vp1) p1) :
    Fc Try.prog 44 #[(.int .i64 p0), (sv vp1)] K (G) (fun v K' G' => ∃ (wy0 : SV) (rswy0 : List (List Value)), v = (sv wy0) ∧ (.row (sv wy0) 3 1 rswy0.flatten) :: G = G' ∧ RowR Ty.i64 K' rswy0 y0) := by
  refine Fc_body Try.func44 rfl Try.ntmps44 Try.results44 rfl ?_
  unfold M_draw_Order at H
  refine Cw_seq ?_
  refine Cw_region ?_
  refine Ow_q rfl rfl rfl (Qt_assign rfl) ?_
  refine Ow_nil ?_
  refine Cw_seq ?_
  refine Cw_join (fun env' K' G' => ∃ (t302 : Bool), [(0, (.int .i64 p0)), (1, (sv vp1)), (14, (.bool t302))] = env' ∧ K = K' ∧ G = G' ∧ M_draw_Order_J1 p0 p1 t302 = some y0) ?_ ?_
  · skip
    refine Cw_region ?_
    refine Ow_q rfl rfl rfl (Qt_move rfl) ?_
    refine Ow_q rfl rfl rfl (Qt_cmp rfl rfl rfl) ?_
    refine Ow_q rfl rfl rfl (Qt_move rfl) ?_
    refine Ow_caseG rfl rfl rfl ?_ ?_
    · intro h303
      have h303 := dcd_t (h303)
      have H := ift h303 H
      refine Ow_pass rfl rfl rfl rfl rfl rfl rfl ?_
      refine Ow_pass rfl rfl rfl rfl rfl rfl rfl ?_
      refine Ow_q rfl rfl rfl (Qt_pick_t rfl rfl) ?_
      refine Ow_nil ?_
      refine Shift.done ?_
      exact ⟨[(0, (.int .i64 p0)), (1, (sv vp1)), (14, (.bool true))], ⟨rfl, rfl, rfl, trivial⟩, true, rfl, rfl, rfl, H⟩
    · intro h303
      have h303 := dcd_f (h303)
      have H := iff_ h303 H
      refine Ow_qw rfl rfl rfl rfl rfl rfl (Qt_move rfl) ?_
      refine Ow_qw rfl rfl rfl rfl rfl rfl (Qt_cmp rfl rfl rfl) ?_
      refine Ow_q rfl rfl rfl (Qt_pick_f rfl rfl) ?_
      refine Ow_nil ?_
      refine Shift.done ?_
      exact ⟨[(0, (.int .i64 p0)), (1, (sv vp1)), (14, (.bool (dcd (p0 > 20))))], ⟨rfl, rfl, rfl, trivial⟩, (dcd (p0 > 20)), rfl, rfl, rfl, H⟩
  rintro _ _ _ - ⟨t302, rfl, rfl, rfl, H⟩
  unfold M_draw_Order_J1 at H
  refine Cw_cond rfl ?_ ?_
  · intro h304
    have H := ift h304 H
    refine Cw_seq ?_
    refine Cw_region ?_
    refine Ow_q rfl rfl rfl (Qt_assign rfl) ?_
    refine Ow_nil ?_
    refine Cw_ret ?_
    obtain ey0 := inj1 H
    subst y0
    refine ⟨(by first | exact .inl rfl | exact .inr rfl), [(sv nilS)], ⟨(sv nilS), _, rfl, rfl, rfl⟩, ?_⟩
    have hR305 : RowR Ty.i64 K [] [] := RowR.nil
    refine Shift.nilRow 3 1 ?_
    refine Shift.done ?_
    exact ⟨nilS, ([] : List (List Value)), rfl, rfl, hR305⟩
  · intro h304
    have H := iff_ (btf h304) H
    refine Cw_skip ?_
    refine Cw_seq ?_
    refine Cw_region ?_
    refine Ow_q rfl rfl rfl (Qt_move rfl) ?_
    obtain ⟨x306, hx307, H⟩ := bnd H
    refine Ow_cons rfl (O_make (T := Ty.i64) (r := [(.int .i64 0)]) rfl rfl rfl hx307 rfl rfl rfl rfl rfl rfl rfl rfl rfl rfl (fun v308 rs309 hR310 hz311 => ?_))
    refine Ow_q rfl rfl rfl (Qt_assign rfl) ?_
    refine Ow_nil ?_
    refine Cw_join (fun env' K' G' => ∃ (l341 : List Int) (rs343 : List (List Value)), [(0, (.int .i64 p0)), (1, (sv vp1)), (5, (sv v308))] = env' ∧ (.row (sv v308) 3 1 rs343.flatten) :: G = G' ∧ M_draw_Order_J2 p0 p1 l341 = some y0 ∧ RowR Ty.i64 K' rs343 l341) ?_ ?_
    · skip
      refine Cw_seq ?_
      refine Cw_region ?_
      refine Ow_q rfl rfl rfl (Qt_move rfl) ?_
      refine Ow_q rfl rfl rfl (Q_lenR (T := Ty.i64) (.head _) hR310 rfl rfl rfl) ?_
      refine Ow_q rfl rfl rfl (Qt_move rfl) ?_
      refine Ow_nil ?_
      refine Cw_block ?_
      refine Cw_loopM (fun n373 env' K' G' => ∃ (l369 : List Int) (rs371 : List (List Value)) (i372 : Int), [(0, (.int .i64 p0)), (1, (sv vp1)), (5, (sv v308)), (18, (.int .i64 (x306.length : Int))), (19, (.int .i64 i372))] = env' ∧ K = K' ∧ (.row (sv v308) 3 1 rs371.flatten) :: G = G' ∧ lp2 (M_draw_Order_L1 p0 p1 x306) n373 l369 i372 = some y0 ∧ RowR Ty.i64 K' rs371 l369) BIG ?_ ?_
      · skip
        refine Shift.done ?_
        exact ⟨[(0, (.int .i64 p0)), (1, (sv vp1)), (5, (sv v308)), (18, (.int .i64 (x306.length : Int))), (19, (.int .i64 0))], ⟨rfl, rfl, rfl, rfl, rfl, trivial⟩, x306, rs309, 0, rfl, rfl, rfl, H, hR310⟩
      rintro n373 _ _ _ - ⟨l369, rs371, i372, rfl, rfl, rfl, H, hR370⟩
      obtain ⟨m374, k375, rfl, hkk376, H⟩ := lps2 H
      unfold M_draw_Order_L1 at H
      refine Cw_seq ?_
      refine Cw_region ?_
      refine Ow_q rfl rfl rfl (Qt_cmp rfl rfl rfl) ?_
      refine Ow_nil ?_
      refine Cw_seq ?_
      refine Cw_cond rfl ?_ ?_
      · intro h378
        have h378 := dcd_t (h378)
        have H := ift h378 H
        refine Cw_skip ?_
        refine Cw_seq ?_
        refine Cw_block ?_
        refine Cw_seq ?_
        refine Cw_region ?_
        refine Ow_q rfl rfl rfl (Qt_move rfl) ?_
        refine Ow_q rfl rfl rfl (Qt_assign rfl) ?_
        refine Ow_nil ?_
        refine Cw_region ?_
        refine Ow_q rfl rfl rfl (Qt_move rfl) ?_
        refine Ow_q rfl rfl rfl (Qt_move rfl) ?_
        refine Ow_q rfl rfl rfl (Qt_move rfl) ?_
        obtain ⟨x386, hx387, H⟩ := bnd H
        obtain ⟨r388, hq389, hr390⟩ := RowR.at hR370 hx387
        obtain rfl := hr390
        refine Ow_q rfl rfl rfl (Q_ixR (T := Ty.i64) (.head _) hR370 hq389 (getI_ix hx387).1 rfl rfl rfl rfl rfl) ?_
        refine Ow_cons rfl (O_storeR (T := Ty.i64) (vs := [(.int .i64 i372)]) (r' := [(.int .i64 i372)]) (l' := (setI l369 i372 i372)) rfl rfl rfl rfl rfl .here hR370 hq389 rfl rfl rfl (RowR.set i372 hR370 rfl) (fun hR391 => ?_))
        have hE392 := set_at hq389 (v := [(.int .i64 i372)])
        refine Ow_nil ?_
        refine Cw_region ?_
        refine Ow_q rfl rfl rfl (Qt_arith (e := wI (i372 + 1)) rfl rfl rfl rfl) ?_
        refine Ow_q rfl rfl rfl (Qt_move rfl) ?_
        refine Ow_nil ?_
        refine Shift.done ?_
        exact ⟨[(0, (.int .i64 p0)), (1, (sv vp1)), (5, (sv v308)), (18, (.int .i64 (x306.length : Int))), (19, (.int .i64 (wI (i372 + 1))))], ⟨rfl, rfl, rfl, rfl, rfl, trivial⟩, _, Nat.lt_succ_self _, (setI l369 i372 i372), (rs371.set i372.toNat [(.int .i64 i372)]), (wI (i372 + 1)), rfl, rfl, rfl, (hkk376 ▸ H), hR391⟩
      · intro h378
        have h378 := dcd_f (h378)
        have H := iff_ h378 H
        refine Cw_exit ?_
        refine Shift.done ?_
        exact ⟨[(0, (.int .i64 p0)), (1, (sv vp1)), (5, (sv v308))], ⟨rfl, rfl, rfl, trivial⟩, l369, rs371, rfl, rfl, H, hR370⟩
    rintro _ K393 _ hK394 ⟨l341, rs343, rfl, rfl, H, hR342⟩
    unfold M_draw_Order_J2 at H
    refine Cw_join (fun env' K' G' => ∃ (l642 : List Int) (rs644 : List (List Value)), [(5, (sv v308))] = env' ∧ (.row (sv v308) 3 1 rs644.flatten) :: G = G' ∧ M_draw_Order_J3 l642 = some y0 ∧ RowR Ty.i64 K' rs644 l642) ?_ ?_
    · skip
      refine Cw_seq ?_
      refine Cw_region ?_
      refine Ow_q rfl rfl rfl (Qt_move rfl) ?_
      refine Ow_q rfl rfl rfl (Qt_arith (e := wI (p0 - 1)) rfl rfl rfl rfl) ?_
      refine Ow_q rfl rfl rfl (Qt_assign rfl) ?_
      refine Ow_nil ?_
      refine Cw_block ?_
      refine Cw_loopM (fun n892 env' K' G' => ∃ (l888 : List Int) (rs890 : List (List Value)) (i891 : Int), [(1, (sv vp1)), (5, (sv v308)), (7, (.int .i64 i891))] = env' ∧ K393 = K' ∧ (.row (sv v308) 3 1 rs890.flatten) :: G = G' ∧ lp2 (M_draw_Order_L2 p1) n892 l888 i891 = some y0 ∧ RowR Ty.i64 K' rs890 l888) BIG ?_ ?_
      · skip
        refine Shift.done ?_
        exact ⟨[(1, (sv vp1)), (5, (sv v308)), (7, (.int .i64 (wI (p0 - 1))))], ⟨rfl, rfl, rfl, trivial⟩, l341, rs343, (wI (p0 - 1)), rfl, rfl, rfl, H, hR342⟩
      rintro n892 _ _ _ - ⟨l888, rs890, i891, rfl, rfl, rfl, H, hR889⟩
      obtain ⟨m893, k894, rfl, hkk895, H⟩ := lps2 H
      unfold M_draw_Order_L2 at H
      refine Cw_seq ?_
      refine Cw_seq ?_
      refine Cw_region ?_
      refine Ow_q rfl rfl rfl (Qt_move rfl) ?_
      refine Ow_q rfl rfl rfl (Qt_cmp rfl rfl rfl) ?_
      refine Ow_nil ?_
      refine Cw_cond rfl ?_ ?_
      · intro h897
        have h897 := dcd_t (h897)
        have H := ift h897 H
        refine Cw_skip ?_
        refine Cw_join (fun env' K' G' => ∃ (l1010 : List Int) (rs1012 : List (List Value)), [(1, (sv vp1)), (5, (sv v308)), (7, (.int .i64 i891))] = env' ∧ K393 = K' ∧ (.row (sv v308) 3 1 rs1012.flatten) :: G = G' ∧ M_draw_Order_J4 p1 i891 k894 l1010 = some y0 ∧ RowR Ty.i64 K' rs1012 l1010) ?_ ?_
        · skip
          refine Cw_block ?_
          refine Cw_seq ?_
          refine Cw_region ?_
          refine Ow_q rfl rfl rfl (Qt_assign rfl) ?_
          refine Ow_nil ?_
          refine Cw_join (fun env' K' G' => ∃ (i1022 : Int), [(1, (sv vp1)), (5, (sv v308)), (7, (.int .i64 i891)), (8, (.int .i64 i1022))] = env' ∧ K393 = K' ∧ (.row (sv v308) 3 1 rs890.flatten) :: G = G' ∧ M_draw_Order_J5 p1 l888 i891 k894 i1022 = some y0) ?_ ?_
          · skip
            refine Cw_seq ?_
            refine Cw_region ?_
            refine Ow_q rfl rfl rfl (Qt_move rfl) ?_
            refine Ow_q rfl rfl rfl (Qt_move rfl) ?_
            have hs1023 := (hp1).mono hK394
            refine Ow_q rfl rfl rfl (Q_len (T := Ty.i64) hs1023 rfl rfl) ?_
            refine Ow_q rfl rfl rfl (Qt_cmp rfl rfl rfl) ?_
            refine Ow_nil ?_
            refine Cw_cond rfl ?_ ?_
            · intro h1024
              have h1024 := dcd_t (h1024)
              have H := ift h1024 H
              refine Cw_region ?_
              refine Ow_q rfl rfl rfl (Qt_move rfl) ?_
              refine Ow_q rfl rfl rfl (Qt_move rfl) ?_
              obtain ⟨x1025, hx1026, H⟩ := bnd H
              obtain ⟨r1027, hr1028, hk1029⟩ := Slr.at hs1023 hx1026
              obtain rfl := hr1028
              refine Ow_q rfl rfl rfl (Q_ix (T := Ty.i64) hs1023 hx1026 rfl rfl rfl rfl rfl) ?_
              refine Ow_q rfl rfl rfl (Qt_load1 (v := (.int .i64 x1025)) rfl rfl rfl (Rdc.k hk1029 rfl)) ?_
              refine Ow_q rfl rfl rfl (Qt_move rfl) ?_
              refine Ow_q rfl rfl rfl (Qt_arith (e := wI (i891 + 1)) rfl rfl rfl rfl) ?_
              obtain ⟨x1030, hx1031, H⟩ := bnd H
              refine Ow_cons rfl (OpW_call rfl Try.call53 rfl rfl (c_M_draw_rest x1025 (wI (i891 + 1)) x1030 hx1031 _ _ ) ?_)
              rintro _ _ _ - ⟨rfl, rfl, rfl⟩
              refine Ow_q rfl rfl rfl (Qt_assign rfl) ?_
              refine Ow_nil ?_
              refine Shift.done ?_
              exact ⟨[(1, (sv vp1)), (5, (sv v308)), (7, (.int .i64 i891)), (8, (.int .i64 x1030))], ⟨rfl, rfl, rfl, rfl, trivial⟩, x1030, rfl, rfl, rfl, H⟩
            · intro h1024
              have h1024 := dcd_f (h1024)
              have H := iff_ h1024 H
              refine Cw_skip ?_
              refine Shift.done ?_
              exact ⟨[(1, (sv vp1)), (5, (sv v308)), (7, (.int .i64 i891)), (8, (.int .i64 0))], ⟨rfl, rfl, rfl, rfl, trivial⟩, 0, rfl, rfl, rfl, H⟩
          rintro _ _ _ - ⟨i1022, rfl, rfl, rfl, H⟩
          unfold M_draw_Order_J5 at H
          obtain ⟨x1032, hx1033, H⟩ := bnd H
          obtain ⟨x1037, hx1038, H⟩ := bnd H
          obtain ⟨x1042, hx1043, H⟩ := bnd H
          obtain ⟨x1049, hx1050, H⟩ := bnd H
          refine Cw_region_any [] rfl Inc.nil ?_
          refine Aw_q 0 rfl (by kernel_rfl) (by kernel_rfl) (by kernel_rfl) rfl rfl rfl (Qt_move rfl) ?_
          refine Aw_q 1 rfl (by kernel_rfl) (by kernel_rfl) (by kernel_rfl) rfl rfl rfl (Qt_move rfl) ?_
          refine Aw_q 2 rfl (by kernel_rfl) (by kernel_rfl) (by kernel_rfl) rfl rfl rfl (Qt_move rfl) ?_
          refine Aw_q 3 rfl (by kernel_rfl) (by kernel_rfl) (by kernel_rfl) rfl rfl rfl (Qt_move rfl) ?_
          refine Aw_q 4 rfl (by kernel_rfl) (by kernel_rfl) (by kernel_rfl) rfl rfl rfl (Qt_move rfl) ?_
          refine Aw_q 5 rfl (by kernel_rfl) (by kernel_rfl) (by kernel_rfl) rfl rfl rfl (Qt_move rfl) ?_
          refine Aw_q 8 rfl (by kernel_rfl) (by kernel_rfl) (by kernel_rfl) rfl rfl rfl (Qt_move rfl) ?_
          refine Aw_q 9 rfl (by kernel_rfl) (by kernel_rfl) (by kernel_rfl) rfl rfl rfl (Qt_move rfl) ?_
          refine Aw_two 6 10 (by kernel_rfl) ?_ ?_
          · skip
            obtain ⟨r1056, hq1057, hr1058⟩ := RowR.at hR889 hx1033
            obtain rfl := hr1058
            refine id (Ax_mk rfl rfl (OpW_of_Qt rfl rfl (Q_ixR (T := Ty.i64) (.head _) hR889 hq1057 (getI_ix hx1033).1 rfl rfl rfl rfl rfl) ⟨Inc.nil, ?_⟩))
            refine Aw_two 7 10 (by kernel_rfl) ?_ ?_
            · skip
              refine id (Ax_mk rfl rfl (OpW_of_Qt rfl rfl (Qt_load1 (v := (.int .i64 x1032)) rfl rfl rfl (Rd_row (T := Ty.i64) (.head _) hR889 hq1057 rfl rfl)) ⟨Inc.nil, ?_⟩))
              obtain ⟨r1059, hq1060, hr1061⟩ := RowR.at hR889 hx1038
              obtain rfl := hr1061
              refine Aw_one 10 (by kernel_rfl) (Ax_mk rfl rfl (OpW_of_Qt rfl rfl (Q_ixR (T := Ty.i64) (.head _) hR889 hq1060 (getI_ix hx1038).1 rfl rfl rfl rfl rfl) ⟨Inc.nil, ?_⟩))
              refine Aw_one 11 (by kernel_rfl) (Ax_mk rfl rfl (OpW_of_Qt rfl rfl (Qt_load1 (v := (.int .i64 x1037)) rfl rfl rfl (Rd_row (T := Ty.i64) (.head _) hR889 hq1060 rfl rfl)) ⟨Inc.nil, ?_⟩))
              obtain ⟨r1062, hq1063, hr1064⟩ := RowR.at hR889 hx1043
              obtain rfl := hr1064
              refine Aw_one 12 (by kernel_rfl) (Ax_mk rfl rfl (OpW_of_Qt rfl rfl (Q_ixR (T := Ty.i64) (.head _) hR889 hq1063 (getI_ix hx1043).1 rfl rfl rfl rfl rfl) ⟨Inc.nil, ?_⟩))
              refine Aw_one 13 (by kernel_rfl) (Ax_mk rfl rfl ?_)
              refine O_storeR (T := Ty.i64) (vs := [(.int .i64 x1032)]) (r' := [(.int .i64 x1032)]) (l' := (setI l888 i891 x1032)) rfl rfl rfl rfl rfl .here hR889 hq1063 rfl rfl rfl (RowR.set i891 hR889 rfl) (fun hR1065 => ⟨Inc.nil, ?_⟩)
              have hE1066 := set_at hq1063 (v := [(.int .i64 x1032)])
              obtain ⟨r1067, hq1068, hr1069⟩ := RowR.at hR1065 hx1050
              obtain rfl := hr1069
              refine Aw_one 14 (by kernel_rfl) (Ax_mk rfl rfl (OpW_of_Qt rfl rfl (Q_ixR (T := Ty.i64) (.head _) hR1065 hq1068 (getI_ix hx1050).1 rfl rfl rfl rfl rfl) ⟨Inc.nil, ?_⟩))
              refine Aw_one 15 (by kernel_rfl) (Ax_mk rfl rfl ?_)
              refine O_storeR (T := Ty.i64) (vs := [(.int .i64 x1037)]) (r' := [(.int .i64 x1037)]) (l' := (setI (setI l888 i891 x1032) i1022 x1037)) rfl rfl rfl rfl rfl .here hR1065 hq1068 rfl rfl rfl (RowR.set i1022 hR1065 rfl) (fun hR1070 => ⟨Inc.nil, ?_⟩)
              have hE1071 := set_at hq1068 (v := [(.int .i64 x1037)])
              refine Aw_done (by kernel_rfl) ?_
              refine Shift.done ?_
              exact ⟨[(1, (sv vp1)), (5, (sv v308)), (7, (.int .i64 i891))], ⟨rfl, rfl, rfl, trivial⟩, (setI (setI l888 i891 x1032) i1022 x1037), ((rs890.set i891.toNat [(.int .i64 x1032)]).set i1022.toNat [(.int .i64 x1037)]), rfl, rfl, rfl, H, hR1070⟩
            · skip
              obtain ⟨r1072, hq1073, hr1074⟩ := RowR.at hR889 hx1038
              obtain rfl := hr1074
              refine id (Ax_mk rfl rfl (OpW_of_Qt rfl rfl (Q_ixR (T := Ty.i64) (.head _) hR889 hq1073 (getI_ix hx1038).1 rfl rfl rfl rfl rfl) ⟨Inc.nil, ?_⟩))
              refine Aw_two 7 11 (by kernel_rfl) ?_ ?_
              · skip
                refine id (Ax_mk rfl rfl (OpW_of_Qt rfl rfl (Qt_load1 (v := (.int .i64 x1032)) rfl rfl rfl (Rd_row (T := Ty.i64) (.head _) hR889 hq1057 rfl rfl)) ⟨Inc.nil, ?_⟩))
                refine Aw_one 11 (by kernel_rfl) (Ax_mk rfl rfl (OpW_of_Qt rfl rfl (Qt_load1 (v := (.int .i64 x1037)) rfl rfl rfl (Rd_row (T := Ty.i64) (.head _) hR889 hq1073 rfl rfl)) ⟨Inc.nil, ?_⟩))
                obtain ⟨r1075, hq1076, hr1077⟩ := RowR.at hR889 hx1043
                obtain rfl := hr1077
                refine Aw_one 12 (by kernel_rfl) (Ax_mk rfl rfl (OpW_of_Qt rfl rfl (Q_ixR (T := Ty.i64) (.head _) hR889 hq1076 (getI_ix hx1043).1 rfl rfl rfl rfl rfl) ⟨Inc.nil, ?_⟩))
                refine Aw_one 13 (by kernel_rfl) (Ax_mk rfl rfl ?_)
                refine O_storeR (T := Ty.i64) (vs := [(.int .i64 x1032)]) (r' := [(.int .i64 x1032)]) (l' := (setI l888 i891 x1032)) rfl rfl rfl rfl rfl .here hR889 hq1076 rfl rfl rfl (RowR.set i891 hR889 rfl) (fun hR1078 => ⟨Inc.nil, ?_⟩)
                have hE1079 := set_at hq1076 (v := [(.int .i64 x1032)])
                obtain ⟨r1080, hq1081, hr1082⟩ := RowR.at hR1078 hx1050
                obtain rfl := hr1082
                refine Aw_one 14 (by kernel_rfl) (Ax_mk rfl rfl (OpW_of_Qt rfl rfl (Q_ixR (T := Ty.i64) (.head _) hR1078 hq1081 (getI_ix hx1050).1 rfl rfl rfl rfl rfl) ⟨Inc.nil, ?_⟩))
                refine Aw_one 15 (by kernel_rfl) (Ax_mk rfl rfl ?_)
                refine O_storeR (T := Ty.i64) (vs := [(.int .i64 x1037)]) (r' := [(.int .i64 x1037)]) (l' := (setI (setI l888 i891 x1032) i1022 x1037)) rfl rfl rfl rfl rfl .here hR1078 hq1081 rfl rfl rfl (RowR.set i1022 hR1078 rfl) (fun hR1083 => ⟨Inc.nil, ?_⟩)
                have hE1084 := set_at hq1081 (v := [(.int .i64 x1037)])
                refine Aw_done (by kernel_rfl) ?_
                refine Shift.done ?_
                exact ⟨[(1, (sv vp1)), (5, (sv v308)), (7, (.int .i64 i891))], ⟨rfl, rfl, rfl, trivial⟩, (setI (setI l888 i891 x1032) i1022 x1037), ((rs890.set i891.toNat [(.int .i64 x1032)]).set i1022.toNat [(.int .i64 x1037)]), rfl, rfl, rfl, H, hR1083⟩
              · skip
                refine id (Ax_mk rfl rfl (OpW_of_Qt rfl rfl (Qt_load1 (v := (.int .i64 x1037)) rfl rfl rfl (Rd_row (T := Ty.i64) (.head _) hR889 hq1073 rfl rfl)) ⟨Inc.nil, ?_⟩))
                refine Aw_one 7 (by kernel_rfl) (Ax_mk rfl rfl (OpW_of_Qt rfl rfl (Qt_load1 (v := (.int .i64 x1032)) rfl rfl rfl (Rd_row (T := Ty.i64) (.head _) hR889 hq1057 rfl rfl)) ⟨Inc.nil, ?_⟩))
                obtain ⟨r1085, hq1086, hr1087⟩ := RowR.at hR889 hx1043
                obtain rfl := hr1087
                refine Aw_one 12 (by kernel_rfl) (Ax_mk rfl rfl (OpW_of_Qt rfl rfl (Q_ixR (T := Ty.i64) (.head _) hR889 hq1086 (getI_ix hx1043).1 rfl rfl rfl rfl rfl) ⟨Inc.nil, ?_⟩))
                refine Aw_one 13 (by kernel_rfl) (Ax_mk rfl rfl ?_)
                refine O_storeR (T := Ty.i64) (vs := [(.int .i64 x1032)]) (r' := [(.int .i64 x1032)]) (l' := (setI l888 i891 x1032)) rfl rfl rfl rfl rfl .here hR889 hq1086 rfl rfl rfl (RowR.set i891 hR889 rfl) (fun hR1088 => ⟨Inc.nil, ?_⟩)
                have hE1089 := set_at hq1086 (v := [(.int .i64 x1032)])
                obtain ⟨r1090, hq1091, hr1092⟩ := RowR.at hR1088 hx1050
                obtain rfl := hr1092
                refine Aw_one 14 (by kernel_rfl) (Ax_mk rfl rfl (OpW_of_Qt rfl rfl (Q_ixR (T := Ty.i64) (.head _) hR1088 hq1091 (getI_ix hx1050).1 rfl rfl rfl rfl rfl) ⟨Inc.nil, ?_⟩))
                refine Aw_one 15 (by kernel_rfl) (Ax_mk rfl rfl ?_)
                refine O_storeR (T := Ty.i64) (vs := [(.int .i64 x1037)]) (r' := [(.int .i64 x1037)]) (l' := (setI (setI l888 i891 x1032) i1022 x1037)) rfl rfl rfl rfl rfl .here hR1088 hq1091 rfl rfl rfl (RowR.set i1022 hR1088 rfl) (fun hR1093 => ⟨Inc.nil, ?_⟩)
                have hE1094 := set_at hq1091 (v := [(.int .i64 x1037)])
                refine Aw_done (by kernel_rfl) ?_
                refine Shift.done ?_
                exact ⟨[(1, (sv vp1)), (5, (sv v308)), (7, (.int .i64 i891))], ⟨rfl, rfl, rfl, trivial⟩, (setI (setI l888 i891 x1032) i1022 x1037), ((rs890.set i891.toNat [(.int .i64 x1032)]).set i1022.toNat [(.int .i64 x1037)]), rfl, rfl, rfl, H, hR1093⟩
          · skip
            obtain ⟨r1095, hq1096, hr1097⟩ := RowR.at hR889 hx1038
            obtain rfl := hr1097
            refine id (Ax_mk rfl rfl (OpW_of_Qt rfl rfl (Q_ixR (T := Ty.i64) (.head _) hR889 hq1096 (getI_ix hx1038).1 rfl rfl rfl rfl rfl) ⟨Inc.nil, ?_⟩))
            refine Aw_two 6 11 (by kernel_rfl) ?_ ?_
            · skip
              obtain ⟨r1098, hq1099, hr1100⟩ := RowR.at hR889 hx1033
              obtain rfl := hr1100
              refine id (Ax_mk rfl rfl (OpW_of_Qt rfl rfl (Q_ixR (T := Ty.i64) (.head _) hR889 hq1099 (getI_ix hx1033).1 rfl rfl rfl rfl rfl) ⟨Inc.nil, ?_⟩))
              refine Aw_two 7 11 (by kernel_rfl) ?_ ?_
              · skip
                refine id (Ax_mk rfl rfl (OpW_of_Qt rfl rfl (Qt_load1 (v := (.int .i64 x1032)) rfl rfl rfl (Rd_row (T := Ty.i64) (.head _) hR889 hq1099 rfl rfl)) ⟨Inc.nil, ?_⟩))
                refine Aw_one 11 (by kernel_rfl) (Ax_mk rfl rfl (OpW_of_Qt rfl rfl (Qt_load1 (v := (.int .i64 x1037)) rfl rfl rfl (Rd_row (T := Ty.i64) (.head _) hR889 hq1096 rfl rfl)) ⟨Inc.nil, ?_⟩))
                obtain ⟨r1101, hq1102, hr1103⟩ := RowR.at hR889 hx1043
                obtain rfl := hr1103
                refine Aw_one 12 (by kernel_rfl) (Ax_mk rfl rfl (OpW_of_Qt rfl rfl (Q_ixR (T := Ty.i64) (.head _) hR889 hq1102 (getI_ix hx1043).1 rfl rfl rfl rfl rfl) ⟨Inc.nil, ?_⟩))
                refine Aw_one 13 (by kernel_rfl) (Ax_mk rfl rfl ?_)
                refine O_storeR (T := Ty.i64) (vs := [(.int .i64 x1032)]) (r' := [(.int .i64 x1032)]) (l' := (setI l888 i891 x1032)) rfl rfl rfl rfl rfl .here hR889 hq1102 rfl rfl rfl (RowR.set i891 hR889 rfl) (fun hR1104 => ⟨Inc.nil, ?_⟩)
                have hE1105 := set_at hq1102 (v := [(.int .i64 x1032)])
                obtain ⟨r1106, hq1107, hr1108⟩ := RowR.at hR1104 hx1050
                obtain rfl := hr1108
                refine Aw_one 14 (by kernel_rfl) (Ax_mk rfl rfl (OpW_of_Qt rfl rfl (Q_ixR (T := Ty.i64) (.head _) hR1104 hq1107 (getI_ix hx1050).1 rfl rfl rfl rfl rfl) ⟨Inc.nil, ?_⟩))
                refine Aw_one 15 (by kernel_rfl) (Ax_mk rfl rfl ?_)
                refine O_storeR (T := Ty.i64) (vs := [(.int .i64 x1037)]) (r' := [(.int .i64 x1037)]) (l' := (setI (setI l888 i891 x1032) i1022 x1037)) rfl rfl rfl rfl rfl .here hR1104 hq1107 rfl rfl rfl (RowR.set i1022 hR1104 rfl) (fun hR1109 => ⟨Inc.nil, ?_⟩)
                have hE1110 := set_at hq1107 (v := [(.int .i64 x1037)])
                refine Aw_done (by kernel_rfl) ?_
                refine Shift.done ?_
                exact ⟨[(1, (sv vp1)), (5, (sv v308)), (7, (.int .i64 i891))], ⟨rfl, rfl, rfl, trivial⟩, (setI (setI l888 i891 x1032) i1022 x1037), ((rs890.set i891.toNat [(.int .i64 x1032)]).set i1022.toNat [(.int .i64 x1037)]), rfl, rfl, rfl, H, hR1109⟩
              · skip
                refine id (Ax_mk rfl rfl (OpW_of_Qt rfl rfl (Qt_load1 (v := (.int .i64 x1037)) rfl rfl rfl (Rd_row (T := Ty.i64) (.head _) hR889 hq1096 rfl rfl)) ⟨Inc.nil, ?_⟩))
                refine Aw_one 7 (by kernel_rfl) (Ax_mk rfl rfl (OpW_of_Qt rfl rfl (Qt_load1 (v := (.int .i64 x1032)) rfl rfl rfl (Rd_row (T := Ty.i64) (.head _) hR889 hq1099 rfl rfl)) ⟨Inc.nil, ?_⟩))
                obtain ⟨r1111, hq1112, hr1113⟩ := RowR.at hR889 hx1043
                obtain rfl := hr1113
                refine Aw_one 12 (by kernel_rfl) (Ax_mk rfl rfl (OpW_of_Qt rfl rfl (Q_ixR (T := Ty.i64) (.head _) hR889 hq1112 (getI_ix hx1043).1 rfl rfl rfl rfl rfl) ⟨Inc.nil, ?_⟩))
                refine Aw_one 13 (by kernel_rfl) (Ax_mk rfl rfl ?_)
                refine O_storeR (T := Ty.i64) (vs := [(.int .i64 x1032)]) (r' := [(.int .i64 x1032)]) (l' := (setI l888 i891 x1032)) rfl rfl rfl rfl rfl .here hR889 hq1112 rfl rfl rfl (RowR.set i891 hR889 rfl) (fun hR1114 => ⟨Inc.nil, ?_⟩)
                have hE1115 := set_at hq1112 (v := [(.int .i64 x1032)])
                obtain ⟨r1116, hq1117, hr1118⟩ := RowR.at hR1114 hx1050
                obtain rfl := hr1118
                refine Aw_one 14 (by kernel_rfl) (Ax_mk rfl rfl (OpW_of_Qt rfl rfl (Q_ixR (T := Ty.i64) (.head _) hR1114 hq1117 (getI_ix hx1050).1 rfl rfl rfl rfl rfl) ⟨Inc.nil, ?_⟩))
                refine Aw_one 15 (by kernel_rfl) (Ax_mk rfl rfl ?_)
                refine O_storeR (T := Ty.i64) (vs := [(.int .i64 x1037)]) (r' := [(.int .i64 x1037)]) (l' := (setI (setI l888 i891 x1032) i1022 x1037)) rfl rfl rfl rfl rfl .here hR1114 hq1117 rfl rfl rfl (RowR.set i1022 hR1114 rfl) (fun hR1119 => ⟨Inc.nil, ?_⟩)
                have hE1120 := set_at hq1117 (v := [(.int .i64 x1037)])
                refine Aw_done (by kernel_rfl) ?_
                refine Shift.done ?_
                exact ⟨[(1, (sv vp1)), (5, (sv v308)), (7, (.int .i64 i891))], ⟨rfl, rfl, rfl, trivial⟩, (setI (setI l888 i891 x1032) i1022 x1037), ((rs890.set i891.toNat [(.int .i64 x1032)]).set i1022.toNat [(.int .i64 x1037)]), rfl, rfl, rfl, H, hR1119⟩
            · skip
              refine id (Ax_mk rfl rfl (OpW_of_Qt rfl rfl (Qt_load1 (v := (.int .i64 x1037)) rfl rfl rfl (Rd_row (T := Ty.i64) (.head _) hR889 hq1096 rfl rfl)) ⟨Inc.nil, ?_⟩))
              obtain ⟨r1121, hq1122, hr1123⟩ := RowR.at hR889 hx1033
              obtain rfl := hr1123
              refine Aw_one 6 (by kernel_rfl) (Ax_mk rfl rfl (OpW_of_Qt rfl rfl (Q_ixR (T := Ty.i64) (.head _) hR889 hq1122 (getI_ix hx1033).1 rfl rfl rfl rfl rfl) ⟨Inc.nil, ?_⟩))
              refine Aw_one 7 (by kernel_rfl) (Ax_mk rfl rfl (OpW_of_Qt rfl rfl (Qt_load1 (v := (.int .i64 x1032)) rfl rfl rfl (Rd_row (T := Ty.i64) (.head _) hR889 hq1122 rfl rfl)) ⟨Inc.nil, ?_⟩))
              obtain ⟨r1124, hq1125, hr1126⟩ := RowR.at hR889 hx1043
              obtain rfl := hr1126
              refine Aw_one 12 (by kernel_rfl) (Ax_mk rfl rfl (OpW_of_Qt rfl rfl (Q_ixR (T := Ty.i64) (.head _) hR889 hq1125 (getI_ix hx1043).1 rfl rfl rfl rfl rfl) ⟨Inc.nil, ?_⟩))
              refine Aw_one 13 (by kernel_rfl) (Ax_mk rfl rfl ?_)
              refine O_storeR (T := Ty.i64) (vs := [(.int .i64 x1032)]) (r' := [(.int .i64 x1032)]) (l' := (setI l888 i891 x1032)) rfl rfl rfl rfl rfl .here hR889 hq1125 rfl rfl rfl (RowR.set i891 hR889 rfl) (fun hR1127 => ⟨Inc.nil, ?_⟩)
              have hE1128 := set_at hq1125 (v := [(.int .i64 x1032)])
              obtain ⟨r1129, hq1130, hr1131⟩ := RowR.at hR1127 hx1050
              obtain rfl := hr1131
              refine Aw_one 14 (by kernel_rfl) (Ax_mk rfl rfl (OpW_of_Qt rfl rfl (Q_ixR (T := Ty.i64) (.head _) hR1127 hq1130 (getI_ix hx1050).1 rfl rfl rfl rfl rfl) ⟨Inc.nil, ?_⟩))
              refine Aw_one 15 (by kernel_rfl) (Ax_mk rfl rfl ?_)
              refine O_storeR (T := Ty.i64) (vs := [(.int .i64 x1037)]) (r' := [(.int .i64 x1037)]) (l' := (setI (setI l888 i891 x1032) i1022 x1037)) rfl rfl rfl rfl rfl .here hR1127 hq1130 rfl rfl rfl (RowR.set i1022 hR1127 rfl) (fun hR1132 => ⟨Inc.nil, ?_⟩)
              have hE1133 := set_at hq1130 (v := [(.int .i64 x1037)])
              refine Aw_done (by kernel_rfl) ?_
              refine Shift.done ?_
              exact ⟨[(1, (sv vp1)), (5, (sv v308)), (7, (.int .i64 i891))], ⟨rfl, rfl, rfl, trivial⟩, (setI (setI l888 i891 x1032) i1022 x1037), ((rs890.set i891.toNat [(.int .i64 x1032)]).set i1022.toNat [(.int .i64 x1037)]), rfl, rfl, rfl, H, hR1132⟩
        rintro _ _ _ - ⟨l1010, rs1012, rfl, rfl, rfl, H, hR1011⟩
        unfold M_draw_Order_J4 at H
        refine Cw_region ?_
        refine Ow_q rfl rfl rfl (Qt_move rfl) ?_
        refine Ow_q rfl rfl rfl (Qt_arith (e := wI (i891 - 1)) rfl rfl rfl rfl) ?_
        refine Ow_q rfl rfl rfl (Qt_assign rfl) ?_
        refine Ow_nil ?_
        refine Shift.done ?_
        exact ⟨[(1, (sv vp1)), (5, (sv v308)), (7, (.int .i64 (wI (i891 - 1))))], ⟨rfl, rfl, rfl, trivial⟩, _, Nat.lt_succ_self _, l1010, rs1012, (wI (i891 - 1)), rfl, rfl, rfl, (hkk895 ▸ H), hR1011⟩
      · intro h897
        have h897 := dcd_f (h897)
        have H := iff_ h897 H
        refine Cw_exit ?_
        refine Shift.done ?_
        exact ⟨[(5, (sv v308))], ⟨rfl, trivial⟩, l888, rs890, rfl, rfl, H, hR889⟩
    rintro _ K1134 _ hK1135 ⟨l642, rs644, rfl, rfl, H, hR643⟩
    unfold M_draw_Order_J3 at H
    refine Cw_seq ?_
    refine Cw_region ?_
    refine Ow_q rfl rfl rfl (Qt_move rfl) ?_
    refine Ow_q rfl rfl rfl (Qt_assign rfl) ?_
    refine Ow_nil ?_
    refine Cw_ret ?_
    obtain ey0 := inj1 H
    subst y0
    refine ⟨(by first | exact .inl rfl | exact .inr rfl), [(sv v308)], ⟨(sv v308), _, rfl, rfl, rfl⟩, ?_⟩
    refine Shift.done ?_
    exact ⟨v308, rs644, rfl, rfl, hR643⟩

set_option maxHeartbeats 1000000 in
theorem c_M_draw_New (p0 : List Int) (vp0 : SV) (p1 : Int) (y0 : Draw_Codes) (H : M_draw_New p0 p1 = some y0) (K : Kp) (G : List Ent) (hp0 : Slr Ty.u8 K (sv vp0) p0) :
    Fc Try.prog 9 #[(sv vp0), (.int .i64 p1)] K (G) (fun v K' G' => ∃ (by0 : Nat) (wy0_list : SV), v = (.pointer (some ((⟨by0, 0, none⟩ : Addr).add 0))) ∧ K = K' ∧ (.blk by0 60 (Draw_Codes.cells y0 wy0_list)) :: G = G' ∧ Slr Ty.u8 K' (sv wy0_list) y0.list) := by
  refine Fc_body Try.func9 rfl Try.ntmps9 Try.results9 rfl ?_
  unfold M_draw_New at H
  refine Cw_seq ?_
  refine Cw_region ?_
  refine Ow_q rfl rfl rfl (Qt_assign rfl) ?_
  refine Ow_nil ?_
  refine Cw_join (fun env' K' G' => ∃ (v13 : SV) (l14 : List Int), [(0, (sv v13))] = env' ∧ K = K' ∧ G = G' ∧ M_draw_New_J1 l14 = some y0 ∧ Slr Ty.u8 K' (sv v13) l14) ?_ ?_
  · skip
    refine Cw_seq ?_
    refine Cw_region ?_
    refine Ow_q rfl rfl rfl (Qt_move rfl) ?_
    refine Ow_q rfl rfl rfl (Q_len (T := Ty.u8) hp0 rfl rfl) ?_
    refine Ow_q rfl rfl rfl (Qt_move rfl) ?_
    refine Ow_q rfl rfl rfl (Qt_cmp rfl rfl rfl) ?_
    refine Ow_nil ?_
    refine Cw_cond rfl ?_ ?_
    · intro h16
      have h16 := dcd_t (h16)
      have H := ift h16 H
      refine Cw_region ?_
      refine Ow_q rfl rfl rfl (Qt_move rfl) ?_
      refine Ow_q rfl rfl rfl (Qt_move rfl) ?_
      obtain ⟨x17, hx18, H⟩ := bnd H
      have hs19 := Slr.cut hp0 hx18
      refine Ow_q rfl rfl rfl (Q_cutH (T := Ty.u8) hp0 hx18 rfl rfl rfl rfl) ?_
      refine Ow_q rfl rfl rfl (Qt_assign rfl) ?_
      refine Ow_nil ?_
      refine Shift.done ?_
      exact ⟨[(0, (sv (cutS vp0 1 0 p1.toNat)))], ⟨rfl, trivial⟩, (cutS vp0 1 0 p1.toNat), x17, rfl, rfl, rfl, H, hs19⟩
    · intro h16
      have h16 := dcd_f (h16)
      have H := iff_ h16 H
      refine Cw_skip ?_
      refine Shift.done ?_
      exact ⟨[(0, (sv vp0))], ⟨rfl, trivial⟩, vp0, p0, rfl, rfl, rfl, H, hp0⟩
  rintro _ _ _ - ⟨v13, l14, rfl, rfl, rfl, H, hs15⟩
  unfold M_draw_New_J1 at H
  refine Cw_seq ?_
  refine Cw_region ?_
  refine Ow_q rfl rfl rfl (Qt_move rfl) ?_
  refine Ow_q rfl rfl rfl (Qt_build (cs := (Draw_Codes.cells (Draw_Codes.mk l14 0 0) v13)) rfl rfl rfl rfl rfl rfl) ?_
  refine Ow_cons rfl (OpW_box (cs := (Draw_Codes.cells (Draw_Codes.mk l14 0 0) v13)) rfl rfl rfl (fun b20 => ?_))
  refine Ow_q rfl rfl rfl (Qt_assign rfl) ?_
  refine Ow_nil ?_
  refine Cw_ret ?_
  obtain ey0 := inj1 H
  subst y0
  refine ⟨(by first | exact .inl rfl | exact .inr rfl), [(.pointer (some ((⟨b20, 0, none⟩ : Addr).add 0)))], ⟨(.pointer (some ((⟨b20, 0, none⟩ : Addr).add 0))), _, rfl, rfl, rfl⟩, ?_⟩
  refine Shift.done ?_
  exact ⟨b20, v13, rfl, rfl, rfl, hs15⟩

set_option maxHeartbeats 1000000 in
theorem c_M_draw_Codes_Left (bp0 : Nat) (p0 : Draw_Codes) (vp0_list : SV) (y0 : Bool) (H : M_draw_Codes_Left p0 = some y0) (K : Kp) (G : List Ent) (hp0_list : Slr Ty.u8 K (sv vp0_list) p0.list) :
    Fc Try.prog 46 #[(.pointer (some ((⟨bp0, 0, none⟩ : Addr).add 0)))] K ((.blk bp0 60 (Draw_Codes.cells p0 vp0_list)) :: G) (fun v K' G' => v = (.bool y0) ∧ K = K' ∧ (.blk bp0 60 (Draw_Codes.cells p0 vp0_list)) :: G = G') := by
  refine Fc_body Try.func46 rfl Try.ntmps46 Try.results46 rfl ?_
  unfold M_draw_Codes_Left at H
  refine Cw_seq ?_
  refine Cw_region ?_
  refine Ow_q rfl rfl rfl (Qt_assign rfl) ?_
  refine Ow_nil ?_
  refine Cw_seq ?_
  refine Cw_region_any [.blk bp0 60 (Draw_Codes.cells p0 vp0_list)] rfl (Inc.cons (.head _) Inc.nil) ?_
  refine Aw_q 0 rfl (by kernel_rfl) (by kernel_rfl) (by kernel_rfl) rfl rfl rfl (Qt_move rfl) ?_
  refine Aw_q 1 rfl (by kernel_rfl) (by kernel_rfl) (by kernel_rfl) rfl rfl rfl (Qt_nilCheck rfl) ?_
  refine Aw_q 2 rfl (by kernel_rfl) (by kernel_rfl) (by kernel_rfl) rfl rfl rfl (Qt_fieldAddr (m := 1) rfl rfl rfl rfl rfl) ?_
  refine Aw_q 3 rfl (by kernel_rfl) (by kernel_rfl) (by kernel_rfl) rfl rfl rfl (Qt_load1 (v := (.int .i64 p0.at_)) rfl rfl rfl (Rdc.blk (.head _) rfl)) ?_
  refine Aw_q 4 rfl (by kernel_rfl) (by kernel_rfl) (by kernel_rfl) rfl rfl rfl (Qt_move rfl) ?_
  refine Aw_q 5 rfl (by kernel_rfl) (by kernel_rfl) (by kernel_rfl) rfl rfl rfl (Qt_nilCheck rfl) ?_
  refine Aw_q 6 rfl (by kernel_rfl) (by kernel_rfl) (by kernel_rfl) rfl rfl rfl (Qt_fieldAddr (m := 0) rfl rfl rfl rfl rfl) ?_
  refine Aw_q 7 rfl (by kernel_rfl) (by kernel_rfl) (by kernel_rfl) rfl rfl rfl (Qt_load1 (v := (sv vp0_list)) rfl rfl rfl (Rdc.blk (.head _) rfl)) ?_
  refine Aw_q 8 rfl (by kernel_rfl) (by kernel_rfl) (by kernel_rfl) rfl rfl rfl (Q_len (T := Ty.u8) hp0_list rfl rfl) ?_
  refine Aw_q 9 rfl (by kernel_rfl) (by kernel_rfl) (by kernel_rfl) rfl rfl rfl (Qt_cmp rfl rfl rfl) ?_
  refine Aw_q 10 rfl (by kernel_rfl) (by kernel_rfl) (by kernel_rfl) rfl rfl rfl (Qt_assign rfl) ?_
  refine Aw_done (by kernel_rfl) ?_
  refine Cw_ret ?_
  obtain ey0 := inj1 H
  subst y0
  refine ⟨(by first | exact .inl rfl | exact .inr rfl), [(.bool (dcd (p0.at_ < (p0.list.length : Int))))], ⟨(.bool (dcd (p0.at_ < (p0.list.length : Int)))), _, rfl, rfl, rfl⟩, ?_⟩
  refine Shift.done ?_
  exact ⟨rfl, rfl, rfl⟩

set_option maxHeartbeats 1000000 in
theorem c_M_draw_Codes_Next (bp0 : Nat) (p0 : Draw_Codes) (vp0_list : SV) (p1 : Int) (y0 : Int) (z0_at_ : Int) (H : M_draw_Codes_Next p0 p1 = some (y0, z0_at_)) (K : Kp) (G : List Ent) (hp0_list : Slr Ty.u8 K (sv vp0_list) p0.list) :
    Fc Try.prog 29 #[(.pointer (some ((⟨bp0, 0, none⟩ : Addr).add 0))), (.int .i64 p1)] K ((.blk bp0 60 (Draw_Codes.cells p0 vp0_list)) :: G) (fun v K' G' => v = (.int .i64 y0) ∧ K = K' ∧ (.blk bp0 60 (Draw_Codes.cells (Draw_Codes.mk p0.list z0_at_ p0.value) vp0_list)) :: G = G') := by
  refine Fc_body Try.func29 rfl Try.ntmps29 Try.results29 rfl ?_
  unfold M_draw_Codes_Next at H
  refine Cw_seq ?_
  refine Cw_region ?_
  refine Ow_q rfl rfl rfl (Qt_assign rfl) ?_
  refine Ow_nil ?_
  refine Cw_seq ?_
  refine Cw_seq ?_
  refine Cw_region ?_
  refine Ow_q rfl rfl rfl (Qt_move rfl) ?_
  obtain ⟨x17, hx18, H⟩ := bnd H
  refine Ow_cons rfl (OpW_call rfl Try.call46 rfl rfl (c_M_draw_Codes_Left bp0 p0 vp0_list x17 hx18 _ _ hp0_list) ?_)
  rintro _ _ _ - ⟨rfl, rfl, rfl⟩
  refine Ow_q rfl rfl rfl (Qt_not rfl) ?_
  refine Ow_nil ?_
  refine Cw_cond rfl ?_ ?_
  · intro h19
    have h19 := nt_t (h19)
    have H := iff_ (btf h19) H
    refine Cw_seq ?_
    refine Cw_region ?_
    refine Ow_q rfl rfl rfl (Qt_assign rfl) ?_
    refine Ow_nil ?_
    refine Cw_ret ?_
    obtain ⟨ey0, ez0_at_⟩ := inj2 H
    subst y0 z0_at_
    refine ⟨(by first | exact .inl rfl | exact .inr rfl), [(.int .i64 0)], ⟨(.int .i64 0), _, rfl, rfl, rfl⟩, ?_⟩
    refine Shift.done ?_
    exact ⟨rfl, rfl, rfl⟩
  · intro h19
    have h19 := nt_f (h19)
    have H := ift h19 H
    refine Cw_skip ?_
    refine Cw_seq ?_
    refine Cw_region ?_
    refine Ow_q rfl rfl rfl (Qt_move rfl) ?_
    refine Ow_q rfl rfl rfl (Qt_nilCheck rfl) ?_
    refine Ow_q rfl rfl rfl (Qt_fieldAddr (m := 1) rfl rfl rfl rfl rfl) ?_
    refine Ow_q rfl rfl rfl (Qt_load1 (v := (.int .i64 p0.at_)) rfl rfl rfl (Rdc.blk (.head _) rfl)) ?_
    refine Ow_q rfl rfl rfl (Qt_arith (e := wI (p0.at_ + 1)) rfl rfl rfl rfl) ?_
    refine Ow_q rfl rfl rfl (Qt_nilCheck rfl) ?_
    refine Ow_q rfl rfl rfl (Qt_fieldAddr (m := 1) rfl rfl rfl rfl rfl) ?_
    refine Ow_cons rfl (OpW_store (vs := [(.int .i64 (wI (p0.at_ + 1)))]) (all' := (Draw_Codes.cells (Draw_Codes.mk p0.list (wI (p0.at_ + 1)) p0.value) vp0_list)) rfl rfl rfl rfl rfl .here rfl rfl rfl ?_)
    refine Ow_nil ?_
    refine Cw_seq ?_
    obtain ⟨x20, hx21, H⟩ := bnd H
    obtain ⟨x25, hx26, H⟩ := bnd H
    refine Cw_region_any [.blk bp0 60 (Draw_Codes.cells (Draw_Codes.mk p0.list (wI (p0.at_ + 1)) p0.value) vp0_list)] rfl (Inc.cons (.head _) Inc.nil) ?_
    refine Aw_q 0 rfl (by kernel_rfl) (by kernel_rfl) (by kernel_rfl) rfl rfl rfl (Qt_move rfl) ?_
    refine Aw_q 1 rfl (by kernel_rfl) (by kernel_rfl) (by kernel_rfl) rfl rfl rfl (Qt_nilCheck rfl) ?_
    refine Aw_q 2 rfl (by kernel_rfl) (by kernel_rfl) (by kernel_rfl) rfl rfl rfl (Qt_fieldAddr (m := 0) rfl rfl rfl rfl rfl) ?_
    refine Aw_q 3 rfl (by kernel_rfl) (by kernel_rfl) (by kernel_rfl) rfl rfl rfl (Qt_load1 (v := (sv vp0_list)) rfl rfl rfl (Rdc.blk (.head _) rfl)) ?_
    refine Aw_q 4 rfl (by kernel_rfl) (by kernel_rfl) (by kernel_rfl) rfl rfl rfl (Qt_move rfl) ?_
    refine Aw_q 5 rfl (by kernel_rfl) (by kernel_rfl) (by kernel_rfl) rfl rfl rfl (Qt_nilCheck rfl) ?_
    refine Aw_q 6 rfl (by kernel_rfl) (by kernel_rfl) (by kernel_rfl) rfl rfl rfl (Qt_fieldAddr (m := 1) rfl rfl rfl rfl rfl) ?_
    refine Aw_q 7 rfl (by kernel_rfl) (by kernel_rfl) (by kernel_rfl) rfl rfl rfl (Qt_load1 (v := (.int .i64 (wI (p0.at_ + 1)))) rfl rfl rfl (Rdc.blk (.head _) rfl)) ?_
    refine Aw_q 8 rfl (by kernel_rfl) (by kernel_rfl) (by kernel_rfl) rfl rfl rfl (Qt_arith (e := wI ((wI (p0.at_ + 1)) - 1)) rfl rfl rfl rfl) ?_
    obtain ⟨r27, hr28, hk29⟩ := Slr.at hp0_list hx21
    obtain rfl := hr28
    refine Aw_q 9 rfl (by kernel_rfl) (by kernel_rfl) (by kernel_rfl) rfl rfl rfl (Q_ix (T := Ty.u8) hp0_list hx21 rfl rfl rfl rfl rfl) ?_
    refine Aw_q 10 rfl (by kernel_rfl) (by kernel_rfl) (by kernel_rfl) rfl rfl rfl (Qt_load1 (v := (.int .u8 x20)) rfl rfl rfl (Rdc.k hk29 rfl)) ?_
    refine Aw_q 11 rfl (by kernel_rfl) (by kernel_rfl) (by kernel_rfl) rfl rfl rfl (Qt_conv (c := wI x20) rfl rfl rfl rfl) ?_
    refine Aw_q 12 rfl (by kernel_rfl) (by kernel_rfl) (by kernel_rfl) rfl rfl rfl (Qt_move rfl) ?_
    refine Aw_q 13 rfl (by kernel_rfl) (by kernel_rfl) (by kernel_rfl) rfl rfl rfl (Q_rem hx26 rfl rfl) ?_
    refine Aw_q 14 rfl (by kernel_rfl) (by kernel_rfl) (by kernel_rfl) rfl rfl rfl (Qt_assign rfl) ?_
    refine Aw_done (by kernel_rfl) ?_
    refine Cw_ret ?_
    obtain ⟨ey0, ez0_at_⟩ := inj2 H
    subst y0 z0_at_
    refine ⟨(by first | exact .inl rfl | exact .inr rfl), [(.int .i64 x25)], ⟨(.int .i64 x25), _, rfl, rfl, rfl⟩, ?_⟩
    refine Shift.done ?_
    exact ⟨rfl, rfl, rfl⟩

set_option maxHeartbeats 1000000 in
theorem c_M_draw_Codes_Config (bp0 : Nat) (p0 : Draw_Codes) (vp0_list : SV) (y0 : Config) (z0_at_ : Int) (z0_value : Int) (H : M_draw_Codes_Config p0 = some (y0, z0_at_, z0_value)) (K : Kp) (G : List Ent) (hp0_list : Slr Ty.u8 K (sv vp0_list) p0.list) :
    Fc Try.prog 10 #[(.pointer (some ((⟨bp0, 0, none⟩ : Addr).add 0)))] K ((.blk bp0 60 (Draw_Codes.cells p0 vp0_list)) :: G) (fun v K' G' => ∃ (wy0_capacities : SV) (wy0_starts : SV), v = (.agg (Config.cells y0 wy0_capacities wy0_starts).toArray) ∧ (.blk bp0 60 (Draw_Codes.cells (Draw_Codes.mk p0.list z0_at_ z0_value) vp0_list)) :: (.tok 3 1 [(sv wy0_capacities)]) :: (.tok 22 1 [(sv wy0_starts)]) :: G = G' ∧ Slr Ty.i64 K' (sv wy0_capacities) y0.capacities ∧ Slr Ty.u64 K' (sv wy0_starts) y0.starts) := by
  refine Fc_body Try.func10 rfl Try.ntmps10 Try.results10 rfl ?_
  unfold M_draw_Codes_Config at H
  refine Cw_seq ?_
  refine Cw_region ?_
  refine Ow_cons rfl (OpW_alloc (cs := (Config.cells (Config.mk [] [] 0) nilS nilS)) rfl rfl rfl rfl (fun b279 => ?_))
  refine Ow_nil ?_
  refine Cw_seq ?_
  refine Cw_region ?_
  have hR281 : RowR Ty.i64 K [[(.int .i64 0)], [(.int .i64 1)], [(.int .i64 2)], [(.int .i64 0)], [(.int .i64 1)], [(.int .i64 3)]] [0, 1, 2, 0, 1, 3] := RowR.cons rfl (RowR.cons rfl (RowR.cons rfl (RowR.cons rfl (RowR.cons rfl (RowR.cons rfl (RowR.nil))))))
  refine Ow_cons rfl (O_lit (T := Ty.i64) (rows := [[(.int .i64 0)], [(.int .i64 1)], [(.int .i64 2)], [(.int .i64 0)], [(.int .i64 1)], [(.int .i64 3)]]) (l := [0, 1, 2, 0, 1, 3]) rfl rfl rfl hR281 rfl rfl rfl rfl rfl rfl rfl rfl (fun v280 => ?_))
  refine Ow_q rfl rfl rfl (Qt_assign rfl) ?_
  refine Ow_nil ?_
  refine Cw_seq ?_
  refine Cw_region ?_
  have hR283 : RowR Ty.u64 K [[(.int .u64 0)], [(.int .u64 1)], [(.int .u64 9223372036854775807)], [(.int .u64 9223372036854775806)], [(.int .u64 4611686018427387904)], [(.int .u64 5)]] [0, 1, 9223372036854775807, 9223372036854775806, 4611686018427387904, 5] := RowR.cons rfl (RowR.cons rfl (RowR.cons rfl (RowR.cons rfl (RowR.cons rfl (RowR.cons rfl (RowR.nil))))))
  refine Ow_cons rfl (O_lit (T := Ty.u64) (rows := [[(.int .u64 0)], [(.int .u64 1)], [(.int .u64 9223372036854775807)], [(.int .u64 9223372036854775806)], [(.int .u64 4611686018427387904)], [(.int .u64 5)]]) (l := [0, 1, 9223372036854775807, 9223372036854775806, 4611686018427387904, 5]) rfl rfl rfl hR283 rfl rfl rfl rfl rfl rfl rfl rfl (fun v282 => ?_))
  refine Ow_q rfl rfl rfl (Qt_assign rfl) ?_
  refine Ow_nil ?_
  refine Cw_seq ?_
  refine Cw_region ?_
  refine Ow_cons rfl (OpW_alloc (cs := (Config.cells (Config.mk [] [] 0) nilS nilS)) rfl rfl rfl rfl (fun b284 => ?_))
  refine Ow_nil ?_
  refine Cw_join (fun env' K' G' => ∃ (i531 : Int) (i532 : Int) (v533 : SV) (l534 : List Int) (v536 : SV) (l537 : List Int), [(0, (.pointer (some ((⟨bp0, 0, none⟩ : Addr).add 0)))), (2, (.pointer (some ((⟨b279, 0, none⟩ : Addr).add 0)))), (5, (.pointer (some ((⟨b284, 0, none⟩ : Addr).add 0))))] = env' ∧ (.blk bp0 60 (Draw_Codes.cells (Draw_Codes.mk p0.list i531 i532) vp0_list)) :: (.blk b284 34 (Config.cells (Config.mk l534 l537 0) v533 v536)) :: (.blk b279 34 (Config.cells (Config.mk [] [] 0) nilS nilS)) :: (.tok 3 1 [(sv v533)]) :: (.tok 22 1 [(sv v536)]) :: G = G' ∧ M_draw_Codes_Config_J1 p0 i531 i532 l534 l537 = some (y0, z0_at_, z0_value) ∧ Slr Ty.i64 K' (sv v533) l534 ∧ Slr Ty.u64 K' (sv v536) l537) ?_ ?_
  · skip
    refine Cw_seq ?_
    refine Cw_region ?_
    refine Ow_q rfl rfl rfl (Qt_assign rfl) ?_
    refine Ow_nil ?_
    refine Cw_block ?_
    refine Cw_loopM (fun n785 env' K' G' => ∃ (i776 : Int) (i777 : Int) (i778 : Int) (v779 : SV) (l780 : List Int) (v782 : SV) (l783 : List Int), [(0, (.pointer (some ((⟨bp0, 0, none⟩ : Addr).add 0)))), (2, (.pointer (some ((⟨b279, 0, none⟩ : Addr).add 0)))), (3, (sv v280)), (4, (sv v282)), (5, (.pointer (some ((⟨b284, 0, none⟩ : Addr).add 0)))), (6, (.int .i64 i776))] = env' ∧ (.blk bp0 60 (Draw_Codes.cells (Draw_Codes.mk p0.list i777 i778) vp0_list)) :: (.blk b284 34 (Config.cells (Config.mk l780 l783 0) v779 v782)) :: (.blk b279 34 (Config.cells (Config.mk [] [] 0) nilS nilS)) :: (.tok 3 1 [(sv v779)]) :: (.tok 22 1 [(sv v782)]) :: (.row (sv v282) 22 1 [[(.int .u64 0)], [(.int .u64 1)], [(.int .u64 9223372036854775807)], [(.int .u64 9223372036854775806)], [(.int .u64 4611686018427387904)], [(.int .u64 5)]].flatten) :: (.row (sv v280) 3 1 [[(.int .i64 0)], [(.int .i64 1)], [(.int .i64 2)], [(.int .i64 0)], [(.int .i64 1)], [(.int .i64 3)]].flatten) :: G = G' ∧ lp5 (M_draw_Codes_Config_L1 p0) n785 i776 i777 i778 l780 l783 = some (y0, z0_at_, z0_value) ∧ Slr Ty.i64 K' (sv v779) l780 ∧ Slr Ty.u64 K' (sv v782) l783) BIG ?_ ?_
    · skip
      refine Shift.nilTok1 3 1 ?_
      refine Shift.nilTok1 22 1 ?_
      refine Shift.pull (.there (.there (.there (.there .here)))) ?_
      refine Shift.pull (.there (.there (.there (.there .here)))) ?_
      refine Shift.pull (.there (.there .here)) ?_
      refine Shift.pull (.there (.there (.there .here))) ?_
      refine Shift.pull (.there (.there (.there (.there (.there .here))))) ?_
      refine Shift.pull (.there (.there (.there (.there (.there .here))))) ?_
      refine Shift.pull (.there (.there (.there (.there (.there (.there .here)))))) ?_
      refine Shift.done ?_
      exact ⟨[(0, (.pointer (some ((⟨bp0, 0, none⟩ : Addr).add 0)))), (2, (.pointer (some ((⟨b279, 0, none⟩ : Addr).add 0)))), (3, (sv v280)), (4, (sv v282)), (5, (.pointer (some ((⟨b284, 0, none⟩ : Addr).add 0)))), (6, (.int .i64 0))], ⟨rfl, rfl, rfl, rfl, rfl, rfl, trivial⟩, 0, p0.at_, p0.value, nilS, ([] : List Int), nilS, ([] : List Int), rfl, rfl, H, (Slr.nil Ty.i64 _), (Slr.nil Ty.u64 _)⟩
    rintro n785 _ K786 _ hK787 ⟨i776, i777, i778, v779, l780, v782, l783, rfl, rfl, H, hs781, hs784⟩
    obtain ⟨m788, k789, rfl, hkk790, H⟩ := lps5 H
    unfold M_draw_Codes_Config_L1 at H
    refine Cw_seq ?_
    refine Cw_seq ?_
    refine Cw_region ?_
    refine Ow_q rfl rfl rfl (Qt_move rfl) ?_
    refine Ow_q rfl rfl rfl (Qt_move rfl) ?_
    obtain ⟨x796, x797, hx798, H⟩ := bnd2 H
    have hs799 := (hp0_list).mono hK787
    refine Ow_cons rfl (OpW_call rfl Try.call29 rfl rfl (c_M_draw_Codes_Next bp0 (Draw_Codes.mk p0.list i777 i778) vp0_list 3 x796 x797 hx798 _ _ hs799) ?_)
    rintro _ _ _ - ⟨rfl, rfl, rfl⟩
    refine Ow_q rfl rfl rfl (Qt_cmp rfl rfl rfl) ?_
    refine Ow_nil ?_
    refine Cw_cond rfl ?_ ?_
    · intro h800
      have h800 := dcd_t (h800)
      have H := ift h800 H
      refine Cw_skip ?_
      refine Cw_join (fun env' K' G' => ∃ (i900 : Int) (i901 : Int) (v902 : SV) (l903 : List Int) (v905 : SV) (l906 : List Int), [(0, (.pointer (some ((⟨bp0, 0, none⟩ : Addr).add 0)))), (2, (.pointer (some ((⟨b279, 0, none⟩ : Addr).add 0)))), (3, (sv v280)), (4, (sv v282)), (5, (.pointer (some ((⟨b284, 0, none⟩ : Addr).add 0)))), (6, (.int .i64 i776))] = env' ∧ (.blk bp0 60 (Draw_Codes.cells (Draw_Codes.mk p0.list i900 i901) vp0_list)) :: (.blk b284 34 (Config.cells (Config.mk l903 l906 0) v902 v905)) :: (.blk b279 34 (Config.cells (Config.mk [] [] 0) nilS nilS)) :: (.tok 3 1 [(sv v902)]) :: (.tok 22 1 [(sv v905)]) :: (.row (sv v282) 22 1 [[(.int .u64 0)], [(.int .u64 1)], [(.int .u64 9223372036854775807)], [(.int .u64 9223372036854775806)], [(.int .u64 4611686018427387904)], [(.int .u64 5)]].flatten) :: (.row (sv v280) 3 1 [[(.int .i64 0)], [(.int .i64 1)], [(.int .i64 2)], [(.int .i64 0)], [(.int .i64 1)], [(.int .i64 3)]].flatten) :: G = G' ∧ M_draw_Codes_Config_J2 i776 p0 k789 i900 i901 l903 l906 = some (y0, z0_at_, z0_value) ∧ Slr Ty.i64 K' (sv v902) l903 ∧ Slr Ty.u64 K' (sv v905) l906) ?_ ?_
      · skip
        refine Cw_block ?_
        refine Cw_join (fun env' K' G' => ∃ (i951 : Int) (v952 : SV) (l953 : List Int), [(0, (.pointer (some ((⟨bp0, 0, none⟩ : Addr).add 0)))), (2, (.pointer (some ((⟨b279, 0, none⟩ : Addr).add 0)))), (3, (sv v280)), (4, (sv v282)), (5, (.pointer (some ((⟨b284, 0, none⟩ : Addr).add 0)))), (6, (.int .i64 i776))] = env' ∧ (.blk bp0 60 (Draw_Codes.cells (Draw_Codes.mk p0.list i951 ((Draw_Codes.mk p0.list x797 ((Draw_Codes.mk p0.list i777 i778).value)).value)) vp0_list)) :: (.blk b284 34 (Config.cells (Config.mk l953 l783 0) v952 v782)) :: (.blk b279 34 (Config.cells (Config.mk [] [] 0) nilS nilS)) :: (.tok 3 1 [(sv v952)]) :: (.tok 22 1 [(sv v782)]) :: (.row (sv v282) 22 1 [[(.int .u64 0)], [(.int .u64 1)], [(.int .u64 9223372036854775807)], [(.int .u64 9223372036854775806)], [(.int .u64 4611686018427387904)], [(.int .u64 5)]].flatten) :: (.row (sv v280) 3 1 [[(.int .i64 0)], [(.int .i64 1)], [(.int .i64 2)], [(.int .i64 0)], [(.int .i64 1)], [(.int .i64 3)]].flatten) :: G = G' ∧ M_draw_Codes_Config_J3 i776 p0 x797 i777 i778 l783 k789 i951 l953 = some (y0, z0_at_, z0_value) ∧ Slr Ty.i64 K' (sv v952) l953) ?_ ?_
        · skip
          obtain ⟨x955, x956, hx957, H⟩ := bnd2 H
          obtain ⟨x958, hx959, H⟩ := bnd H
          obtain ⟨x966, hx967, H⟩ := bnd H
          refine Cw_region_any [.blk b279 34 (Config.cells (Config.mk [] [] 0) nilS nilS), .tok 22 1 [(sv v782)], .row (sv v282) 22 1 [[(.int .u64 0)], [(.int .u64 1)], [(.int .u64 9223372036854775807)], [(.int .u64 9223372036854775806)], [(.int .u64 4611686018427387904)], [(.int .u64 5)]].flatten, .row (sv v280) 3 1 [[(.int .i64 0)], [(.int .i64 1)], [(.int .i64 2)], [(.int .i64 0)], [(.int .i64 1)], [(.int .i64 3)]].flatten] rfl (Inc.cons (.tail _ (.tail _ (.head _))) (Inc.cons (.tail _ (.tail _ (.tail _ (.tail _ (.head _))))) (Inc.cons (.tail _ (.tail _ (.tail _ (.tail _ (.tail _ (.head _)))))) (Inc.cons (.tail _ (.tail _ (.tail _ (.tail _ (.tail _ (.tail _ (.head _))))))) Inc.nil)))) ?_
          refine Aw_q 0 rfl (by kernel_rfl) (by kernel_rfl) (by kernel_rfl) rfl rfl rfl (Qt_fieldAddr (m := 0) rfl rfl rfl rfl rfl) ?_
          refine Aw_q 2 rfl (by kernel_rfl) (by kernel_rfl) (by kernel_rfl) rfl rfl rfl (Qt_move rfl) ?_
          refine Aw_q 3 rfl (by kernel_rfl) (by kernel_rfl) (by kernel_rfl) rfl rfl rfl (Qt_move rfl) ?_
          refine Aw_two 1 4 (by kernel_rfl) ?_ ?_
          · skip
            refine id (Ax_mk rfl rfl (OpW_of_Qt rfl rfl (Qt_load1 (v := (sv v779)) rfl rfl rfl (Rdc.blk (.tail _ (.head _)) rfl)) ⟨(Inc.cons (.tail _ (.tail _ (.head _))) (Inc.cons (.tail _ (.tail _ (.tail _ (.tail _ (.head _))))) (Inc.cons (.tail _ (.tail _ (.tail _ (.tail _ (.tail _ (.head _)))))) (Inc.cons (.tail _ (.tail _ (.tail _ (.tail _ (.tail _ (.tail _ (.head _))))))) Inc.nil)))), ?_⟩))
            refine Aw_one 4 (by kernel_rfl) (Ax_mk rfl rfl ?_)
            refine OpW_call rfl Try.call29 rfl rfl (c_M_draw_Codes_Next bp0 (Draw_Codes.mk p0.list x797 ((Draw_Codes.mk p0.list i777 i778).value)) vp0_list 6 x955 x956 hx957 _ _ hs799) ?_
            rintro _ _ _ - ⟨rfl, rfl, rfl⟩
            refine ⟨(Inc.cons (.tail _ (.tail _ (.head _))) (Inc.cons (.tail _ (.tail _ (.tail _ (.tail _ (.head _))))) (Inc.cons (.tail _ (.tail _ (.tail _ (.tail _ (.tail _ (.head _)))))) (Inc.cons (.tail _ (.tail _ (.tail _ (.tail _ (.tail _ (.tail _ (.head _))))))) Inc.nil)))), ?_⟩
            have hs972 := (hR281).mono hK787
            obtain ⟨r973, hq974, hr975⟩ := RowR.at hs972 hx959
            obtain rfl := hr975
            refine Aw_q 5 rfl (by kernel_rfl) (by kernel_rfl) (by kernel_rfl) rfl rfl rfl (Q_ixR (T := Ty.i64) (.tail _ (.tail _ (.tail _ (.head _)))) hs972 hq974 (getI_ix hx959).1 rfl rfl rfl rfl rfl) ?_
            refine Aw_q 6 rfl (by kernel_rfl) (by kernel_rfl) (by kernel_rfl) rfl rfl rfl (Qt_load1 (v := (.int .i64 x958)) rfl rfl rfl (Rd_row (T := Ty.i64) (.tail _ (.tail _ (.tail _ (.head _)))) hs972 hq974 rfl rfl)) ?_
            refine Aw_one 7 (by kernel_rfl) (Ax_mk rfl rfl ?_)
            have hR977 : RowR Ty.i64 K786 [[(.int .i64 x958)]] [x958] := RowR.cons rfl (RowR.nil)
            refine O_lit (T := Ty.i64) (rows := [[(.int .i64 x958)]]) (l := [x958]) rfl rfl rfl hR977 rfl rfl rfl rfl rfl rfl rfl rfl (fun v976 => ⟨(Inc.cons (.tail _ (.tail _ (.tail _ (.head _)))) (Inc.cons (.tail _ (.tail _ (.tail _ (.tail _ (.tail _ (.head _)))))) (Inc.cons (.tail _ (.tail _ (.tail _ (.tail _ (.tail _ (.tail _ (.head _))))))) (Inc.cons (.tail _ (.tail _ (.tail _ (.tail _ (.tail _ (.tail _ (.tail _ (.head _)))))))) Inc.nil)))), ?_⟩)
            refine Aw_one 8 (by kernel_rfl) (Ax_mk rfl rfl ?_)
            refine O_appTok (T := Ty.i64) (bytes := 8) (q := 0) rfl rfl rfl hs781 (.tail _ (.tail _ (.tail _ (.tail _ (.head _))))) rfl (SrcT.row (.head _) hR977 rfl) hx967 rfl rfl rfl rfl rfl rfl rfl rfl (fun v978 K979 hK980 hs981 => ⟨_, (.there (.there (.there (.there .here)))), ⟨(Inc.cons (.tail _ (.tail _ (.tail _ (.head _)))) (Inc.cons (.tail _ (.tail _ (.tail _ (.tail _ (.tail _ (.head _)))))) (Inc.cons (.tail _ (.tail _ (.tail _ (.tail _ (.tail _ (.tail _ (.head _))))))) (Inc.cons (.tail _ (.tail _ (.tail _ (.tail _ (.tail _ (.tail _ (.tail _ (.head _)))))))) Inc.nil)))), ?_⟩⟩)
            refine Aw.shift (Shift.rem .here (Shift.done ⟨(Inc.cons (.tail _ (.tail _ (.head _))) (Inc.cons (.tail _ (.tail _ (.tail _ (.tail _ (.head _))))) (Inc.cons (.tail _ (.tail _ (.tail _ (.tail _ (.tail _ (.head _)))))) (Inc.cons (.tail _ (.tail _ (.tail _ (.tail _ (.tail _ (.tail _ (.head _))))))) Inc.nil)))), ?_⟩))
            refine Aw_q 9 rfl (by kernel_rfl) (by kernel_rfl) (by kernel_rfl) rfl rfl rfl (Qt_fieldAddr (m := 0) rfl rfl rfl rfl rfl) ?_
            refine Aw_one 10 (by kernel_rfl) (Ax_mk rfl rfl ?_)
            refine OpW_store (vs := [(sv v978)]) (all' := (Config.cells (Config.mk x966 l783 0) v978 v782)) rfl rfl rfl rfl rfl (.there .here) rfl rfl rfl ⟨(Inc.cons (.tail _ (.tail _ (.head _))) (Inc.cons (.tail _ (.tail _ (.tail _ (.tail _ (.head _))))) (Inc.cons (.tail _ (.tail _ (.tail _ (.tail _ (.tail _ (.head _)))))) (Inc.cons (.tail _ (.tail _ (.tail _ (.tail _ (.tail _ (.tail _ (.head _))))))) Inc.nil)))), ?_⟩
            refine Aw_done (by kernel_rfl) ?_
            refine Shift.pull (.there (.there (.there (.there (.there (.there .here)))))) ?_
            refine Shift.pull (.there (.there (.there (.there (.there (.there .here)))))) ?_
            refine Shift.pull (.there (.there (.there (.there (.there (.there .here)))))) ?_
            refine Shift.pull (.there (.there (.there (.there (.there (.there .here)))))) ?_
            refine Shift.pull (.there (.there (.there (.there (.there (.there .here)))))) ?_
            refine Shift.pull (.there (.there (.there (.there (.there (.there .here)))))) ?_
            refine Shift.pull (.there (.there (.there (.there (.there (.there .here)))))) ?_
            refine Shift.done ?_
            exact ⟨[(0, (.pointer (some ((⟨bp0, 0, none⟩ : Addr).add 0)))), (2, (.pointer (some ((⟨b279, 0, none⟩ : Addr).add 0)))), (3, (sv v280)), (4, (sv v282)), (5, (.pointer (some ((⟨b284, 0, none⟩ : Addr).add 0)))), (6, (.int .i64 i776))], ⟨rfl, rfl, rfl, rfl, rfl, rfl, trivial⟩, x956, v978, x966, rfl, rfl, H, hs981⟩
          · skip
            refine id (Ax_mk rfl rfl ?_)
            refine OpW_call rfl Try.call29 rfl rfl (c_M_draw_Codes_Next bp0 (Draw_Codes.mk p0.list x797 ((Draw_Codes.mk p0.list i777 i778).value)) vp0_list 6 x955 x956 hx957 _ _ hs799) ?_
            rintro _ _ _ - ⟨rfl, rfl, rfl⟩
            refine ⟨(Inc.cons (.tail _ (.tail _ (.head _))) (Inc.cons (.tail _ (.tail _ (.tail _ (.tail _ (.head _))))) (Inc.cons (.tail _ (.tail _ (.tail _ (.tail _ (.tail _ (.head _)))))) (Inc.cons (.tail _ (.tail _ (.tail _ (.tail _ (.tail _ (.tail _ (.head _))))))) Inc.nil)))), ?_⟩
            have hs982 := (hR281).mono hK787
            obtain ⟨r983, hq984, hr985⟩ := RowR.at hs982 hx959
            obtain rfl := hr985
            refine Aw_q 5 rfl (by kernel_rfl) (by kernel_rfl) (by kernel_rfl) rfl rfl rfl (Q_ixR (T := Ty.i64) (.tail _ (.tail _ (.tail _ (.head _)))) hs982 hq984 (getI_ix hx959).1 rfl rfl rfl rfl rfl) ?_
            refine Aw_q 6 rfl (by kernel_rfl) (by kernel_rfl) (by kernel_rfl) rfl rfl rfl (Qt_load1 (v := (.int .i64 x958)) rfl rfl rfl (Rd_row (T := Ty.i64) (.tail _ (.tail _ (.tail _ (.head _)))) hs982 hq984 rfl rfl)) ?_
            refine Aw_two 1 7 (by kernel_rfl) ?_ ?_
            · skip
              refine id (Ax_mk rfl rfl (OpW_of_Qt rfl rfl (Qt_load1 (v := (sv v779)) rfl rfl rfl (Rdc.blk (.tail _ (.head _)) rfl)) ⟨(Inc.cons (.tail _ (.tail _ (.head _))) (Inc.cons (.tail _ (.tail _ (.tail _ (.tail _ (.head _))))) (Inc.cons (.tail _ (.tail _ (.tail _ (.tail _ (.tail _ (.head _)))))) (Inc.cons (.tail _ (.tail _ (.tail _ (.tail _ (.tail _ (.tail _ (.head _))))))) Inc.nil)))), ?_⟩))
              refine Aw_one 7 (by kernel_rfl) (Ax_mk rfl rfl ?_)
              have hR987 : RowR Ty.i64 K786 [[(.int .i64 x958)]] [x958] := RowR.cons rfl (RowR.nil)
              refine O_lit (T := Ty.i64) (rows := [[(.int .i64 x958)]]) (l := [x958]) rfl rfl rfl hR987 rfl rfl rfl rfl rfl rfl rfl rfl (fun v986 => ⟨(Inc.cons (.tail _ (.tail _ (.tail _ (.head _)))) (Inc.cons (.tail _ (.tail _ (.tail _ (.tail _ (.tail _ (.head _)))))) (Inc.cons (.tail _ (.tail _ (.tail _ (.tail _ (.tail _ (.tail _ (.head _))))))) (Inc.cons (.tail _ (.tail _ (.tail _ (.tail _ (.tail _ (.tail _ (.tail _ (.head _)))))))) Inc.nil)))), ?_⟩)
              refine Aw_one 8 (by kernel_rfl) (Ax_mk rfl rfl ?_)
              refine O_appTok (T := Ty.i64) (bytes := 8) (q := 0) rfl rfl rfl hs781 (.tail _ (.tail _ (.tail _ (.tail _ (.head _))))) rfl (SrcT.row (.head _) hR987 rfl) hx967 rfl rfl rfl rfl rfl rfl rfl rfl (fun v988 K989 hK990 hs991 => ⟨_, (.there (.there (.there (.there .here)))), ⟨(Inc.cons (.tail _ (.tail _ (.tail _ (.head _)))) (Inc.cons (.tail _ (.tail _ (.tail _ (.tail _ (.tail _ (.head _)))))) (Inc.cons (.tail _ (.tail _ (.tail _ (.tail _ (.tail _ (.tail _ (.head _))))))) (Inc.cons (.tail _ (.tail _ (.tail _ (.tail _ (.tail _ (.tail _ (.tail _ (.head _)))))))) Inc.nil)))), ?_⟩⟩)
              refine Aw.shift (Shift.rem .here (Shift.done ⟨(Inc.cons (.tail _ (.tail _ (.head _))) (Inc.cons (.tail _ (.tail _ (.tail _ (.tail _ (.head _))))) (Inc.cons (.tail _ (.tail _ (.tail _ (.tail _ (.tail _ (.head _)))))) (Inc.cons (.tail _ (.tail _ (.tail _ (.tail _ (.tail _ (.tail _ (.head _))))))) Inc.nil)))), ?_⟩))
              refine Aw_q 9 rfl (by kernel_rfl) (by kernel_rfl) (by kernel_rfl) rfl rfl rfl (Qt_fieldAddr (m := 0) rfl rfl rfl rfl rfl) ?_
              refine Aw_one 10 (by kernel_rfl) (Ax_mk rfl rfl ?_)
              refine OpW_store (vs := [(sv v988)]) (all' := (Config.cells (Config.mk x966 l783 0) v988 v782)) rfl rfl rfl rfl rfl (.there .here) rfl rfl rfl ⟨(Inc.cons (.tail _ (.tail _ (.head _))) (Inc.cons (.tail _ (.tail _ (.tail _ (.tail _ (.head _))))) (Inc.cons (.tail _ (.tail _ (.tail _ (.tail _ (.tail _ (.head _)))))) (Inc.cons (.tail _ (.tail _ (.tail _ (.tail _ (.tail _ (.tail _ (.head _))))))) Inc.nil)))), ?_⟩
              refine Aw_done (by kernel_rfl) ?_
              refine Shift.pull (.there (.there (.there (.there (.there (.there .here)))))) ?_
              refine Shift.pull (.there (.there (.there (.there (.there (.there .here)))))) ?_
              refine Shift.pull (.there (.there (.there (.there (.there (.there .here)))))) ?_
              refine Shift.pull (.there (.there (.there (.there (.there (.there .here)))))) ?_
              refine Shift.pull (.there (.there (.there (.there (.there (.there .here)))))) ?_
              refine Shift.pull (.there (.there (.there (.there (.there (.there .here)))))) ?_
              refine Shift.pull (.there (.there (.there (.there (.there (.there .here)))))) ?_
              refine Shift.done ?_
              exact ⟨[(0, (.pointer (some ((⟨bp0, 0, none⟩ : Addr).add 0)))), (2, (.pointer (some ((⟨b279, 0, none⟩ : Addr).add 0)))), (3, (sv v280)), (4, (sv v282)), (5, (.pointer (some ((⟨b284, 0, none⟩ : Addr).add 0)))), (6, (.int .i64 i776))], ⟨rfl, rfl, rfl, rfl, rfl, rfl, trivial⟩, x956, v988, x966, rfl, rfl, H, hs991⟩
            · skip
              refine id (Ax_mk rfl rfl ?_)
              have hR993 : RowR Ty.i64 K786 [[(.int .i64 x958)]] [x958] := RowR.cons rfl (RowR.nil)
              refine O_lit (T := Ty.i64) (rows := [[(.int .i64 x958)]]) (l := [x958]) rfl rfl rfl hR993 rfl rfl rfl rfl rfl rfl rfl rfl (fun v992 => ⟨(Inc.cons (.tail _ (.tail _ (.tail _ (.head _)))) (Inc.cons (.tail _ (.tail _ (.tail _ (.tail _ (.tail _ (.head _)))))) (Inc.cons (.tail _ (.tail _ (.tail _ (.tail _ (.tail _ (.tail _ (.head _))))))) (Inc.cons (.tail _ (.tail _ (.tail _ (.tail _ (.tail _ (.tail _ (.tail _ (.head _)))))))) Inc.nil)))), ?_⟩)
              refine Aw_one 1 (by kernel_rfl) (Ax_mk rfl rfl (OpW_of_Qt rfl rfl (Qt_load1 (v := (sv v779)) rfl rfl rfl (Rdc.blk (.tail _ (.tail _ (.head _))) rfl)) ⟨(Inc.cons (.tail _ (.tail _ (.tail _ (.head _)))) (Inc.cons (.tail _ (.tail _ (.tail _ (.tail _ (.tail _ (.head _)))))) (Inc.cons (.tail _ (.tail _ (.tail _ (.tail _ (.tail _ (.tail _ (.head _))))))) (Inc.cons (.tail _ (.tail _ (.tail _ (.tail _ (.tail _ (.tail _ (.tail _ (.head _)))))))) Inc.nil)))), ?_⟩))
              refine Aw_one 8 (by kernel_rfl) (Ax_mk rfl rfl ?_)
              refine O_appTok (T := Ty.i64) (bytes := 8) (q := 0) rfl rfl rfl hs781 (.tail _ (.tail _ (.tail _ (.tail _ (.head _))))) rfl (SrcT.row (.head _) hR993 rfl) hx967 rfl rfl rfl rfl rfl rfl rfl rfl (fun v994 K995 hK996 hs997 => ⟨_, (.there (.there (.there (.there .here)))), ⟨(Inc.cons (.tail _ (.tail _ (.tail _ (.head _)))) (Inc.cons (.tail _ (.tail _ (.tail _ (.tail _ (.tail _ (.head _)))))) (Inc.cons (.tail _ (.tail _ (.tail _ (.tail _ (.tail _ (.tail _ (.head _))))))) (Inc.cons (.tail _ (.tail _ (.tail _ (.tail _ (.tail _ (.tail _ (.tail _ (.head _)))))))) Inc.nil)))), ?_⟩⟩)
              refine Aw.shift (Shift.rem .here (Shift.done ⟨(Inc.cons (.tail _ (.tail _ (.head _))) (Inc.cons (.tail _ (.tail _ (.tail _ (.tail _ (.head _))))) (Inc.cons (.tail _ (.tail _ (.tail _ (.tail _ (.tail _ (.head _)))))) (Inc.cons (.tail _ (.tail _ (.tail _ (.tail _ (.tail _ (.tail _ (.head _))))))) Inc.nil)))), ?_⟩))
              refine Aw_q 9 rfl (by kernel_rfl) (by kernel_rfl) (by kernel_rfl) rfl rfl rfl (Qt_fieldAddr (m := 0) rfl rfl rfl rfl rfl) ?_
              refine Aw_one 10 (by kernel_rfl) (Ax_mk rfl rfl ?_)
              refine OpW_store (vs := [(sv v994)]) (all' := (Config.cells (Config.mk x966 l783 0) v994 v782)) rfl rfl rfl rfl rfl (.there .here) rfl rfl rfl ⟨(Inc.cons (.tail _ (.tail _ (.head _))) (Inc.cons (.tail _ (.tail _ (.tail _ (.tail _ (.head _))))) (Inc.cons (.tail _ (.tail _ (.tail _ (.tail _ (.tail _ (.head _)))))) (Inc.cons (.tail _ (.tail _ (.tail _ (.tail _ (.tail _ (.tail _ (.head _))))))) Inc.nil)))), ?_⟩
              refine Aw_done (by kernel_rfl) ?_
              refine Shift.pull (.there (.there (.there (.there (.there (.there .here)))))) ?_
              refine Shift.pull (.there (.there (.there (.there (.there (.there .here)))))) ?_
              refine Shift.pull (.there (.there (.there (.there (.there (.there .here)))))) ?_
              refine Shift.pull (.there (.there (.there (.there (.there (.there .here)))))) ?_
              refine Shift.pull (.there (.there (.there (.there (.there (.there .here)))))) ?_
              refine Shift.pull (.there (.there (.there (.there (.there (.there .here)))))) ?_
              refine Shift.pull (.there (.there (.there (.there (.there (.there .here)))))) ?_
              refine Shift.done ?_
              exact ⟨[(0, (.pointer (some ((⟨bp0, 0, none⟩ : Addr).add 0)))), (2, (.pointer (some ((⟨b279, 0, none⟩ : Addr).add 0)))), (3, (sv v280)), (4, (sv v282)), (5, (.pointer (some ((⟨b284, 0, none⟩ : Addr).add 0)))), (6, (.int .i64 i776))], ⟨rfl, rfl, rfl, rfl, rfl, rfl, trivial⟩, x956, v994, x966, rfl, rfl, H, hs997⟩
        rintro _ K998 _ hK999 ⟨i951, v952, l953, rfl, rfl, H, hs954⟩
        unfold M_draw_Codes_Config_J3 at H
        obtain ⟨x1000, x1001, hx1002, H⟩ := bnd2 H
        obtain ⟨x1004, hx1005, H⟩ := bnd H
        obtain ⟨x1012, hx1013, H⟩ := bnd H
        refine Cw_region_any [.blk b279 34 (Config.cells (Config.mk [] [] 0) nilS nilS), .tok 3 1 [(sv v952)], .row (sv v282) 22 1 [[(.int .u64 0)], [(.int .u64 1)], [(.int .u64 9223372036854775807)], [(.int .u64 9223372036854775806)], [(.int .u64 4611686018427387904)], [(.int .u64 5)]].flatten, .row (sv v280) 3 1 [[(.int .i64 0)], [(.int .i64 1)], [(.int .i64 2)], [(.int .i64 0)], [(.int .i64 1)], [(.int .i64 3)]].flatten] rfl (Inc.cons (.tail _ (.tail _ (.head _))) (Inc.cons (.tail _ (.tail _ (.tail _ (.head _)))) (Inc.cons (.tail _ (.tail _ (.tail _ (.tail _ (.tail _ (.head _)))))) (Inc.cons (.tail _ (.tail _ (.tail _ (.tail _ (.tail _ (.tail _ (.head _))))))) Inc.nil)))) ?_
        refine Aw_q 0 rfl (by kernel_rfl) (by kernel_rfl) (by kernel_rfl) rfl rfl rfl (Qt_fieldAddr (m := 1) rfl rfl rfl rfl rfl) ?_
        refine Aw_q 2 rfl (by kernel_rfl) (by kernel_rfl) (by kernel_rfl) rfl rfl rfl (Qt_move rfl) ?_
        refine Aw_q 3 rfl (by kernel_rfl) (by kernel_rfl) (by kernel_rfl) rfl rfl rfl (Qt_move rfl) ?_
        refine Aw_two 1 4 (by kernel_rfl) ?_ ?_
        · skip
          refine id (Ax_mk rfl rfl (OpW_of_Qt rfl rfl (Qt_load1 (v := (sv v782)) rfl rfl rfl (Rdc.blk (.tail _ (.head _)) rfl)) ⟨(Inc.cons (.tail _ (.tail _ (.head _))) (Inc.cons (.tail _ (.tail _ (.tail _ (.head _)))) (Inc.cons (.tail _ (.tail _ (.tail _ (.tail _ (.tail _ (.head _)))))) (Inc.cons (.tail _ (.tail _ (.tail _ (.tail _ (.tail _ (.tail _ (.head _))))))) Inc.nil)))), ?_⟩))
          refine Aw_one 4 (by kernel_rfl) (Ax_mk rfl rfl ?_)
          have hs1019 := (hs799).mono hK999
          refine OpW_call rfl Try.call29 rfl rfl (c_M_draw_Codes_Next bp0 (Draw_Codes.mk p0.list i951 ((Draw_Codes.mk p0.list x797 ((Draw_Codes.mk p0.list i777 i778).value)).value)) vp0_list 6 x1000 x1001 hx1002 _ _ hs1019) ?_
          rintro _ _ _ - ⟨rfl, rfl, rfl⟩
          refine ⟨(Inc.cons (.tail _ (.tail _ (.head _))) (Inc.cons (.tail _ (.tail _ (.tail _ (.head _)))) (Inc.cons (.tail _ (.tail _ (.tail _ (.tail _ (.tail _ (.head _)))))) (Inc.cons (.tail _ (.tail _ (.tail _ (.tail _ (.tail _ (.tail _ (.head _))))))) Inc.nil)))), ?_⟩
          have hs1020 := ((hR283).mono hK787).mono hK999
          obtain ⟨r1021, hq1022, hr1023⟩ := RowR.at hs1020 hx1005
          obtain rfl := hr1023
          refine Aw_q 5 rfl (by kernel_rfl) (by kernel_rfl) (by kernel_rfl) rfl rfl rfl (Q_ixR (T := Ty.u64) (.tail _ (.tail _ (.head _))) hs1020 hq1022 (getI_ix hx1005).1 rfl rfl rfl rfl rfl) ?_
          refine Aw_q 6 rfl (by kernel_rfl) (by kernel_rfl) (by kernel_rfl) rfl rfl rfl (Qt_load1 (v := (.int .u64 x1004)) rfl rfl rfl (Rd_row (T := Ty.u64) (.tail _ (.tail _ (.head _))) hs1020 hq1022 rfl rfl)) ?_
          refine Aw_one 7 (by kernel_rfl) (Ax_mk rfl rfl ?_)
          have hR1025 : RowR Ty.u64 K998 [[(.int .u64 x1004)]] [x1004] := RowR.cons rfl (RowR.nil)
          refine O_lit (T := Ty.u64) (rows := [[(.int .u64 x1004)]]) (l := [x1004]) rfl rfl rfl hR1025 rfl rfl rfl rfl rfl rfl rfl rfl (fun v1024 => ⟨(Inc.cons (.tail _ (.tail _ (.tail _ (.head _)))) (Inc.cons (.tail _ (.tail _ (.tail _ (.tail _ (.head _))))) (Inc.cons (.tail _ (.tail _ (.tail _ (.tail _ (.tail _ (.tail _ (.head _))))))) (Inc.cons (.tail _ (.tail _ (.tail _ (.tail _ (.tail _ (.tail _ (.tail _ (.head _)))))))) Inc.nil)))), ?_⟩)
          refine Aw_one 8 (by kernel_rfl) (Ax_mk rfl rfl ?_)
          have hs1030 := (hs784).mono hK999
          refine O_appTok (T := Ty.u64) (bytes := 8) (q := 0) rfl rfl rfl hs1030 (.tail _ (.tail _ (.tail _ (.tail _ (.tail _ (.head _)))))) rfl (SrcT.row (.head _) hR1025 rfl) hx1013 rfl rfl rfl rfl rfl rfl rfl rfl (fun v1026 K1027 hK1028 hs1029 => ⟨_, (.there (.there (.there (.there (.there .here))))), ⟨(Inc.cons (.tail _ (.tail _ (.tail _ (.head _)))) (Inc.cons (.tail _ (.tail _ (.tail _ (.tail _ (.head _))))) (Inc.cons (.tail _ (.tail _ (.tail _ (.tail _ (.tail _ (.tail _ (.head _))))))) (Inc.cons (.tail _ (.tail _ (.tail _ (.tail _ (.tail _ (.tail _ (.tail _ (.head _)))))))) Inc.nil)))), ?_⟩⟩)
          refine Aw.shift (Shift.rem .here (Shift.done ⟨(Inc.cons (.tail _ (.tail _ (.head _))) (Inc.cons (.tail _ (.tail _ (.tail _ (.head _)))) (Inc.cons (.tail _ (.tail _ (.tail _ (.tail _ (.tail _ (.head _)))))) (Inc.cons (.tail _ (.tail _ (.tail _ (.tail _ (.tail _ (.tail _ (.head _))))))) Inc.nil)))), ?_⟩))
          refine Aw_q 9 rfl (by kernel_rfl) (by kernel_rfl) (by kernel_rfl) rfl rfl rfl (Qt_fieldAddr (m := 1) rfl rfl rfl rfl rfl) ?_
          refine Aw_one 10 (by kernel_rfl) (Ax_mk rfl rfl ?_)
          refine OpW_store (vs := [(sv v1026)]) (all' := (Config.cells (Config.mk l953 x1012 0) v952 v1026)) rfl rfl rfl rfl rfl (.there .here) rfl rfl rfl ⟨(Inc.cons (.tail _ (.tail _ (.head _))) (Inc.cons (.tail _ (.tail _ (.tail _ (.head _)))) (Inc.cons (.tail _ (.tail _ (.tail _ (.tail _ (.tail _ (.head _)))))) (Inc.cons (.tail _ (.tail _ (.tail _ (.tail _ (.tail _ (.tail _ (.head _))))))) Inc.nil)))), ?_⟩
          refine Aw_done (by kernel_rfl) ?_
          refine Shift.pull (.there (.there (.there (.there (.there (.there .here)))))) ?_
          refine Shift.pull (.there (.there (.there (.there (.there (.there .here)))))) ?_
          refine Shift.pull (.there (.there (.there (.there (.there (.there .here)))))) ?_
          refine Shift.pull (.there (.there (.there (.there (.there (.there .here)))))) ?_
          refine Shift.pull (.there (.there (.there (.there (.there (.there .here)))))) ?_
          refine Shift.pull (.there (.there (.there (.there (.there (.there .here)))))) ?_
          refine Shift.pull (.there (.there (.there (.there (.there (.there .here)))))) ?_
          have hs1031 := (hs954).mono hK1028
          refine Shift.done ?_
          exact ⟨[(0, (.pointer (some ((⟨bp0, 0, none⟩ : Addr).add 0)))), (2, (.pointer (some ((⟨b279, 0, none⟩ : Addr).add 0)))), (3, (sv v280)), (4, (sv v282)), (5, (.pointer (some ((⟨b284, 0, none⟩ : Addr).add 0)))), (6, (.int .i64 i776))], ⟨rfl, rfl, rfl, rfl, rfl, rfl, trivial⟩, x1001, ((Draw_Codes.mk p0.list i951 ((Draw_Codes.mk p0.list x797 ((Draw_Codes.mk p0.list i777 i778).value)).value)).value), v952, l953, v1026, x1012, rfl, rfl, H, hs1031, hs1029⟩
        · skip
          refine id (Ax_mk rfl rfl ?_)
          have hs1032 := (hs799).mono hK999
          refine OpW_call rfl Try.call29 rfl rfl (c_M_draw_Codes_Next bp0 (Draw_Codes.mk p0.list i951 ((Draw_Codes.mk p0.list x797 ((Draw_Codes.mk p0.list i777 i778).value)).value)) vp0_list 6 x1000 x1001 hx1002 _ _ hs1032) ?_
          rintro _ _ _ - ⟨rfl, rfl, rfl⟩
          refine ⟨(Inc.cons (.tail _ (.tail _ (.head _))) (Inc.cons (.tail _ (.tail _ (.tail _ (.head _)))) (Inc.cons (.tail _ (.tail _ (.tail _ (.tail _ (.tail _ (.head _)))))) (Inc.cons (.tail _ (.tail _ (.tail _ (.tail _ (.tail _ (.tail _ (.head _))))))) Inc.nil)))), ?_⟩
          have hs1033 := ((hR283).mono hK787).mono hK999
          obtain ⟨r1034, hq1035, hr1036⟩ := RowR.at hs1033 hx1005
          obtain rfl := hr1036
          refine Aw_q 5 rfl (by kernel_rfl) (by kernel_rfl) (by kernel_rfl) rfl rfl rfl (Q_ixR (T := Ty.u64) (.tail _ (.tail _ (.head _))) hs1033 hq1035 (getI_ix hx1005).1 rfl rfl rfl rfl rfl) ?_
          refine Aw_q 6 rfl (by kernel_rfl) (by kernel_rfl) (by kernel_rfl) rfl rfl rfl (Qt_load1 (v := (.int .u64 x1004)) rfl rfl rfl (Rd_row (T := Ty.u64) (.tail _ (.tail _ (.head _))) hs1033 hq1035 rfl rfl)) ?_
          refine Aw_two 1 7 (by kernel_rfl) ?_ ?_
          · skip
            refine id (Ax_mk rfl rfl (OpW_of_Qt rfl rfl (Qt_load1 (v := (sv v782)) rfl rfl rfl (Rdc.blk (.tail _ (.head _)) rfl)) ⟨(Inc.cons (.tail _ (.tail _ (.head _))) (Inc.cons (.tail _ (.tail _ (.tail _ (.head _)))) (Inc.cons (.tail _ (.tail _ (.tail _ (.tail _ (.tail _ (.head _)))))) (Inc.cons (.tail _ (.tail _ (.tail _ (.tail _ (.tail _ (.tail _ (.head _))))))) Inc.nil)))), ?_⟩))
            refine Aw_one 7 (by kernel_rfl) (Ax_mk rfl rfl ?_)
            have hR1038 : RowR Ty.u64 K998 [[(.int .u64 x1004)]] [x1004] := RowR.cons rfl (RowR.nil)
            refine O_lit (T := Ty.u64) (rows := [[(.int .u64 x1004)]]) (l := [x1004]) rfl rfl rfl hR1038 rfl rfl rfl rfl rfl rfl rfl rfl (fun v1037 => ⟨(Inc.cons (.tail _ (.tail _ (.tail _ (.head _)))) (Inc.cons (.tail _ (.tail _ (.tail _ (.tail _ (.head _))))) (Inc.cons (.tail _ (.tail _ (.tail _ (.tail _ (.tail _ (.tail _ (.head _))))))) (Inc.cons (.tail _ (.tail _ (.tail _ (.tail _ (.tail _ (.tail _ (.tail _ (.head _)))))))) Inc.nil)))), ?_⟩)
            refine Aw_one 8 (by kernel_rfl) (Ax_mk rfl rfl ?_)
            have hs1043 := (hs784).mono hK999
            refine O_appTok (T := Ty.u64) (bytes := 8) (q := 0) rfl rfl rfl hs1043 (.tail _ (.tail _ (.tail _ (.tail _ (.tail _ (.head _)))))) rfl (SrcT.row (.head _) hR1038 rfl) hx1013 rfl rfl rfl rfl rfl rfl rfl rfl (fun v1039 K1040 hK1041 hs1042 => ⟨_, (.there (.there (.there (.there (.there .here))))), ⟨(Inc.cons (.tail _ (.tail _ (.tail _ (.head _)))) (Inc.cons (.tail _ (.tail _ (.tail _ (.tail _ (.head _))))) (Inc.cons (.tail _ (.tail _ (.tail _ (.tail _ (.tail _ (.tail _ (.head _))))))) (Inc.cons (.tail _ (.tail _ (.tail _ (.tail _ (.tail _ (.tail _ (.tail _ (.head _)))))))) Inc.nil)))), ?_⟩⟩)
            refine Aw.shift (Shift.rem .here (Shift.done ⟨(Inc.cons (.tail _ (.tail _ (.head _))) (Inc.cons (.tail _ (.tail _ (.tail _ (.head _)))) (Inc.cons (.tail _ (.tail _ (.tail _ (.tail _ (.tail _ (.head _)))))) (Inc.cons (.tail _ (.tail _ (.tail _ (.tail _ (.tail _ (.tail _ (.head _))))))) Inc.nil)))), ?_⟩))
            refine Aw_q 9 rfl (by kernel_rfl) (by kernel_rfl) (by kernel_rfl) rfl rfl rfl (Qt_fieldAddr (m := 1) rfl rfl rfl rfl rfl) ?_
            refine Aw_one 10 (by kernel_rfl) (Ax_mk rfl rfl ?_)
            refine OpW_store (vs := [(sv v1039)]) (all' := (Config.cells (Config.mk l953 x1012 0) v952 v1039)) rfl rfl rfl rfl rfl (.there .here) rfl rfl rfl ⟨(Inc.cons (.tail _ (.tail _ (.head _))) (Inc.cons (.tail _ (.tail _ (.tail _ (.head _)))) (Inc.cons (.tail _ (.tail _ (.tail _ (.tail _ (.tail _ (.head _)))))) (Inc.cons (.tail _ (.tail _ (.tail _ (.tail _ (.tail _ (.tail _ (.head _))))))) Inc.nil)))), ?_⟩
            refine Aw_done (by kernel_rfl) ?_
            refine Shift.pull (.there (.there (.there (.there (.there (.there .here)))))) ?_
            refine Shift.pull (.there (.there (.there (.there (.there (.there .here)))))) ?_
            refine Shift.pull (.there (.there (.there (.there (.there (.there .here)))))) ?_
            refine Shift.pull (.there (.there (.there (.there (.there (.there .here)))))) ?_
            refine Shift.pull (.there (.there (.there (.there (.there (.there .here)))))) ?_
            refine Shift.pull (.there (.there (.there (.there (.there (.there .here)))))) ?_
            refine Shift.pull (.there (.there (.there (.there (.there (.there .here)))))) ?_
            have hs1044 := (hs954).mono hK1041
            refine Shift.done ?_
            exact ⟨[(0, (.pointer (some ((⟨bp0, 0, none⟩ : Addr).add 0)))), (2, (.pointer (some ((⟨b279, 0, none⟩ : Addr).add 0)))), (3, (sv v280)), (4, (sv v282)), (5, (.pointer (some ((⟨b284, 0, none⟩ : Addr).add 0)))), (6, (.int .i64 i776))], ⟨rfl, rfl, rfl, rfl, rfl, rfl, trivial⟩, x1001, ((Draw_Codes.mk p0.list i951 ((Draw_Codes.mk p0.list x797 ((Draw_Codes.mk p0.list i777 i778).value)).value)).value), v952, l953, v1039, x1012, rfl, rfl, H, hs1044, hs1042⟩
          · skip
            refine id (Ax_mk rfl rfl ?_)
            have hR1046 : RowR Ty.u64 K998 [[(.int .u64 x1004)]] [x1004] := RowR.cons rfl (RowR.nil)
            refine O_lit (T := Ty.u64) (rows := [[(.int .u64 x1004)]]) (l := [x1004]) rfl rfl rfl hR1046 rfl rfl rfl rfl rfl rfl rfl rfl (fun v1045 => ⟨(Inc.cons (.tail _ (.tail _ (.tail _ (.head _)))) (Inc.cons (.tail _ (.tail _ (.tail _ (.tail _ (.head _))))) (Inc.cons (.tail _ (.tail _ (.tail _ (.tail _ (.tail _ (.tail _ (.head _))))))) (Inc.cons (.tail _ (.tail _ (.tail _ (.tail _ (.tail _ (.tail _ (.tail _ (.head _)))))))) Inc.nil)))), ?_⟩)
            refine Aw_one 1 (by kernel_rfl) (Ax_mk rfl rfl (OpW_of_Qt rfl rfl (Qt_load1 (v := (sv v782)) rfl rfl rfl (Rdc.blk (.tail _ (.tail _ (.head _))) rfl)) ⟨(Inc.cons (.tail _ (.tail _ (.tail _ (.head _)))) (Inc.cons (.tail _ (.tail _ (.tail _ (.tail _ (.head _))))) (Inc.cons (.tail _ (.tail _ (.tail _ (.tail _ (.tail _ (.tail _ (.head _))))))) (Inc.cons (.tail _ (.tail _ (.tail _ (.tail _ (.tail _ (.tail _ (.tail _ (.head _)))))))) Inc.nil)))), ?_⟩))
            refine Aw_one 8 (by kernel_rfl) (Ax_mk rfl rfl ?_)
            have hs1051 := (hs784).mono hK999
            refine O_appTok (T := Ty.u64) (bytes := 8) (q := 0) rfl rfl rfl hs1051 (.tail _ (.tail _ (.tail _ (.tail _ (.tail _ (.head _)))))) rfl (SrcT.row (.head _) hR1046 rfl) hx1013 rfl rfl rfl rfl rfl rfl rfl rfl (fun v1047 K1048 hK1049 hs1050 => ⟨_, (.there (.there (.there (.there (.there .here))))), ⟨(Inc.cons (.tail _ (.tail _ (.tail _ (.head _)))) (Inc.cons (.tail _ (.tail _ (.tail _ (.tail _ (.head _))))) (Inc.cons (.tail _ (.tail _ (.tail _ (.tail _ (.tail _ (.tail _ (.head _))))))) (Inc.cons (.tail _ (.tail _ (.tail _ (.tail _ (.tail _ (.tail _ (.tail _ (.head _)))))))) Inc.nil)))), ?_⟩⟩)
            refine Aw.shift (Shift.rem .here (Shift.done ⟨(Inc.cons (.tail _ (.tail _ (.head _))) (Inc.cons (.tail _ (.tail _ (.tail _ (.head _)))) (Inc.cons (.tail _ (.tail _ (.tail _ (.tail _ (.tail _ (.head _)))))) (Inc.cons (.tail _ (.tail _ (.tail _ (.tail _ (.tail _ (.tail _ (.head _))))))) Inc.nil)))), ?_⟩))
            refine Aw_q 9 rfl (by kernel_rfl) (by kernel_rfl) (by kernel_rfl) rfl rfl rfl (Qt_fieldAddr (m := 1) rfl rfl rfl rfl rfl) ?_
            refine Aw_one 10 (by kernel_rfl) (Ax_mk rfl rfl ?_)
            refine OpW_store (vs := [(sv v1047)]) (all' := (Config.cells (Config.mk l953 x1012 0) v952 v1047)) rfl rfl rfl rfl rfl (.there .here) rfl rfl rfl ⟨(Inc.cons (.tail _ (.tail _ (.head _))) (Inc.cons (.tail _ (.tail _ (.tail _ (.head _)))) (Inc.cons (.tail _ (.tail _ (.tail _ (.tail _ (.tail _ (.head _)))))) (Inc.cons (.tail _ (.tail _ (.tail _ (.tail _ (.tail _ (.tail _ (.head _))))))) Inc.nil)))), ?_⟩
            refine Aw_done (by kernel_rfl) ?_
            refine Shift.pull (.there (.there (.there (.there (.there (.there .here)))))) ?_
            refine Shift.pull (.there (.there (.there (.there (.there (.there .here)))))) ?_
            refine Shift.pull (.there (.there (.there (.there (.there (.there .here)))))) ?_
            refine Shift.pull (.there (.there (.there (.there (.there (.there .here)))))) ?_
            refine Shift.pull (.there (.there (.there (.there (.there (.there .here)))))) ?_
            refine Shift.pull (.there (.there (.there (.there (.there (.there .here)))))) ?_
            refine Shift.pull (.there (.there (.there (.there (.there (.there .here)))))) ?_
            have hs1052 := (hs954).mono hK1049
            refine Shift.done ?_
            exact ⟨[(0, (.pointer (some ((⟨bp0, 0, none⟩ : Addr).add 0)))), (2, (.pointer (some ((⟨b279, 0, none⟩ : Addr).add 0)))), (3, (sv v280)), (4, (sv v282)), (5, (.pointer (some ((⟨b284, 0, none⟩ : Addr).add 0)))), (6, (.int .i64 i776))], ⟨rfl, rfl, rfl, rfl, rfl, rfl, trivial⟩, x1001, ((Draw_Codes.mk p0.list i951 ((Draw_Codes.mk p0.list x797 ((Draw_Codes.mk p0.list i777 i778).value)).value)).value), v952, l953, v1047, x1012, rfl, rfl, H, hs1052, hs1050⟩
      rintro _ K1053 _ hK1054 ⟨i900, i901, v902, l903, v905, l906, rfl, rfl, H, hs904, hs907⟩
      unfold M_draw_Codes_Config_J2 at H
      refine Cw_region ?_
      refine Ow_q rfl rfl rfl (Qt_move rfl) ?_
      refine Ow_q rfl rfl rfl (Qt_arith (e := wI (i776 + 1)) rfl rfl rfl rfl) ?_
      refine Ow_q rfl rfl rfl (Qt_assign rfl) ?_
      refine Ow_nil ?_
      refine Shift.pull (.there (.there (.there (.there (.there (.there .here)))))) ?_
      refine Shift.pull (.there (.there (.there (.there (.there (.there .here)))))) ?_
      refine Shift.pull (.there (.there (.there (.there (.there (.there .here)))))) ?_
      refine Shift.pull (.there (.there (.there (.there (.there (.there .here)))))) ?_
      refine Shift.pull (.there (.there (.there (.there (.there (.there .here)))))) ?_
      refine Shift.pull (.there (.there (.there (.there (.there (.there .here)))))) ?_
      refine Shift.pull (.there (.there (.there (.there (.there (.there .here)))))) ?_
      refine Shift.done ?_
      exact ⟨[(0, (.pointer (some ((⟨bp0, 0, none⟩ : Addr).add 0)))), (2, (.pointer (some ((⟨b279, 0, none⟩ : Addr).add 0)))), (3, (sv v280)), (4, (sv v282)), (5, (.pointer (some ((⟨b284, 0, none⟩ : Addr).add 0)))), (6, (.int .i64 (wI (i776 + 1))))], ⟨rfl, rfl, rfl, rfl, rfl, rfl, trivial⟩, _, Nat.lt_succ_self _, (wI (i776 + 1)), i900, i901, v902, l903, v905, l906, rfl, rfl, (hkk790 ▸ H), hs904, hs907⟩
    · intro h800
      have h800 := dcd_f (h800)
      have H := iff_ h800 H
      refine Cw_exit ?_
      refine Shift.pull (.there (.there (.there (.there .here)))) ?_
      refine Shift.pull (.there (.there (.there (.there .here)))) ?_
      refine Shift.pull (.there (.there (.there (.there .here)))) ?_
      refine Shift.pull (.there (.there (.there (.there .here)))) ?_
      refine Shift.pull (.there (.there (.there (.there .here)))) ?_
      refine Shift.rem (.there (.there (.there (.there (.there .here))))) ?_
      refine Shift.rem (.there (.there (.there (.there (.there .here))))) ?_
      refine Shift.done ?_
      exact ⟨[(0, (.pointer (some ((⟨bp0, 0, none⟩ : Addr).add 0)))), (2, (.pointer (some ((⟨b279, 0, none⟩ : Addr).add 0)))), (5, (.pointer (some ((⟨b284, 0, none⟩ : Addr).add 0))))], ⟨rfl, rfl, rfl, trivial⟩, x797, ((Draw_Codes.mk p0.list i777 i778).value), v779, l780, v782, l783, rfl, rfl, H, hs781, hs784⟩
  rintro _ K1055 _ hK1056 ⟨i531, i532, v533, l534, v536, l537, rfl, rfl, H, hs535, hs538⟩
  unfold M_draw_Codes_Config_J1 at H
  refine Cw_seq ?_
  refine Cw_region ?_
  refine Ow_q rfl rfl rfl (Qt_move rfl) ?_
  obtain ⟨x1057, x1058, hx1059, H⟩ := bnd2 H
  have hs1060 := (hp0_list).mono hK1056
  refine Ow_cons rfl (OpW_call rfl Try.call29 rfl rfl (c_M_draw_Codes_Next bp0 (Draw_Codes.mk p0.list i531 i532) vp0_list 3 x1057 x1058 hx1059 _ _ hs1060) ?_)
  rintro _ _ _ - ⟨rfl, rfl, rfl⟩
  refine Ow_q rfl rfl rfl (Qt_arith (e := wI (2 + x1057)) rfl rfl rfl rfl) ?_
  refine Ow_q rfl rfl rfl (Qt_fieldAddr (m := 2) rfl rfl rfl rfl rfl) ?_
  refine Ow_cons rfl (OpW_store (vs := [(.int .i64 (wI (2 + x1057)))]) (all' := (Config.cells (Config.mk l534 l537 (wI (2 + x1057))) v533 v536)) rfl rfl rfl rfl rfl (.there .here) rfl rfl rfl ?_)
  refine Ow_nil ?_
  refine Cw_seq ?_
  refine Cw_region ?_
  refine Ow_q rfl rfl rfl (Qt_loadA (m := 3) (cs := (Config.cells (Config.mk l534 l537 (wI (2 + x1057))) v533 v536)) rfl rfl rfl rfl ⟨rfl, Rdc.blk (.tail _ (.head _)) rfl⟩) ?_
  refine Ow_cons rfl (OpW_store (vs := (Config.cells (Config.mk l534 l537 (wI (2 + x1057))) v533 v536)) (all' := (Config.cells (Config.mk l534 l537 (wI (2 + x1057))) v533 v536)) rfl rfl rfl rfl rfl (.there (.there .here)) rfl rfl rfl ?_)
  refine Ow_nil ?_
  refine Cw_ret ?_
  obtain ⟨ey0, ez0_at_, ez0_value⟩ := inj3 H
  subst y0 z0_at_ z0_value
  refine ⟨(by first | exact .inl rfl | exact .inr rfl), [(.agg (Config.cells (Config.mk l534 l537 (wI (2 + x1057))) v533 v536).toArray)], ⟨(.agg (Config.cells (Config.mk l534 l537 (wI (2 + x1057))) v533 v536).toArray), _, rfl, ⟨_, 3, (Config.cells (Config.mk l534 l537 (wI (2 + x1057))) v533 v536), rfl, rfl, rfl, rfl, ⟨rfl, Rdc.blk (.tail _ (.tail _ (.head _))) rfl⟩, rfl⟩, rfl⟩, ?_⟩
  refine Shift.pull (.there (.there (.there (.there .here)))) ?_
  refine Shift.pull (.there (.there (.there (.there .here)))) ?_
  refine Shift.pull (.there (.there .here)) ?_
  refine Shift.rem (.there (.there (.there .here))) ?_
  refine Shift.rem (.there (.there (.there .here))) ?_
  refine Shift.done ?_
  exact ⟨v533, v536, rfl, rfl, hs535, hs538⟩

set_option maxHeartbeats 1000000 in
theorem c_M_draw_Codes_channel (bp0 : Nat) (p0 : Draw_Codes) (vp0_list : SV) (p1 : Config) (vp1_capacities : SV) (vp1_starts : SV) (y0 : Int) (z0_at_ : Int) (z0_value : Int) (H : M_draw_Codes_channel p0 p1 = some (y0, z0_at_, z0_value)) (K : Kp) (G : List Ent) (hp0_list : Slr Ty.u8 K (sv vp0_list) p0.list) (hp1_capacities : Slr Ty.i64 K (sv vp1_capacities) p1.capacities) (hp1_starts : Slr Ty.u64 K (sv vp1_starts) p1.starts) :
    Fc Try.prog 31 #[(.pointer (some ((⟨bp0, 0, none⟩ : Addr).add 0))), (.agg (Config.cells p1 vp1_capacities vp1_starts).toArray)] K ((.blk bp0 60 (Draw_Codes.cells p0 vp0_list)) :: G) (fun v K' G' => v = (.int .i64 y0) ∧ K = K' ∧ (.blk bp0 60 (Draw_Codes.cells (Draw_Codes.mk p0.list z0_at_ z0_value) vp0_list)) :: G = G') := by
  refine Fc_body Try.func31 rfl Try.ntmps31 Try.results31 rfl ?_
  unfold M_draw_Codes_channel at H
  refine Cw_seq ?_
  refine Cw_region ?_
  refine Ow_cons rfl (OpW_box (cs := (Config.cells p1 vp1_capacities vp1_starts)) rfl rfl rfl (fun b13 => ?_))
  refine Ow_q rfl rfl rfl (Qt_assign rfl) ?_
  refine Ow_nil ?_
  refine Cw_seq ?_
  refine Cw_seq ?_
  refine Cw_region ?_
  refine Ow_q rfl rfl rfl (Qt_move rfl) ?_
  obtain ⟨x21, x22, hx23, H⟩ := bnd2 H
  refine Ow.shift (Shift.pull (.there .here) (Shift.done ?_))
  refine Ow_cons rfl (OpW_call rfl Try.call29 rfl rfl (c_M_draw_Codes_Next bp0 p0 vp0_list 16 x21 x22 hx23 _ _ hp0_list) ?_)
  rintro _ _ _ - ⟨rfl, rfl, rfl⟩
  refine Ow_q rfl rfl rfl (Qt_cmp rfl rfl rfl) ?_
  refine Ow_nil ?_
  refine Cw_cond rfl ?_ ?_
  · intro h24
    have h24 := dcd_t (h24)
    have H := ift h24 H
    refine Cw_seq ?_
    refine Cw_region ?_
    refine Ow_q rfl rfl rfl (Qt_move rfl) ?_
    obtain ⟨x25, x26, hx27, H⟩ := bnd2 H
    refine Ow_cons rfl (OpW_call rfl Try.call29 rfl rfl (c_M_draw_Codes_Next bp0 (Draw_Codes.mk p0.list x22 p0.value) vp0_list 9 x25 x26 hx27 _ _ hp0_list) ?_)
    rintro _ _ _ - ⟨rfl, rfl, rfl⟩
    refine Ow_q rfl rfl rfl (Qt_arith (e := wI (x25 - 1)) rfl rfl rfl rfl) ?_
    refine Ow_q rfl rfl rfl (Qt_assign rfl) ?_
    refine Ow_nil ?_
    refine Cw_ret ?_
    obtain ⟨ey0, ez0_at_, ez0_value⟩ := inj3 H
    subst y0 z0_at_ z0_value
    refine ⟨(by first | exact .inl rfl | exact .inr rfl), [(.int .i64 (wI (x25 - 1)))], ⟨(.int .i64 (wI (x25 - 1))), _, rfl, rfl, rfl⟩, ?_⟩
    refine Shift.rem (.there .here) ?_
    refine Shift.done ?_
    exact ⟨rfl, rfl, rfl⟩
  · intro h24
    have h24 := dcd_f (h24)
    have H := iff_ h24 H
    refine Cw_skip ?_
    refine Cw_seq ?_
    refine Cw_seq ?_
    refine Cw_region ?_
    refine Ow_q rfl rfl rfl (Qt_fieldAddr (m := 0) rfl rfl rfl rfl rfl) ?_
    refine Ow_q rfl rfl rfl (Qt_load1 (v := (sv vp1_capacities)) rfl rfl rfl (Rdc.blk (.tail _ (.head _)) rfl)) ?_
    refine Ow_q rfl rfl rfl (Q_len (T := Ty.i64) hp1_capacities rfl rfl) ?_
    refine Ow_q rfl rfl rfl (Qt_cmp rfl rfl rfl) ?_
    refine Ow_nil ?_
    refine Cw_cond rfl ?_ ?_
    · intro h29
      have h29 := dcd_t (h29)
      have H := ift h29 H
      refine Cw_seq ?_
      refine Cw_region ?_
      refine Ow_q rfl rfl rfl (Qt_assign rfl) ?_
      refine Ow_nil ?_
      refine Cw_ret ?_
      obtain ⟨ey0, ez0_at_, ez0_value⟩ := inj3 H
      subst y0 z0_at_ z0_value
      refine ⟨(by first | exact .inl rfl | exact .inr rfl), [(.int .i64 (-1))], ⟨(.int .i64 (-1)), _, rfl, rfl, rfl⟩, ?_⟩
      refine Shift.rem (.there .here) ?_
      refine Shift.done ?_
      exact ⟨rfl, rfl, rfl⟩
    · intro h29
      have h29 := dcd_f (h29)
      have H := iff_ h29 H
      refine Cw_skip ?_
      refine Cw_seq ?_
      refine Cw_region ?_
      refine Ow_q rfl rfl rfl (Qt_move rfl) ?_
      refine Ow_q rfl rfl rfl (Qt_fieldAddr (m := 0) rfl rfl rfl rfl rfl) ?_
      refine Ow_q rfl rfl rfl (Qt_load1 (v := (sv vp1_capacities)) rfl rfl rfl (Rdc.blk (.tail _ (.head _)) rfl)) ?_
      refine Ow_q rfl rfl rfl (Q_len (T := Ty.i64) hp1_capacities rfl rfl) ?_
      obtain ⟨x30, x31, hx32, H⟩ := bnd2 H
      refine Ow_cons rfl (OpW_call rfl Try.call29 rfl rfl (c_M_draw_Codes_Next bp0 (Draw_Codes.mk p0.list x22 p0.value) vp0_list (p1.capacities.length : Int) x30 x31 hx32 _ _ hp0_list) ?_)
      rintro _ _ _ - ⟨rfl, rfl, rfl⟩
      refine Ow_q rfl rfl rfl (Qt_assign rfl) ?_
      refine Ow_nil ?_
      refine Cw_ret ?_
      obtain ⟨ey0, ez0_at_, ez0_value⟩ := inj3 H
      subst y0 z0_at_ z0_value
      refine ⟨(by first | exact .inl rfl | exact .inr rfl), [(.int .i64 x30)], ⟨(.int .i64 x30), _, rfl, rfl, rfl⟩, ?_⟩
      refine Shift.rem (.there .here) ?_
      refine Shift.done ?_
      exact ⟨rfl, rfl, rfl⟩

set_option maxHeartbeats 1000000 in
theorem c_M_draw_Codes_Value (bp0 : Nat) (p0 : Draw_Codes) (vp0_list : SV) (y0 : Int) (z0_value : Int) (H : M_draw_Codes_Value p0 = some (y0, z0_value)) (K : Kp) (G : List Ent) (hp0_list : Slr Ty.u8 K (sv vp0_list) p0.list) :
    Fc Try.prog 32 #[(.pointer (some ((⟨bp0, 0, none⟩ : Addr).add 0)))] K ((.blk bp0 60 (Draw_Codes.cells p0 vp0_list)) :: G) (fun v K' G' => v = (.int .u64 y0) ∧ K = K' ∧ (.blk bp0 60 (Draw_Codes.cells (Draw_Codes.mk p0.list p0.at_ z0_value) vp0_list)) :: G = G') := by
  refine Fc_body Try.func32 rfl Try.ntmps32 Try.results32 rfl ?_
  unfold M_draw_Codes_Value at H
  refine Cw_seq ?_
  refine Cw_region ?_
  refine Ow_q rfl rfl rfl (Qt_assign rfl) ?_
  refine Ow_nil ?_
  refine Cw_seq ?_
  refine Cw_region ?_
  refine Ow_q rfl rfl rfl (Qt_move rfl) ?_
  refine Ow_q rfl rfl rfl (Qt_nilCheck rfl) ?_
  refine Ow_q rfl rfl rfl (Qt_fieldAddr (m := 2) rfl rfl rfl rfl rfl) ?_
  refine Ow_q rfl rfl rfl (Qt_load1 (v := (.int .u64 p0.value)) rfl rfl rfl (Rdc.blk (.head _) rfl)) ?_
  refine Ow_q rfl rfl rfl (Qt_arith (e := wU (p0.value + 1)) rfl rfl rfl rfl) ?_
  refine Ow_q rfl rfl rfl (Qt_nilCheck rfl) ?_
  refine Ow_q rfl rfl rfl (Qt_fieldAddr (m := 2) rfl rfl rfl rfl rfl) ?_
  refine Ow_cons rfl (OpW_store (vs := [(.int .u64 (wU (p0.value + 1)))]) (all' := (Draw_Codes.cells (Draw_Codes.mk p0.list p0.at_ (wU (p0.value + 1))) vp0_list)) rfl rfl rfl rfl rfl .here rfl rfl rfl ?_)
  refine Ow_nil ?_
  refine Cw_seq ?_
  refine Cw_region ?_
  refine Ow_q rfl rfl rfl (Qt_move rfl) ?_
  refine Ow_q rfl rfl rfl (Qt_nilCheck rfl) ?_
  refine Ow_q rfl rfl rfl (Qt_fieldAddr (m := 2) rfl rfl rfl rfl rfl) ?_
  refine Ow_q rfl rfl rfl (Qt_load1 (v := (.int .u64 (wU (p0.value + 1)))) rfl rfl rfl (Rdc.blk (.head _) rfl)) ?_
  refine Ow_q rfl rfl rfl (Qt_assign rfl) ?_
  refine Ow_nil ?_
  refine Cw_ret ?_
  obtain ⟨ey0, ez0_value⟩ := inj2 H
  subst y0 z0_value
  refine ⟨(by first | exact .inl rfl | exact .inr rfl), [(.int .u64 (wU (p0.value + 1)))], ⟨(.int .u64 (wU (p0.value + 1))), _, rfl, rfl, rfl⟩, ?_⟩
  refine Shift.done ?_
  exact ⟨rfl, rfl, rfl⟩

set_option maxHeartbeats 1000000 in
theorem c_M_draw_Codes_mode (bp0 : Nat) (p0 : Draw_Codes) (vp0_list : SV) (p1 : Op) (vp1_cases : SV) (vp1_draws : SV) (y0 : Op) (z0_at_ : Int) (z0_value : Int) (H : M_draw_Codes_mode p0 p1 = some (y0, z0_at_, z0_value)) (K : Kp) (G : List Ent) (hp0_list : Slr Ty.u8 K (sv vp0_list) p0.list) (hp1_cases : Slr TyCase K (sv vp1_cases) p1.cases) (hp1_draws : Slr Ty.i64 K (sv vp1_draws) p1.draws) :
    Fc Try.prog 30 #[(.pointer (some ((⟨bp0, 0, none⟩ : Addr).add 0))), (.agg (Op.cells p1 vp1_cases vp1_draws).toArray)] K ((.blk bp0 60 (Draw_Codes.cells p0 vp0_list)) :: G) (fun v K' G' => ∃ (wy0_cases : SV) (wy0_draws : SV), v = (.agg (Op.cells y0 wy0_cases wy0_draws).toArray) ∧ K = K' ∧ (.blk bp0 60 (Draw_Codes.cells (Draw_Codes.mk p0.list z0_at_ z0_value) vp0_list)) :: G = G' ∧ Slr TyCase K' (sv wy0_cases) y0.cases ∧ Slr Ty.i64 K' (sv wy0_draws) y0.draws) := by
  refine Fc_body Try.func30 rfl Try.ntmps30 Try.results30 rfl ?_
  unfold M_draw_Codes_mode at H
  refine Cw_seq ?_
  refine Cw_region ?_
  refine Ow_cons rfl (OpW_box (cs := (Op.cells p1 vp1_cases vp1_draws)) rfl rfl rfl (fun b32 => ?_))
  refine Ow_cons rfl (OpW_alloc (cs := (Op.cells (Op.mk 0 0 0 0 0 [] []) nilS nilS)) rfl rfl rfl rfl (fun b33 => ?_))
  refine Ow_nil ?_
  refine Cw_join (fun env' K' G' => ∃ (i54 : Int) (i55 : Int) (i56 : Int) (i57 : Int) (i58 : Int) (i59 : Int) (i60 : Int) (i61 : Int) (i62 : Int), [(3, (.pointer (some ((⟨b32, 0, none⟩ : Addr).add 0)))), (4, (.pointer (some ((⟨b33, 0, none⟩ : Addr).add 0))))] = env' ∧ K = K' ∧ (.blk bp0 60 (Draw_Codes.cells (Draw_Codes.mk p0.list i54 i55) vp0_list)) :: (.blk b33 26 (Op.cells (Op.mk i56 i56 i56 i57 i56 [] []) nilS nilS)) :: (.blk b32 26 (Op.cells (Op.mk i58 i59 i60 i61 i62 p1.cases p1.draws) vp1_cases vp1_draws)) :: G = G' ∧ M_draw_Codes_mode_J1 p0 p1 i54 i55 i56 i57 i58 i59 i60 i61 i62 = some (y0, z0_at_, z0_value)) ?_ ?_
  · skip
    refine Cw_seq ?_
    refine Cw_region ?_
    refine Ow_q rfl rfl rfl (Qt_move rfl) ?_
    obtain ⟨x63, x64, hx65, H⟩ := bnd2 H
    refine Ow.shift (Shift.pull (.there (.there .here)) (Shift.done ?_))
    refine Ow_cons rfl (OpW_call rfl Try.call29 rfl rfl (c_M_draw_Codes_Next bp0 p0 vp0_list 8 x63 x64 hx65 _ _ hp0_list) ?_)
    rintro _ _ _ - ⟨rfl, rfl, rfl⟩
    refine Ow_nil ?_
    refine Cw_block ?_
    refine Cw_join (fun env' K' G' => ∃ (t67 : Bool), [(0, (.pointer (some ((⟨bp0, 0, none⟩ : Addr).add 0)))), (3, (.pointer (some ((⟨b32, 0, none⟩ : Addr).add 0)))), (4, (.pointer (some ((⟨b33, 0, none⟩ : Addr).add 0)))), (6, (.int .i64 x63)), (7, (.bool t67))] = env' ∧ K = K' ∧ (.blk bp0 60 (Draw_Codes.cells (Draw_Codes.mk p0.list x64 p0.value) vp0_list)) :: (.blk b33 26 (Op.cells (Op.mk 0 0 0 0 0 [] []) nilS nilS)) :: (.blk b32 26 (Op.cells p1 vp1_cases vp1_draws)) :: G = G' ∧ M_draw_Codes_mode_J2 x63 p0 x64 p1 t67 = some (y0, z0_at_, z0_value)) ?_ ?_
    · skip
      refine Cw_seq ?_
      refine Cw_region ?_
      refine Ow_q rfl rfl rfl (Qt_cmp rfl rfl rfl) ?_
      refine Ow_q rfl rfl rfl (Qt_assign rfl) ?_
      refine Ow_nil ?_
      refine Cw_cond rfl ?_ ?_
      · intro h68
        have h68 := dcd_t (h68)
        have H := ift h68 H
        refine Cw_skip ?_
        refine Shift.pull (.there (.there .here)) ?_
        refine Shift.pull (.there (.there .here)) ?_
        refine Shift.pull (.there (.there .here)) ?_
        refine Shift.done ?_
        exact ⟨[(0, (.pointer (some ((⟨bp0, 0, none⟩ : Addr).add 0)))), (3, (.pointer (some ((⟨b32, 0, none⟩ : Addr).add 0)))), (4, (.pointer (some ((⟨b33, 0, none⟩ : Addr).add 0)))), (6, (.int .i64 x63)), (7, (.bool (dcd (x63 = 5))))], ⟨rfl, rfl, rfl, rfl, rfl, trivial⟩, (dcd (x63 = 5)), rfl, rfl, rfl, H⟩
      · intro h68
        have h68 := dcd_f (h68)
        have H := iff_ h68 H
        refine Cw_region ?_
        refine Ow_q rfl rfl rfl (Qt_cmp rfl rfl rfl) ?_
        refine Ow_q rfl rfl rfl (Qt_assign rfl) ?_
        refine Ow_nil ?_
        refine Shift.pull (.there (.there .here)) ?_
        refine Shift.pull (.there (.there .here)) ?_
        refine Shift.pull (.there (.there .here)) ?_
        refine Shift.done ?_
        exact ⟨[(0, (.pointer (some ((⟨bp0, 0, none⟩ : Addr).add 0)))), (3, (.pointer (some ((⟨b32, 0, none⟩ : Addr).add 0)))), (4, (.pointer (some ((⟨b33, 0, none⟩ : Addr).add 0)))), (6, (.int .i64 x63)), (7, (.bool (dcd (x63 = 6))))], ⟨rfl, rfl, rfl, rfl, rfl, trivial⟩, (dcd (x63 = 6)), rfl, rfl, rfl, H⟩
    rintro _ _ _ - ⟨t67, rfl, rfl, rfl, H⟩
    unfold M_draw_Codes_mode_J2 at H
    refine Cw_cond rfl ?_ ?_
    · intro h69
      have H := ift h69 H
      refine Cw_region ?_
      refine Ow_q rfl rfl rfl (Qt_fieldAddr (m := 1) rfl rfl rfl rfl rfl) ?_
      refine Ow_cons rfl (OpW_store (vs := [(.int .i64 1)]) (all' := (Op.cells (Op.mk p1.kind 1 p1.channel p1.value p1.deadline p1.cases p1.draws) vp1_cases vp1_draws)) rfl rfl rfl rfl rfl (.there (.there .here)) rfl rfl rfl ?_)
      refine Ow_nil ?_
      refine Shift.pull (.there (.there .here)) ?_
      refine Shift.pull (.there (.there .here)) ?_
      refine Shift.pull (.there (.there .here)) ?_
      refine Shift.done ?_
      exact ⟨[(3, (.pointer (some ((⟨b32, 0, none⟩ : Addr).add 0)))), (4, (.pointer (some ((⟨b33, 0, none⟩ : Addr).add 0))))], ⟨rfl, rfl, trivial⟩, x64, p0.value, 0, 0, p1.kind, 1, p1.channel, p1.value, p1.deadline, rfl, rfl, rfl, H⟩
    · intro h69
      have H := iff_ (btf h69) H
      refine Cw_seq ?_
      refine Cw_region ?_
      refine Ow_q rfl rfl rfl (Qt_cmp rfl rfl rfl) ?_
      refine Ow_q rfl rfl rfl (Qt_assign rfl) ?_
      refine Ow_nil ?_
      refine Cw_cond rfl ?_ ?_
      · intro h70
        have h70 := dcd_t (h70)
        have H := ift h70 H
        refine Cw_region ?_
        refine Ow_q rfl rfl rfl (Qt_move rfl) ?_
        obtain ⟨x71, x72, hx73, H⟩ := bnd2 H
        refine Ow_cons rfl (OpW_call rfl Try.call29 rfl rfl (c_M_draw_Codes_Next bp0 (Draw_Codes.mk p0.list x64 p0.value) vp0_list 5 x71 x72 hx73 _ _ hp0_list) ?_)
        rintro _ _ _ - ⟨rfl, rfl, rfl⟩
        refine Ow_q rfl rfl rfl (Qt_fieldAddr (m := 1) rfl rfl rfl rfl rfl) ?_
        refine Ow_cons rfl (OpW_store (vs := [(.int .i64 2)]) (all' := (Op.cells (Op.mk p1.kind 2 p1.channel p1.value p1.deadline p1.cases p1.draws) vp1_cases vp1_draws)) rfl rfl rfl rfl rfl (.there (.there .here)) rfl rfl rfl ?_)
        refine Ow_q rfl rfl rfl (Qt_fieldAddr (m := 4) rfl rfl rfl rfl rfl) ?_
        refine Ow_cons rfl (OpW_store (vs := [(.int .i64 x71)]) (all' := (Op.cells (Op.mk p1.kind 2 p1.channel p1.value x71 p1.cases p1.draws) vp1_cases vp1_draws)) rfl rfl rfl rfl rfl (.there (.there .here)) rfl rfl rfl ?_)
        refine Ow_nil ?_
        refine Shift.pull (.there (.there .here)) ?_
        refine Shift.pull (.there (.there .here)) ?_
        refine Shift.pull (.there (.there .here)) ?_
        refine Shift.done ?_
        exact ⟨[(3, (.pointer (some ((⟨b32, 0, none⟩ : Addr).add 0)))), (4, (.pointer (some ((⟨b33, 0, none⟩ : Addr).add 0))))], ⟨rfl, rfl, trivial⟩, x72, ((Draw_Codes.mk p0.list x64 p0.value).value), 0, 0, p1.kind, 2, p1.channel, p1.value, x71, rfl, rfl, rfl, H⟩
      · intro h70
        have h70 := dcd_f (h70)
        have H := iff_ h70 H
        refine Cw_skip ?_
        refine Shift.pull (.there (.there .here)) ?_
        refine Shift.pull (.there (.there .here)) ?_
        refine Shift.pull (.there (.there .here)) ?_
        refine Shift.done ?_
        exact ⟨[(3, (.pointer (some ((⟨b32, 0, none⟩ : Addr).add 0)))), (4, (.pointer (some ((⟨b33, 0, none⟩ : Addr).add 0))))], ⟨rfl, rfl, trivial⟩, x64, p0.value, 0, 0, p1.kind, p1.mode, p1.channel, p1.value, p1.deadline, rfl, rfl, rfl, H⟩
  rintro _ _ _ - ⟨i54, i55, i56, i57, i58, i59, i60, i61, i62, rfl, rfl, rfl, H⟩
  unfold M_draw_Codes_mode_J1 at H
  refine Cw_seq ?_
  refine Cw_region ?_
  refine Ow_q rfl rfl rfl (Qt_loadA (m := 7) (cs := (Op.cells (Op.mk i58 i59 i60 i61 i62 p1.cases p1.draws) vp1_cases vp1_draws)) rfl rfl rfl rfl ⟨rfl, Rdc.blk (.tail _ (.tail _ (.head _))) rfl⟩) ?_
  refine Ow_cons rfl (OpW_store (vs := (Op.cells (Op.mk i58 i59 i60 i61 i62 p1.cases p1.draws) vp1_cases vp1_draws)) (all' := (Op.cells (Op.mk i58 i59 i60 i61 i62 p1.cases p1.draws) vp1_cases vp1_draws)) rfl rfl rfl rfl rfl (.there .here) rfl rfl rfl ?_)
  refine Ow_nil ?_
  refine Cw_ret ?_
  obtain ⟨ey0, ez0_at_, ez0_value⟩ := inj3 H
  subst y0 z0_at_ z0_value
  refine ⟨(by first | exact .inl rfl | exact .inr rfl), [(.agg (Op.cells (Op.mk i58 i59 i60 i61 i62 p1.cases p1.draws) vp1_cases vp1_draws).toArray)], ⟨(.agg (Op.cells (Op.mk i58 i59 i60 i61 i62 p1.cases p1.draws) vp1_cases vp1_draws).toArray), _, rfl, ⟨_, 7, (Op.cells (Op.mk i58 i59 i60 i61 i62 p1.cases p1.draws) vp1_cases vp1_draws), rfl, rfl, rfl, rfl, ⟨rfl, Rdc.blk (.tail _ (.head _)) rfl⟩, rfl⟩, rfl⟩, ?_⟩
  refine Shift.rem (.there .here) ?_
  refine Shift.rem (.there .here) ?_
  refine Shift.done ?_
  exact ⟨vp1_cases, vp1_draws, rfl, rfl, rfl, hp1_cases, hp1_draws⟩


end Go.Hx
