/- Printed by program. -/
import Derived.Test.YthpjaddchdnejaaXBM
import Derived.Test.YthpjaddchdnejaaXBWHistory
import Derived.Test.YthpjaddchdnejaaXBWLaw16
import Derived.Test.YthpjaddchdnejaaXBWLaw161
import Derived.Test.YthpjaddchdnejaaXBWRef16
namespace Go.Hx
open Go Go.Proofs
set_option linter.unusedSimpArgs false
set_option linter.unusedVariables false
set_option maxRecDepth 10000
set_option maxHeartbeats 1000000 in
theorem c_M_law16_HistoryAsks (p0 : List Int) (vp0 : SV) (p1 : List Event) (vp1 : SV) (p2 : Int) (p3 : Int) (y0 : Bool) (H : M_law16_HistoryAsks p0 p1 p2 p3 = some y0) (K : Kp) (G : List Ent) (hp0 : Slr Ty.u8 K (sv vp0) p0) (hp1 : Slr TyEvent K (sv vp1) p1) :
    Fc Try.prog 7 #[(sv vp0), (sv vp1), (.int .i64 p2), (.int .i64 p3)] K (G) (fun v K' G' => v = (.bool y0) ∧ G = G') := by
  refine Fc_body Try.func7 rfl Try.ntmps7 Try.results7 rfl ?_
  unfold M_law16_HistoryAsks at H
  refine Cw_seq ?_
  refine Cw_region ?_
  refine Ow_q rfl rfl rfl (Qt_assign rfl) ?_
  refine Ow_nil ?_
  refine Cw_seq ?_
  refine Cw_seq ?_
  refine Cw_region ?_
  obtain ⟨x615, hx616, H⟩ := bnd H
  refine Ow_cons rfl (OpW_call rfl Try.call14 rfl rfl (c_M_law16_awake  x615 hx616 _ _ ) ?_)
  rintro _ K617 _ hK618 ⟨rfl, rfl⟩
  refine Ow_q rfl rfl rfl (Qt_not rfl) ?_
  refine Ow_nil ?_
  refine Cw_cond rfl ?_ ?_
  · intro h619
    have h619 := nt_t (h619)
    have H := iff_ (btf h619) H
    refine Cw_seq ?_
    refine Cw_region ?_
    refine Ow_q rfl rfl rfl (Qt_assign rfl) ?_
    refine Ow_nil ?_
    refine Cw_ret ?_
    obtain ey0 := inj1 H
    subst y0
    refine ⟨(by first | exact .inl rfl | exact .inr rfl), [(.bool false)], ⟨(.bool false), _, rfl, rfl, rfl⟩, ?_⟩
    refine Shift.done ?_
    exact ⟨rfl, rfl⟩
  · intro h619
    have h619 := nt_f (h619)
    have H := ift h619 H
    refine Cw_skip ?_
    refine Cw_seq ?_
    refine Cw_seq ?_
    refine Cw_region ?_
    refine Ow_q rfl rfl rfl (Qt_move rfl) ?_
    have hs622 := (hp1).mono hK618
    refine Ow_q rfl rfl rfl (Q_len (T := TyEvent) hs622 rfl rfl) ?_
    refine Ow_q rfl rfl rfl (Qt_cmp rfl rfl rfl) ?_
    refine Ow_nil ?_
    refine Cw_cond rfl ?_ ?_
    · intro h623
      have h623 := dcd_t (h623)
      have H := ift h623 H
      refine Cw_seq ?_
      refine Cw_region ?_
      refine Ow_q rfl rfl rfl (Qt_assign rfl) ?_
      refine Ow_nil ?_
      refine Cw_ret ?_
      obtain ey0 := inj1 H
      subst y0
      refine ⟨(by first | exact .inl rfl | exact .inr rfl), [(.bool true)], ⟨(.bool true), _, rfl, rfl, rfl⟩, ?_⟩
      refine Shift.done ?_
      exact ⟨rfl, rfl⟩
    · intro h623
      have h623 := dcd_f (h623)
      have H := iff_ h623 H
      refine Cw_skip ?_
      refine Cw_seq ?_
      refine Cw_region ?_
      refine Ow_q rfl rfl rfl (Qt_move rfl) ?_
      obtain ⟨x624, x625, hx626, H⟩ := bnd2 H
      have hs627 := (hp0).mono hK618
      refine Ow_cons rfl (OpW_call rfl Try.call15 rfl rfl (c_M_law16_made p0 vp0 x624 x625 hx626 _ _ hs627) ?_)
      rintro _ K631 _ hK632 ⟨v628, rs629, v630, rfl, rfl, hs633, hs634⟩
      refine Ow_q rfl rfl rfl (Qt_move rfl) ?_
      refine Ow_q rfl rfl rfl (Qt_extract rfl rfl) ?_
      refine Ow_q rfl rfl rfl (Qt_extract rfl rfl) ?_
      refine Ow_q rfl rfl rfl (Qt_assign rfl) ?_
      refine Ow_q rfl rfl rfl (Qt_assign rfl) ?_
      refine Ow_nil ?_
      refine Cw_join (fun env' K' G' => [] = env' ∧ G = G' ∧ M_law16_HistoryAsks_J1 = some y0) ?_ ?_
      · skip
        refine Cw_seq ?_
        refine Cw_region ?_
        refine Ow_q rfl rfl rfl (Qt_move rfl) ?_
        refine Ow_q rfl rfl rfl (Qt_move rfl) ?_
        have hs1226 := (hs622).mono hK632
        have hR1225 : RowR (Ty.sl TyEvent) K631 [[(sv v630)], [(sv vp1)]] [x625, p1] := RowR.cons ⟨v630, rfl, hs634⟩ (RowR.cons ⟨vp1, rfl, hs1226⟩ (RowR.nil))
        refine Ow_cons rfl (O_lit (T := (Ty.sl TyEvent)) (rows := [[(sv v630)], [(sv vp1)]]) (l := [x625, p1]) rfl rfl rfl hR1225 rfl rfl rfl rfl rfl rfl rfl rfl (fun v1224 => ?_))
        refine Ow_q rfl rfl rfl (Q_lenR (T := (Ty.sl TyEvent)) (.head _) hR1225 rfl rfl rfl) ?_
        refine Ow_q rfl rfl rfl (Qt_move rfl) ?_
        refine Ow_nil ?_
        refine Cw_block ?_
        refine Cw_loopM (fun n1813 env' K' G' => ∃ (i1812 : Int), [(2, (.int .i64 p2)), (3, (.int .i64 p3)), (33, (sv v1224)), (34, (.int .i64 ([x625, p1].length : Int))), (35, (.int .i64 i1812))] = env' ∧ (.row (sv v1224) 23 1 [[(sv v630)], [(sv vp1)]].flatten) :: G = G' ∧ lp1 (M_law16_HistoryAsks_L1 p2 p3 x625 p1) n1813 i1812 = some y0) BIG ?_ ?_
        · skip
          refine Shift.rem (.there .here) ?_
          refine Shift.rem (.there .here) ?_
          refine Shift.done ?_
          exact ⟨[(2, (.int .i64 p2)), (3, (.int .i64 p3)), (33, (sv v1224)), (34, (.int .i64 ([x625, p1].length : Int))), (35, (.int .i64 0))], ⟨rfl, rfl, rfl, rfl, rfl, trivial⟩, 0, rfl, rfl, H⟩
        rintro n1813 _ K1814 _ hK1815 ⟨i1812, rfl, rfl, H⟩
        obtain ⟨m1816, k1817, rfl, hkk1818, H⟩ := lps1 H
        unfold M_law16_HistoryAsks_L1 at H
        refine Cw_seq ?_
        refine Cw_region ?_
        refine Ow_q rfl rfl rfl (Qt_cmp rfl rfl rfl) ?_
        refine Ow_nil ?_
        refine Cw_seq ?_
        refine Cw_cond rfl ?_ ?_
        · intro h1820
          have h1820 := dcd_t (h1820)
          have H := ift h1820 H
          refine Cw_skip ?_
          refine Cw_join (fun env' K' G' => [(2, (.int .i64 p2)), (3, (.int .i64 p3)), (33, (sv v1224)), (34, (.int .i64 ([x625, p1].length : Int))), (35, (.int .i64 i1812))] = env' ∧ (.row (sv v1224) 23 1 [[(sv v630)], [(sv vp1)]].flatten) :: G = G' ∧ M_law16_HistoryAsks_J2 p2 p3 x625 p1 i1812 k1817 = some y0) ?_ ?_
          · skip
            refine Cw_block ?_
            refine Cw_seq ?_
            refine Cw_region ?_
            obtain ⟨x2108, hx2109, H⟩ := bnd H
            have hs2110 := (hR1225).mono hK1815
            obtain ⟨r2111, hq2112, hr2113⟩ := RowR.at hs2110 hx2109
            obtain ⟨v2114, rfl, hs2115⟩ := hr2113
            refine Ow_q rfl rfl rfl (Q_ixR (T := (Ty.sl TyEvent)) (.head _) hs2110 hq2112 (getI_ix hx2109).1 rfl rfl rfl rfl rfl) ?_
            refine Ow_q rfl rfl rfl (Qt_load1 (v := (sv v2114)) rfl rfl rfl (Rd_row (T := (Ty.sl TyEvent)) (.head _) hs2110 hq2112 rfl rfl)) ?_
            refine Ow_q rfl rfl rfl (Qt_assign rfl) ?_
            refine Ow_nil ?_
            refine Cw_join (fun env' K' G' => [(2, (.int .i64 p2)), (3, (.int .i64 p3)), (12, (sv v2114)), (33, (sv v1224)), (34, (.int .i64 ([x625, p1].length : Int))), (35, (.int .i64 i1812))] = env' ∧ (.row (sv v1224) 23 1 [[(sv v630)], [(sv vp1)]].flatten) :: G = G' ∧ M_law16_HistoryAsks_J3 p2 p3 x2108 x625 p1 i1812 k1817 = some y0) ?_ ?_
            · skip
              refine Cw_seq ?_
              refine Cw_region ?_
              refine Ow_q rfl rfl rfl (Qt_move rfl) ?_
              have hR2351 : RowR Ty.i64 K1814 [[(.int .i64 p2)], [(.int .i64 0)], [(.int .i64 1)], [(.int .i64 2)]] [p2, 0, 1, 2] := RowR.cons rfl (RowR.cons rfl (RowR.cons rfl (RowR.cons rfl (RowR.nil))))
              refine Ow_cons rfl (O_lit (T := Ty.i64) (rows := [[(.int .i64 p2)], [(.int .i64 0)], [(.int .i64 1)], [(.int .i64 2)]]) (l := [p2, 0, 1, 2]) rfl rfl rfl hR2351 rfl rfl rfl rfl rfl rfl rfl rfl (fun v2350 => ?_))
              refine Ow_q rfl rfl rfl (Q_lenR (T := Ty.i64) (.head _) hR2351 rfl rfl rfl) ?_
              refine Ow_q rfl rfl rfl (Qt_move rfl) ?_
              refine Ow_nil ?_
              refine Cw_block ?_
              refine Cw_loopM (fun n2584 env' K' G' => ∃ (i2583 : Int), [(2, (.int .i64 p2)), (3, (.int .i64 p3)), (12, (sv v2114)), (33, (sv v1224)), (34, (.int .i64 ([x625, p1].length : Int))), (35, (.int .i64 i1812)), (40, (sv v2350)), (41, (.int .i64 ([p2, 0, 1, 2].length : Int))), (42, (.int .i64 i2583))] = env' ∧ (.row (sv v2350) 3 1 [[(.int .i64 p2)], [(.int .i64 0)], [(.int .i64 1)], [(.int .i64 2)]].flatten) :: (.row (sv v1224) 23 1 [[(sv v630)], [(sv vp1)]].flatten) :: G = G' ∧ lp1 (M_law16_HistoryAsks_L2 p2 p3 x2108 x625 p1 i1812 k1817) n2584 i2583 = some y0) BIG ?_ ?_
              · skip
                refine Shift.pull (.there .here) ?_
                refine Shift.pull (.there .here) ?_
                refine Shift.done ?_
                exact ⟨[(2, (.int .i64 p2)), (3, (.int .i64 p3)), (12, (sv v2114)), (33, (sv v1224)), (34, (.int .i64 ([x625, p1].length : Int))), (35, (.int .i64 i1812)), (40, (sv v2350)), (41, (.int .i64 ([p2, 0, 1, 2].length : Int))), (42, (.int .i64 0))], ⟨rfl, rfl, rfl, rfl, rfl, rfl, rfl, rfl, rfl, trivial⟩, 0, rfl, rfl, H⟩
              rintro n2584 _ K2585 _ hK2586 ⟨i2583, rfl, rfl, H⟩
              obtain ⟨m2587, k2588, rfl, hkk2589, H⟩ := lps1 H
              unfold M_law16_HistoryAsks_L2 at H
              refine Cw_seq ?_
              refine Cw_region ?_
              refine Ow_q rfl rfl rfl (Qt_cmp rfl rfl rfl) ?_
              refine Ow_nil ?_
              refine Cw_seq ?_
              refine Cw_cond rfl ?_ ?_
              · intro h2591
                have h2591 := dcd_t (h2591)
                have H := ift h2591 H
                refine Cw_skip ?_
                refine Cw_join (fun env' K' G' => [(2, (.int .i64 p2)), (3, (.int .i64 p3)), (12, (sv v2114)), (33, (sv v1224)), (34, (.int .i64 ([x625, p1].length : Int))), (35, (.int .i64 i1812)), (40, (sv v2350)), (41, (.int .i64 ([p2, 0, 1, 2].length : Int))), (42, (.int .i64 i2583))] = env' ∧ (.row (sv v2350) 3 1 [[(.int .i64 p2)], [(.int .i64 0)], [(.int .i64 1)], [(.int .i64 2)]].flatten) :: (.row (sv v1224) 23 1 [[(sv v630)], [(sv vp1)]].flatten) :: G = G' ∧ M_law16_HistoryAsks_J4 p2 p3 x2108 x625 p1 i1812 i2583 k1817 k2588 = some y0) ?_ ?_
                · skip
                  refine Cw_block ?_
                  refine Cw_seq ?_
                  refine Cw_region ?_
                  obtain ⟨x2702, hx2703, H⟩ := bnd H
                  have hs2704 := (hR2351).mono hK2586
                  obtain ⟨r2705, hq2706, hr2707⟩ := RowR.at hs2704 hx2703
                  obtain rfl := hr2707
                  refine Ow_q rfl rfl rfl (Q_ixR (T := Ty.i64) (.head _) hs2704 hq2706 (getI_ix hx2703).1 rfl rfl rfl rfl rfl) ?_
                  refine Ow_q rfl rfl rfl (Qt_load1 (v := (.int .i64 x2702)) rfl rfl rfl (Rd_row (T := Ty.i64) (.head _) hs2704 hq2706 rfl rfl)) ?_
                  refine Ow_q rfl rfl rfl (Qt_assign rfl) ?_
                  refine Ow_nil ?_
                  refine Cw_join (fun env' K' G' => [(2, (.int .i64 p2)), (3, (.int .i64 p3)), (12, (sv v2114)), (14, (.int .i64 x2702)), (33, (sv v1224)), (34, (.int .i64 ([x625, p1].length : Int))), (35, (.int .i64 i1812)), (40, (sv v2350)), (41, (.int .i64 ([p2, 0, 1, 2].length : Int))), (42, (.int .i64 i2583))] = env' ∧ (.row (sv v2350) 3 1 [[(.int .i64 p2)], [(.int .i64 0)], [(.int .i64 1)], [(.int .i64 2)]].flatten) :: (.row (sv v1224) 23 1 [[(sv v630)], [(sv vp1)]].flatten) :: G = G' ∧ M_law16_HistoryAsks_J5 p2 p3 x2108 x2702 x625 p1 i1812 i2583 k1817 k2588 = some y0) ?_ ?_
                  · skip
                    refine Cw_seq ?_
                    refine Cw_region ?_
                    refine Ow_q rfl rfl rfl (Qt_move rfl) ?_
                    have hR2791 : RowR Ty.i64 K2585 [[(.int .i64 p3)], [(.int .i64 0)], [(.int .i64 1)], [(.int .i64 2)]] [p3, 0, 1, 2] := RowR.cons rfl (RowR.cons rfl (RowR.cons rfl (RowR.cons rfl (RowR.nil))))
                    refine Ow_cons rfl (O_lit (T := Ty.i64) (rows := [[(.int .i64 p3)], [(.int .i64 0)], [(.int .i64 1)], [(.int .i64 2)]]) (l := [p3, 0, 1, 2]) rfl rfl rfl hR2791 rfl rfl rfl rfl rfl rfl rfl rfl (fun v2790 => ?_))
                    refine Ow_q rfl rfl rfl (Q_lenR (T := Ty.i64) (.head _) hR2791 rfl rfl rfl) ?_
                    refine Ow_q rfl rfl rfl (Qt_move rfl) ?_
                    refine Ow_nil ?_
                    refine Cw_block ?_
                    refine Cw_loopM (fun n2872 env' K' G' => ∃ (i2871 : Int), [(2, (.int .i64 p2)), (3, (.int .i64 p3)), (12, (sv v2114)), (14, (.int .i64 x2702)), (33, (sv v1224)), (34, (.int .i64 ([x625, p1].length : Int))), (35, (.int .i64 i1812)), (40, (sv v2350)), (41, (.int .i64 ([p2, 0, 1, 2].length : Int))), (42, (.int .i64 i2583)), (47, (sv v2790)), (48, (.int .i64 ([p3, 0, 1, 2].length : Int))), (49, (.int .i64 i2871))] = env' ∧ (.row (sv v2790) 3 1 [[(.int .i64 p3)], [(.int .i64 0)], [(.int .i64 1)], [(.int .i64 2)]].flatten) :: (.row (sv v2350) 3 1 [[(.int .i64 p2)], [(.int .i64 0)], [(.int .i64 1)], [(.int .i64 2)]].flatten) :: (.row (sv v1224) 23 1 [[(sv v630)], [(sv vp1)]].flatten) :: G = G' ∧ lp1 (M_law16_HistoryAsks_L3 p2 p3 x2108 x2702 x625 p1 i1812 i2583 k1817 k2588) n2872 i2871 = some y0) BIG ?_ ?_
                    · skip
                      refine Shift.pull (.there (.there .here)) ?_
                      refine Shift.pull (.there (.there .here)) ?_
                      refine Shift.pull (.there (.there .here)) ?_
                      refine Shift.done ?_
                      exact ⟨[(2, (.int .i64 p2)), (3, (.int .i64 p3)), (12, (sv v2114)), (14, (.int .i64 x2702)), (33, (sv v1224)), (34, (.int .i64 ([x625, p1].length : Int))), (35, (.int .i64 i1812)), (40, (sv v2350)), (41, (.int .i64 ([p2, 0, 1, 2].length : Int))), (42, (.int .i64 i2583)), (47, (sv v2790)), (48, (.int .i64 ([p3, 0, 1, 2].length : Int))), (49, (.int .i64 0))], ⟨rfl, rfl, rfl, rfl, rfl, rfl, rfl, rfl, rfl, rfl, rfl, rfl, rfl, trivial⟩, 0, rfl, rfl, H⟩
                    rintro n2872 _ K2873 _ hK2874 ⟨i2871, rfl, rfl, H⟩
                    obtain ⟨m2875, k2876, rfl, hkk2877, H⟩ := lps1 H
                    unfold M_law16_HistoryAsks_L3 at H
                    refine Cw_seq ?_
                    refine Cw_region ?_
                    refine Ow_q rfl rfl rfl (Qt_cmp rfl rfl rfl) ?_
                    refine Ow_nil ?_
                    refine Cw_seq ?_
                    refine Cw_cond rfl ?_ ?_
                    · intro h2879
                      have h2879 := dcd_t (h2879)
                      have H := ift h2879 H
                      refine Cw_skip ?_
                      refine Cw_seq ?_
                      refine Cw_block ?_
                      refine Cw_seq ?_
                      refine Cw_region ?_
                      obtain ⟨x2916, hx2917, H⟩ := bnd H
                      have hs2918 := (hR2791).mono hK2874
                      obtain ⟨r2919, hq2920, hr2921⟩ := RowR.at hs2918 hx2917
                      obtain rfl := hr2921
                      refine Ow_q rfl rfl rfl (Q_ixR (T := Ty.i64) (.head _) hs2918 hq2920 (getI_ix hx2917).1 rfl rfl rfl rfl rfl) ?_
                      refine Ow_q rfl rfl rfl (Qt_load1 (v := (.int .i64 x2916)) rfl rfl rfl (Rd_row (T := Ty.i64) (.head _) hs2918 hq2920 rfl rfl)) ?_
                      refine Ow_q rfl rfl rfl (Qt_assign rfl) ?_
                      refine Ow_nil ?_
                      refine Cw_seq ?_
                      refine Cw_region ?_
                      refine Ow_q rfl rfl rfl (Qt_move rfl) ?_
                      refine Ow_q rfl rfl rfl (Qt_move rfl) ?_
                      refine Ow_q rfl rfl rfl (Qt_move rfl) ?_
                      obtain ⟨x2922, x2923, hx2924, H⟩ := bnd2 H
                      have hs2925 := ((hs2115).mono hK2586).mono hK2874
                      refine Ow_cons rfl (OpW_call rfl Try.call24 rfl rfl (c_M_history_Returned x2108 v2114 x2702 x2916 x2922 x2923 hx2924 _ _ hs2925) ?_)
                      rintro _ K2926 _ hK2927 ⟨rfl, rfl⟩
                      refine Ow_q rfl rfl rfl (Qt_move rfl) ?_
                      refine Ow_q rfl rfl rfl (Qt_extract rfl rfl) ?_
                      refine Ow_q rfl rfl rfl (Qt_extract rfl rfl) ?_
                      refine Ow_cons rfl (OpW_alloc (cs := (Result.cells (Result.mk 0 0 0 false 0))) rfl rfl rfl rfl (fun b2928 => ?_))
                      refine Ow_cons rfl (OpW_store (vs := (Result.cells x2922)) (all' := (Result.cells x2922)) rfl rfl rfl rfl rfl .here rfl rfl rfl ?_)
                      refine Ow_q rfl rfl rfl (Qt_assign rfl) ?_
                      refine Ow_nil ?_
                      refine Cw_seq ?_
                      refine Cw_region ?_
                      refine Ow_q rfl rfl rfl (Qt_move rfl) ?_
                      refine Ow_q rfl rfl rfl (Qt_move rfl) ?_
                      refine Ow_q rfl rfl rfl (Qt_move rfl) ?_
                      obtain ⟨x2929, x2930, hx2931, H⟩ := bnd2 H
                      have hs2932 := (hs2925).mono hK2927
                      refine Ow_cons rfl (OpW_call rfl Try.call25 rfl rfl (c_M_ref16_Returned x2108 v2114 x2702 x2916 x2929 x2930 hx2931 _ _ hs2932) ?_)
                      rintro _ K2933 _ hK2934 ⟨rfl, rfl⟩
                      refine Ow_q rfl rfl rfl (Qt_move rfl) ?_
                      refine Ow_q rfl rfl rfl (Qt_extract rfl rfl) ?_
                      refine Ow_q rfl rfl rfl (Qt_extract rfl rfl) ?_
                      refine Ow_cons rfl (OpW_alloc (cs := (Result.cells (Result.mk 0 0 0 false 0))) rfl rfl rfl rfl (fun b2935 => ?_))
                      refine Ow_cons rfl (OpW_store (vs := (Result.cells x2929)) (all' := (Result.cells x2929)) rfl rfl rfl rfl rfl .here rfl rfl rfl ?_)
                      refine Ow_q rfl rfl rfl (Qt_assign rfl) ?_
                      refine Ow_nil ?_
                      refine Cw_join (fun env' K' G' => ∃ (t2948 : Bool), [(2, (.int .i64 p2)), (3, (.int .i64 p3)), (12, (sv v2114)), (14, (.int .i64 x2702)), (33, (sv v1224)), (34, (.int .i64 ([x625, p1].length : Int))), (35, (.int .i64 i1812)), (40, (sv v2350)), (41, (.int .i64 ([p2, 0, 1, 2].length : Int))), (42, (.int .i64 i2583)), (47, (sv v2790)), (48, (.int .i64 ([p3, 0, 1, 2].length : Int))), (49, (.int .i64 i2871)), (85, (.bool t2948))] = env' ∧ (.row (sv v2790) 3 1 [[(.int .i64 p3)], [(.int .i64 0)], [(.int .i64 1)], [(.int .i64 2)]].flatten) :: (.row (sv v2350) 3 1 [[(.int .i64 p2)], [(.int .i64 0)], [(.int .i64 1)], [(.int .i64 2)]].flatten) :: (.row (sv v1224) 23 1 [[(sv v630)], [(sv vp1)]].flatten) :: G = G' ∧ M_law16_HistoryAsks_J6 p2 p3 x2108 x2702 x625 p1 i1812 i2583 i2871 k1817 k2588 k2876 t2948 = some y0) ?_ ?_
                      · skip
                        refine Cw_region ?_
                        refine Ow_q rfl rfl rfl (Qt_loadA (m := 5) (cs := (Result.cells x2922)) rfl rfl rfl rfl ⟨rfl, Rdc.blk (.tail _ (.head _)) rfl⟩) ?_
                        refine Ow_q rfl rfl rfl (Qt_loadA (m := 5) (cs := (Result.cells x2929)) rfl rfl rfl rfl ⟨rfl, Rdc.blk (.head _) rfl⟩) ?_
                        refine Ow_q rfl rfl rfl (Qt_neS rfl rfl (fun w => Result.eqrun x2922 x2929 w) (by kernel_rfl)) ?_
                        refine Ow_q rfl rfl rfl (Qt_move rfl) ?_
                        refine Ow_caseG rfl rfl rfl ?_ ?_
                        · intro h2949
                          have h2949 := dcd_f (nt_t (h2949))
                          have H := iff_ h2949 H
                          refine Ow_pass rfl rfl rfl rfl rfl rfl rfl ?_
                          refine Ow_pass rfl rfl rfl rfl rfl rfl rfl ?_
                          refine Ow_pass rfl rfl rfl rfl rfl rfl rfl ?_
                          refine Ow_q rfl rfl rfl (Qt_pick_t rfl rfl) ?_
                          refine Ow_q rfl rfl rfl (Qt_move rfl) ?_
                          refine Ow_pass rfl rfl rfl rfl rfl rfl rfl ?_
                          refine Ow_pass rfl rfl rfl rfl rfl rfl rfl ?_
                          refine Ow_pass rfl rfl rfl rfl rfl rfl rfl ?_
                          refine Ow_pass rfl rfl rfl rfl rfl rfl rfl ?_
                          refine Ow_pass rfl rfl rfl rfl rfl rfl rfl ?_
                          refine Ow_pass rfl rfl rfl rfl rfl rfl rfl ?_
                          refine Ow_pass rfl rfl rfl rfl rfl rfl rfl ?_
                          refine Ow_pass rfl rfl rfl rfl rfl rfl rfl ?_
                          refine Ow_pass rfl rfl rfl rfl rfl rfl rfl ?_
                          refine Ow_q rfl rfl rfl (Qt_pick_t rfl rfl) ?_
                          refine Ow_nil ?_
                          refine Shift.pull (.there (.there (.there (.there .here)))) ?_
                          refine Shift.pull (.there (.there (.there (.there .here)))) ?_
                          refine Shift.pull (.there (.there (.there (.there .here)))) ?_
                          refine Shift.rem (.there (.there (.there .here))) ?_
                          refine Shift.rem (.there (.there (.there .here))) ?_
                          refine Shift.done ?_
                          exact ⟨[(2, (.int .i64 p2)), (3, (.int .i64 p3)), (12, (sv v2114)), (14, (.int .i64 x2702)), (33, (sv v1224)), (34, (.int .i64 ([x625, p1].length : Int))), (35, (.int .i64 i1812)), (40, (sv v2350)), (41, (.int .i64 ([p2, 0, 1, 2].length : Int))), (42, (.int .i64 i2583)), (47, (sv v2790)), (48, (.int .i64 ([p3, 0, 1, 2].length : Int))), (49, (.int .i64 i2871)), (85, (.bool true))], ⟨rfl, rfl, rfl, rfl, rfl, rfl, rfl, rfl, rfl, rfl, rfl, rfl, rfl, rfl, trivial⟩, true, rfl, rfl, H⟩
                        · intro h2949
                          have h2949 := dcd_t (nt_f (h2949))
                          have H := ift h2949 H
                          refine Ow_qw rfl rfl rfl rfl rfl rfl (Qt_move rfl) ?_
                          refine Ow_qw rfl rfl rfl rfl rfl rfl (Qt_move rfl) ?_
                          refine Ow_qw rfl rfl rfl rfl rfl rfl (Qt_cmp rfl rfl rfl) ?_
                          refine Ow_q rfl rfl rfl (Qt_pick_f rfl rfl) ?_
                          refine Ow_q rfl rfl rfl (Qt_move rfl) ?_
                          refine Ow_caseG rfl rfl rfl ?_ ?_
                          · intro h2950
                            have h2950 := dcd_f (nt_t (h2950))
                            have H := iff_ h2950 H
                            refine Ow_pass rfl rfl rfl rfl rfl rfl rfl ?_
                            refine Ow_pass rfl rfl rfl rfl rfl rfl rfl ?_
                            refine Ow_pass rfl rfl rfl rfl rfl rfl rfl ?_
                            refine Ow_pass rfl rfl rfl rfl rfl rfl rfl ?_
                            refine Ow_pass rfl rfl rfl rfl rfl rfl rfl ?_
                            refine Ow_pass rfl rfl rfl rfl rfl rfl rfl ?_
                            refine Ow_pass rfl rfl rfl rfl rfl rfl rfl ?_
                            refine Ow_pass rfl rfl rfl rfl rfl rfl rfl ?_
                            refine Ow_pass rfl rfl rfl rfl rfl rfl rfl ?_
                            refine Ow_q rfl rfl rfl (Qt_pick_t rfl rfl) ?_
                            refine Ow_nil ?_
                            refine Shift.pull (.there (.there (.there (.there .here)))) ?_
                            refine Shift.pull (.there (.there (.there (.there .here)))) ?_
                            refine Shift.pull (.there (.there (.there (.there .here)))) ?_
                            refine Shift.rem (.there (.there (.there .here))) ?_
                            refine Shift.rem (.there (.there (.there .here))) ?_
                            refine Shift.done ?_
                            exact ⟨[(2, (.int .i64 p2)), (3, (.int .i64 p3)), (12, (sv v2114)), (14, (.int .i64 x2702)), (33, (sv v1224)), (34, (.int .i64 ([x625, p1].length : Int))), (35, (.int .i64 i1812)), (40, (sv v2350)), (41, (.int .i64 ([p2, 0, 1, 2].length : Int))), (42, (.int .i64 i2583)), (47, (sv v2790)), (48, (.int .i64 ([p3, 0, 1, 2].length : Int))), (49, (.int .i64 i2871)), (85, (.bool true))], ⟨rfl, rfl, rfl, rfl, rfl, rfl, rfl, rfl, rfl, rfl, rfl, rfl, rfl, rfl, trivial⟩, true, rfl, rfl, H⟩
                          · intro h2950
                            have h2950 := dcd_t (nt_f (h2950))
                            have H := ift h2950 H
                            refine Ow_qw rfl rfl rfl rfl rfl rfl (Qt_move rfl) ?_
                            refine Ow_qw rfl rfl rfl rfl rfl rfl (Qt_move rfl) ?_
                            refine Ow_qw rfl rfl rfl rfl rfl rfl (Qt_move rfl) ?_
                            obtain ⟨x2951, hx2952, H⟩ := bnd H
                            have hs2953 := (hs2932).mono hK2934
                            refine Ow_want rfl rfl rfl rfl (OpW_call rfl Try.call26 rfl rfl (c_M_history_Called x2108 v2114 x2702 x2916 x2951 hx2952 _ _ hs2953) ?_)
                            rintro _ K2954 _ hK2955 ⟨rfl, rfl⟩
                            refine Ow_qw rfl rfl rfl rfl rfl rfl (Qt_move rfl) ?_
                            refine Ow_qw rfl rfl rfl rfl rfl rfl (Qt_move rfl) ?_
                            refine Ow_qw rfl rfl rfl rfl rfl rfl (Qt_move rfl) ?_
                            obtain ⟨x2956, hx2957, H⟩ := bnd H
                            have hs2958 := (hs2953).mono hK2955
                            refine Ow_want rfl rfl rfl rfl (OpW_call rfl Try.call27 rfl rfl (c_M_ref16_Called x2108 v2114 x2702 x2916 x2956 hx2957 _ _ hs2958) ?_)
                            rintro _ K2959 _ hK2960 ⟨rfl, rfl⟩
                            refine Ow_qw rfl rfl rfl rfl rfl rfl (Qt_cmp rfl rfl rfl) ?_
                            refine Ow_q rfl rfl rfl (Qt_pick_f rfl rfl) ?_
                            refine Ow_nil ?_
                            refine Shift.pull (.there (.there (.there (.there .here)))) ?_
                            refine Shift.pull (.there (.there (.there (.there .here)))) ?_
                            refine Shift.pull (.there (.there (.there (.there .here)))) ?_
                            refine Shift.rem (.there (.there (.there .here))) ?_
                            refine Shift.rem (.there (.there (.there .here))) ?_
                            refine Shift.done ?_
                            exact ⟨[(2, (.int .i64 p2)), (3, (.int .i64 p3)), (12, (sv v2114)), (14, (.int .i64 x2702)), (33, (sv v1224)), (34, (.int .i64 ([x625, p1].length : Int))), (35, (.int .i64 i1812)), (40, (sv v2350)), (41, (.int .i64 ([p2, 0, 1, 2].length : Int))), (42, (.int .i64 i2583)), (47, (sv v2790)), (48, (.int .i64 ([p3, 0, 1, 2].length : Int))), (49, (.int .i64 i2871)), (85, (.bool (!(dcd (x2951 = x2956)))))], ⟨rfl, rfl, rfl, rfl, rfl, rfl, rfl, rfl, rfl, rfl, rfl, rfl, rfl, rfl, trivial⟩, (!(dcd (x2951 = x2956))), rfl, rfl, H⟩
                      rintro _ K2961 _ hK2962 ⟨t2948, rfl, rfl, H⟩
                      unfold M_law16_HistoryAsks_J6 at H
                      refine Cw_cond rfl ?_ ?_
                      · intro h2963
                        have H := ift h2963 H
                        refine Cw_seq ?_
                        refine Cw_region ?_
                        refine Ow_q rfl rfl rfl (Qt_assign rfl) ?_
                        refine Ow_nil ?_
                        refine Cw_ret ?_
                        obtain ey0 := inj1 H
                        subst y0
                        refine ⟨(by first | exact .inl rfl | exact .inr rfl), [(.bool false)], ⟨(.bool false), _, rfl, rfl, rfl⟩, ?_⟩
                        refine Shift.rem .here ?_
                        refine Shift.rem .here ?_
                        refine Shift.rem .here ?_
                        refine Shift.done ?_
                        exact ⟨rfl, rfl⟩
                      · intro h2963
                        have H := iff_ (btf h2963) H
                        refine Cw_skip ?_
                        refine Cw_region ?_
                        refine Ow_q rfl rfl rfl (Qt_arith (e := wI (i2871 + 1)) rfl rfl rfl rfl) ?_
                        refine Ow_q rfl rfl rfl (Qt_move rfl) ?_
                        refine Ow_nil ?_
                        refine Shift.pull (.there (.there .here)) ?_
                        refine Shift.pull (.there (.there .here)) ?_
                        refine Shift.pull (.there (.there .here)) ?_
                        refine Shift.done ?_
                        exact ⟨[(2, (.int .i64 p2)), (3, (.int .i64 p3)), (12, (sv v2114)), (14, (.int .i64 x2702)), (33, (sv v1224)), (34, (.int .i64 ([x625, p1].length : Int))), (35, (.int .i64 i1812)), (40, (sv v2350)), (41, (.int .i64 ([p2, 0, 1, 2].length : Int))), (42, (.int .i64 i2583)), (47, (sv v2790)), (48, (.int .i64 ([p3, 0, 1, 2].length : Int))), (49, (.int .i64 (wI (i2871 + 1))))], ⟨rfl, rfl, rfl, rfl, rfl, rfl, rfl, rfl, rfl, rfl, rfl, rfl, rfl, trivial⟩, _, Nat.lt_succ_self _, (wI (i2871 + 1)), rfl, rfl, (hkk2877 ▸ H)⟩
                    · intro h2879
                      have h2879 := dcd_f (h2879)
                      have H := iff_ h2879 H
                      refine Cw_exit ?_
                      refine Shift.pull (.there (.there .here)) ?_
                      refine Shift.pull (.there (.there .here)) ?_
                      refine Shift.rem (.there (.there .here)) ?_
                      refine Shift.done ?_
                      exact ⟨[(2, (.int .i64 p2)), (3, (.int .i64 p3)), (12, (sv v2114)), (14, (.int .i64 x2702)), (33, (sv v1224)), (34, (.int .i64 ([x625, p1].length : Int))), (35, (.int .i64 i1812)), (40, (sv v2350)), (41, (.int .i64 ([p2, 0, 1, 2].length : Int))), (42, (.int .i64 i2583))], ⟨rfl, rfl, rfl, rfl, rfl, rfl, rfl, rfl, rfl, rfl, trivial⟩, rfl, rfl, H⟩
                  rintro _ K2964 _ hK2965 ⟨rfl, rfl, H⟩
                  unfold M_law16_HistoryAsks_J5 at H
                  refine Cw_seq ?_
                  refine Cw_region ?_
                  refine Ow_q rfl rfl rfl (Qt_move rfl) ?_
                  refine Ow_q rfl rfl rfl (Qt_move rfl) ?_
                  obtain ⟨x2966, hx2967, H⟩ := bnd H
                  have hs2968 := ((hs2115).mono hK2586).mono hK2965
                  refine Ow_cons rfl (OpW_call rfl Try.call29 rfl rfl (c_M_history_Without x2108 v2114 x2702 x2966 hx2967 _ _ hs2968) ?_)
                  rintro _ K2970 _ hK2971 ⟨v2969, rfl, rfl, hs2972⟩
                  refine Ow_q rfl rfl rfl (Qt_move rfl) ?_
                  refine Ow_q rfl rfl rfl (Qt_move rfl) ?_
                  obtain ⟨x2973, hx2974, H⟩ := bnd H
                  have hs2975 := (hs2968).mono hK2971
                  refine Ow_cons rfl (OpW_call rfl Try.call30 rfl rfl (c_M_ref16_Without x2108 v2114 x2702 x2973 hx2974 _ _ hs2975) ?_)
                  rintro _ K2977 _ hK2978 ⟨v2976, rfl, rfl, hs2979⟩
                  obtain ⟨x2980, hx2981, H⟩ := bnd H
                  have hs2982 := (hs2972).mono hK2978
                  refine Ow_cons rfl (OpW_call rfl Try.call28 rfl rfl (c_M_ref16_SameEvents x2966 v2969 x2973 v2976 x2980 hx2981 _ _ hs2982 hs2979) ?_)
                  rintro _ K2983 _ hK2984 ⟨rfl, rfl⟩
                  refine Ow_q rfl rfl rfl (Qt_not rfl) ?_
                  refine Ow_nil ?_
                  refine Cw_cond rfl ?_ ?_
                  · intro h2985
                    have h2985 := nt_t (h2985)
                    have H := iff_ (btf h2985) H
                    refine Cw_seq ?_
                    refine Cw_region ?_
                    refine Ow_q rfl rfl rfl (Qt_assign rfl) ?_
                    refine Ow_nil ?_
                    refine Cw_ret ?_
                    obtain ey0 := inj1 H
                    subst y0
                    refine ⟨(by first | exact .inl rfl | exact .inr rfl), [(.bool false)], ⟨(.bool false), _, rfl, rfl, rfl⟩, ?_⟩
                    refine Shift.rem .here ?_
                    refine Shift.rem .here ?_
                    refine Shift.rem .here ?_
                    refine Shift.rem .here ?_
                    refine Shift.done ?_
                    exact ⟨rfl, rfl⟩
                  · intro h2985
                    have h2985 := nt_f (h2985)
                    have H := ift h2985 H
                    refine Cw_skip ?_
                    refine Shift.pull (.there (.there (.there .here))) ?_
                    refine Shift.pull (.there (.there (.there .here))) ?_
                    refine Shift.rem (.there (.there .here)) ?_
                    refine Shift.rem (.there (.there .here)) ?_
                    refine Shift.done ?_
                    exact ⟨[(2, (.int .i64 p2)), (3, (.int .i64 p3)), (12, (sv v2114)), (33, (sv v1224)), (34, (.int .i64 ([x625, p1].length : Int))), (35, (.int .i64 i1812)), (40, (sv v2350)), (41, (.int .i64 ([p2, 0, 1, 2].length : Int))), (42, (.int .i64 i2583))], ⟨rfl, rfl, rfl, rfl, rfl, rfl, rfl, rfl, rfl, trivial⟩, rfl, rfl, H⟩
                rintro _ K2986 _ hK2987 ⟨rfl, rfl, H⟩
                unfold M_law16_HistoryAsks_J4 at H
                refine Cw_region ?_
                refine Ow_q rfl rfl rfl (Qt_arith (e := wI (i2583 + 1)) rfl rfl rfl rfl) ?_
                refine Ow_q rfl rfl rfl (Qt_move rfl) ?_
                refine Ow_nil ?_
                refine Shift.pull (.there .here) ?_
                refine Shift.pull (.there .here) ?_
                refine Shift.done ?_
                exact ⟨[(2, (.int .i64 p2)), (3, (.int .i64 p3)), (12, (sv v2114)), (33, (sv v1224)), (34, (.int .i64 ([x625, p1].length : Int))), (35, (.int .i64 i1812)), (40, (sv v2350)), (41, (.int .i64 ([p2, 0, 1, 2].length : Int))), (42, (.int .i64 (wI (i2583 + 1))))], ⟨rfl, rfl, rfl, rfl, rfl, rfl, rfl, rfl, rfl, trivial⟩, _, Nat.lt_succ_self _, (wI (i2583 + 1)), rfl, rfl, (hkk2589 ▸ H)⟩
              · intro h2591
                have h2591 := dcd_f (h2591)
                have H := iff_ h2591 H
                refine Cw_exit ?_
                refine Shift.pull (.there .here) ?_
                refine Shift.rem (.there .here) ?_
                refine Shift.done ?_
                exact ⟨[(2, (.int .i64 p2)), (3, (.int .i64 p3)), (12, (sv v2114)), (33, (sv v1224)), (34, (.int .i64 ([x625, p1].length : Int))), (35, (.int .i64 i1812))], ⟨rfl, rfl, rfl, rfl, rfl, rfl, trivial⟩, rfl, rfl, H⟩
            rintro _ K2988 _ hK2989 ⟨rfl, rfl, H⟩
            unfold M_law16_HistoryAsks_J3 at H
            refine Cw_join (fun env' K' G' => ∃ (t3029 : Bool), [(2, (.int .i64 p2)), (3, (.int .i64 p3)), (33, (sv v1224)), (34, (.int .i64 ([x625, p1].length : Int))), (35, (.int .i64 i1812)), (109, (.bool t3029))] = env' ∧ (.row (sv v1224) 23 1 [[(sv v630)], [(sv vp1)]].flatten) :: G = G' ∧ M_law16_HistoryAsks_J7 p2 p3 x625 p1 i1812 k1817 t3029 = some y0) ?_ ?_
            · skip
              refine Cw_region ?_
              refine Ow_q rfl rfl rfl (Qt_move rfl) ?_
              obtain ⟨x3030, hx3031, H⟩ := bnd H
              have hs3032 := (hs2115).mono hK2989
              refine Ow_cons rfl (OpW_call rfl Try.call23 rfl rfl (c_M_history_Calls x2108 v2114 x3030 hx3031 _ _ hs3032) ?_)
              rintro _ K3034 _ hK3035 ⟨v3033, rfl, rfl, hs3036⟩
              refine Ow_q rfl rfl rfl (Qt_move rfl) ?_
              obtain ⟨x3037, hx3038, H⟩ := bnd H
              have hs3039 := (hs3032).mono hK3035
              refine Ow_cons rfl (OpW_call rfl Try.call19 rfl rfl (c_M_ref16_Calls x2108 v2114 x3037 hx3038 _ _ hs3039) ?_)
              rintro _ K3041 _ hK3042 ⟨v3040, rfl, rfl, hs3043⟩
              obtain ⟨x3044, hx3045, H⟩ := bnd H
              have hs3046 := (hs3036).mono hK3042
              refine Ow_cons rfl (OpW_call rfl Try.call31 rfl rfl (c_M_ref16_SameCalls x3030 v3033 x3037 v3040 x3044 hx3045 _ _ hs3046 hs3043) ?_)
              rintro _ K3047 _ hK3048 ⟨rfl, rfl⟩
              refine Ow_q rfl rfl rfl (Qt_not rfl) ?_
              refine Ow_q rfl rfl rfl (Qt_move rfl) ?_
              refine Ow_caseG rfl rfl rfl ?_ ?_
              · intro h3049
                have h3049 := nt_t (h3049)
                have H := iff_ (btf h3049) H
                refine Ow_pass rfl rfl rfl rfl rfl rfl rfl ?_
                refine Ow_pass rfl rfl rfl rfl rfl rfl rfl ?_
                refine Ow_pass rfl rfl rfl rfl rfl rfl rfl ?_
                refine Ow_pass rfl rfl rfl rfl rfl rfl rfl ?_
                refine Ow_pass rfl rfl rfl rfl rfl rfl rfl ?_
                refine Ow_pass rfl rfl rfl rfl rfl rfl rfl ?_
                refine Ow_q rfl rfl rfl (Qt_pick_t rfl rfl) ?_
                refine Ow_nil ?_
                refine Shift.pull (.there (.there .here)) ?_
                refine Shift.rem (.there .here) ?_
                refine Shift.rem (.there .here) ?_
                refine Shift.done ?_
                exact ⟨[(2, (.int .i64 p2)), (3, (.int .i64 p3)), (33, (sv v1224)), (34, (.int .i64 ([x625, p1].length : Int))), (35, (.int .i64 i1812)), (109, (.bool true))], ⟨rfl, rfl, rfl, rfl, rfl, rfl, trivial⟩, true, rfl, rfl, H⟩
              · intro h3049
                have h3049 := nt_f (h3049)
                have H := ift h3049 H
                refine Ow_qw rfl rfl rfl rfl rfl rfl (Qt_move rfl) ?_
                obtain ⟨x3050, hx3051, H⟩ := bnd H
                have hs3052 := ((hs3039).mono hK3042).mono hK3048
                refine Ow_want rfl rfl rfl rfl (OpW_call rfl Try.call22 rfl rfl (c_M_history_Open x2108 v2114 x3050 hx3051 _ _ hs3052) ?_)
                rintro _ K3054 _ hK3055 ⟨v3053, rfl, rfl, hs3056⟩
                refine Ow_qw rfl rfl rfl rfl rfl rfl (Qt_move rfl) ?_
                obtain ⟨x3057, hx3058, H⟩ := bnd H
                have hs3059 := (hs3052).mono hK3055
                refine Ow_want rfl rfl rfl rfl (OpW_call rfl Try.call32 rfl rfl (c_M_ref16_Open x2108 v2114 x3057 hx3058 _ _ hs3059) ?_)
                rintro _ K3061 _ hK3062 ⟨v3060, rfl, rfl, hs3063⟩
                obtain ⟨x3064, hx3065, H⟩ := bnd H
                have hs3066 := (hs3056).mono hK3062
                refine Ow_want rfl rfl rfl rfl (OpW_call rfl Try.call31 rfl rfl (c_M_ref16_SameCalls x3050 v3053 x3057 v3060 x3064 hx3065 _ _ hs3066 hs3063) ?_)
                rintro _ K3067 _ hK3068 ⟨rfl, rfl⟩
                refine Ow_qw rfl rfl rfl rfl rfl rfl (Qt_not rfl) ?_
                refine Ow_q rfl rfl rfl (Qt_pick_f rfl rfl) ?_
                refine Ow_nil ?_
                refine Shift.pull (.there (.there (.there (.there .here)))) ?_
                refine Shift.rem (.there .here) ?_
                refine Shift.rem (.there .here) ?_
                refine Shift.rem (.there .here) ?_
                refine Shift.rem (.there .here) ?_
                refine Shift.done ?_
                exact ⟨[(2, (.int .i64 p2)), (3, (.int .i64 p3)), (33, (sv v1224)), (34, (.int .i64 ([x625, p1].length : Int))), (35, (.int .i64 i1812)), (109, (.bool (!(x3064))))], ⟨rfl, rfl, rfl, rfl, rfl, rfl, trivial⟩, (!(x3064)), rfl, rfl, H⟩
            rintro _ K3069 _ hK3070 ⟨t3029, rfl, rfl, H⟩
            unfold M_law16_HistoryAsks_J7 at H
            refine Cw_cond rfl ?_ ?_
            · intro h3071
              have H := ift h3071 H
              refine Cw_seq ?_
              refine Cw_region ?_
              refine Ow_q rfl rfl rfl (Qt_assign rfl) ?_
              refine Ow_nil ?_
              refine Cw_ret ?_
              obtain ey0 := inj1 H
              subst y0
              refine ⟨(by first | exact .inl rfl | exact .inr rfl), [(.bool false)], ⟨(.bool false), _, rfl, rfl, rfl⟩, ?_⟩
              refine Shift.rem .here ?_
              refine Shift.done ?_
              exact ⟨rfl, rfl⟩
            · intro h3071
              have H := iff_ (btf h3071) H
              refine Cw_skip ?_
              refine Shift.done ?_
              exact ⟨[(2, (.int .i64 p2)), (3, (.int .i64 p3)), (33, (sv v1224)), (34, (.int .i64 ([x625, p1].length : Int))), (35, (.int .i64 i1812))], ⟨rfl, rfl, rfl, rfl, rfl, trivial⟩, rfl, rfl, H⟩
          rintro _ K3072 _ hK3073 ⟨rfl, rfl, H⟩
          unfold M_law16_HistoryAsks_J2 at H
          refine Cw_region ?_
          refine Ow_q rfl rfl rfl (Qt_arith (e := wI (i1812 + 1)) rfl rfl rfl rfl) ?_
          refine Ow_q rfl rfl rfl (Qt_move rfl) ?_
          refine Ow_nil ?_
          refine Shift.done ?_
          exact ⟨[(2, (.int .i64 p2)), (3, (.int .i64 p3)), (33, (sv v1224)), (34, (.int .i64 ([x625, p1].length : Int))), (35, (.int .i64 (wI (i1812 + 1))))], ⟨rfl, rfl, rfl, rfl, rfl, trivial⟩, _, Nat.lt_succ_self _, (wI (i1812 + 1)), rfl, rfl, (hkk1818 ▸ H)⟩
        · intro h1820
          have h1820 := dcd_f (h1820)
          have H := iff_ h1820 H
          refine Cw_exit ?_
          refine Shift.rem .here ?_
          refine Shift.done ?_
          exact ⟨[], trivial, rfl, rfl, H⟩
      rintro _ K3074 _ hK3075 ⟨rfl, rfl, H⟩
      unfold M_law16_HistoryAsks_J1 at H
      refine Cw_seq ?_
      refine Cw_region ?_
      refine Ow_q rfl rfl rfl (Qt_assign rfl) ?_
      refine Ow_nil ?_
      refine Cw_ret ?_
      obtain ey0 := inj1 H
      subst y0
      refine ⟨(by first | exact .inl rfl | exact .inr rfl), [(.bool true)], ⟨(.bool true), _, rfl, rfl, rfl⟩, ?_⟩
      refine Shift.done ?_
      exact ⟨rfl, rfl⟩


end Go.Hx
