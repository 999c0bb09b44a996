/- Printed by program. -/
import Derived.Test.YthpjaddchdnejaaXBM
import Derived.Test.YthpjaddchdnejaaXBWHistory
import Derived.Test.YthpjaddchdnejaaXBWLaw16
import Derived.Test.YthpjaddchdnejaaXBWLaw161
import Derived.Test.YthpjaddchdnejaaXBWRef16
namespace Go.Hx
open Go Go.Proofs
set_option linter.unusedSimpArgs false
set_option linter.unusedVariables false
set_option maxRecDepth 10000
set_option maxHeartbeats 1000000 in
theorem c_M_law16_HistoryOrders (p0 : List Int) (vp0 : SV) (y0 : Bool) (H : M_law16_HistoryOrders p0 = some y0) (K : Kp) (G : List Ent) (hp0 : Slr Ty.u8 K (sv vp0) p0) :
    Fc Try.prog 5 #[(sv vp0)] K (G) (fun v K' G' => v = (.bool y0) ∧ G = G') := by
  refine Fc_body Try.func5 rfl Try.ntmps5 Try.results5 rfl ?_
  unfold M_law16_HistoryOrders at H
  refine Cw_seq ?_
  refine Cw_region ?_
  refine Ow_q rfl rfl rfl (Qt_assign rfl) ?_
  refine Ow_nil ?_
  refine Cw_seq ?_
  refine Cw_seq ?_
  refine Cw_region ?_
  obtain ⟨x3971, hx3972, H⟩ := bnd H
  refine Ow_cons rfl (OpW_call rfl Try.call14 rfl rfl (c_M_law16_awake  x3971 hx3972 _ _ ) ?_)
  rintro _ K3973 _ hK3974 ⟨rfl, rfl⟩
  refine Ow_q rfl rfl rfl (Qt_not rfl) ?_
  refine Ow_nil ?_
  refine Cw_cond rfl ?_ ?_
  · intro h3975
    have h3975 := nt_t (h3975)
    have H := iff_ (btf h3975) H
    refine Cw_seq ?_
    refine Cw_region ?_
    refine Ow_q rfl rfl rfl (Qt_assign rfl) ?_
    refine Ow_nil ?_
    refine Cw_ret ?_
    obtain ey0 := inj1 H
    subst y0
    refine ⟨(by first | exact .inl rfl | exact .inr rfl), [(.bool false)], ⟨(.bool false), _, rfl, rfl, rfl⟩, ?_⟩
    refine Shift.done ?_
    exact ⟨rfl, rfl⟩
  · intro h3975
    have h3975 := nt_f (h3975)
    have H := ift h3975 H
    refine Cw_skip ?_
    refine Cw_seq ?_
    refine Cw_region ?_
    refine Ow_q rfl rfl rfl (Qt_move rfl) ?_
    obtain ⟨x3976, x3977, hx3978, H⟩ := bnd2 H
    have hs3979 := (hp0).mono hK3974
    refine Ow_cons rfl (OpW_call rfl Try.call15 rfl rfl (c_M_law16_made p0 vp0 x3976 x3977 hx3978 _ _ hs3979) ?_)
    rintro _ K3983 _ hK3984 ⟨v3980, rs3981, v3982, rfl, rfl, hs3985, hs3986⟩
    refine Ow_q rfl rfl rfl (Qt_move rfl) ?_
    refine Ow_q rfl rfl rfl (Qt_extract rfl rfl) ?_
    refine Ow_q rfl rfl rfl (Qt_extract rfl rfl) ?_
    refine Ow_q rfl rfl rfl (Qt_assign rfl) ?_
    refine Ow_q rfl rfl rfl (Qt_assign rfl) ?_
    refine Ow_nil ?_
    refine Cw_seq ?_
    refine Cw_region ?_
    refine Ow_q rfl rfl rfl (Qt_move rfl) ?_
    obtain ⟨x3987, hx3988, H⟩ := bnd H
    refine Ow_cons rfl (OpW_call rfl Try.call19 rfl rfl (c_M_ref16_Calls x3977 v3982 x3987 hx3988 _ _ hs3986) ?_)
    rintro _ K3990 _ hK3991 ⟨v3989, rfl, rfl, hs3992⟩
    refine Ow_q rfl rfl rfl (Qt_assign rfl) ?_
    refine Ow_nil ?_
    refine Cw_join (fun env' K' G' => [] = env' ∧ G = G' ∧ M_law16_HistoryOrders_J1 = some y0) ?_ ?_
    · skip
      refine Cw_seq ?_
      refine Cw_region ?_
      refine Ow_q rfl rfl rfl (Qt_move rfl) ?_
      refine Ow_q rfl rfl rfl (Q_len (T := TyA2Int) hs3992 rfl rfl) ?_
      refine Ow_q rfl rfl rfl (Qt_move rfl) ?_
      refine Ow_nil ?_
      refine Cw_block ?_
      refine Cw_loopM (fun n11875 env' K' G' => ∃ (i11874 : Int), [(4, (sv v3982)), (5, (sv v3989)), (20, (.int .i64 (x3987.length : Int))), (21, (.int .i64 i11874))] = env' ∧ (.tok 36 2 [(sv v3989)]) :: (.tok 34 8 [(sv v3982)]) :: G = G' ∧ lp1 (M_law16_HistoryOrders_L1 x3977 x3987) n11875 i11874 = some y0) BIG ?_ ?_
      · skip
        refine Shift.pull (.there (.there .here)) ?_
        refine Shift.pull (.there .here) ?_
        refine Shift.rem (.there (.there .here)) ?_
        refine Shift.done ?_
        exact ⟨[(4, (sv v3982)), (5, (sv v3989)), (20, (.int .i64 (x3987.length : Int))), (21, (.int .i64 0))], ⟨rfl, rfl, rfl, rfl, trivial⟩, 0, rfl, rfl, H⟩
      rintro n11875 _ K11876 _ hK11877 ⟨i11874, rfl, rfl, H⟩
      obtain ⟨m11878, k11879, rfl, hkk11880, H⟩ := lps1 H
      unfold M_law16_HistoryOrders_L1 at H
      refine Cw_seq ?_
      refine Cw_region ?_
      refine Ow_q rfl rfl rfl (Qt_cmp rfl rfl rfl) ?_
      refine Ow_nil ?_
      refine Cw_seq ?_
      refine Cw_cond rfl ?_ ?_
      · intro h11882
        have h11882 := dcd_t (h11882)
        have H := ift h11882 H
        refine Cw_skip ?_
        refine Cw_join (fun env' K' G' => [(4, (sv v3982)), (5, (sv v3989)), (20, (.int .i64 (x3987.length : Int))), (21, (.int .i64 i11874))] = env' ∧ (.tok 36 2 [(sv v3989)]) :: (.tok 34 8 [(sv v3982)]) :: G = G' ∧ M_law16_HistoryOrders_J2 x3977 x3987 i11874 k11879 = some y0) ?_ ?_
        · skip
          refine Cw_block ?_
          refine Cw_seq ?_
          refine Cw_region ?_
          refine Ow_q rfl rfl rfl (Qt_move rfl) ?_
          refine Ow_q rfl rfl rfl (Qt_assign rfl) ?_
          refine Ow_nil ?_
          refine Cw_seq ?_
          refine Cw_seq ?_
          obtain ⟨x13876, hx13877, H⟩ := bnd H
          obtain ⟨x13882, hx13883, H⟩ := bnd H
          obtain ⟨x13887, hx13888, H⟩ := bnd H
          refine Cw_region_any [.tok 36 2 [(sv v3989)], .tok 34 8 [(sv v3982)]] rfl (Inc.cons (.head _) (Inc.cons (.tail _ (.head _)) Inc.nil)) ?_
          refine Aw_q 0 rfl (by kernel_rfl) (by kernel_rfl) (by kernel_rfl) rfl rfl rfl (Qt_move rfl) ?_
          refine Aw_q 1 rfl (by kernel_rfl) (by kernel_rfl) (by kernel_rfl) rfl rfl rfl (Qt_move rfl) ?_
          refine Aw_q 2 rfl (by kernel_rfl) (by kernel_rfl) (by kernel_rfl) rfl rfl rfl (Qt_move rfl) ?_
          have hs13892 := (hs3992).mono hK11877
          obtain ⟨r13893, hr13894, hk13895⟩ := Slr.at hs13892 hx13877
          obtain rfl := hr13894
          refine Aw_q 3 rfl (by kernel_rfl) (by kernel_rfl) (by kernel_rfl) rfl rfl rfl (Q_ix (T := TyA2Int) hs13892 hx13877 rfl rfl rfl rfl rfl) ?_
          refine Aw_q 4 rfl (by kernel_rfl) (by kernel_rfl) (by kernel_rfl) rfl rfl rfl (Qt_loadA (m := 2) (cs := (A2Int.cells x13876)) rfl rfl rfl rfl ⟨rfl, Rdc.k hk13895 rfl⟩) ?_
          refine Aw_q 5 rfl (by kernel_rfl) (by kernel_rfl) (by kernel_rfl) rfl rfl rfl (Qt_move rfl) ?_
          refine Aw_q 6 rfl (by kernel_rfl) (by kernel_rfl) (by kernel_rfl) rfl rfl rfl (Qt_move rfl) ?_
          obtain ⟨r13896, hr13897, hk13898⟩ := Slr.at hs13892 hx13883
          obtain rfl := hr13897
          refine Aw_q 7 rfl (by kernel_rfl) (by kernel_rfl) (by kernel_rfl) rfl rfl rfl (Q_ix (T := TyA2Int) hs13892 hx13883 rfl rfl rfl rfl rfl) ?_
          refine Aw_q 8 rfl (by kernel_rfl) (by kernel_rfl) (by kernel_rfl) rfl rfl rfl (Qt_loadA (m := 2) (cs := (A2Int.cells x13882)) rfl rfl rfl rfl ⟨rfl, Rdc.k hk13898 rfl⟩) ?_
          have hs13899 := ((hs3986).mono hK3991).mono hK11877
          refine Aw_one 9 (by kernel_rfl) (Ax_mk rfl rfl (OpW_call rfl Try.call20 rfl rfl (c_M_history_Precedes x3977 v3982 x13876 x13882 x13887 hx13888 _ _ hs13899) ?_))
          rintro _ K13900 _ hK13901 ⟨rfl, rfl⟩
          refine ⟨(Inc.cons (.head _) (Inc.cons (.tail _ (.head _)) Inc.nil)), ?_⟩
          refine Aw_done (by kernel_rfl) ?_
          refine Cw_cond rfl ?_ ?_
          · intro h13902
            have H := ift h13902 H
            refine Cw_seq ?_
            refine Cw_region ?_
            refine Ow_q rfl rfl rfl (Qt_assign rfl) ?_
            refine Ow_nil ?_
            refine Cw_ret ?_
            obtain ey0 := inj1 H
            subst y0
            refine ⟨(by first | exact .inl rfl | exact .inr rfl), [(.bool false)], ⟨(.bool false), _, rfl, rfl, rfl⟩, ?_⟩
            refine Shift.rem .here ?_
            refine Shift.rem .here ?_
            refine Shift.done ?_
            exact ⟨rfl, rfl⟩
          · intro h13902
            have H := iff_ (btf h13902) H
            refine Cw_skip ?_
            refine Cw_seq ?_
            refine Cw_region ?_
            refine Ow_q rfl rfl rfl (Qt_move rfl) ?_
            have hs13903 := (hs13892).mono hK13901
            refine Ow_q rfl rfl rfl (Q_len (T := TyA2Int) hs13903 rfl rfl) ?_
            refine Ow_q rfl rfl rfl (Qt_move rfl) ?_
            refine Ow_nil ?_
            refine Cw_block ?_
            refine Cw_loopM (fun n15842 env' K' G' => ∃ (i15841 : Int), [(4, (sv v3982)), (5, (sv v3989)), (6, (.int .i64 i11874)), (20, (.int .i64 (x3987.length : Int))), (21, (.int .i64 i11874)), (35, (.int .i64 (x3987.length : Int))), (36, (.int .i64 i15841))] = env' ∧ (.tok 36 2 [(sv v3989)]) :: (.tok 34 8 [(sv v3982)]) :: G = G' ∧ lp1 (M_law16_HistoryOrders_L2 x3977 x3987 i11874 k11879) n15842 i15841 = some y0) BIG ?_ ?_
            · skip
              refine Shift.pull (.there .here) ?_
              refine Shift.pull (.there .here) ?_
              refine Shift.done ?_
              exact ⟨[(4, (sv v3982)), (5, (sv v3989)), (6, (.int .i64 i11874)), (20, (.int .i64 (x3987.length : Int))), (21, (.int .i64 i11874)), (35, (.int .i64 (x3987.length : Int))), (36, (.int .i64 0))], ⟨rfl, rfl, rfl, rfl, rfl, rfl, rfl, trivial⟩, 0, rfl, rfl, H⟩
            rintro n15842 _ K15843 _ hK15844 ⟨i15841, rfl, rfl, H⟩
            obtain ⟨m15845, k15846, rfl, hkk15847, H⟩ := lps1 H
            unfold M_law16_HistoryOrders_L2 at H
            refine Cw_seq ?_
            refine Cw_region ?_
            refine Ow_q rfl rfl rfl (Qt_cmp rfl rfl rfl) ?_
            refine Ow_nil ?_
            refine Cw_seq ?_
            refine Cw_cond rfl ?_ ?_
            · intro h15849
              have h15849 := dcd_t (h15849)
              have H := ift h15849 H
              refine Cw_skip ?_
              refine Cw_join (fun env' K' G' => [(4, (sv v3982)), (5, (sv v3989)), (6, (.int .i64 i11874)), (20, (.int .i64 (x3987.length : Int))), (21, (.int .i64 i11874)), (35, (.int .i64 (x3987.length : Int))), (36, (.int .i64 i15841))] = env' ∧ (.tok 36 2 [(sv v3989)]) :: (.tok 34 8 [(sv v3982)]) :: G = G' ∧ M_law16_HistoryOrders_J3 x3977 x3987 i11874 i15841 k11879 k15846 = some y0) ?_ ?_
              · skip
                refine Cw_block ?_
                refine Cw_seq ?_
                refine Cw_region ?_
                refine Ow_q rfl rfl rfl (Qt_move rfl) ?_
                refine Ow_q rfl rfl rfl (Qt_assign rfl) ?_
                refine Ow_nil ?_
                refine Cw_seq ?_
                refine Cw_seq ?_
                obtain ⟨x16890, hx16891, H⟩ := bnd H
                obtain ⟨x16896, hx16897, H⟩ := bnd H
                obtain ⟨x16901, hx16902, H⟩ := bnd H
                refine Cw_region_any [.tok 36 2 [(sv v3989)], .tok 34 8 [(sv v3982)]] rfl (Inc.cons (.head _) (Inc.cons (.tail _ (.head _)) Inc.nil)) ?_
                refine Aw_q 0 rfl (by kernel_rfl) (by kernel_rfl) (by kernel_rfl) rfl rfl rfl (Qt_move rfl) ?_
                refine Aw_q 1 rfl (by kernel_rfl) (by kernel_rfl) (by kernel_rfl) rfl rfl rfl (Qt_move rfl) ?_
                refine Aw_q 2 rfl (by kernel_rfl) (by kernel_rfl) (by kernel_rfl) rfl rfl rfl (Qt_move rfl) ?_
                have hs16906 := (hs13903).mono hK15844
                obtain ⟨r16907, hr16908, hk16909⟩ := Slr.at hs16906 hx16891
                obtain rfl := hr16908
                refine Aw_q 3 rfl (by kernel_rfl) (by kernel_rfl) (by kernel_rfl) rfl rfl rfl (Q_ix (T := TyA2Int) hs16906 hx16891 rfl rfl rfl rfl rfl) ?_
                refine Aw_q 4 rfl (by kernel_rfl) (by kernel_rfl) (by kernel_rfl) rfl rfl rfl (Qt_loadA (m := 2) (cs := (A2Int.cells x16890)) rfl rfl rfl rfl ⟨rfl, Rdc.k hk16909 rfl⟩) ?_
                refine Aw_q 5 rfl (by kernel_rfl) (by kernel_rfl) (by kernel_rfl) rfl rfl rfl (Qt_move rfl) ?_
                refine Aw_q 6 rfl (by kernel_rfl) (by kernel_rfl) (by kernel_rfl) rfl rfl rfl (Qt_move rfl) ?_
                obtain ⟨r16910, hr16911, hk16912⟩ := Slr.at hs16906 hx16897
                obtain rfl := hr16911
                refine Aw_q 7 rfl (by kernel_rfl) (by kernel_rfl) (by kernel_rfl) rfl rfl rfl (Q_ix (T := TyA2Int) hs16906 hx16897 rfl rfl rfl rfl rfl) ?_
                refine Aw_q 8 rfl (by kernel_rfl) (by kernel_rfl) (by kernel_rfl) rfl rfl rfl (Qt_loadA (m := 2) (cs := (A2Int.cells x16896)) rfl rfl rfl rfl ⟨rfl, Rdc.k hk16912 rfl⟩) ?_
                have hs16913 := ((hs13899).mono hK13901).mono hK15844
                refine Aw_one 9 (by kernel_rfl) (Ax_mk rfl rfl (OpW_call rfl Try.call20 rfl rfl (c_M_history_Precedes x3977 v3982 x16890 x16896 x16901 hx16902 _ _ hs16913) ?_))
                rintro _ K16914 _ hK16915 ⟨rfl, rfl⟩
                refine ⟨(Inc.cons (.head _) (Inc.cons (.tail _ (.head _)) Inc.nil)), ?_⟩
                refine Aw_q 10 rfl (by kernel_rfl) (by kernel_rfl) (by kernel_rfl) rfl rfl rfl (Qt_not rfl) ?_
                refine Aw_done (by kernel_rfl) ?_
                refine Cw_cond rfl ?_ ?_
                · intro h16916
                  have h16916 := nt_t (h16916)
                  have H := iff_ (btf h16916) H
                  refine Cw_exit ?_
                  refine Shift.pull (.there .here) ?_
                  refine Shift.pull (.there .here) ?_
                  refine Shift.done ?_
                  exact ⟨[(4, (sv v3982)), (5, (sv v3989)), (6, (.int .i64 i11874)), (20, (.int .i64 (x3987.length : Int))), (21, (.int .i64 i11874)), (35, (.int .i64 (x3987.length : Int))), (36, (.int .i64 i15841))], ⟨rfl, rfl, rfl, rfl, rfl, rfl, rfl, trivial⟩, rfl, rfl, H⟩
                · intro h16916
                  have h16916 := nt_f (h16916)
                  have H := ift h16916 H
                  refine Cw_skip ?_
                  refine Cw_seq ?_
                  refine Cw_region ?_
                  refine Ow_q rfl rfl rfl (Qt_move rfl) ?_
                  have hs16917 := (hs16906).mono hK16915
                  refine Ow_q rfl rfl rfl (Q_len (T := TyA2Int) hs16917 rfl rfl) ?_
                  refine Ow_q rfl rfl rfl (Qt_move rfl) ?_
                  refine Ow_nil ?_
                  refine Cw_block ?_
                  refine Cw_loopM (fun n17903 env' K' G' => ∃ (i17902 : Int), [(4, (sv v3982)), (5, (sv v3989)), (6, (.int .i64 i11874)), (7, (.int .i64 i15841)), (20, (.int .i64 (x3987.length : Int))), (21, (.int .i64 i11874)), (35, (.int .i64 (x3987.length : Int))), (36, (.int .i64 i15841)), (51, (.int .i64 (x3987.length : Int))), (52, (.int .i64 i17902))] = env' ∧ (.tok 36 2 [(sv v3989)]) :: (.tok 34 8 [(sv v3982)]) :: G = G' ∧ lp1 (M_law16_HistoryOrders_L3 x3977 x3987 i11874 i15841 k11879 k15846) n17903 i17902 = some y0) BIG ?_ ?_
                  · skip
                    refine Shift.pull (.there .here) ?_
                    refine Shift.pull (.there .here) ?_
                    refine Shift.done ?_
                    exact ⟨[(4, (sv v3982)), (5, (sv v3989)), (6, (.int .i64 i11874)), (7, (.int .i64 i15841)), (20, (.int .i64 (x3987.length : Int))), (21, (.int .i64 i11874)), (35, (.int .i64 (x3987.length : Int))), (36, (.int .i64 i15841)), (51, (.int .i64 (x3987.length : Int))), (52, (.int .i64 0))], ⟨rfl, rfl, rfl, rfl, rfl, rfl, rfl, rfl, rfl, rfl, trivial⟩, 0, rfl, rfl, H⟩
                  rintro n17903 _ K17904 _ hK17905 ⟨i17902, rfl, rfl, H⟩
                  obtain ⟨m17906, k17907, rfl, hkk17908, H⟩ := lps1 H
                  unfold M_law16_HistoryOrders_L3 at H
                  refine Cw_seq ?_
                  refine Cw_region ?_
                  refine Ow_q rfl rfl rfl (Qt_cmp rfl rfl rfl) ?_
                  refine Ow_nil ?_
                  refine Cw_seq ?_
                  refine Cw_cond rfl ?_ ?_
                  · intro h17910
                    have h17910 := dcd_t (h17910)
                    have H := ift h17910 H
                    refine Cw_skip ?_
                    refine Cw_join (fun env' K' G' => [(4, (sv v3982)), (5, (sv v3989)), (6, (.int .i64 i11874)), (7, (.int .i64 i15841)), (20, (.int .i64 (x3987.length : Int))), (21, (.int .i64 i11874)), (35, (.int .i64 (x3987.length : Int))), (36, (.int .i64 i15841)), (51, (.int .i64 (x3987.length : Int))), (52, (.int .i64 i17902))] = env' ∧ (.tok 36 2 [(sv v3989)]) :: (.tok 34 8 [(sv v3982)]) :: G = G' ∧ M_law16_HistoryOrders_J4 x3977 x3987 i11874 i15841 i17902 k11879 k15846 k17907 = some y0) ?_ ?_
                    · skip
                      refine Cw_block ?_
                      refine Cw_seq ?_
                      refine Cw_region ?_
                      refine Ow_q rfl rfl rfl (Qt_move rfl) ?_
                      refine Ow_q rfl rfl rfl (Qt_assign rfl) ?_
                      refine Ow_nil ?_
                      refine Cw_seq ?_
                      refine Cw_region ?_
                      refine Ow_q rfl rfl rfl (Qt_move rfl) ?_
                      have hs18398 := (hs16917).mono hK17905
                      refine Ow_q rfl rfl rfl (Q_len (T := TyA2Int) hs18398 rfl rfl) ?_
                      refine Ow_q rfl rfl rfl (Qt_move rfl) ?_
                      refine Ow_nil ?_
                      refine Cw_block ?_
                      refine Cw_loopM (fun n18885 env' K' G' => ∃ (i18884 : Int), [(4, (sv v3982)), (5, (sv v3989)), (6, (.int .i64 i11874)), (7, (.int .i64 i15841)), (8, (.int .i64 i17902)), (20, (.int .i64 (x3987.length : Int))), (21, (.int .i64 i11874)), (35, (.int .i64 (x3987.length : Int))), (36, (.int .i64 i15841)), (51, (.int .i64 (x3987.length : Int))), (52, (.int .i64 i17902)), (56, (.int .i64 (x3987.length : Int))), (57, (.int .i64 i18884))] = env' ∧ (.tok 36 2 [(sv v3989)]) :: (.tok 34 8 [(sv v3982)]) :: G = G' ∧ lp1 (M_law16_HistoryOrders_L4 x3977 x3987 i11874 i15841 i17902 k11879 k15846 k17907) n18885 i18884 = some y0) BIG ?_ ?_
                      · skip
                        refine Shift.pull (.there .here) ?_
                        refine Shift.pull (.there .here) ?_
                        refine Shift.done ?_
                        exact ⟨[(4, (sv v3982)), (5, (sv v3989)), (6, (.int .i64 i11874)), (7, (.int .i64 i15841)), (8, (.int .i64 i17902)), (20, (.int .i64 (x3987.length : Int))), (21, (.int .i64 i11874)), (35, (.int .i64 (x3987.length : Int))), (36, (.int .i64 i15841)), (51, (.int .i64 (x3987.length : Int))), (52, (.int .i64 i17902)), (56, (.int .i64 (x3987.length : Int))), (57, (.int .i64 0))], ⟨rfl, rfl, rfl, rfl, rfl, rfl, rfl, rfl, rfl, rfl, rfl, rfl, rfl, trivial⟩, 0, rfl, rfl, H⟩
                      rintro n18885 _ K18886 _ hK18887 ⟨i18884, rfl, rfl, H⟩
                      obtain ⟨m18888, k18889, rfl, hkk18890, H⟩ := lps1 H
                      unfold M_law16_HistoryOrders_L4 at H
                      refine Cw_seq ?_
                      refine Cw_region ?_
                      refine Ow_q rfl rfl rfl (Qt_cmp rfl rfl rfl) ?_
                      refine Ow_nil ?_
                      refine Cw_seq ?_
                      refine Cw_cond rfl ?_ ?_
                      · intro h18892
                        have h18892 := dcd_t (h18892)
                        have H := ift h18892 H
                        refine Cw_skip ?_
                        refine Cw_seq ?_
                        refine Cw_block ?_
                        refine Cw_seq ?_
                        refine Cw_region ?_
                        refine Ow_q rfl rfl rfl (Qt_move rfl) ?_
                        refine Ow_q rfl rfl rfl (Qt_assign rfl) ?_
                        refine Ow_nil ?_
                        refine Cw_join (fun env' K' G' => ∃ (t19367 : Bool), [(4, (sv v3982)), (5, (sv v3989)), (6, (.int .i64 i11874)), (7, (.int .i64 i15841)), (8, (.int .i64 i17902)), (20, (.int .i64 (x3987.length : Int))), (21, (.int .i64 i11874)), (35, (.int .i64 (x3987.length : Int))), (36, (.int .i64 i15841)), (51, (.int .i64 (x3987.length : Int))), (52, (.int .i64 i17902)), (56, (.int .i64 (x3987.length : Int))), (57, (.int .i64 i18884)), (113, (.bool t19367))] = env' ∧ (.tok 36 2 [(sv v3989)]) :: (.tok 34 8 [(sv v3982)]) :: G = G' ∧ M_law16_HistoryOrders_J5 x3977 x3987 i11874 i15841 i17902 i18884 k11879 k15846 k17907 k18889 t19367 = some y0) ?_ ?_
                        · skip
                          obtain ⟨x19368, hx19369, H⟩ := bnd H
                          obtain ⟨x19374, hx19375, H⟩ := bnd H
                          obtain ⟨x19379, hx19380, H⟩ := bnd H
                          rcases bool_ct x19379 with hb_ | hb_ <;> revert hb_
                          · intro h19384
                            have H := ift h19384 H
                            obtain ⟨x19385, hx19386, H⟩ := bnd H
                            obtain ⟨x19391, hx19392, H⟩ := bnd H
                            obtain ⟨x19396, hx19397, H⟩ := bnd H
                            rcases bool_ct (!(x19396)) with hb_ | hb_ <;> revert hb_
                            · intro h19401
                              have h19401 := nt_t (h19401)
                              have H := iff_ (btf h19401) H
                              obtain ⟨x19402, hx19403, H⟩ := bnd H
                              obtain ⟨x19408, hx19409, H⟩ := bnd H
                              obtain ⟨x19413, hx19414, H⟩ := bnd H
                              rcases bool_ct (!(x19413)) with hb_ | hb_ <;> revert hb_
                              · intro h19418
                                have h19418 := nt_t (h19418)
                                have H := iff_ (btf h19418) H
                                refine Cw_region_any [.tok 36 2 [(sv v3989)], .tok 34 8 [(sv v3982)]] rfl (Inc.cons (.head _) (Inc.cons (.tail _ (.head _)) Inc.nil)) ?_
                                refine Aw_q 0 rfl (by kernel_rfl) (by kernel_rfl) (by kernel_rfl) rfl rfl rfl (Qt_move rfl) ?_
                                refine Aw_q 1 rfl (by kernel_rfl) (by kernel_rfl) (by kernel_rfl) rfl rfl rfl (Qt_move rfl) ?_
                                refine Aw_q 2 rfl (by kernel_rfl) (by kernel_rfl) (by kernel_rfl) rfl rfl rfl (Qt_move rfl) ?_
                                have hs19419 := (hs18398).mono hK18887
                                obtain ⟨r19420, hr19421, hk19422⟩ := Slr.at hs19419 hx19369
                                obtain rfl := hr19421
                                refine Aw_q 3 rfl (by kernel_rfl) (by kernel_rfl) (by kernel_rfl) rfl rfl rfl (Q_ix (T := TyA2Int) hs19419 hx19369 rfl rfl rfl rfl rfl) ?_
                                refine Aw_q 4 rfl (by kernel_rfl) (by kernel_rfl) (by kernel_rfl) rfl rfl rfl (Qt_loadA (m := 2) (cs := (A2Int.cells x19368)) rfl rfl rfl rfl ⟨rfl, Rdc.k hk19422 rfl⟩) ?_
                                refine Aw_q 5 rfl (by kernel_rfl) (by kernel_rfl) (by kernel_rfl) rfl rfl rfl (Qt_move rfl) ?_
                                refine Aw_q 6 rfl (by kernel_rfl) (by kernel_rfl) (by kernel_rfl) rfl rfl rfl (Qt_move rfl) ?_
                                obtain ⟨r19423, hr19424, hk19425⟩ := Slr.at hs19419 hx19375
                                obtain rfl := hr19424
                                refine Aw_q 7 rfl (by kernel_rfl) (by kernel_rfl) (by kernel_rfl) rfl rfl rfl (Q_ix (T := TyA2Int) hs19419 hx19375 rfl rfl rfl rfl rfl) ?_
                                refine Aw_q 8 rfl (by kernel_rfl) (by kernel_rfl) (by kernel_rfl) rfl rfl rfl (Qt_loadA (m := 2) (cs := (A2Int.cells x19374)) rfl rfl rfl rfl ⟨rfl, Rdc.k hk19425 rfl⟩) ?_
                                have hs19426 := (((hs16913).mono hK16915).mono hK17905).mono hK18887
                                refine Aw_one 9 (by kernel_rfl) (Ax_mk rfl rfl (OpW_call rfl Try.call20 rfl rfl (c_M_history_Precedes x3977 v3982 x19368 x19374 x19379 hx19380 _ _ hs19426) ?_))
                                rintro _ K19427 _ hK19428 ⟨rfl, rfl⟩
                                refine ⟨(Inc.cons (.head _) (Inc.cons (.tail _ (.head _)) Inc.nil)), ?_⟩
                                refine Aw_q 10 rfl (by kernel_rfl) (by kernel_rfl) (by kernel_rfl) rfl rfl rfl (Qt_move rfl) ?_
                                refine Aw.known (d := 70) rfl (h19384) ?_
                                refine Aw_qw 11 rfl (by kernel_rfl) (by kernel_rfl) (by kernel_rfl) rfl rfl rfl rfl rfl rfl (Qt_move rfl) ?_
                                refine Aw_qw 12 rfl (by kernel_rfl) (by kernel_rfl) (by kernel_rfl) rfl rfl rfl rfl rfl rfl (Qt_move rfl) ?_
                                refine Aw_qw 13 rfl (by kernel_rfl) (by kernel_rfl) (by kernel_rfl) rfl rfl rfl rfl rfl rfl (Qt_move rfl) ?_
                                obtain ⟨r19429, hr19430, hk19431⟩ := Slr.at hs19419 hx19386
                                obtain rfl := hr19430
                                refine Aw_qw 14 rfl (by kernel_rfl) (by kernel_rfl) (by kernel_rfl) rfl rfl rfl rfl rfl rfl (Q_ix (T := TyA2Int) hs19419 hx19386 rfl rfl rfl rfl rfl) ?_
                                refine Aw_qw 15 rfl (by kernel_rfl) (by kernel_rfl) (by kernel_rfl) rfl rfl rfl rfl rfl rfl (Qt_loadA (m := 2) (cs := (A2Int.cells x19385)) rfl rfl rfl rfl ⟨rfl, Rdc.k hk19431 rfl⟩) ?_
                                refine Aw_qw 16 rfl (by kernel_rfl) (by kernel_rfl) (by kernel_rfl) rfl rfl rfl rfl rfl rfl (Qt_move rfl) ?_
                                refine Aw_qw 17 rfl (by kernel_rfl) (by kernel_rfl) (by kernel_rfl) rfl rfl rfl rfl rfl rfl (Qt_move rfl) ?_
                                obtain ⟨r19432, hr19433, hk19434⟩ := Slr.at hs19419 hx19392
                                obtain rfl := hr19433
                                refine Aw_qw 18 rfl (by kernel_rfl) (by kernel_rfl) (by kernel_rfl) rfl rfl rfl rfl rfl rfl (Q_ix (T := TyA2Int) hs19419 hx19392 rfl rfl rfl rfl rfl) ?_
                                refine Aw_qw 19 rfl (by kernel_rfl) (by kernel_rfl) (by kernel_rfl) rfl rfl rfl rfl rfl rfl (Qt_loadA (m := 2) (cs := (A2Int.cells x19391)) rfl rfl rfl rfl ⟨rfl, Rdc.k hk19434 rfl⟩) ?_
                                have hs19435 := (hs19426).mono hK19428
                                refine Aw_one 20 (by kernel_rfl) (Ax_mkw rfl rfl rfl rfl rfl (OpW_call rfl Try.call20 rfl rfl (c_M_history_Precedes x3977 v3982 x19385 x19391 x19396 hx19397 _ _ hs19435) ?_))
                                rintro _ K19436 _ hK19437 ⟨rfl, rfl⟩
                                refine ⟨(Inc.cons (.head _) (Inc.cons (.tail _ (.head _)) Inc.nil)), ?_⟩
                                refine Aw_qw 21 rfl (by kernel_rfl) (by kernel_rfl) (by kernel_rfl) rfl rfl rfl rfl rfl rfl (Qt_not rfl) ?_
                                refine Aw_qw 22 rfl (by kernel_rfl) (by kernel_rfl) (by kernel_rfl) rfl rfl rfl rfl rfl rfl (Qt_move rfl) ?_
                                refine Aw.known (d := 82) rfl (nt_mt (h19401)) ?_
                                refine Aw_qw 23 rfl (by kernel_rfl) (by kernel_rfl) (by kernel_rfl) rfl rfl rfl rfl rfl rfl (Qt_move rfl) ?_
                                refine Aw_qw 24 rfl (by kernel_rfl) (by kernel_rfl) (by kernel_rfl) rfl rfl rfl rfl rfl rfl (Qt_move rfl) ?_
                                refine Aw_qw 25 rfl (by kernel_rfl) (by kernel_rfl) (by kernel_rfl) rfl rfl rfl rfl rfl rfl (Qt_move rfl) ?_
                                obtain ⟨r19438, hr19439, hk19440⟩ := Slr.at hs19419 hx19403
                                obtain rfl := hr19439
                                refine Aw_qw 26 rfl (by kernel_rfl) (by kernel_rfl) (by kernel_rfl) rfl rfl rfl rfl rfl rfl (Q_ix (T := TyA2Int) hs19419 hx19403 rfl rfl rfl rfl rfl) ?_
                                refine Aw_qw 27 rfl (by kernel_rfl) (by kernel_rfl) (by kernel_rfl) rfl rfl rfl rfl rfl rfl (Qt_loadA (m := 2) (cs := (A2Int.cells x19402)) rfl rfl rfl rfl ⟨rfl, Rdc.k hk19440 rfl⟩) ?_
                                refine Aw_qw 28 rfl (by kernel_rfl) (by kernel_rfl) (by kernel_rfl) rfl rfl rfl rfl rfl rfl (Qt_move rfl) ?_
                                refine Aw_qw 29 rfl (by kernel_rfl) (by kernel_rfl) (by kernel_rfl) rfl rfl rfl rfl rfl rfl (Qt_move rfl) ?_
                                obtain ⟨r19441, hr19442, hk19443⟩ := Slr.at hs19419 hx19409
                                obtain rfl := hr19442
                                refine Aw_qw 30 rfl (by kernel_rfl) (by kernel_rfl) (by kernel_rfl) rfl rfl rfl rfl rfl rfl (Q_ix (T := TyA2Int) hs19419 hx19409 rfl rfl rfl rfl rfl) ?_
                                refine Aw_qw 31 rfl (by kernel_rfl) (by kernel_rfl) (by kernel_rfl) rfl rfl rfl rfl rfl rfl (Qt_loadA (m := 2) (cs := (A2Int.cells x19408)) rfl rfl rfl rfl ⟨rfl, Rdc.k hk19443 rfl⟩) ?_
                                have hs19444 := (hs19435).mono hK19437
                                refine Aw_one 32 (by kernel_rfl) (Ax_mkw rfl rfl rfl rfl rfl (OpW_call rfl Try.call20 rfl rfl (c_M_history_Precedes x3977 v3982 x19402 x19408 x19413 hx19414 _ _ hs19444) ?_))
                                rintro _ K19445 _ hK19446 ⟨rfl, rfl⟩
                                refine ⟨(Inc.cons (.head _) (Inc.cons (.tail _ (.head _)) Inc.nil)), ?_⟩
                                refine Aw_qw 33 rfl (by kernel_rfl) (by kernel_rfl) (by kernel_rfl) rfl rfl rfl rfl rfl rfl (Qt_not rfl) ?_
                                refine Aw_qw 34 rfl (by kernel_rfl) (by kernel_rfl) (by kernel_rfl) rfl rfl rfl rfl rfl rfl (Qt_pick_t rfl rfl) ?_
                                refine Aw_qw 35 rfl (by kernel_rfl) (by kernel_rfl) (by kernel_rfl) rfl rfl rfl rfl rfl rfl (Qt_move rfl) ?_
                                refine Aw.known (d := 95) rfl (nt_mt (h19418)) ?_
                                refine Aw_pass 36 rfl (by kernel_rfl) (by kernel_rfl) (by kernel_rfl) rfl rfl rfl rfl rfl rfl rfl ?_
                                refine Aw_pass 37 rfl (by kernel_rfl) (by kernel_rfl) (by kernel_rfl) rfl rfl rfl rfl rfl rfl rfl ?_
                                refine Aw_pass 38 rfl (by kernel_rfl) (by kernel_rfl) (by kernel_rfl) rfl rfl rfl rfl rfl rfl rfl ?_
                                refine Aw_pass 39 rfl (by kernel_rfl) (by kernel_rfl) (by kernel_rfl) rfl rfl rfl rfl rfl rfl rfl ?_
                                refine Aw_passU 40 rfl (by kernel_rfl) (by kernel_rfl) (by kernel_rfl) rfl rfl rfl rfl rfl ?_
                                refine Aw_passU 41 rfl (by kernel_rfl) (by kernel_rfl) (by kernel_rfl) rfl rfl rfl rfl rfl ?_
                                refine Aw_passU 42 rfl (by kernel_rfl) (by kernel_rfl) (by kernel_rfl) rfl rfl rfl rfl rfl ?_
                                refine Aw_passU 43 rfl (by kernel_rfl) (by kernel_rfl) (by kernel_rfl) rfl rfl rfl rfl rfl ?_
                                refine Aw_passU 44 rfl (by kernel_rfl) (by kernel_rfl) (by kernel_rfl) rfl rfl rfl rfl rfl ?_
                                refine Aw_passU 45 rfl (by kernel_rfl) (by kernel_rfl) (by kernel_rfl) rfl rfl rfl rfl rfl ?_
                                refine Aw_passU 46 rfl (by kernel_rfl) (by kernel_rfl) (by kernel_rfl) rfl rfl rfl rfl rfl ?_
                                refine Aw_passU 47 rfl (by kernel_rfl) (by kernel_rfl) (by kernel_rfl) rfl rfl rfl rfl rfl ?_
                                refine Aw_passU 48 rfl (by kernel_rfl) (by kernel_rfl) (by kernel_rfl) rfl rfl rfl rfl rfl ?_
                                refine Aw_passU 49 rfl (by kernel_rfl) (by kernel_rfl) (by kernel_rfl) rfl rfl rfl rfl rfl ?_
                                refine Aw_passU 50 rfl (by kernel_rfl) (by kernel_rfl) (by kernel_rfl) rfl rfl rfl rfl rfl ?_
                                refine Aw_pass 51 rfl (by kernel_rfl) (by kernel_rfl) (by kernel_rfl) rfl rfl rfl rfl rfl rfl rfl ?_
                                refine Aw_qw 52 rfl (by kernel_rfl) (by kernel_rfl) (by kernel_rfl) rfl rfl rfl rfl rfl rfl (Qt_pick_t rfl rfl) ?_
                                refine Aw_q 53 rfl (by kernel_rfl) (by kernel_rfl) (by kernel_rfl) rfl rfl rfl (Qt_pick_t rfl rfl) ?_
                                refine Aw_done (by kernel_rfl) ?_
                                refine Shift.pull (.there .here) ?_
                                refine Shift.pull (.there .here) ?_
                                refine Shift.done ?_
                                exact ⟨[(4, (sv v3982)), (5, (sv v3989)), (6, (.int .i64 i11874)), (7, (.int .i64 i15841)), (8, (.int .i64 i17902)), (20, (.int .i64 (x3987.length : Int))), (21, (.int .i64 i11874)), (35, (.int .i64 (x3987.length : Int))), (36, (.int .i64 i15841)), (51, (.int .i64 (x3987.length : Int))), (52, (.int .i64 i17902)), (56, (.int .i64 (x3987.length : Int))), (57, (.int .i64 i18884)), (113, (.bool true))], ⟨rfl, rfl, rfl, rfl, rfl, rfl, rfl, rfl, rfl, rfl, rfl, rfl, rfl, rfl, trivial⟩, true, rfl, rfl, H⟩
                              · intro h19418
                                have h19418 := nt_f (h19418)
                                have H := ift h19418 H
                                rcases bool_ct (dcd (i17902 = i15841)) with hb_ | hb_ <;> revert hb_
                                · intro h19447
                                  have h19447 := dcd_t (h19447)
                                  have H := ift h19447 H
                                  obtain ⟨x19448, hx19449, H⟩ := bnd H
                                  obtain ⟨x19454, hx19455, H⟩ := bnd H
                                  obtain ⟨x19459, hx19460, H⟩ := bnd H
                                  refine Cw_region_any [.tok 36 2 [(sv v3989)], .tok 34 8 [(sv v3982)]] rfl (Inc.cons (.head _) (Inc.cons (.tail _ (.head _)) Inc.nil)) ?_
                                  refine Aw_q 0 rfl (by kernel_rfl) (by kernel_rfl) (by kernel_rfl) rfl rfl rfl (Qt_move rfl) ?_
                                  refine Aw_q 1 rfl (by kernel_rfl) (by kernel_rfl) (by kernel_rfl) rfl rfl rfl (Qt_move rfl) ?_
                                  refine Aw_q 2 rfl (by kernel_rfl) (by kernel_rfl) (by kernel_rfl) rfl rfl rfl (Qt_move rfl) ?_
                                  have hs19464 := (hs18398).mono hK18887
                                  obtain ⟨r19465, hr19466, hk19467⟩ := Slr.at hs19464 hx19369
                                  obtain rfl := hr19466
                                  refine Aw_q 3 rfl (by kernel_rfl) (by kernel_rfl) (by kernel_rfl) rfl rfl rfl (Q_ix (T := TyA2Int) hs19464 hx19369 rfl rfl rfl rfl rfl) ?_
                                  refine Aw_q 4 rfl (by kernel_rfl) (by kernel_rfl) (by kernel_rfl) rfl rfl rfl (Qt_loadA (m := 2) (cs := (A2Int.cells x19368)) rfl rfl rfl rfl ⟨rfl, Rdc.k hk19467 rfl⟩) ?_
                                  refine Aw_q 5 rfl (by kernel_rfl) (by kernel_rfl) (by kernel_rfl) rfl rfl rfl (Qt_move rfl) ?_
                                  refine Aw_q 6 rfl (by kernel_rfl) (by kernel_rfl) (by kernel_rfl) rfl rfl rfl (Qt_move rfl) ?_
                                  obtain ⟨r19468, hr19469, hk19470⟩ := Slr.at hs19464 hx19375
                                  obtain rfl := hr19469
                                  refine Aw_q 7 rfl (by kernel_rfl) (by kernel_rfl) (by kernel_rfl) rfl rfl rfl (Q_ix (T := TyA2Int) hs19464 hx19375 rfl rfl rfl rfl rfl) ?_
                                  refine Aw_q 8 rfl (by kernel_rfl) (by kernel_rfl) (by kernel_rfl) rfl rfl rfl (Qt_loadA (m := 2) (cs := (A2Int.cells x19374)) rfl rfl rfl rfl ⟨rfl, Rdc.k hk19470 rfl⟩) ?_
                                  have hs19471 := (((hs16913).mono hK16915).mono hK17905).mono hK18887
                                  refine Aw_one 9 (by kernel_rfl) (Ax_mk rfl rfl (OpW_call rfl Try.call20 rfl rfl (c_M_history_Precedes x3977 v3982 x19368 x19374 x19379 hx19380 _ _ hs19471) ?_))
                                  rintro _ K19472 _ hK19473 ⟨rfl, rfl⟩
                                  refine ⟨(Inc.cons (.head _) (Inc.cons (.tail _ (.head _)) Inc.nil)), ?_⟩
                                  refine Aw_q 10 rfl (by kernel_rfl) (by kernel_rfl) (by kernel_rfl) rfl rfl rfl (Qt_move rfl) ?_
                                  refine Aw.known (d := 70) rfl (h19384) ?_
                                  refine Aw_qw 11 rfl (by kernel_rfl) (by kernel_rfl) (by kernel_rfl) rfl rfl rfl rfl rfl rfl (Qt_move rfl) ?_
                                  refine Aw_qw 12 rfl (by kernel_rfl) (by kernel_rfl) (by kernel_rfl) rfl rfl rfl rfl rfl rfl (Qt_move rfl) ?_
                                  refine Aw_qw 13 rfl (by kernel_rfl) (by kernel_rfl) (by kernel_rfl) rfl rfl rfl rfl rfl rfl (Qt_move rfl) ?_
                                  obtain ⟨r19474, hr19475, hk19476⟩ := Slr.at hs19464 hx19386
                                  obtain rfl := hr19475
                                  refine Aw_qw 14 rfl (by kernel_rfl) (by kernel_rfl) (by kernel_rfl) rfl rfl rfl rfl rfl rfl (Q_ix (T := TyA2Int) hs19464 hx19386 rfl rfl rfl rfl rfl) ?_
                                  refine Aw_qw 15 rfl (by kernel_rfl) (by kernel_rfl) (by kernel_rfl) rfl rfl rfl rfl rfl rfl (Qt_loadA (m := 2) (cs := (A2Int.cells x19385)) rfl rfl rfl rfl ⟨rfl, Rdc.k hk19476 rfl⟩) ?_
                                  refine Aw_qw 16 rfl (by kernel_rfl) (by kernel_rfl) (by kernel_rfl) rfl rfl rfl rfl rfl rfl (Qt_move rfl) ?_
                                  refine Aw_qw 17 rfl (by kernel_rfl) (by kernel_rfl) (by kernel_rfl) rfl rfl rfl rfl rfl rfl (Qt_move rfl) ?_
                                  obtain ⟨r19477, hr19478, hk19479⟩ := Slr.at hs19464 hx19392
                                  obtain rfl := hr19478
                                  refine Aw_qw 18 rfl (by kernel_rfl) (by kernel_rfl) (by kernel_rfl) rfl rfl rfl rfl rfl rfl (Q_ix (T := TyA2Int) hs19464 hx19392 rfl rfl rfl rfl rfl) ?_
                                  refine Aw_qw 19 rfl (by kernel_rfl) (by kernel_rfl) (by kernel_rfl) rfl rfl rfl rfl rfl rfl (Qt_loadA (m := 2) (cs := (A2Int.cells x19391)) rfl rfl rfl rfl ⟨rfl, Rdc.k hk19479 rfl⟩) ?_
                                  have hs19480 := (hs19471).mono hK19473
                                  refine Aw_one 20 (by kernel_rfl) (Ax_mkw rfl rfl rfl rfl rfl (OpW_call rfl Try.call20 rfl rfl (c_M_history_Precedes x3977 v3982 x19385 x19391 x19396 hx19397 _ _ hs19480) ?_))
                                  rintro _ K19481 _ hK19482 ⟨rfl, rfl⟩
                                  refine ⟨(Inc.cons (.head _) (Inc.cons (.tail _ (.head _)) Inc.nil)), ?_⟩
                                  refine Aw_qw 21 rfl (by kernel_rfl) (by kernel_rfl) (by kernel_rfl) rfl rfl rfl rfl rfl rfl (Qt_not rfl) ?_
                                  refine Aw_qw 22 rfl (by kernel_rfl) (by kernel_rfl) (by kernel_rfl) rfl rfl rfl rfl rfl rfl (Qt_move rfl) ?_
                                  refine Aw.known (d := 82) rfl (nt_mt (h19401)) ?_
                                  refine Aw_qw 23 rfl (by kernel_rfl) (by kernel_rfl) (by kernel_rfl) rfl rfl rfl rfl rfl rfl (Qt_move rfl) ?_
                                  refine Aw_qw 24 rfl (by kernel_rfl) (by kernel_rfl) (by kernel_rfl) rfl rfl rfl rfl rfl rfl (Qt_move rfl) ?_
                                  refine Aw_qw 25 rfl (by kernel_rfl) (by kernel_rfl) (by kernel_rfl) rfl rfl rfl rfl rfl rfl (Qt_move rfl) ?_
                                  obtain ⟨r19483, hr19484, hk19485⟩ := Slr.at hs19464 hx19403
                                  obtain rfl := hr19484
                                  refine Aw_qw 26 rfl (by kernel_rfl) (by kernel_rfl) (by kernel_rfl) rfl rfl rfl rfl rfl rfl (Q_ix (T := TyA2Int) hs19464 hx19403 rfl rfl rfl rfl rfl) ?_
                                  refine Aw_qw 27 rfl (by kernel_rfl) (by kernel_rfl) (by kernel_rfl) rfl rfl rfl rfl rfl rfl (Qt_loadA (m := 2) (cs := (A2Int.cells x19402)) rfl rfl rfl rfl ⟨rfl, Rdc.k hk19485 rfl⟩) ?_
                                  refine Aw_qw 28 rfl (by kernel_rfl) (by kernel_rfl) (by kernel_rfl) rfl rfl rfl rfl rfl rfl (Qt_move rfl) ?_
                                  refine Aw_qw 29 rfl (by kernel_rfl) (by kernel_rfl) (by kernel_rfl) rfl rfl rfl rfl rfl rfl (Qt_move rfl) ?_
                                  obtain ⟨r19486, hr19487, hk19488⟩ := Slr.at hs19464 hx19409
                                  obtain rfl := hr19487
                                  refine Aw_qw 30 rfl (by kernel_rfl) (by kernel_rfl) (by kernel_rfl) rfl rfl rfl rfl rfl rfl (Q_ix (T := TyA2Int) hs19464 hx19409 rfl rfl rfl rfl rfl) ?_
                                  refine Aw_qw 31 rfl (by kernel_rfl) (by kernel_rfl) (by kernel_rfl) rfl rfl rfl rfl rfl rfl (Qt_loadA (m := 2) (cs := (A2Int.cells x19408)) rfl rfl rfl rfl ⟨rfl, Rdc.k hk19488 rfl⟩) ?_
                                  have hs19489 := (hs19480).mono hK19482
                                  refine Aw_one 32 (by kernel_rfl) (Ax_mkw rfl rfl rfl rfl rfl (OpW_call rfl Try.call20 rfl rfl (c_M_history_Precedes x3977 v3982 x19402 x19408 x19413 hx19414 _ _ hs19489) ?_))
                                  rintro _ K19490 _ hK19491 ⟨rfl, rfl⟩
                                  refine ⟨(Inc.cons (.head _) (Inc.cons (.tail _ (.head _)) Inc.nil)), ?_⟩
                                  refine Aw_qw 33 rfl (by kernel_rfl) (by kernel_rfl) (by kernel_rfl) rfl rfl rfl rfl rfl rfl (Qt_not rfl) ?_
                                  refine Aw_qw 34 rfl (by kernel_rfl) (by kernel_rfl) (by kernel_rfl) rfl rfl rfl rfl rfl rfl (Qt_pick_t rfl rfl) ?_
                                  refine Aw_qw 35 rfl (by kernel_rfl) (by kernel_rfl) (by kernel_rfl) rfl rfl rfl rfl rfl rfl (Qt_move rfl) ?_
                                  refine Aw.known (d := 95) rfl (nt_mf (h19418)) ?_
                                  refine Aw_qw 36 rfl (by kernel_rfl) (by kernel_rfl) (by kernel_rfl) rfl rfl rfl rfl rfl rfl (Qt_move rfl) ?_
                                  refine Aw_qw 37 rfl (by kernel_rfl) (by kernel_rfl) (by kernel_rfl) rfl rfl rfl rfl rfl rfl (Qt_move rfl) ?_
                                  refine Aw_qw 38 rfl (by kernel_rfl) (by kernel_rfl) (by kernel_rfl) rfl rfl rfl rfl rfl rfl (Qt_cmp rfl rfl rfl) ?_
                                  refine Aw_qw 39 rfl (by kernel_rfl) (by kernel_rfl) (by kernel_rfl) rfl rfl rfl rfl rfl rfl (Qt_move rfl) ?_
                                  refine Aw.known (d := 99) rfl (dcd_pos h19447) ?_
                                  refine Aw_qw 40 rfl (by kernel_rfl) (by kernel_rfl) (by kernel_rfl) rfl rfl rfl rfl rfl rfl (Qt_move rfl) ?_
                                  refine Aw_qw 41 rfl (by kernel_rfl) (by kernel_rfl) (by kernel_rfl) rfl rfl rfl rfl rfl rfl (Qt_move rfl) ?_
                                  refine Aw_qw 42 rfl (by kernel_rfl) (by kernel_rfl) (by kernel_rfl) rfl rfl rfl rfl rfl rfl (Qt_move rfl) ?_
                                  obtain ⟨r19492, hr19493, hk19494⟩ := Slr.at hs19464 hx19449
                                  obtain rfl := hr19493
                                  refine Aw_qw 43 rfl (by kernel_rfl) (by kernel_rfl) (by kernel_rfl) rfl rfl rfl rfl rfl rfl (Q_ix (T := TyA2Int) hs19464 hx19449 rfl rfl rfl rfl rfl) ?_
                                  refine Aw_qw 44 rfl (by kernel_rfl) (by kernel_rfl) (by kernel_rfl) rfl rfl rfl rfl rfl rfl (Qt_loadA (m := 2) (cs := (A2Int.cells x19448)) rfl rfl rfl rfl ⟨rfl, Rdc.k hk19494 rfl⟩) ?_
                                  refine Aw_qw 45 rfl (by kernel_rfl) (by kernel_rfl) (by kernel_rfl) rfl rfl rfl rfl rfl rfl (Qt_move rfl) ?_
                                  refine Aw_qw 46 rfl (by kernel_rfl) (by kernel_rfl) (by kernel_rfl) rfl rfl rfl rfl rfl rfl (Qt_move rfl) ?_
                                  obtain ⟨r19495, hr19496, hk19497⟩ := Slr.at hs19464 hx19455
                                  obtain rfl := hr19496
                                  refine Aw_qw 47 rfl (by kernel_rfl) (by kernel_rfl) (by kernel_rfl) rfl rfl rfl rfl rfl rfl (Q_ix (T := TyA2Int) hs19464 hx19455 rfl rfl rfl rfl rfl) ?_
                                  refine Aw_qw 48 rfl (by kernel_rfl) (by kernel_rfl) (by kernel_rfl) rfl rfl rfl rfl rfl rfl (Qt_loadA (m := 2) (cs := (A2Int.cells x19454)) rfl rfl rfl rfl ⟨rfl, Rdc.k hk19497 rfl⟩) ?_
                                  have hs19498 := (hs19489).mono hK19491
                                  refine Aw_one 49 (by kernel_rfl) (Ax_mkw rfl rfl rfl rfl rfl (OpW_call rfl Try.call20 rfl rfl (c_M_history_Precedes x3977 v3982 x19448 x19454 x19459 hx19460 _ _ hs19498) ?_))
                                  rintro _ K19499 _ hK19500 ⟨rfl, rfl⟩
                                  refine ⟨(Inc.cons (.head _) (Inc.cons (.tail _ (.head _)) Inc.nil)), ?_⟩
                                  refine Aw_qw 50 rfl (by kernel_rfl) (by kernel_rfl) (by kernel_rfl) rfl rfl rfl rfl rfl rfl (Qt_not rfl) ?_
                                  refine Aw_qw 51 rfl (by kernel_rfl) (by kernel_rfl) (by kernel_rfl) rfl rfl rfl rfl rfl rfl (Qt_pick_t rfl rfl) ?_
                                  refine Aw_qw 52 rfl (by kernel_rfl) (by kernel_rfl) (by kernel_rfl) rfl rfl rfl rfl rfl rfl (Qt_pick_f rfl rfl) ?_
                                  refine Aw_q 53 rfl (by kernel_rfl) (by kernel_rfl) (by kernel_rfl) rfl rfl rfl (Qt_pick_t rfl rfl) ?_
                                  refine Aw_done (by kernel_rfl) ?_
                                  refine Shift.pull (.there .here) ?_
                                  refine Shift.pull (.there .here) ?_
                                  refine Shift.done ?_
                                  exact ⟨[(4, (sv v3982)), (5, (sv v3989)), (6, (.int .i64 i11874)), (7, (.int .i64 i15841)), (8, (.int .i64 i17902)), (20, (.int .i64 (x3987.length : Int))), (21, (.int .i64 i11874)), (35, (.int .i64 (x3987.length : Int))), (36, (.int .i64 i15841)), (51, (.int .i64 (x3987.length : Int))), (52, (.int .i64 i17902)), (56, (.int .i64 (x3987.length : Int))), (57, (.int .i64 i18884)), (113, (.bool (!(x19459))))], ⟨rfl, rfl, rfl, rfl, rfl, rfl, rfl, rfl, rfl, rfl, rfl, rfl, rfl, rfl, trivial⟩, (!(x19459)), rfl, rfl, H⟩
                                · intro h19447
                                  have h19447 := dcd_f (h19447)
                                  have H := iff_ h19447 H
                                  refine Cw_region_any [.tok 36 2 [(sv v3989)], .tok 34 8 [(sv v3982)]] rfl (Inc.cons (.head _) (Inc.cons (.tail _ (.head _)) Inc.nil)) ?_
                                  refine Aw_q 0 rfl (by kernel_rfl) (by kernel_rfl) (by kernel_rfl) rfl rfl rfl (Qt_move rfl) ?_
                                  refine Aw_q 1 rfl (by kernel_rfl) (by kernel_rfl) (by kernel_rfl) rfl rfl rfl (Qt_move rfl) ?_
                                  refine Aw_q 2 rfl (by kernel_rfl) (by kernel_rfl) (by kernel_rfl) rfl rfl rfl (Qt_move rfl) ?_
                                  have hs19501 := (hs18398).mono hK18887
                                  obtain ⟨r19502, hr19503, hk19504⟩ := Slr.at hs19501 hx19369
                                  obtain rfl := hr19503
                                  refine Aw_q 3 rfl (by kernel_rfl) (by kernel_rfl) (by kernel_rfl) rfl rfl rfl (Q_ix (T := TyA2Int) hs19501 hx19369 rfl rfl rfl rfl rfl) ?_
                                  refine Aw_q 4 rfl (by kernel_rfl) (by kernel_rfl) (by kernel_rfl) rfl rfl rfl (Qt_loadA (m := 2) (cs := (A2Int.cells x19368)) rfl rfl rfl rfl ⟨rfl, Rdc.k hk19504 rfl⟩) ?_
                                  refine Aw_q 5 rfl (by kernel_rfl) (by kernel_rfl) (by kernel_rfl) rfl rfl rfl (Qt_move rfl) ?_
                                  refine Aw_q 6 rfl (by kernel_rfl) (by kernel_rfl) (by kernel_rfl) rfl rfl rfl (Qt_move rfl) ?_
                                  obtain ⟨r19505, hr19506, hk19507⟩ := Slr.at hs19501 hx19375
                                  obtain rfl := hr19506
                                  refine Aw_q 7 rfl (by kernel_rfl) (by kernel_rfl) (by kernel_rfl) rfl rfl rfl (Q_ix (T := TyA2Int) hs19501 hx19375 rfl rfl rfl rfl rfl) ?_
                                  refine Aw_q 8 rfl (by kernel_rfl) (by kernel_rfl) (by kernel_rfl) rfl rfl rfl (Qt_loadA (m := 2) (cs := (A2Int.cells x19374)) rfl rfl rfl rfl ⟨rfl, Rdc.k hk19507 rfl⟩) ?_
                                  have hs19508 := (((hs16913).mono hK16915).mono hK17905).mono hK18887
                                  refine Aw_one 9 (by kernel_rfl) (Ax_mk rfl rfl (OpW_call rfl Try.call20 rfl rfl (c_M_history_Precedes x3977 v3982 x19368 x19374 x19379 hx19380 _ _ hs19508) ?_))
                                  rintro _ K19509 _ hK19510 ⟨rfl, rfl⟩
                                  refine ⟨(Inc.cons (.head _) (Inc.cons (.tail _ (.head _)) Inc.nil)), ?_⟩
                                  refine Aw_q 10 rfl (by kernel_rfl) (by kernel_rfl) (by kernel_rfl) rfl rfl rfl (Qt_move rfl) ?_
                                  refine Aw.known (d := 70) rfl (h19384) ?_
                                  refine Aw_qw 11 rfl (by kernel_rfl) (by kernel_rfl) (by kernel_rfl) rfl rfl rfl rfl rfl rfl (Qt_move rfl) ?_
                                  refine Aw_qw 12 rfl (by kernel_rfl) (by kernel_rfl) (by kernel_rfl) rfl rfl rfl rfl rfl rfl (Qt_move rfl) ?_
                                  refine Aw_qw 13 rfl (by kernel_rfl) (by kernel_rfl) (by kernel_rfl) rfl rfl rfl rfl rfl rfl (Qt_move rfl) ?_
                                  obtain ⟨r19511, hr19512, hk19513⟩ := Slr.at hs19501 hx19386
                                  obtain rfl := hr19512
                                  refine Aw_qw 14 rfl (by kernel_rfl) (by kernel_rfl) (by kernel_rfl) rfl rfl rfl rfl rfl rfl (Q_ix (T := TyA2Int) hs19501 hx19386 rfl rfl rfl rfl rfl) ?_
                                  refine Aw_qw 15 rfl (by kernel_rfl) (by kernel_rfl) (by kernel_rfl) rfl rfl rfl rfl rfl rfl (Qt_loadA (m := 2) (cs := (A2Int.cells x19385)) rfl rfl rfl rfl ⟨rfl, Rdc.k hk19513 rfl⟩) ?_
                                  refine Aw_qw 16 rfl (by kernel_rfl) (by kernel_rfl) (by kernel_rfl) rfl rfl rfl rfl rfl rfl (Qt_move rfl) ?_
                                  refine Aw_qw 17 rfl (by kernel_rfl) (by kernel_rfl) (by kernel_rfl) rfl rfl rfl rfl rfl rfl (Qt_move rfl) ?_
                                  obtain ⟨r19514, hr19515, hk19516⟩ := Slr.at hs19501 hx19392
                                  obtain rfl := hr19515
                                  refine Aw_qw 18 rfl (by kernel_rfl) (by kernel_rfl) (by kernel_rfl) rfl rfl rfl rfl rfl rfl (Q_ix (T := TyA2Int) hs19501 hx19392 rfl rfl rfl rfl rfl) ?_
                                  refine Aw_qw 19 rfl (by kernel_rfl) (by kernel_rfl) (by kernel_rfl) rfl rfl rfl rfl rfl rfl (Qt_loadA (m := 2) (cs := (A2Int.cells x19391)) rfl rfl rfl rfl ⟨rfl, Rdc.k hk19516 rfl⟩) ?_
                                  have hs19517 := (hs19508).mono hK19510
                                  refine Aw_one 20 (by kernel_rfl) (Ax_mkw rfl rfl rfl rfl rfl (OpW_call rfl Try.call20 rfl rfl (c_M_history_Precedes x3977 v3982 x19385 x19391 x19396 hx19397 _ _ hs19517) ?_))
                                  rintro _ K19518 _ hK19519 ⟨rfl, rfl⟩
                                  refine ⟨(Inc.cons (.head _) (Inc.cons (.tail _ (.head _)) Inc.nil)), ?_⟩
                                  refine Aw_qw 21 rfl (by kernel_rfl) (by kernel_rfl) (by kernel_rfl) rfl rfl rfl rfl rfl rfl (Qt_not rfl) ?_
                                  refine Aw_qw 22 rfl (by kernel_rfl) (by kernel_rfl) (by kernel_rfl) rfl rfl rfl rfl rfl rfl (Qt_move rfl) ?_
                                  refine Aw.known (d := 82) rfl (nt_mt (h19401)) ?_
                                  refine Aw_qw 23 rfl (by kernel_rfl) (by kernel_rfl) (by kernel_rfl) rfl rfl rfl rfl rfl rfl (Qt_move rfl) ?_
                                  refine Aw_qw 24 rfl (by kernel_rfl) (by kernel_rfl) (by kernel_rfl) rfl rfl rfl rfl rfl rfl (Qt_move rfl) ?_
                                  refine Aw_qw 25 rfl (by kernel_rfl) (by kernel_rfl) (by kernel_rfl) rfl rfl rfl rfl rfl rfl (Qt_move rfl) ?_
                                  obtain ⟨r19520, hr19521, hk19522⟩ := Slr.at hs19501 hx19403
                                  obtain rfl := hr19521
                                  refine Aw_qw 26 rfl (by kernel_rfl) (by kernel_rfl) (by kernel_rfl) rfl rfl rfl rfl rfl rfl (Q_ix (T := TyA2Int) hs19501 hx19403 rfl rfl rfl rfl rfl) ?_
                                  refine Aw_qw 27 rfl (by kernel_rfl) (by kernel_rfl) (by kernel_rfl) rfl rfl rfl rfl rfl rfl (Qt_loadA (m := 2) (cs := (A2Int.cells x19402)) rfl rfl rfl rfl ⟨rfl, Rdc.k hk19522 rfl⟩) ?_
                                  refine Aw_qw 28 rfl (by kernel_rfl) (by kernel_rfl) (by kernel_rfl) rfl rfl rfl rfl rfl rfl (Qt_move rfl) ?_
                                  refine Aw_qw 29 rfl (by kernel_rfl) (by kernel_rfl) (by kernel_rfl) rfl rfl rfl rfl rfl rfl (Qt_move rfl) ?_
                                  obtain ⟨r19523, hr19524, hk19525⟩ := Slr.at hs19501 hx19409
                                  obtain rfl := hr19524
                                  refine Aw_qw 30 rfl (by kernel_rfl) (by kernel_rfl) (by kernel_rfl) rfl rfl rfl rfl rfl rfl (Q_ix (T := TyA2Int) hs19501 hx19409 rfl rfl rfl rfl rfl) ?_
                                  refine Aw_qw 31 rfl (by kernel_rfl) (by kernel_rfl) (by kernel_rfl) rfl rfl rfl rfl rfl rfl (Qt_loadA (m := 2) (cs := (A2Int.cells x19408)) rfl rfl rfl rfl ⟨rfl, Rdc.k hk19525 rfl⟩) ?_
                                  have hs19526 := (hs19517).mono hK19519
                                  refine Aw_one 32 (by kernel_rfl) (Ax_mkw rfl rfl rfl rfl rfl (OpW_call rfl Try.call20 rfl rfl (c_M_history_Precedes x3977 v3982 x19402 x19408 x19413 hx19414 _ _ hs19526) ?_))
                                  rintro _ K19527 _ hK19528 ⟨rfl, rfl⟩
                                  refine ⟨(Inc.cons (.head _) (Inc.cons (.tail _ (.head _)) Inc.nil)), ?_⟩
                                  refine Aw_qw 33 rfl (by kernel_rfl) (by kernel_rfl) (by kernel_rfl) rfl rfl rfl rfl rfl rfl (Qt_not rfl) ?_
                                  refine Aw_qw 34 rfl (by kernel_rfl) (by kernel_rfl) (by kernel_rfl) rfl rfl rfl rfl rfl rfl (Qt_pick_t rfl rfl) ?_
                                  refine Aw_qw 35 rfl (by kernel_rfl) (by kernel_rfl) (by kernel_rfl) rfl rfl rfl rfl rfl rfl (Qt_move rfl) ?_
                                  refine Aw.known (d := 95) rfl (nt_mf (h19418)) ?_
                                  refine Aw_qw 36 rfl (by kernel_rfl) (by kernel_rfl) (by kernel_rfl) rfl rfl rfl rfl rfl rfl (Qt_move rfl) ?_
                                  refine Aw_qw 37 rfl (by kernel_rfl) (by kernel_rfl) (by kernel_rfl) rfl rfl rfl rfl rfl rfl (Qt_move rfl) ?_
                                  refine Aw_qw 38 rfl (by kernel_rfl) (by kernel_rfl) (by kernel_rfl) rfl rfl rfl rfl rfl rfl (Qt_cmp rfl rfl rfl) ?_
                                  refine Aw_qw 39 rfl (by kernel_rfl) (by kernel_rfl) (by kernel_rfl) rfl rfl rfl rfl rfl rfl (Qt_move rfl) ?_
                                  refine Aw.known (d := 99) rfl (dcd_neg h19447) ?_
                                  refine Aw_pass 40 rfl (by kernel_rfl) (by kernel_rfl) (by kernel_rfl) rfl rfl rfl rfl rfl rfl rfl ?_
                                  refine Aw_pass 41 rfl (by kernel_rfl) (by kernel_rfl) (by kernel_rfl) rfl rfl rfl rfl rfl rfl rfl ?_
                                  refine Aw_pass 42 rfl (by kernel_rfl) (by kernel_rfl) (by kernel_rfl) rfl rfl rfl rfl rfl rfl rfl ?_
                                  refine Aw_pass 43 rfl (by kernel_rfl) (by kernel_rfl) (by kernel_rfl) rfl rfl rfl rfl rfl rfl rfl ?_
                                  refine Aw_pass 44 rfl (by kernel_rfl) (by kernel_rfl) (by kernel_rfl) rfl rfl rfl rfl rfl rfl rfl ?_
                                  refine Aw_pass 45 rfl (by kernel_rfl) (by kernel_rfl) (by kernel_rfl) rfl rfl rfl rfl rfl rfl rfl ?_
                                  refine Aw_pass 46 rfl (by kernel_rfl) (by kernel_rfl) (by kernel_rfl) rfl rfl rfl rfl rfl rfl rfl ?_
                                  refine Aw_pass 47 rfl (by kernel_rfl) (by kernel_rfl) (by kernel_rfl) rfl rfl rfl rfl rfl rfl rfl ?_
                                  refine Aw_pass 48 rfl (by kernel_rfl) (by kernel_rfl) (by kernel_rfl) rfl rfl rfl rfl rfl rfl rfl ?_
                                  refine Aw_pass 49 rfl (by kernel_rfl) (by kernel_rfl) (by kernel_rfl) rfl rfl rfl rfl rfl rfl rfl ?_
                                  refine Aw_pass 50 rfl (by kernel_rfl) (by kernel_rfl) (by kernel_rfl) rfl rfl rfl rfl rfl rfl rfl ?_
                                  refine Aw_qw 51 rfl (by kernel_rfl) (by kernel_rfl) (by kernel_rfl) rfl rfl rfl rfl rfl rfl (Qt_pick_f rfl rfl) ?_
                                  refine Aw_qw 52 rfl (by kernel_rfl) (by kernel_rfl) (by kernel_rfl) rfl rfl rfl rfl rfl rfl (Qt_pick_f rfl rfl) ?_
                                  refine Aw_q 53 rfl (by kernel_rfl) (by kernel_rfl) (by kernel_rfl) rfl rfl rfl (Qt_pick_t rfl rfl) ?_
                                  refine Aw_done (by kernel_rfl) ?_
                                  refine Shift.pull (.there .here) ?_
                                  refine Shift.pull (.there .here) ?_
                                  refine Shift.done ?_
                                  exact ⟨[(4, (sv v3982)), (5, (sv v3989)), (6, (.int .i64 i11874)), (7, (.int .i64 i15841)), (8, (.int .i64 i17902)), (20, (.int .i64 (x3987.length : Int))), (21, (.int .i64 i11874)), (35, (.int .i64 (x3987.length : Int))), (36, (.int .i64 i15841)), (51, (.int .i64 (x3987.length : Int))), (52, (.int .i64 i17902)), (56, (.int .i64 (x3987.length : Int))), (57, (.int .i64 i18884)), (113, (.bool false))], ⟨rfl, rfl, rfl, rfl, rfl, rfl, rfl, rfl, rfl, rfl, rfl, rfl, rfl, rfl, trivial⟩, false, rfl, rfl, H⟩
                            · intro h19401
                              have h19401 := nt_f (h19401)
                              have H := ift h19401 H
                              rcases bool_ct (dcd (i17902 = i15841)) with hb_ | hb_ <;> revert hb_
                              · intro h19529
                                have h19529 := dcd_t (h19529)
                                have H := ift h19529 H
                                obtain ⟨x19530, hx19531, H⟩ := bnd H
                                obtain ⟨x19536, hx19537, H⟩ := bnd H
                                obtain ⟨x19541, hx19542, H⟩ := bnd H
                                refine Cw_region_any [.tok 36 2 [(sv v3989)], .tok 34 8 [(sv v3982)]] rfl (Inc.cons (.head _) (Inc.cons (.tail _ (.head _)) Inc.nil)) ?_
                                refine Aw_q 0 rfl (by kernel_rfl) (by kernel_rfl) (by kernel_rfl) rfl rfl rfl (Qt_move rfl) ?_
                                refine Aw_q 1 rfl (by kernel_rfl) (by kernel_rfl) (by kernel_rfl) rfl rfl rfl (Qt_move rfl) ?_
                                refine Aw_q 2 rfl (by kernel_rfl) (by kernel_rfl) (by kernel_rfl) rfl rfl rfl (Qt_move rfl) ?_
                                have hs19546 := (hs18398).mono hK18887
                                obtain ⟨r19547, hr19548, hk19549⟩ := Slr.at hs19546 hx19369
                                obtain rfl := hr19548
                                refine Aw_q 3 rfl (by kernel_rfl) (by kernel_rfl) (by kernel_rfl) rfl rfl rfl (Q_ix (T := TyA2Int) hs19546 hx19369 rfl rfl rfl rfl rfl) ?_
                                refine Aw_q 4 rfl (by kernel_rfl) (by kernel_rfl) (by kernel_rfl) rfl rfl rfl (Qt_loadA (m := 2) (cs := (A2Int.cells x19368)) rfl rfl rfl rfl ⟨rfl, Rdc.k hk19549 rfl⟩) ?_
                                refine Aw_q 5 rfl (by kernel_rfl) (by kernel_rfl) (by kernel_rfl) rfl rfl rfl (Qt_move rfl) ?_
                                refine Aw_q 6 rfl (by kernel_rfl) (by kernel_rfl) (by kernel_rfl) rfl rfl rfl (Qt_move rfl) ?_
                                obtain ⟨r19550, hr19551, hk19552⟩ := Slr.at hs19546 hx19375
                                obtain rfl := hr19551
                                refine Aw_q 7 rfl (by kernel_rfl) (by kernel_rfl) (by kernel_rfl) rfl rfl rfl (Q_ix (T := TyA2Int) hs19546 hx19375 rfl rfl rfl rfl rfl) ?_
                                refine Aw_q 8 rfl (by kernel_rfl) (by kernel_rfl) (by kernel_rfl) rfl rfl rfl (Qt_loadA (m := 2) (cs := (A2Int.cells x19374)) rfl rfl rfl rfl ⟨rfl, Rdc.k hk19552 rfl⟩) ?_
                                have hs19553 := (((hs16913).mono hK16915).mono hK17905).mono hK18887
                                refine Aw_one 9 (by kernel_rfl) (Ax_mk rfl rfl (OpW_call rfl Try.call20 rfl rfl (c_M_history_Precedes x3977 v3982 x19368 x19374 x19379 hx19380 _ _ hs19553) ?_))
                                rintro _ K19554 _ hK19555 ⟨rfl, rfl⟩
                                refine ⟨(Inc.cons (.head _) (Inc.cons (.tail _ (.head _)) Inc.nil)), ?_⟩
                                refine Aw_q 10 rfl (by kernel_rfl) (by kernel_rfl) (by kernel_rfl) rfl rfl rfl (Qt_move rfl) ?_
                                refine Aw.known (d := 70) rfl (h19384) ?_
                                refine Aw_qw 11 rfl (by kernel_rfl) (by kernel_rfl) (by kernel_rfl) rfl rfl rfl rfl rfl rfl (Qt_move rfl) ?_
                                refine Aw_qw 12 rfl (by kernel_rfl) (by kernel_rfl) (by kernel_rfl) rfl rfl rfl rfl rfl rfl (Qt_move rfl) ?_
                                refine Aw_qw 13 rfl (by kernel_rfl) (by kernel_rfl) (by kernel_rfl) rfl rfl rfl rfl rfl rfl (Qt_move rfl) ?_
                                obtain ⟨r19556, hr19557, hk19558⟩ := Slr.at hs19546 hx19386
                                obtain rfl := hr19557
                                refine Aw_qw 14 rfl (by kernel_rfl) (by kernel_rfl) (by kernel_rfl) rfl rfl rfl rfl rfl rfl (Q_ix (T := TyA2Int) hs19546 hx19386 rfl rfl rfl rfl rfl) ?_
                                refine Aw_qw 15 rfl (by kernel_rfl) (by kernel_rfl) (by kernel_rfl) rfl rfl rfl rfl rfl rfl (Qt_loadA (m := 2) (cs := (A2Int.cells x19385)) rfl rfl rfl rfl ⟨rfl, Rdc.k hk19558 rfl⟩) ?_
                                refine Aw_qw 16 rfl (by kernel_rfl) (by kernel_rfl) (by kernel_rfl) rfl rfl rfl rfl rfl rfl (Qt_move rfl) ?_
                                refine Aw_qw 17 rfl (by kernel_rfl) (by kernel_rfl) (by kernel_rfl) rfl rfl rfl rfl rfl rfl (Qt_move rfl) ?_
                                obtain ⟨r19559, hr19560, hk19561⟩ := Slr.at hs19546 hx19392
                                obtain rfl := hr19560
                                refine Aw_qw 18 rfl (by kernel_rfl) (by kernel_rfl) (by kernel_rfl) rfl rfl rfl rfl rfl rfl (Q_ix (T := TyA2Int) hs19546 hx19392 rfl rfl rfl rfl rfl) ?_
                                refine Aw_qw 19 rfl (by kernel_rfl) (by kernel_rfl) (by kernel_rfl) rfl rfl rfl rfl rfl rfl (Qt_loadA (m := 2) (cs := (A2Int.cells x19391)) rfl rfl rfl rfl ⟨rfl, Rdc.k hk19561 rfl⟩) ?_
                                have hs19562 := (hs19553).mono hK19555
                                refine Aw_one 20 (by kernel_rfl) (Ax_mkw rfl rfl rfl rfl rfl (OpW_call rfl Try.call20 rfl rfl (c_M_history_Precedes x3977 v3982 x19385 x19391 x19396 hx19397 _ _ hs19562) ?_))
                                rintro _ K19563 _ hK19564 ⟨rfl, rfl⟩
                                refine ⟨(Inc.cons (.head _) (Inc.cons (.tail _ (.head _)) Inc.nil)), ?_⟩
                                refine Aw_qw 21 rfl (by kernel_rfl) (by kernel_rfl) (by kernel_rfl) rfl rfl rfl rfl rfl rfl (Qt_not rfl) ?_
                                refine Aw_qw 22 rfl (by kernel_rfl) (by kernel_rfl) (by kernel_rfl) rfl rfl rfl rfl rfl rfl (Qt_move rfl) ?_
                                refine Aw.known (d := 82) rfl (nt_mf (h19401)) ?_
                                refine Aw_pass 23 rfl (by kernel_rfl) (by kernel_rfl) (by kernel_rfl) rfl rfl rfl rfl rfl rfl rfl ?_
                                refine Aw_pass 24 rfl (by kernel_rfl) (by kernel_rfl) (by kernel_rfl) rfl rfl rfl rfl rfl rfl rfl ?_
                                refine Aw_pass 25 rfl (by kernel_rfl) (by kernel_rfl) (by kernel_rfl) rfl rfl rfl rfl rfl rfl rfl ?_
                                refine Aw_pass 26 rfl (by kernel_rfl) (by kernel_rfl) (by kernel_rfl) rfl rfl rfl rfl rfl rfl rfl ?_
                                refine Aw_pass 27 rfl (by kernel_rfl) (by kernel_rfl) (by kernel_rfl) rfl rfl rfl rfl rfl rfl rfl ?_
                                refine Aw_pass 28 rfl (by kernel_rfl) (by kernel_rfl) (by kernel_rfl) rfl rfl rfl rfl rfl rfl rfl ?_
                                refine Aw_pass 29 rfl (by kernel_rfl) (by kernel_rfl) (by kernel_rfl) rfl rfl rfl rfl rfl rfl rfl ?_
                                refine Aw_pass 30 rfl (by kernel_rfl) (by kernel_rfl) (by kernel_rfl) rfl rfl rfl rfl rfl rfl rfl ?_
                                refine Aw_pass 31 rfl (by kernel_rfl) (by kernel_rfl) (by kernel_rfl) rfl rfl rfl rfl rfl rfl rfl ?_
                                refine Aw_pass 32 rfl (by kernel_rfl) (by kernel_rfl) (by kernel_rfl) rfl rfl rfl rfl rfl rfl rfl ?_
                                refine Aw_pass 33 rfl (by kernel_rfl) (by kernel_rfl) (by kernel_rfl) rfl rfl rfl rfl rfl rfl rfl ?_
                                refine Aw_qw 34 rfl (by kernel_rfl) (by kernel_rfl) (by kernel_rfl) rfl rfl rfl rfl rfl rfl (Qt_pick_f rfl rfl) ?_
                                refine Aw_qw 35 rfl (by kernel_rfl) (by kernel_rfl) (by kernel_rfl) rfl rfl rfl rfl rfl rfl (Qt_move rfl) ?_
                                refine Aw_qw 36 rfl (by kernel_rfl) (by kernel_rfl) (by kernel_rfl) rfl rfl rfl rfl rfl rfl (Qt_move rfl) ?_
                                refine Aw_qw 37 rfl (by kernel_rfl) (by kernel_rfl) (by kernel_rfl) rfl rfl rfl rfl rfl rfl (Qt_move rfl) ?_
                                refine Aw_qw 38 rfl (by kernel_rfl) (by kernel_rfl) (by kernel_rfl) rfl rfl rfl rfl rfl rfl (Qt_cmp rfl rfl rfl) ?_
                                refine Aw_qw 39 rfl (by kernel_rfl) (by kernel_rfl) (by kernel_rfl) rfl rfl rfl rfl rfl rfl (Qt_move rfl) ?_
                                refine Aw.known (d := 99) rfl (dcd_pos h19529) ?_
                                refine Aw_qw 40 rfl (by kernel_rfl) (by kernel_rfl) (by kernel_rfl) rfl rfl rfl rfl rfl rfl (Qt_move rfl) ?_
                                refine Aw_qw 41 rfl (by kernel_rfl) (by kernel_rfl) (by kernel_rfl) rfl rfl rfl rfl rfl rfl (Qt_move rfl) ?_
                                refine Aw_qw 42 rfl (by kernel_rfl) (by kernel_rfl) (by kernel_rfl) rfl rfl rfl rfl rfl rfl (Qt_move rfl) ?_
                                obtain ⟨r19565, hr19566, hk19567⟩ := Slr.at hs19546 hx19531
                                obtain rfl := hr19566
                                refine Aw_qw 43 rfl (by kernel_rfl) (by kernel_rfl) (by kernel_rfl) rfl rfl rfl rfl rfl rfl (Q_ix (T := TyA2Int) hs19546 hx19531 rfl rfl rfl rfl rfl) ?_
                                refine Aw_qw 44 rfl (by kernel_rfl) (by kernel_rfl) (by kernel_rfl) rfl rfl rfl rfl rfl rfl (Qt_loadA (m := 2) (cs := (A2Int.cells x19530)) rfl rfl rfl rfl ⟨rfl, Rdc.k hk19567 rfl⟩) ?_
                                refine Aw_qw 45 rfl (by kernel_rfl) (by kernel_rfl) (by kernel_rfl) rfl rfl rfl rfl rfl rfl (Qt_move rfl) ?_
                                refine Aw_qw 46 rfl (by kernel_rfl) (by kernel_rfl) (by kernel_rfl) rfl rfl rfl rfl rfl rfl (Qt_move rfl) ?_
                                obtain ⟨r19568, hr19569, hk19570⟩ := Slr.at hs19546 hx19537
                                obtain rfl := hr19569
                                refine Aw_qw 47 rfl (by kernel_rfl) (by kernel_rfl) (by kernel_rfl) rfl rfl rfl rfl rfl rfl (Q_ix (T := TyA2Int) hs19546 hx19537 rfl rfl rfl rfl rfl) ?_
                                refine Aw_qw 48 rfl (by kernel_rfl) (by kernel_rfl) (by kernel_rfl) rfl rfl rfl rfl rfl rfl (Qt_loadA (m := 2) (cs := (A2Int.cells x19536)) rfl rfl rfl rfl ⟨rfl, Rdc.k hk19570 rfl⟩) ?_
                                have hs19571 := (hs19562).mono hK19564
                                refine Aw_one 49 (by kernel_rfl) (Ax_mkw rfl rfl rfl rfl rfl (OpW_call rfl Try.call20 rfl rfl (c_M_history_Precedes x3977 v3982 x19530 x19536 x19541 hx19542 _ _ hs19571) ?_))
                                rintro _ K19572 _ hK19573 ⟨rfl, rfl⟩
                                refine ⟨(Inc.cons (.head _) (Inc.cons (.tail _ (.head _)) Inc.nil)), ?_⟩
                                refine Aw_qw 50 rfl (by kernel_rfl) (by kernel_rfl) (by kernel_rfl) rfl rfl rfl rfl rfl rfl (Qt_not rfl) ?_
                                refine Aw_qw 51 rfl (by kernel_rfl) (by kernel_rfl) (by kernel_rfl) rfl rfl rfl rfl rfl rfl (Qt_pick_t rfl rfl) ?_
                                refine Aw_qw 52 rfl (by kernel_rfl) (by kernel_rfl) (by kernel_rfl) rfl rfl rfl rfl rfl rfl (Qt_pick_f rfl rfl) ?_
                                refine Aw_q 53 rfl (by kernel_rfl) (by kernel_rfl) (by kernel_rfl) rfl rfl rfl (Qt_pick_t rfl rfl) ?_
                                refine Aw_done (by kernel_rfl) ?_
                                refine Shift.pull (.there .here) ?_
                                refine Shift.pull (.there .here) ?_
                                refine Shift.done ?_
                                exact ⟨[(4, (sv v3982)), (5, (sv v3989)), (6, (.int .i64 i11874)), (7, (.int .i64 i15841)), (8, (.int .i64 i17902)), (20, (.int .i64 (x3987.length : Int))), (21, (.int .i64 i11874)), (35, (.int .i64 (x3987.length : Int))), (36, (.int .i64 i15841)), (51, (.int .i64 (x3987.length : Int))), (52, (.int .i64 i17902)), (56, (.int .i64 (x3987.length : Int))), (57, (.int .i64 i18884)), (113, (.bool (!(x19541))))], ⟨rfl, rfl, rfl, rfl, rfl, rfl, rfl, rfl, rfl, rfl, rfl, rfl, rfl, rfl, trivial⟩, (!(x19541)), rfl, rfl, H⟩
                              · intro h19529
                                have h19529 := dcd_f (h19529)
                                have H := iff_ h19529 H
                                refine Cw_region_any [.tok 36 2 [(sv v3989)], .tok 34 8 [(sv v3982)]] rfl (Inc.cons (.head _) (Inc.cons (.tail _ (.head _)) Inc.nil)) ?_
                                refine Aw_q 0 rfl (by kernel_rfl) (by kernel_rfl) (by kernel_rfl) rfl rfl rfl (Qt_move rfl) ?_
                                refine Aw_q 1 rfl (by kernel_rfl) (by kernel_rfl) (by kernel_rfl) rfl rfl rfl (Qt_move rfl) ?_
                                refine Aw_q 2 rfl (by kernel_rfl) (by kernel_rfl) (by kernel_rfl) rfl rfl rfl (Qt_move rfl) ?_
                                have hs19574 := (hs18398).mono hK18887
                                obtain ⟨r19575, hr19576, hk19577⟩ := Slr.at hs19574 hx19369
                                obtain rfl := hr19576
                                refine Aw_q 3 rfl (by kernel_rfl) (by kernel_rfl) (by kernel_rfl) rfl rfl rfl (Q_ix (T := TyA2Int) hs19574 hx19369 rfl rfl rfl rfl rfl) ?_
                                refine Aw_q 4 rfl (by kernel_rfl) (by kernel_rfl) (by kernel_rfl) rfl rfl rfl (Qt_loadA (m := 2) (cs := (A2Int.cells x19368)) rfl rfl rfl rfl ⟨rfl, Rdc.k hk19577 rfl⟩) ?_
                                refine Aw_q 5 rfl (by kernel_rfl) (by kernel_rfl) (by kernel_rfl) rfl rfl rfl (Qt_move rfl) ?_
                                refine Aw_q 6 rfl (by kernel_rfl) (by kernel_rfl) (by kernel_rfl) rfl rfl rfl (Qt_move rfl) ?_
                                obtain ⟨r19578, hr19579, hk19580⟩ := Slr.at hs19574 hx19375
                                obtain rfl := hr19579
                                refine Aw_q 7 rfl (by kernel_rfl) (by kernel_rfl) (by kernel_rfl) rfl rfl rfl (Q_ix (T := TyA2Int) hs19574 hx19375 rfl rfl rfl rfl rfl) ?_
                                refine Aw_q 8 rfl (by kernel_rfl) (by kernel_rfl) (by kernel_rfl) rfl rfl rfl (Qt_loadA (m := 2) (cs := (A2Int.cells x19374)) rfl rfl rfl rfl ⟨rfl, Rdc.k hk19580 rfl⟩) ?_
                                have hs19581 := (((hs16913).mono hK16915).mono hK17905).mono hK18887
                                refine Aw_one 9 (by kernel_rfl) (Ax_mk rfl rfl (OpW_call rfl Try.call20 rfl rfl (c_M_history_Precedes x3977 v3982 x19368 x19374 x19379 hx19380 _ _ hs19581) ?_))
                                rintro _ K19582 _ hK19583 ⟨rfl, rfl⟩
                                refine ⟨(Inc.cons (.head _) (Inc.cons (.tail _ (.head _)) Inc.nil)), ?_⟩
                                refine Aw_q 10 rfl (by kernel_rfl) (by kernel_rfl) (by kernel_rfl) rfl rfl rfl (Qt_move rfl) ?_
                                refine Aw.known (d := 70) rfl (h19384) ?_
                                refine Aw_qw 11 rfl (by kernel_rfl) (by kernel_rfl) (by kernel_rfl) rfl rfl rfl rfl rfl rfl (Qt_move rfl) ?_
                                refine Aw_qw 12 rfl (by kernel_rfl) (by kernel_rfl) (by kernel_rfl) rfl rfl rfl rfl rfl rfl (Qt_move rfl) ?_
                                refine Aw_qw 13 rfl (by kernel_rfl) (by kernel_rfl) (by kernel_rfl) rfl rfl rfl rfl rfl rfl (Qt_move rfl) ?_
                                obtain ⟨r19584, hr19585, hk19586⟩ := Slr.at hs19574 hx19386
                                obtain rfl := hr19585
                                refine Aw_qw 14 rfl (by kernel_rfl) (by kernel_rfl) (by kernel_rfl) rfl rfl rfl rfl rfl rfl (Q_ix (T := TyA2Int) hs19574 hx19386 rfl rfl rfl rfl rfl) ?_
                                refine Aw_qw 15 rfl (by kernel_rfl) (by kernel_rfl) (by kernel_rfl) rfl rfl rfl rfl rfl rfl (Qt_loadA (m := 2) (cs := (A2Int.cells x19385)) rfl rfl rfl rfl ⟨rfl, Rdc.k hk19586 rfl⟩) ?_
                                refine Aw_qw 16 rfl (by kernel_rfl) (by kernel_rfl) (by kernel_rfl) rfl rfl rfl rfl rfl rfl (Qt_move rfl) ?_
                                refine Aw_qw 17 rfl (by kernel_rfl) (by kernel_rfl) (by kernel_rfl) rfl rfl rfl rfl rfl rfl (Qt_move rfl) ?_
                                obtain ⟨r19587, hr19588, hk19589⟩ := Slr.at hs19574 hx19392
                                obtain rfl := hr19588
                                refine Aw_qw 18 rfl (by kernel_rfl) (by kernel_rfl) (by kernel_rfl) rfl rfl rfl rfl rfl rfl (Q_ix (T := TyA2Int) hs19574 hx19392 rfl rfl rfl rfl rfl) ?_
                                refine Aw_qw 19 rfl (by kernel_rfl) (by kernel_rfl) (by kernel_rfl) rfl rfl rfl rfl rfl rfl (Qt_loadA (m := 2) (cs := (A2Int.cells x19391)) rfl rfl rfl rfl ⟨rfl, Rdc.k hk19589 rfl⟩) ?_
                                have hs19590 := (hs19581).mono hK19583
                                refine Aw_one 20 (by kernel_rfl) (Ax_mkw rfl rfl rfl rfl rfl (OpW_call rfl Try.call20 rfl rfl (c_M_history_Precedes x3977 v3982 x19385 x19391 x19396 hx19397 _ _ hs19590) ?_))
                                rintro _ K19591 _ hK19592 ⟨rfl, rfl⟩
                                refine ⟨(Inc.cons (.head _) (Inc.cons (.tail _ (.head _)) Inc.nil)), ?_⟩
                                refine Aw_qw 21 rfl (by kernel_rfl) (by kernel_rfl) (by kernel_rfl) rfl rfl rfl rfl rfl rfl (Qt_not rfl) ?_
                                refine Aw_qw 22 rfl (by kernel_rfl) (by kernel_rfl) (by kernel_rfl) rfl rfl rfl rfl rfl rfl (Qt_move rfl) ?_
                                refine Aw.known (d := 82) rfl (nt_mf (h19401)) ?_
                                refine Aw_pass 23 rfl (by kernel_rfl) (by kernel_rfl) (by kernel_rfl) rfl rfl rfl rfl rfl rfl rfl ?_
                                refine Aw_pass 24 rfl (by kernel_rfl) (by kernel_rfl) (by kernel_rfl) rfl rfl rfl rfl rfl rfl rfl ?_
                                refine Aw_pass 25 rfl (by kernel_rfl) (by kernel_rfl) (by kernel_rfl) rfl rfl rfl rfl rfl rfl rfl ?_
                                refine Aw_pass 26 rfl (by kernel_rfl) (by kernel_rfl) (by kernel_rfl) rfl rfl rfl rfl rfl rfl rfl ?_
                                refine Aw_pass 27 rfl (by kernel_rfl) (by kernel_rfl) (by kernel_rfl) rfl rfl rfl rfl rfl rfl rfl ?_
                                refine Aw_pass 28 rfl (by kernel_rfl) (by kernel_rfl) (by kernel_rfl) rfl rfl rfl rfl rfl rfl rfl ?_
                                refine Aw_pass 29 rfl (by kernel_rfl) (by kernel_rfl) (by kernel_rfl) rfl rfl rfl rfl rfl rfl rfl ?_
                                refine Aw_pass 30 rfl (by kernel_rfl) (by kernel_rfl) (by kernel_rfl) rfl rfl rfl rfl rfl rfl rfl ?_
                                refine Aw_pass 31 rfl (by kernel_rfl) (by kernel_rfl) (by kernel_rfl) rfl rfl rfl rfl rfl rfl rfl ?_
                                refine Aw_pass 32 rfl (by kernel_rfl) (by kernel_rfl) (by kernel_rfl) rfl rfl rfl rfl rfl rfl rfl ?_
                                refine Aw_pass 33 rfl (by kernel_rfl) (by kernel_rfl) (by kernel_rfl) rfl rfl rfl rfl rfl rfl rfl ?_
                                refine Aw_qw 34 rfl (by kernel_rfl) (by kernel_rfl) (by kernel_rfl) rfl rfl rfl rfl rfl rfl (Qt_pick_f rfl rfl) ?_
                                refine Aw_qw 35 rfl (by kernel_rfl) (by kernel_rfl) (by kernel_rfl) rfl rfl rfl rfl rfl rfl (Qt_move rfl) ?_
                                refine Aw_qw 36 rfl (by kernel_rfl) (by kernel_rfl) (by kernel_rfl) rfl rfl rfl rfl rfl rfl (Qt_move rfl) ?_
                                refine Aw_qw 37 rfl (by kernel_rfl) (by kernel_rfl) (by kernel_rfl) rfl rfl rfl rfl rfl rfl (Qt_move rfl) ?_
                                refine Aw_qw 38 rfl (by kernel_rfl) (by kernel_rfl) (by kernel_rfl) rfl rfl rfl rfl rfl rfl (Qt_cmp rfl rfl rfl) ?_
                                refine Aw_qw 39 rfl (by kernel_rfl) (by kernel_rfl) (by kernel_rfl) rfl rfl rfl rfl rfl rfl (Qt_move rfl) ?_
                                refine Aw.known (d := 99) rfl (dcd_neg h19529) ?_
                                refine Aw_pass 40 rfl (by kernel_rfl) (by kernel_rfl) (by kernel_rfl) rfl rfl rfl rfl rfl rfl rfl ?_
                                refine Aw_pass 41 rfl (by kernel_rfl) (by kernel_rfl) (by kernel_rfl) rfl rfl rfl rfl rfl rfl rfl ?_
                                refine Aw_pass 42 rfl (by kernel_rfl) (by kernel_rfl) (by kernel_rfl) rfl rfl rfl rfl rfl rfl rfl ?_
                                refine Aw_pass 43 rfl (by kernel_rfl) (by kernel_rfl) (by kernel_rfl) rfl rfl rfl rfl rfl rfl rfl ?_
                                refine Aw_pass 44 rfl (by kernel_rfl) (by kernel_rfl) (by kernel_rfl) rfl rfl rfl rfl rfl rfl rfl ?_
                                refine Aw_pass 45 rfl (by kernel_rfl) (by kernel_rfl) (by kernel_rfl) rfl rfl rfl rfl rfl rfl rfl ?_
                                refine Aw_pass 46 rfl (by kernel_rfl) (by kernel_rfl) (by kernel_rfl) rfl rfl rfl rfl rfl rfl rfl ?_
                                refine Aw_pass 47 rfl (by kernel_rfl) (by kernel_rfl) (by kernel_rfl) rfl rfl rfl rfl rfl rfl rfl ?_
                                refine Aw_pass 48 rfl (by kernel_rfl) (by kernel_rfl) (by kernel_rfl) rfl rfl rfl rfl rfl rfl rfl ?_
                                refine Aw_pass 49 rfl (by kernel_rfl) (by kernel_rfl) (by kernel_rfl) rfl rfl rfl rfl rfl rfl rfl ?_
                                refine Aw_pass 50 rfl (by kernel_rfl) (by kernel_rfl) (by kernel_rfl) rfl rfl rfl rfl rfl rfl rfl ?_
                                refine Aw_qw 51 rfl (by kernel_rfl) (by kernel_rfl) (by kernel_rfl) rfl rfl rfl rfl rfl rfl (Qt_pick_f rfl rfl) ?_
                                refine Aw_qw 52 rfl (by kernel_rfl) (by kernel_rfl) (by kernel_rfl) rfl rfl rfl rfl rfl rfl (Qt_pick_f rfl rfl) ?_
                                refine Aw_q 53 rfl (by kernel_rfl) (by kernel_rfl) (by kernel_rfl) rfl rfl rfl (Qt_pick_t rfl rfl) ?_
                                refine Aw_done (by kernel_rfl) ?_
                                refine Shift.pull (.there .here) ?_
                                refine Shift.pull (.there .here) ?_
                                refine Shift.done ?_
                                exact ⟨[(4, (sv v3982)), (5, (sv v3989)), (6, (.int .i64 i11874)), (7, (.int .i64 i15841)), (8, (.int .i64 i17902)), (20, (.int .i64 (x3987.length : Int))), (21, (.int .i64 i11874)), (35, (.int .i64 (x3987.length : Int))), (36, (.int .i64 i15841)), (51, (.int .i64 (x3987.length : Int))), (52, (.int .i64 i17902)), (56, (.int .i64 (x3987.length : Int))), (57, (.int .i64 i18884)), (113, (.bool false))], ⟨rfl, rfl, rfl, rfl, rfl, rfl, rfl, rfl, rfl, rfl, rfl, rfl, rfl, rfl, trivial⟩, false, rfl, rfl, H⟩
                          · intro h19384
                            have H := iff_ (btf h19384) H
                            refine Cw_region_any [.tok 36 2 [(sv v3989)], .tok 34 8 [(sv v3982)]] rfl (Inc.cons (.head _) (Inc.cons (.tail _ (.head _)) Inc.nil)) ?_
                            refine Aw_q 0 rfl (by kernel_rfl) (by kernel_rfl) (by kernel_rfl) rfl rfl rfl (Qt_move rfl) ?_
                            refine Aw_q 1 rfl (by kernel_rfl) (by kernel_rfl) (by kernel_rfl) rfl rfl rfl (Qt_move rfl) ?_
                            refine Aw_q 2 rfl (by kernel_rfl) (by kernel_rfl) (by kernel_rfl) rfl rfl rfl (Qt_move rfl) ?_
                            have hs19593 := (hs18398).mono hK18887
                            obtain ⟨r19594, hr19595, hk19596⟩ := Slr.at hs19593 hx19369
                            obtain rfl := hr19595
                            refine Aw_q 3 rfl (by kernel_rfl) (by kernel_rfl) (by kernel_rfl) rfl rfl rfl (Q_ix (T := TyA2Int) hs19593 hx19369 rfl rfl rfl rfl rfl) ?_
                            refine Aw_q 4 rfl (by kernel_rfl) (by kernel_rfl) (by kernel_rfl) rfl rfl rfl (Qt_loadA (m := 2) (cs := (A2Int.cells x19368)) rfl rfl rfl rfl ⟨rfl, Rdc.k hk19596 rfl⟩) ?_
                            refine Aw_q 5 rfl (by kernel_rfl) (by kernel_rfl) (by kernel_rfl) rfl rfl rfl (Qt_move rfl) ?_
                            refine Aw_q 6 rfl (by kernel_rfl) (by kernel_rfl) (by kernel_rfl) rfl rfl rfl (Qt_move rfl) ?_
                            obtain ⟨r19597, hr19598, hk19599⟩ := Slr.at hs19593 hx19375
                            obtain rfl := hr19598
                            refine Aw_q 7 rfl (by kernel_rfl) (by kernel_rfl) (by kernel_rfl) rfl rfl rfl (Q_ix (T := TyA2Int) hs19593 hx19375 rfl rfl rfl rfl rfl) ?_
                            refine Aw_q 8 rfl (by kernel_rfl) (by kernel_rfl) (by kernel_rfl) rfl rfl rfl (Qt_loadA (m := 2) (cs := (A2Int.cells x19374)) rfl rfl rfl rfl ⟨rfl, Rdc.k hk19599 rfl⟩) ?_
                            have hs19600 := (((hs16913).mono hK16915).mono hK17905).mono hK18887
                            refine Aw_one 9 (by kernel_rfl) (Ax_mk rfl rfl (OpW_call rfl Try.call20 rfl rfl (c_M_history_Precedes x3977 v3982 x19368 x19374 x19379 hx19380 _ _ hs19600) ?_))
                            rintro _ K19601 _ hK19602 ⟨rfl, rfl⟩
                            refine ⟨(Inc.cons (.head _) (Inc.cons (.tail _ (.head _)) Inc.nil)), ?_⟩
                            refine Aw_q 10 rfl (by kernel_rfl) (by kernel_rfl) (by kernel_rfl) rfl rfl rfl (Qt_move rfl) ?_
                            refine Aw.known (d := 70) rfl (h19384) ?_
                            refine Aw_pass 11 rfl (by kernel_rfl) (by kernel_rfl) (by kernel_rfl) rfl rfl rfl rfl rfl rfl rfl ?_
                            refine Aw_pass 12 rfl (by kernel_rfl) (by kernel_rfl) (by kernel_rfl) rfl rfl rfl rfl rfl rfl rfl ?_
                            refine Aw_pass 13 rfl (by kernel_rfl) (by kernel_rfl) (by kernel_rfl) rfl rfl rfl rfl rfl rfl rfl ?_
                            refine Aw_pass 14 rfl (by kernel_rfl) (by kernel_rfl) (by kernel_rfl) rfl rfl rfl rfl rfl rfl rfl ?_
                            refine Aw_pass 15 rfl (by kernel_rfl) (by kernel_rfl) (by kernel_rfl) rfl rfl rfl rfl rfl rfl rfl ?_
                            refine Aw_pass 16 rfl (by kernel_rfl) (by kernel_rfl) (by kernel_rfl) rfl rfl rfl rfl rfl rfl rfl ?_
                            refine Aw_pass 17 rfl (by kernel_rfl) (by kernel_rfl) (by kernel_rfl) rfl rfl rfl rfl rfl rfl rfl ?_
                            refine Aw_pass 18 rfl (by kernel_rfl) (by kernel_rfl) (by kernel_rfl) rfl rfl rfl rfl rfl rfl rfl ?_
                            refine Aw_pass 19 rfl (by kernel_rfl) (by kernel_rfl) (by kernel_rfl) rfl rfl rfl rfl rfl rfl rfl ?_
                            refine Aw_pass 20 rfl (by kernel_rfl) (by kernel_rfl) (by kernel_rfl) rfl rfl rfl rfl rfl rfl rfl ?_
                            refine Aw_pass 21 rfl (by kernel_rfl) (by kernel_rfl) (by kernel_rfl) rfl rfl rfl rfl rfl rfl rfl ?_
                            refine Aw_pass 22 rfl (by kernel_rfl) (by kernel_rfl) (by kernel_rfl) rfl rfl rfl rfl rfl rfl rfl ?_
                            refine Aw_passU 23 rfl (by kernel_rfl) (by kernel_rfl) (by kernel_rfl) rfl rfl rfl rfl rfl ?_
                            refine Aw_passU 24 rfl (by kernel_rfl) (by kernel_rfl) (by kernel_rfl) rfl rfl rfl rfl rfl ?_
                            refine Aw_passU 25 rfl (by kernel_rfl) (by kernel_rfl) (by kernel_rfl) rfl rfl rfl rfl rfl ?_
                            refine Aw_passU 26 rfl (by kernel_rfl) (by kernel_rfl) (by kernel_rfl) rfl rfl rfl rfl rfl ?_
                            refine Aw_passU 27 rfl (by kernel_rfl) (by kernel_rfl) (by kernel_rfl) rfl rfl rfl rfl rfl ?_
                            refine Aw_passU 28 rfl (by kernel_rfl) (by kernel_rfl) (by kernel_rfl) rfl rfl rfl rfl rfl ?_
                            refine Aw_passU 29 rfl (by kernel_rfl) (by kernel_rfl) (by kernel_rfl) rfl rfl rfl rfl rfl ?_
                            refine Aw_passU 30 rfl (by kernel_rfl) (by kernel_rfl) (by kernel_rfl) rfl rfl rfl rfl rfl ?_
                            refine Aw_passU 31 rfl (by kernel_rfl) (by kernel_rfl) (by kernel_rfl) rfl rfl rfl rfl rfl ?_
                            refine Aw_passU 32 rfl (by kernel_rfl) (by kernel_rfl) (by kernel_rfl) rfl rfl rfl rfl rfl ?_
                            refine Aw_passU 33 rfl (by kernel_rfl) (by kernel_rfl) (by kernel_rfl) rfl rfl rfl rfl rfl ?_
                            refine Aw_pass 34 rfl (by kernel_rfl) (by kernel_rfl) (by kernel_rfl) rfl rfl rfl rfl rfl rfl rfl ?_
                            refine Aw_pass 35 rfl (by kernel_rfl) (by kernel_rfl) (by kernel_rfl) rfl rfl rfl rfl rfl rfl rfl ?_
                            refine Aw_passU 36 rfl (by kernel_rfl) (by kernel_rfl) (by kernel_rfl) rfl rfl rfl rfl rfl ?_
                            refine Aw_passU 37 rfl (by kernel_rfl) (by kernel_rfl) (by kernel_rfl) rfl rfl rfl rfl rfl ?_
                            refine Aw_passU 38 rfl (by kernel_rfl) (by kernel_rfl) (by kernel_rfl) rfl rfl rfl rfl rfl ?_
                            refine Aw_passU 39 rfl (by kernel_rfl) (by kernel_rfl) (by kernel_rfl) rfl rfl rfl rfl rfl ?_
                            refine Aw_passU 40 rfl (by kernel_rfl) (by kernel_rfl) (by kernel_rfl) rfl rfl rfl rfl rfl ?_
                            refine Aw_passU 41 rfl (by kernel_rfl) (by kernel_rfl) (by kernel_rfl) rfl rfl rfl rfl rfl ?_
                            refine Aw_passU 42 rfl (by kernel_rfl) (by kernel_rfl) (by kernel_rfl) rfl rfl rfl rfl rfl ?_
                            refine Aw_passU 43 rfl (by kernel_rfl) (by kernel_rfl) (by kernel_rfl) rfl rfl rfl rfl rfl ?_
                            refine Aw_passU 44 rfl (by kernel_rfl) (by kernel_rfl) (by kernel_rfl) rfl rfl rfl rfl rfl ?_
                            refine Aw_passU 45 rfl (by kernel_rfl) (by kernel_rfl) (by kernel_rfl) rfl rfl rfl rfl rfl ?_
                            refine Aw_passU 46 rfl (by kernel_rfl) (by kernel_rfl) (by kernel_rfl) rfl rfl rfl rfl rfl ?_
                            refine Aw_passU 47 rfl (by kernel_rfl) (by kernel_rfl) (by kernel_rfl) rfl rfl rfl rfl rfl ?_
                            refine Aw_passU 48 rfl (by kernel_rfl) (by kernel_rfl) (by kernel_rfl) rfl rfl rfl rfl rfl ?_
                            refine Aw_passU 49 rfl (by kernel_rfl) (by kernel_rfl) (by kernel_rfl) rfl rfl rfl rfl rfl ?_
                            refine Aw_passU 50 rfl (by kernel_rfl) (by kernel_rfl) (by kernel_rfl) rfl rfl rfl rfl rfl ?_
                            refine Aw_passU 51 rfl (by kernel_rfl) (by kernel_rfl) (by kernel_rfl) rfl rfl rfl rfl rfl ?_
                            refine Aw_pass 52 rfl (by kernel_rfl) (by kernel_rfl) (by kernel_rfl) rfl rfl rfl rfl rfl rfl rfl ?_
                            refine Aw_q 53 rfl (by kernel_rfl) (by kernel_rfl) (by kernel_rfl) rfl rfl rfl (Qt_pick_f rfl rfl) ?_
                            refine Aw_done (by kernel_rfl) ?_
                            refine Shift.pull (.there .here) ?_
                            refine Shift.pull (.there .here) ?_
                            refine Shift.done ?_
                            exact ⟨[(4, (sv v3982)), (5, (sv v3989)), (6, (.int .i64 i11874)), (7, (.int .i64 i15841)), (8, (.int .i64 i17902)), (20, (.int .i64 (x3987.length : Int))), (21, (.int .i64 i11874)), (35, (.int .i64 (x3987.length : Int))), (36, (.int .i64 i15841)), (51, (.int .i64 (x3987.length : Int))), (52, (.int .i64 i17902)), (56, (.int .i64 (x3987.length : Int))), (57, (.int .i64 i18884)), (113, (.bool false))], ⟨rfl, rfl, rfl, rfl, rfl, rfl, rfl, rfl, rfl, rfl, rfl, rfl, rfl, rfl, trivial⟩, false, rfl, rfl, H⟩
                        rintro _ K19603 _ hK19604 ⟨t19367, rfl, rfl, H⟩
                        unfold M_law16_HistoryOrders_J5 at H
                        refine Cw_cond rfl ?_ ?_
                        · intro h19605
                          have H := ift h19605 H
                          refine Cw_seq ?_
                          refine Cw_region ?_
                          refine Ow_q rfl rfl rfl (Qt_assign rfl) ?_
                          refine Ow_nil ?_
                          refine Cw_ret ?_
                          obtain ey0 := inj1 H
                          subst y0
                          refine ⟨(by first | exact .inl rfl | exact .inr rfl), [(.bool false)], ⟨(.bool false), _, rfl, rfl, rfl⟩, ?_⟩
                          refine Shift.rem .here ?_
                          refine Shift.rem .here ?_
                          refine Shift.done ?_
                          exact ⟨rfl, rfl⟩
                        · intro h19605
                          have H := iff_ (btf h19605) H
                          refine Cw_skip ?_
                          refine Cw_region ?_
                          refine Ow_q rfl rfl rfl (Qt_arith (e := wI (i18884 + 1)) rfl rfl rfl rfl) ?_
                          refine Ow_q rfl rfl rfl (Qt_move rfl) ?_
                          refine Ow_nil ?_
                          refine Shift.pull (.there .here) ?_
                          refine Shift.pull (.there .here) ?_
                          refine Shift.done ?_
                          exact ⟨[(4, (sv v3982)), (5, (sv v3989)), (6, (.int .i64 i11874)), (7, (.int .i64 i15841)), (8, (.int .i64 i17902)), (20, (.int .i64 (x3987.length : Int))), (21, (.int .i64 i11874)), (35, (.int .i64 (x3987.length : Int))), (36, (.int .i64 i15841)), (51, (.int .i64 (x3987.length : Int))), (52, (.int .i64 i17902)), (56, (.int .i64 (x3987.length : Int))), (57, (.int .i64 (wI (i18884 + 1))))], ⟨rfl, rfl, rfl, rfl, rfl, rfl, rfl, rfl, rfl, rfl, rfl, rfl, rfl, trivial⟩, _, Nat.lt_succ_self _, (wI (i18884 + 1)), rfl, rfl, (hkk18890 ▸ H)⟩
                      · intro h18892
                        have h18892 := dcd_f (h18892)
                        have H := iff_ h18892 H
                        refine Cw_exit ?_
                        refine Shift.pull (.there .here) ?_
                        refine Shift.pull (.there .here) ?_
                        refine Shift.done ?_
                        exact ⟨[(4, (sv v3982)), (5, (sv v3989)), (6, (.int .i64 i11874)), (7, (.int .i64 i15841)), (20, (.int .i64 (x3987.length : Int))), (21, (.int .i64 i11874)), (35, (.int .i64 (x3987.length : Int))), (36, (.int .i64 i15841)), (51, (.int .i64 (x3987.length : Int))), (52, (.int .i64 i17902))], ⟨rfl, rfl, rfl, rfl, rfl, rfl, rfl, rfl, rfl, rfl, trivial⟩, rfl, rfl, H⟩
                    rintro _ K19606 _ hK19607 ⟨rfl, rfl, H⟩
                    unfold M_law16_HistoryOrders_J4 at H
                    refine Cw_region ?_
                    refine Ow_q rfl rfl rfl (Qt_arith (e := wI (i17902 + 1)) rfl rfl rfl rfl) ?_
                    refine Ow_q rfl rfl rfl (Qt_move rfl) ?_
                    refine Ow_nil ?_
                    refine Shift.pull (.there .here) ?_
                    refine Shift.pull (.there .here) ?_
                    refine Shift.done ?_
                    exact ⟨[(4, (sv v3982)), (5, (sv v3989)), (6, (.int .i64 i11874)), (7, (.int .i64 i15841)), (20, (.int .i64 (x3987.length : Int))), (21, (.int .i64 i11874)), (35, (.int .i64 (x3987.length : Int))), (36, (.int .i64 i15841)), (51, (.int .i64 (x3987.length : Int))), (52, (.int .i64 (wI (i17902 + 1))))], ⟨rfl, rfl, rfl, rfl, rfl, rfl, rfl, rfl, rfl, rfl, trivial⟩, _, Nat.lt_succ_self _, (wI (i17902 + 1)), rfl, rfl, (hkk17908 ▸ H)⟩
                  · intro h17910
                    have h17910 := dcd_f (h17910)
                    have H := iff_ h17910 H
                    refine Cw_exit ?_
                    refine Shift.pull (.there .here) ?_
                    refine Shift.pull (.there .here) ?_
                    refine Shift.done ?_
                    exact ⟨[(4, (sv v3982)), (5, (sv v3989)), (6, (.int .i64 i11874)), (20, (.int .i64 (x3987.length : Int))), (21, (.int .i64 i11874)), (35, (.int .i64 (x3987.length : Int))), (36, (.int .i64 i15841))], ⟨rfl, rfl, rfl, rfl, rfl, rfl, rfl, trivial⟩, rfl, rfl, H⟩
              rintro _ K19608 _ hK19609 ⟨rfl, rfl, H⟩
              unfold M_law16_HistoryOrders_J3 at H
              refine Cw_region ?_
              refine Ow_q rfl rfl rfl (Qt_arith (e := wI (i15841 + 1)) rfl rfl rfl rfl) ?_
              refine Ow_q rfl rfl rfl (Qt_move rfl) ?_
              refine Ow_nil ?_
              refine Shift.pull (.there .here) ?_
              refine Shift.pull (.there .here) ?_
              refine Shift.done ?_
              exact ⟨[(4, (sv v3982)), (5, (sv v3989)), (6, (.int .i64 i11874)), (20, (.int .i64 (x3987.length : Int))), (21, (.int .i64 i11874)), (35, (.int .i64 (x3987.length : Int))), (36, (.int .i64 (wI (i15841 + 1))))], ⟨rfl, rfl, rfl, rfl, rfl, rfl, rfl, trivial⟩, _, Nat.lt_succ_self _, (wI (i15841 + 1)), rfl, rfl, (hkk15847 ▸ H)⟩
            · intro h15849
              have h15849 := dcd_f (h15849)
              have H := iff_ h15849 H
              refine Cw_exit ?_
              refine Shift.pull (.there .here) ?_
              refine Shift.pull (.there .here) ?_
              refine Shift.done ?_
              exact ⟨[(4, (sv v3982)), (5, (sv v3989)), (20, (.int .i64 (x3987.length : Int))), (21, (.int .i64 i11874))], ⟨rfl, rfl, rfl, rfl, trivial⟩, rfl, rfl, H⟩
        rintro _ K19610 _ hK19611 ⟨rfl, rfl, H⟩
        unfold M_law16_HistoryOrders_J2 at H
        refine Cw_region ?_
        refine Ow_q rfl rfl rfl (Qt_arith (e := wI (i11874 + 1)) rfl rfl rfl rfl) ?_
        refine Ow_q rfl rfl rfl (Qt_move rfl) ?_
        refine Ow_nil ?_
        refine Shift.pull (.there .here) ?_
        refine Shift.pull (.there .here) ?_
        refine Shift.done ?_
        exact ⟨[(4, (sv v3982)), (5, (sv v3989)), (20, (.int .i64 (x3987.length : Int))), (21, (.int .i64 (wI (i11874 + 1))))], ⟨rfl, rfl, rfl, rfl, trivial⟩, _, Nat.lt_succ_self _, (wI (i11874 + 1)), rfl, rfl, (hkk11880 ▸ H)⟩
      · intro h11882
        have h11882 := dcd_f (h11882)
        have H := iff_ h11882 H
        refine Cw_exit ?_
        refine Shift.rem .here ?_
        refine Shift.rem .here ?_
        refine Shift.done ?_
        exact ⟨[], trivial, rfl, rfl, H⟩
    rintro _ K19612 _ hK19613 ⟨rfl, rfl, H⟩
    unfold M_law16_HistoryOrders_J1 at H
    refine Cw_seq ?_
    refine Cw_region ?_
    refine Ow_q rfl rfl rfl (Qt_assign rfl) ?_
    refine Ow_nil ?_
    refine Cw_ret ?_
    obtain ey0 := inj1 H
    subst y0
    refine ⟨(by first | exact .inl rfl | exact .inr rfl), [(.bool true)], ⟨(.bool true), _, rfl, rfl, rfl⟩, ?_⟩
    refine Shift.done ?_
    exact ⟨rfl, rfl⟩


end Go.Hx
