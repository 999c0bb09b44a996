/- Printed by program. -/
import Derived.Test.YthpjaddchdnejaaXBM
import Derived.Test.YthpjaddchdnejaaXBWRef18
import Derived.Test.YthpjaddchdnejaaXBWRef4
namespace Go.Hx
open Go Go.Proofs
set_option linter.unusedSimpArgs false
set_option linter.unusedVariables false
set_option maxRecDepth 10000
set_option maxHeartbeats 1000000 in
theorem c_M_ref18_Races (p0 : List Item) (vp0 : SV) (p1 : Int) (y0 : List A2Int) (H : M_ref18_Races p0 p1 = some y0) (K : Kp) (G : List Ent) (hp0 : Slr TyItem K (sv vp0) p0) :
    Fc Try.prog 44 #[(sv vp0), (.int .i64 p1)] K (G) (fun v K' G' => ∃ (wy0 : SV), v = (sv wy0) ∧ (.tok 36 2 [(sv wy0)]) :: G = G' ∧ Slr TyA2Int K' (sv wy0) y0) := by
  refine Fc_body Try.func44 rfl Try.ntmps44 Try.results44 rfl ?_
  unfold M_ref18_Races at H
  refine Cw_seq ?_
  refine Cw_region ?_
  refine Ow_q rfl rfl rfl (Qt_assign rfl) ?_
  refine Ow_nil ?_
  refine Cw_seq ?_
  refine Cw_region ?_
  refine Ow_q rfl rfl rfl (Qt_move rfl) ?_
  refine Ow_q rfl rfl rfl (Qt_move rfl) ?_
  obtain ⟨x230, hx231, H⟩ := bnd H
  refine Ow_cons rfl (OpW_call rfl Try.call36 rfl rfl (c_M_ref18_Clocks p0 vp0 p1 x230 hx231 _ _ hp0) ?_)
  rintro _ K233 _ hK234 ⟨v232, rfl, rfl, hs235⟩
  refine Ow_q rfl rfl rfl (Qt_assign rfl) ?_
  refine Ow_nil ?_
  refine Cw_seq ?_
  refine Cw_region ?_
  refine Ow_q rfl rfl rfl (Qt_assign rfl) ?_
  refine Ow_nil ?_
  refine Cw_join (fun env' K' G' => ∃ (v451 : SV) (l452 : List A2Int), [(6, (sv v451))] = env' ∧ (.tok 36 2 [(sv v451)]) :: G = G' ∧ M_ref18_Races_J1 l452 = some y0 ∧ Slr TyA2Int K' (sv v451) l452) ?_ ?_
  · skip
    refine Cw_seq ?_
    refine Cw_region ?_
    refine Ow_q rfl rfl rfl (Qt_assign rfl) ?_
    refine Ow_nil ?_
    refine Cw_block ?_
    refine Cw_loopM (fun n669 env' K' G' => ∃ (v665 : SV) (l666 : List A2Int) (i668 : Int), [(0, (sv vp0)), (5, (sv v232)), (6, (sv v665)), (7, (.int .i64 i668))] = env' ∧ (.tok 36 2 [(sv v665)]) :: (.tok 44 1 [(sv v232)]) :: G = G' ∧ lp2 (M_ref18_Races_L1 p0 x230) n669 l666 i668 = some y0 ∧ Slr TyA2Int K' (sv v665) l666) BIG ?_ ?_
    · skip
      refine Shift.nilTok1 36 2 ?_
      refine Shift.pull (.there .here) ?_
      refine Shift.pull (.there .here) ?_
      refine Shift.done ?_
      exact ⟨[(0, (sv vp0)), (5, (sv v232)), (6, (sv nilS)), (7, (.int .i64 0))], ⟨rfl, rfl, rfl, rfl, trivial⟩, nilS, ([] : List A2Int), 0, rfl, rfl, H, (Slr.nil TyA2Int _)⟩
    rintro n669 _ K670 _ hK671 ⟨v665, l666, i668, rfl, rfl, H, hs667⟩
    obtain ⟨m672, k673, rfl, hkk674, H⟩ := lps2 H
    unfold M_ref18_Races_L1 at H
    refine Cw_seq ?_
    refine Cw_seq ?_
    refine Cw_region ?_
    refine Ow_q rfl rfl rfl (Qt_move rfl) ?_
    refine Ow_q rfl rfl rfl (Qt_move rfl) ?_
    have hs677 := ((hp0).mono hK234).mono hK671
    refine Ow_q rfl rfl rfl (Q_len (T := TyItem) hs677 rfl rfl) ?_
    refine Ow_q rfl rfl rfl (Qt_cmp rfl rfl rfl) ?_
    refine Ow_nil ?_
    refine Cw_cond rfl ?_ ?_
    · intro h678
      have h678 := dcd_t (h678)
      have H := ift h678 H
      refine Cw_skip ?_
      refine Cw_join (fun env' K' G' => ∃ (v774 : SV) (l775 : List A2Int), [(0, (sv vp0)), (5, (sv v232)), (6, (sv v774)), (7, (.int .i64 i668))] = env' ∧ (.tok 36 2 [(sv v774)]) :: (.tok 44 1 [(sv v232)]) :: G = G' ∧ M_ref18_Races_J2 p0 x230 i668 k673 l775 = some y0 ∧ Slr TyA2Int K' (sv v774) l775) ?_ ?_
      · skip
        refine Cw_block ?_
        refine Cw_seq ?_
        refine Cw_region ?_
        refine Ow_q rfl rfl rfl (Qt_move rfl) ?_
        refine Ow_q rfl rfl rfl (Qt_arith (e := wI (i668 + 1)) rfl rfl rfl rfl) ?_
        refine Ow_q rfl rfl rfl (Qt_assign rfl) ?_
        refine Ow_nil ?_
        refine Cw_block ?_
        refine Cw_loopM (fun n872 env' K' G' => ∃ (v868 : SV) (l869 : List A2Int) (i871 : Int), [(0, (sv vp0)), (5, (sv v232)), (6, (sv v868)), (7, (.int .i64 i668)), (8, (.int .i64 i871))] = env' ∧ (.tok 36 2 [(sv v868)]) :: (.tok 44 1 [(sv v232)]) :: G = G' ∧ lp2 (M_ref18_Races_L2 p0 x230 i668 k673) n872 l869 i871 = some y0 ∧ Slr TyA2Int K' (sv v868) l869) BIG ?_ ?_
        · skip
          refine Shift.pull (.there .here) ?_
          refine Shift.pull (.there .here) ?_
          refine Shift.done ?_
          exact ⟨[(0, (sv vp0)), (5, (sv v232)), (6, (sv v665)), (7, (.int .i64 i668)), (8, (.int .i64 (wI (i668 + 1))))], ⟨rfl, rfl, rfl, rfl, rfl, trivial⟩, v665, l666, (wI (i668 + 1)), rfl, rfl, H, hs667⟩
        rintro n872 _ K873 _ hK874 ⟨v868, l869, i871, rfl, rfl, H, hs870⟩
        obtain ⟨m875, k876, rfl, hkk877, H⟩ := lps2 H
        unfold M_ref18_Races_L2 at H
        refine Cw_seq ?_
        refine Cw_seq ?_
        refine Cw_region ?_
        refine Ow_q rfl rfl rfl (Qt_move rfl) ?_
        refine Ow_q rfl rfl rfl (Qt_move rfl) ?_
        have hs880 := (hs677).mono hK874
        refine Ow_q rfl rfl rfl (Q_len (T := TyItem) hs880 rfl rfl) ?_
        refine Ow_q rfl rfl rfl (Qt_cmp rfl rfl rfl) ?_
        refine Ow_nil ?_
        refine Cw_cond rfl ?_ ?_
        · intro h881
          have h881 := dcd_t (h881)
          have H := ift h881 H
          refine Cw_skip ?_
          refine Cw_seq ?_
          refine Cw_block ?_
          refine Cw_join (fun env' K' G' => ∃ (t950 : Bool), [(0, (sv vp0)), (5, (sv v232)), (6, (sv v868)), (7, (.int .i64 i668)), (8, (.int .i64 i871)), (42, (.bool t950))] = env' ∧ K873 = K' ∧ (.tok 36 2 [(sv v868)]) :: (.tok 44 1 [(sv v232)]) :: G = G' ∧ M_ref18_Races_J3 p0 x230 l869 i668 i871 k673 k876 t950 = some y0) ?_ ?_
          · skip
            obtain ⟨x951, hx952, H⟩ := bnd H
            obtain ⟨x956, hx957, H⟩ := bnd H
            obtain ⟨x961, hx962, H⟩ := bnd H
            rcases bool_ct x961 with hb_ | hb_ <;> revert hb_
            · intro h963
              have H := ift h963 H
              obtain ⟨x964, hx965, H⟩ := bnd H
              refine Cw_region_any [.tok 36 2 [(sv v868)], .tok 44 1 [(sv v232)]] rfl (Inc.cons (.head _) (Inc.cons (.tail _ (.head _)) Inc.nil)) ?_
              refine Aw_q 0 rfl (by kernel_rfl) (by kernel_rfl) (by kernel_rfl) rfl rfl rfl (Qt_move rfl) ?_
              refine Aw_q 1 rfl (by kernel_rfl) (by kernel_rfl) (by kernel_rfl) rfl rfl rfl (Qt_move rfl) ?_
              obtain ⟨r967, hr968, hk969⟩ := Slr.at hs880 hx952
              obtain rfl := hr968
              refine Aw_q 2 rfl (by kernel_rfl) (by kernel_rfl) (by kernel_rfl) rfl rfl rfl (Q_ix (T := TyItem) hs880 hx952 rfl rfl rfl rfl rfl) ?_
              refine Aw_q 3 rfl (by kernel_rfl) (by kernel_rfl) (by kernel_rfl) rfl rfl rfl (Qt_loadA (m := 8) (cs := (Item.cells x951)) rfl rfl rfl rfl ⟨rfl, Rdc.k hk969 rfl⟩) ?_
              refine Aw_q 4 rfl (by kernel_rfl) (by kernel_rfl) (by kernel_rfl) rfl rfl rfl (Qt_move rfl) ?_
              refine Aw_q 5 rfl (by kernel_rfl) (by kernel_rfl) (by kernel_rfl) rfl rfl rfl (Qt_move rfl) ?_
              obtain ⟨r970, hr971, hk972⟩ := Slr.at hs880 hx957
              obtain rfl := hr971
              refine Aw_q 6 rfl (by kernel_rfl) (by kernel_rfl) (by kernel_rfl) rfl rfl rfl (Q_ix (T := TyItem) hs880 hx957 rfl rfl rfl rfl rfl) ?_
              refine Aw_q 7 rfl (by kernel_rfl) (by kernel_rfl) (by kernel_rfl) rfl rfl rfl (Qt_loadA (m := 8) (cs := (Item.cells x956)) rfl rfl rfl rfl ⟨rfl, Rdc.k hk972 rfl⟩) ?_
              refine Aw_one 8 (by kernel_rfl) (Ax_mk rfl rfl ?_)
              refine OpW_call rfl Try.call57 rfl rfl (c_M_ref4_Conflict x951 x956 x961 hx962 _ _ ) ?_
              rintro _ _ _ - ⟨rfl, rfl, rfl⟩
              refine ⟨(Inc.cons (.head _) (Inc.cons (.tail _ (.head _)) Inc.nil)), ?_⟩
              refine Aw_q 9 rfl (by kernel_rfl) (by kernel_rfl) (by kernel_rfl) rfl rfl rfl (Qt_move rfl) ?_
              refine Aw.known (d := 35) rfl (h963) ?_
              refine Aw_qw 10 rfl (by kernel_rfl) (by kernel_rfl) (by kernel_rfl) rfl rfl rfl rfl rfl rfl (Qt_move rfl) ?_
              refine Aw_qw 11 rfl (by kernel_rfl) (by kernel_rfl) (by kernel_rfl) rfl rfl rfl rfl rfl rfl (Qt_move rfl) ?_
              refine Aw_qw 12 rfl (by kernel_rfl) (by kernel_rfl) (by kernel_rfl) rfl rfl rfl rfl rfl rfl (Qt_move rfl) ?_
              refine Aw_qw 13 rfl (by kernel_rfl) (by kernel_rfl) (by kernel_rfl) rfl rfl rfl rfl rfl rfl (Qt_move rfl) ?_
              refine Aw_one 14 (by kernel_rfl) (Ax_mkw rfl rfl rfl rfl rfl ?_)
              have hs973 := ((hs235).mono hK671).mono hK874
              refine OpW_call rfl Try.call56 rfl rfl (c_M_ref18_before p0 vp0 x230 v232 i668 i871 x964 hx965 _ _ hs880 hs973) ?_
              rintro _ _ _ - ⟨rfl, rfl, rfl⟩
              refine ⟨(Inc.cons (.head _) (Inc.cons (.tail _ (.head _)) Inc.nil)), ?_⟩
              refine Aw_qw 15 rfl (by kernel_rfl) (by kernel_rfl) (by kernel_rfl) rfl rfl rfl rfl rfl rfl (Qt_not rfl) ?_
              refine Aw_q 16 rfl (by kernel_rfl) (by kernel_rfl) (by kernel_rfl) rfl rfl rfl (Qt_pick_t rfl rfl) ?_
              refine Aw_done (by kernel_rfl) ?_
              refine Shift.pull (.there .here) ?_
              refine Shift.pull (.there .here) ?_
              refine Shift.done ?_
              exact ⟨[(0, (sv vp0)), (5, (sv v232)), (6, (sv v868)), (7, (.int .i64 i668)), (8, (.int .i64 i871)), (42, (.bool (!(x964))))], ⟨rfl, rfl, rfl, rfl, rfl, rfl, trivial⟩, (!(x964)), rfl, rfl, rfl, H⟩
            · intro h963
              have H := iff_ (btf h963) H
              refine Cw_region_any [.tok 36 2 [(sv v868)], .tok 44 1 [(sv v232)]] rfl (Inc.cons (.head _) (Inc.cons (.tail _ (.head _)) Inc.nil)) ?_
              refine Aw_q 0 rfl (by kernel_rfl) (by kernel_rfl) (by kernel_rfl) rfl rfl rfl (Qt_move rfl) ?_
              refine Aw_q 1 rfl (by kernel_rfl) (by kernel_rfl) (by kernel_rfl) rfl rfl rfl (Qt_move rfl) ?_
              obtain ⟨r974, hr975, hk976⟩ := Slr.at hs880 hx952
              obtain rfl := hr975
              refine Aw_q 2 rfl (by kernel_rfl) (by kernel_rfl) (by kernel_rfl) rfl rfl rfl (Q_ix (T := TyItem) hs880 hx952 rfl rfl rfl rfl rfl) ?_
              refine Aw_q 3 rfl (by kernel_rfl) (by kernel_rfl) (by kernel_rfl) rfl rfl rfl (Qt_loadA (m := 8) (cs := (Item.cells x951)) rfl rfl rfl rfl ⟨rfl, Rdc.k hk976 rfl⟩) ?_
              refine Aw_q 4 rfl (by kernel_rfl) (by kernel_rfl) (by kernel_rfl) rfl rfl rfl (Qt_move rfl) ?_
              refine Aw_q 5 rfl (by kernel_rfl) (by kernel_rfl) (by kernel_rfl) rfl rfl rfl (Qt_move rfl) ?_
              obtain ⟨r977, hr978, hk979⟩ := Slr.at hs880 hx957
              obtain rfl := hr978
              refine Aw_q 6 rfl (by kernel_rfl) (by kernel_rfl) (by kernel_rfl) rfl rfl rfl (Q_ix (T := TyItem) hs880 hx957 rfl rfl rfl rfl rfl) ?_
              refine Aw_q 7 rfl (by kernel_rfl) (by kernel_rfl) (by kernel_rfl) rfl rfl rfl (Qt_loadA (m := 8) (cs := (Item.cells x956)) rfl rfl rfl rfl ⟨rfl, Rdc.k hk979 rfl⟩) ?_
              refine Aw_one 8 (by kernel_rfl) (Ax_mk rfl rfl ?_)
              refine OpW_call rfl Try.call57 rfl rfl (c_M_ref4_Conflict x951 x956 x961 hx962 _ _ ) ?_
              rintro _ _ _ - ⟨rfl, rfl, rfl⟩
              refine ⟨(Inc.cons (.head _) (Inc.cons (.tail _ (.head _)) Inc.nil)), ?_⟩
              refine Aw_q 9 rfl (by kernel_rfl) (by kernel_rfl) (by kernel_rfl) rfl rfl rfl (Qt_move rfl) ?_
              refine Aw.known (d := 35) rfl (h963) ?_
              refine Aw_pass 10 rfl (by kernel_rfl) (by kernel_rfl) (by kernel_rfl) rfl rfl rfl rfl rfl rfl rfl ?_
              refine Aw_pass 11 rfl (by kernel_rfl) (by kernel_rfl) (by kernel_rfl) rfl rfl rfl rfl rfl rfl rfl ?_
              refine Aw_pass 12 rfl (by kernel_rfl) (by kernel_rfl) (by kernel_rfl) rfl rfl rfl rfl rfl rfl rfl ?_
              refine Aw_pass 13 rfl (by kernel_rfl) (by kernel_rfl) (by kernel_rfl) rfl rfl rfl rfl rfl rfl rfl ?_
              refine Aw_pass 14 rfl (by kernel_rfl) (by kernel_rfl) (by kernel_rfl) rfl rfl rfl rfl rfl rfl rfl ?_
              refine Aw_pass 15 rfl (by kernel_rfl) (by kernel_rfl) (by kernel_rfl) rfl rfl rfl rfl rfl rfl rfl ?_
              refine Aw_q 16 rfl (by kernel_rfl) (by kernel_rfl) (by kernel_rfl) rfl rfl rfl (Qt_pick_f rfl rfl) ?_
              refine Aw_done (by kernel_rfl) ?_
              refine Shift.pull (.there .here) ?_
              refine Shift.pull (.there .here) ?_
              refine Shift.done ?_
              exact ⟨[(0, (sv vp0)), (5, (sv v232)), (6, (sv v868)), (7, (.int .i64 i668)), (8, (.int .i64 i871)), (42, (.bool false))], ⟨rfl, rfl, rfl, rfl, rfl, rfl, trivial⟩, false, rfl, rfl, rfl, H⟩
          rintro _ _ _ - ⟨t950, rfl, rfl, rfl, H⟩
          unfold M_ref18_Races_J3 at H
          refine Cw_cond rfl ?_ ?_
          · intro h980
            have H := ift h980 H
            refine Cw_region ?_
            refine Ow_q rfl rfl rfl (Qt_move rfl) ?_
            refine Ow_q rfl rfl rfl (Qt_move rfl) ?_
            refine Ow_q rfl rfl rfl (Qt_move rfl) ?_
            refine Ow_q rfl rfl rfl (Qt_buildArr (cs := (A2Int.cells (A2Int.mk i668 i871))) rfl rfl rfl rfl rfl rfl) ?_
            have hR982 : RowR TyA2Int K873 [(A2Int.cells (A2Int.mk i668 i871))] [(A2Int.mk i668 i871)] := RowR.cons rfl (RowR.nil)
            refine Ow_cons rfl (O_lit (T := TyA2Int) (rows := [(A2Int.cells (A2Int.mk i668 i871))]) (l := [(A2Int.mk i668 i871)]) rfl rfl rfl hR982 rfl rfl rfl rfl rfl rfl rfl rfl (fun v981 => ?_))
            obtain ⟨x983, hx984, H⟩ := bnd H
            refine Ow_cons rfl (O_appTok (T := TyA2Int) (bytes := 16) (q := 0) rfl rfl rfl hs870 (.tail _ (.head _)) rfl (SrcT.row (.head _) hR982 rfl) hx984 rfl rfl rfl rfl rfl rfl rfl rfl (fun v985 K986 hK987 hs988 => ⟨_, (.there .here), ?_⟩))
            refine Ow.shift (Shift.rem .here (Shift.done ?_))
            refine Ow_q rfl rfl rfl (Qt_assign rfl) ?_
            refine Ow_nil ?_
            refine Cw_region ?_
            refine Ow_q rfl rfl rfl (Qt_move rfl) ?_
            refine Ow_q rfl rfl rfl (Qt_arith (e := wI (i871 + 1)) rfl rfl rfl rfl) ?_
            refine Ow_q rfl rfl rfl (Qt_assign rfl) ?_
            refine Ow_nil ?_
            refine Shift.pull (.there .here) ?_
            refine Shift.pull (.there .here) ?_
            refine Shift.done ?_
            exact ⟨[(0, (sv vp0)), (5, (sv v232)), (6, (sv v985)), (7, (.int .i64 i668)), (8, (.int .i64 (wI (i871 + 1))))], ⟨rfl, rfl, rfl, rfl, rfl, trivial⟩, _, Nat.lt_succ_self _, v985, x983, (wI (i871 + 1)), rfl, rfl, (hkk877 ▸ H), hs988⟩
          · intro h980
            have H := iff_ (btf h980) H
            refine Cw_skip ?_
            refine Cw_region ?_
            refine Ow_q rfl rfl rfl (Qt_move rfl) ?_
            refine Ow_q rfl rfl rfl (Qt_arith (e := wI (i871 + 1)) rfl rfl rfl rfl) ?_
            refine Ow_q rfl rfl rfl (Qt_assign rfl) ?_
            refine Ow_nil ?_
            refine Shift.pull (.there .here) ?_
            refine Shift.pull (.there .here) ?_
            refine Shift.done ?_
            exact ⟨[(0, (sv vp0)), (5, (sv v232)), (6, (sv v868)), (7, (.int .i64 i668)), (8, (.int .i64 (wI (i871 + 1))))], ⟨rfl, rfl, rfl, rfl, rfl, trivial⟩, _, Nat.lt_succ_self _, v868, l869, (wI (i871 + 1)), rfl, rfl, (hkk877 ▸ H), hs870⟩
        · intro h881
          have h881 := dcd_f (h881)
          have H := iff_ h881 H
          refine Cw_exit ?_
          refine Shift.pull (.there .here) ?_
          refine Shift.pull (.there .here) ?_
          refine Shift.done ?_
          exact ⟨[(0, (sv vp0)), (5, (sv v232)), (6, (sv v868)), (7, (.int .i64 i668))], ⟨rfl, rfl, rfl, rfl, trivial⟩, v868, l869, rfl, rfl, H, hs870⟩
      rintro _ K989 _ hK990 ⟨v774, l775, rfl, rfl, H, hs776⟩
      unfold M_ref18_Races_J2 at H
      refine Cw_region ?_
      refine Ow_q rfl rfl rfl (Qt_move rfl) ?_
      refine Ow_q rfl rfl rfl (Qt_arith (e := wI (i668 + 1)) rfl rfl rfl rfl) ?_
      refine Ow_q rfl rfl rfl (Qt_assign rfl) ?_
      refine Ow_nil ?_
      refine Shift.pull (.there .here) ?_
      refine Shift.pull (.there .here) ?_
      refine Shift.done ?_
      exact ⟨[(0, (sv vp0)), (5, (sv v232)), (6, (sv v774)), (7, (.int .i64 (wI (i668 + 1))))], ⟨rfl, rfl, rfl, rfl, trivial⟩, _, Nat.lt_succ_self _, v774, l775, (wI (i668 + 1)), rfl, rfl, (hkk674 ▸ H), hs776⟩
    · intro h678
      have h678 := dcd_f (h678)
      have H := iff_ h678 H
      refine Cw_exit ?_
      refine Shift.rem (.there .here) ?_
      refine Shift.done ?_
      exact ⟨[(6, (sv v665))], ⟨rfl, trivial⟩, v665, l666, rfl, rfl, H, hs667⟩
  rintro _ K991 _ hK992 ⟨v451, l452, rfl, rfl, H, hs453⟩
  unfold M_ref18_Races_J1 at H
  refine Cw_seq ?_
  refine Cw_region ?_
  refine Ow_q rfl rfl rfl (Qt_move rfl) ?_
  refine Ow_q rfl rfl rfl (Qt_assign rfl) ?_
  refine Ow_nil ?_
  refine Cw_ret ?_
  obtain ey0 := inj1 H
  subst y0
  refine ⟨(by first | exact .inl rfl | exact .inr rfl), [(sv v451)], ⟨(sv v451), _, rfl, rfl, rfl⟩, ?_⟩
  refine Shift.done ?_
  exact ⟨v451, rfl, rfl, hs453⟩


end Go.Hx
