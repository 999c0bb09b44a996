/- Printed by program. -/
import Derived.Test.YthpjaddchdnejaaXBM
import Derived.Test.YthpjaddchdnejaaXBWHappens1
import Derived.Test.YthpjaddchdnejaaXBWTrace1
namespace Go.Hx
open Go Go.Proofs
set_option linter.unusedSimpArgs false
set_option linter.unusedVariables false
set_option maxRecDepth 10000
set_option maxHeartbeats 1000000 in
theorem c_M_happens_Races (p0 : List Item) (vp0 : SV) (p1 : Int) (y0 : List A2Int) (H : M_happens_Races p0 p1 = some y0) (K : Kp) (G : List Ent) (hp0 : Slr TyItem K (sv vp0) p0) :
    Fc Try.prog 41 #[(sv vp0), (.int .i64 p1)] K (G) (fun v K' G' => ∃ (wy0 : SV), v = (sv wy0) ∧ (.tok 36 2 [(sv wy0)]) :: G = G' ∧ Slr TyA2Int K' (sv wy0) y0) := by
  refine Fc_body Try.func41 rfl Try.ntmps41 Try.results41 rfl ?_
  unfold M_happens_Races at H
  refine Cw_seq ?_
  refine Cw_region ?_
  refine Ow_q rfl rfl rfl (Qt_assign rfl) ?_
  refine Ow_nil ?_
  refine Cw_seq ?_
  refine Cw_region ?_
  refine Ow_q rfl rfl rfl (Qt_move rfl) ?_
  refine Ow_q rfl rfl rfl (Qt_move rfl) ?_
  obtain ⟨x237, hx238, H⟩ := bnd H
  refine Ow_cons rfl (OpW_call rfl Try.call35 rfl rfl (c_M_happens_Clocks p0 vp0 p1 x237 hx238 _ _ hp0) ?_)
  rintro _ K240 _ hK241 ⟨v239, rfl, rfl, hs242⟩
  refine Ow_q rfl rfl rfl (Qt_assign rfl) ?_
  refine Ow_nil ?_
  refine Cw_seq ?_
  refine Cw_region ?_
  refine Ow_q rfl rfl rfl (Qt_assign rfl) ?_
  refine Ow_nil ?_
  refine Cw_join (fun env' K' G' => ∃ (v460 : SV) (l461 : List A2Int), [(6, (sv v460))] = env' ∧ (.tok 36 2 [(sv v460)]) :: G = G' ∧ M_happens_Races_J1 l461 = some y0 ∧ Slr TyA2Int K' (sv v460) l461) ?_ ?_
  · skip
    refine Cw_seq ?_
    refine Cw_region ?_
    refine Ow_q rfl rfl rfl (Qt_move rfl) ?_
    refine Ow_q rfl rfl rfl (Q_len (T := (Ty.sl Ty.i64)) hs242 rfl rfl) ?_
    refine Ow_q rfl rfl rfl (Qt_move rfl) ?_
    refine Ow_nil ?_
    refine Cw_block ?_
    refine Cw_loopM (fun n680 env' K' G' => ∃ (v676 : SV) (l677 : List A2Int) (i679 : Int), [(0, (sv vp0)), (5, (sv v239)), (6, (sv v676)), (13, (.int .i64 (x237.length : Int))), (14, (.int .i64 i679))] = env' ∧ (.tok 36 2 [(sv v676)]) :: (.tok 44 1 [(sv v239)]) :: G = G' ∧ lp2 (M_happens_Races_L1 p0 x237) n680 l677 i679 = some y0 ∧ Slr TyA2Int K' (sv v676) l677) BIG ?_ ?_
    · skip
      refine Shift.nilTok1 36 2 ?_
      refine Shift.pull (.there .here) ?_
      refine Shift.pull (.there .here) ?_
      refine Shift.done ?_
      exact ⟨[(0, (sv vp0)), (5, (sv v239)), (6, (sv nilS)), (13, (.int .i64 (x237.length : Int))), (14, (.int .i64 0))], ⟨rfl, rfl, rfl, rfl, rfl, trivial⟩, nilS, ([] : List A2Int), 0, rfl, rfl, H, (Slr.nil TyA2Int _)⟩
    rintro n680 _ K681 _ hK682 ⟨v676, l677, i679, rfl, rfl, H, hs678⟩
    obtain ⟨m683, k684, rfl, hkk685, H⟩ := lps2 H
    unfold M_happens_Races_L1 at H
    refine Cw_seq ?_
    refine Cw_region ?_
    refine Ow_q rfl rfl rfl (Qt_cmp rfl rfl rfl) ?_
    refine Ow_nil ?_
    refine Cw_seq ?_
    refine Cw_cond rfl ?_ ?_
    · intro h687
      have h687 := dcd_t (h687)
      have H := ift h687 H
      refine Cw_skip ?_
      refine Cw_join (fun env' K' G' => ∃ (v785 : SV) (l786 : List A2Int), [(0, (sv vp0)), (5, (sv v239)), (6, (sv v785)), (13, (.int .i64 (x237.length : Int))), (14, (.int .i64 i679))] = env' ∧ (.tok 36 2 [(sv v785)]) :: (.tok 44 1 [(sv v239)]) :: G = G' ∧ M_happens_Races_J2 p0 x237 i679 k684 l786 = some y0 ∧ Slr TyA2Int K' (sv v785) l786) ?_ ?_
      · skip
        refine Cw_block ?_
        refine Cw_seq ?_
        refine Cw_region ?_
        refine Ow_q rfl rfl rfl (Qt_move rfl) ?_
        refine Ow_q rfl rfl rfl (Qt_assign rfl) ?_
        refine Ow_nil ?_
        refine Cw_seq ?_
        refine Cw_region ?_
        refine Ow_q rfl rfl rfl (Qt_move rfl) ?_
        refine Ow_q rfl rfl rfl (Qt_arith (e := wI (i679 + 1)) rfl rfl rfl rfl) ?_
        refine Ow_q rfl rfl rfl (Qt_assign rfl) ?_
        refine Ow_nil ?_
        refine Cw_block ?_
        refine Cw_loopM (fun n885 env' K' G' => ∃ (v881 : SV) (l882 : List A2Int) (i884 : Int), [(0, (sv vp0)), (5, (sv v239)), (6, (sv v881)), (7, (.int .i64 i679)), (8, (.int .i64 i884)), (13, (.int .i64 (x237.length : Int))), (14, (.int .i64 i679))] = env' ∧ (.tok 36 2 [(sv v881)]) :: (.tok 44 1 [(sv v239)]) :: G = G' ∧ lp2 (M_happens_Races_L2 p0 x237 i679 k684) n885 l882 i884 = some y0 ∧ Slr TyA2Int K' (sv v881) l882) BIG ?_ ?_
        · skip
          refine Shift.pull (.there .here) ?_
          refine Shift.pull (.there .here) ?_
          refine Shift.done ?_
          exact ⟨[(0, (sv vp0)), (5, (sv v239)), (6, (sv v676)), (7, (.int .i64 i679)), (8, (.int .i64 (wI (i679 + 1)))), (13, (.int .i64 (x237.length : Int))), (14, (.int .i64 i679))], ⟨rfl, rfl, rfl, rfl, rfl, rfl, rfl, trivial⟩, v676, l677, (wI (i679 + 1)), rfl, rfl, H, hs678⟩
        rintro n885 _ K886 _ hK887 ⟨v881, l882, i884, rfl, rfl, H, hs883⟩
        obtain ⟨m888, k889, rfl, hkk890, H⟩ := lps2 H
        unfold M_happens_Races_L2 at H
        refine Cw_seq ?_
        refine Cw_seq ?_
        refine Cw_region ?_
        refine Ow_q rfl rfl rfl (Qt_move rfl) ?_
        refine Ow_q rfl rfl rfl (Qt_move rfl) ?_
        have hs893 := ((hs242).mono hK682).mono hK887
        refine Ow_q rfl rfl rfl (Q_len (T := (Ty.sl Ty.i64)) hs893 rfl rfl) ?_
        refine Ow_q rfl rfl rfl (Qt_cmp rfl rfl rfl) ?_
        refine Ow_nil ?_
        refine Cw_cond rfl ?_ ?_
        · intro h894
          have h894 := dcd_t (h894)
          have H := ift h894 H
          refine Cw_skip ?_
          refine Cw_seq ?_
          refine Cw_block ?_
          refine Cw_join (fun env' K' G' => ∃ (t965 : Bool), [(0, (sv vp0)), (5, (sv v239)), (6, (sv v881)), (7, (.int .i64 i679)), (8, (.int .i64 i884)), (13, (.int .i64 (x237.length : Int))), (14, (.int .i64 i679)), (41, (.bool t965))] = env' ∧ K886 = K' ∧ (.tok 36 2 [(sv v881)]) :: (.tok 44 1 [(sv v239)]) :: G = G' ∧ M_happens_Races_J3 p0 x237 l882 i679 i884 k684 k889 t965 = some y0) ?_ ?_
          · skip
            obtain ⟨x966, hx967, H⟩ := bnd H
            obtain ⟨x972, hx973, H⟩ := bnd H
            obtain ⟨x977, hx978, H⟩ := bnd H
            rcases bool_ct x977 with hb_ | hb_ <;> revert hb_
            · intro h979
              have H := ift h979 H
              obtain ⟨x980, hx981, H⟩ := bnd H
              refine Cw_region_any [.tok 36 2 [(sv v881)], .tok 44 1 [(sv v239)]] rfl (Inc.cons (.head _) (Inc.cons (.tail _ (.head _)) Inc.nil)) ?_
              refine Aw_q 0 rfl (by kernel_rfl) (by kernel_rfl) (by kernel_rfl) rfl rfl rfl (Qt_move rfl) ?_
              refine Aw_q 1 rfl (by kernel_rfl) (by kernel_rfl) (by kernel_rfl) rfl rfl rfl (Qt_move rfl) ?_
              have hs982 := (((hp0).mono hK241).mono hK682).mono hK887
              obtain ⟨r983, hr984, hk985⟩ := Slr.at hs982 hx967
              obtain rfl := hr984
              refine Aw_q 2 rfl (by kernel_rfl) (by kernel_rfl) (by kernel_rfl) rfl rfl rfl (Q_ix (T := TyItem) hs982 hx967 rfl rfl rfl rfl rfl) ?_
              refine Aw_q 3 rfl (by kernel_rfl) (by kernel_rfl) (by kernel_rfl) rfl rfl rfl (Qt_loadA (m := 8) (cs := (Item.cells x966)) rfl rfl rfl rfl ⟨rfl, Rdc.k hk985 rfl⟩) ?_
              refine Aw_q 4 rfl (by kernel_rfl) (by kernel_rfl) (by kernel_rfl) rfl rfl rfl (Qt_move rfl) ?_
              refine Aw_q 5 rfl (by kernel_rfl) (by kernel_rfl) (by kernel_rfl) rfl rfl rfl (Qt_move rfl) ?_
              obtain ⟨r986, hr987, hk988⟩ := Slr.at hs982 hx973
              obtain rfl := hr987
              refine Aw_q 6 rfl (by kernel_rfl) (by kernel_rfl) (by kernel_rfl) rfl rfl rfl (Q_ix (T := TyItem) hs982 hx973 rfl rfl rfl rfl rfl) ?_
              refine Aw_q 7 rfl (by kernel_rfl) (by kernel_rfl) (by kernel_rfl) rfl rfl rfl (Qt_loadA (m := 8) (cs := (Item.cells x972)) rfl rfl rfl rfl ⟨rfl, Rdc.k hk988 rfl⟩) ?_
              refine Aw_one 8 (by kernel_rfl) (Ax_mk rfl rfl ?_)
              refine OpW_call rfl Try.call54 rfl rfl (c_M_trace_Conflict x966 x972 x977 hx978 _ _ ) ?_
              rintro _ _ _ - ⟨rfl, rfl, rfl⟩
              refine ⟨(Inc.cons (.head _) (Inc.cons (.tail _ (.head _)) Inc.nil)), ?_⟩
              refine Aw_q 9 rfl (by kernel_rfl) (by kernel_rfl) (by kernel_rfl) rfl rfl rfl (Qt_move rfl) ?_
              refine Aw.known (d := 34) rfl (h979) ?_
              refine Aw_qw 10 rfl (by kernel_rfl) (by kernel_rfl) (by kernel_rfl) rfl rfl rfl rfl rfl rfl (Qt_move rfl) ?_
              refine Aw_qw 11 rfl (by kernel_rfl) (by kernel_rfl) (by kernel_rfl) rfl rfl rfl rfl rfl rfl (Qt_move rfl) ?_
              refine Aw_qw 12 rfl (by kernel_rfl) (by kernel_rfl) (by kernel_rfl) rfl rfl rfl rfl rfl rfl (Qt_move rfl) ?_
              refine Aw_qw 13 rfl (by kernel_rfl) (by kernel_rfl) (by kernel_rfl) rfl rfl rfl rfl rfl rfl (Qt_move rfl) ?_
              refine Aw_one 14 (by kernel_rfl) (Ax_mkw rfl rfl rfl rfl rfl ?_)
              refine OpW_call rfl Try.call55 rfl rfl (c_M_happens_before p0 vp0 x237 v239 i679 i884 x980 hx981 _ _ hs982 hs893) ?_
              rintro _ _ _ - ⟨rfl, rfl, rfl⟩
              refine ⟨(Inc.cons (.head _) (Inc.cons (.tail _ (.head _)) Inc.nil)), ?_⟩
              refine Aw_qw 15 rfl (by kernel_rfl) (by kernel_rfl) (by kernel_rfl) rfl rfl rfl rfl rfl rfl (Qt_not rfl) ?_
              refine Aw_q 16 rfl (by kernel_rfl) (by kernel_rfl) (by kernel_rfl) rfl rfl rfl (Qt_pick_t rfl rfl) ?_
              refine Aw_done (by kernel_rfl) ?_
              refine Shift.pull (.there .here) ?_
              refine Shift.pull (.there .here) ?_
              refine Shift.done ?_
              exact ⟨[(0, (sv vp0)), (5, (sv v239)), (6, (sv v881)), (7, (.int .i64 i679)), (8, (.int .i64 i884)), (13, (.int .i64 (x237.length : Int))), (14, (.int .i64 i679)), (41, (.bool (!(x980))))], ⟨rfl, rfl, rfl, rfl, rfl, rfl, rfl, rfl, trivial⟩, (!(x980)), rfl, rfl, rfl, H⟩
            · intro h979
              have H := iff_ (btf h979) H
              refine Cw_region_any [.tok 36 2 [(sv v881)], .tok 44 1 [(sv v239)]] rfl (Inc.cons (.head _) (Inc.cons (.tail _ (.head _)) Inc.nil)) ?_
              refine Aw_q 0 rfl (by kernel_rfl) (by kernel_rfl) (by kernel_rfl) rfl rfl rfl (Qt_move rfl) ?_
              refine Aw_q 1 rfl (by kernel_rfl) (by kernel_rfl) (by kernel_rfl) rfl rfl rfl (Qt_move rfl) ?_
              have hs989 := (((hp0).mono hK241).mono hK682).mono hK887
              obtain ⟨r990, hr991, hk992⟩ := Slr.at hs989 hx967
              obtain rfl := hr991
              refine Aw_q 2 rfl (by kernel_rfl) (by kernel_rfl) (by kernel_rfl) rfl rfl rfl (Q_ix (T := TyItem) hs989 hx967 rfl rfl rfl rfl rfl) ?_
              refine Aw_q 3 rfl (by kernel_rfl) (by kernel_rfl) (by kernel_rfl) rfl rfl rfl (Qt_loadA (m := 8) (cs := (Item.cells x966)) rfl rfl rfl rfl ⟨rfl, Rdc.k hk992 rfl⟩) ?_
              refine Aw_q 4 rfl (by kernel_rfl) (by kernel_rfl) (by kernel_rfl) rfl rfl rfl (Qt_move rfl) ?_
              refine Aw_q 5 rfl (by kernel_rfl) (by kernel_rfl) (by kernel_rfl) rfl rfl rfl (Qt_move rfl) ?_
              obtain ⟨r993, hr994, hk995⟩ := Slr.at hs989 hx973
              obtain rfl := hr994
              refine Aw_q 6 rfl (by kernel_rfl) (by kernel_rfl) (by kernel_rfl) rfl rfl rfl (Q_ix (T := TyItem) hs989 hx973 rfl rfl rfl rfl rfl) ?_
              refine Aw_q 7 rfl (by kernel_rfl) (by kernel_rfl) (by kernel_rfl) rfl rfl rfl (Qt_loadA (m := 8) (cs := (Item.cells x972)) rfl rfl rfl rfl ⟨rfl, Rdc.k hk995 rfl⟩) ?_
              refine Aw_one 8 (by kernel_rfl) (Ax_mk rfl rfl ?_)
              refine OpW_call rfl Try.call54 rfl rfl (c_M_trace_Conflict x966 x972 x977 hx978 _ _ ) ?_
              rintro _ _ _ - ⟨rfl, rfl, rfl⟩
              refine ⟨(Inc.cons (.head _) (Inc.cons (.tail _ (.head _)) Inc.nil)), ?_⟩
              refine Aw_q 9 rfl (by kernel_rfl) (by kernel_rfl) (by kernel_rfl) rfl rfl rfl (Qt_move rfl) ?_
              refine Aw.known (d := 34) rfl (h979) ?_
              refine Aw_pass 10 rfl (by kernel_rfl) (by kernel_rfl) (by kernel_rfl) rfl rfl rfl rfl rfl rfl rfl ?_
              refine Aw_pass 11 rfl (by kernel_rfl) (by kernel_rfl) (by kernel_rfl) rfl rfl rfl rfl rfl rfl rfl ?_
              refine Aw_pass 12 rfl (by kernel_rfl) (by kernel_rfl) (by kernel_rfl) rfl rfl rfl rfl rfl rfl rfl ?_
              refine Aw_pass 13 rfl (by kernel_rfl) (by kernel_rfl) (by kernel_rfl) rfl rfl rfl rfl rfl rfl rfl ?_
              refine Aw_pass 14 rfl (by kernel_rfl) (by kernel_rfl) (by kernel_rfl) rfl rfl rfl rfl rfl rfl rfl ?_
              refine Aw_pass 15 rfl (by kernel_rfl) (by kernel_rfl) (by kernel_rfl) rfl rfl rfl rfl rfl rfl rfl ?_
              refine Aw_q 16 rfl (by kernel_rfl) (by kernel_rfl) (by kernel_rfl) rfl rfl rfl (Qt_pick_f rfl rfl) ?_
              refine Aw_done (by kernel_rfl) ?_
              refine Shift.pull (.there .here) ?_
              refine Shift.pull (.there .here) ?_
              refine Shift.done ?_
              exact ⟨[(0, (sv vp0)), (5, (sv v239)), (6, (sv v881)), (7, (.int .i64 i679)), (8, (.int .i64 i884)), (13, (.int .i64 (x237.length : Int))), (14, (.int .i64 i679)), (41, (.bool false))], ⟨rfl, rfl, rfl, rfl, rfl, rfl, rfl, rfl, trivial⟩, false, rfl, rfl, rfl, H⟩
          rintro _ _ _ - ⟨t965, rfl, rfl, rfl, H⟩
          unfold M_happens_Races_J3 at H
          refine Cw_cond rfl ?_ ?_
          · intro h996
            have H := ift h996 H
            refine Cw_region ?_
            refine Ow_q rfl rfl rfl (Qt_move rfl) ?_
            refine Ow_q rfl rfl rfl (Qt_move rfl) ?_
            refine Ow_q rfl rfl rfl (Qt_move rfl) ?_
            refine Ow_q rfl rfl rfl (Qt_buildArr (cs := (A2Int.cells (A2Int.mk i679 i884))) rfl rfl rfl rfl rfl rfl) ?_
            have hR998 : RowR TyA2Int K886 [(A2Int.cells (A2Int.mk i679 i884))] [(A2Int.mk i679 i884)] := RowR.cons rfl (RowR.nil)
            refine Ow_cons rfl (O_lit (T := TyA2Int) (rows := [(A2Int.cells (A2Int.mk i679 i884))]) (l := [(A2Int.mk i679 i884)]) rfl rfl rfl hR998 rfl rfl rfl rfl rfl rfl rfl rfl (fun v997 => ?_))
            obtain ⟨x999, hx1000, H⟩ := bnd H
            refine Ow_cons rfl (O_appTok (T := TyA2Int) (bytes := 16) (q := 0) rfl rfl rfl hs883 (.tail _ (.head _)) rfl (SrcT.row (.head _) hR998 rfl) hx1000 rfl rfl rfl rfl rfl rfl rfl rfl (fun v1001 K1002 hK1003 hs1004 => ⟨_, (.there .here), ?_⟩))
            refine Ow.shift (Shift.rem .here (Shift.done ?_))
            refine Ow_q rfl rfl rfl (Qt_assign rfl) ?_
            refine Ow_nil ?_
            refine Cw_region ?_
            refine Ow_q rfl rfl rfl (Qt_move rfl) ?_
            refine Ow_q rfl rfl rfl (Qt_arith (e := wI (i884 + 1)) rfl rfl rfl rfl) ?_
            refine Ow_q rfl rfl rfl (Qt_assign rfl) ?_
            refine Ow_nil ?_
            refine Shift.pull (.there .here) ?_
            refine Shift.pull (.there .here) ?_
            refine Shift.done ?_
            exact ⟨[(0, (sv vp0)), (5, (sv v239)), (6, (sv v1001)), (7, (.int .i64 i679)), (8, (.int .i64 (wI (i884 + 1)))), (13, (.int .i64 (x237.length : Int))), (14, (.int .i64 i679))], ⟨rfl, rfl, rfl, rfl, rfl, rfl, rfl, trivial⟩, _, Nat.lt_succ_self _, v1001, x999, (wI (i884 + 1)), rfl, rfl, (hkk890 ▸ H), hs1004⟩
          · intro h996
            have H := iff_ (btf h996) H
            refine Cw_skip ?_
            refine Cw_region ?_
            refine Ow_q rfl rfl rfl (Qt_move rfl) ?_
            refine Ow_q rfl rfl rfl (Qt_arith (e := wI (i884 + 1)) rfl rfl rfl rfl) ?_
            refine Ow_q rfl rfl rfl (Qt_assign rfl) ?_
            refine Ow_nil ?_
            refine Shift.pull (.there .here) ?_
            refine Shift.pull (.there .here) ?_
            refine Shift.done ?_
            exact ⟨[(0, (sv vp0)), (5, (sv v239)), (6, (sv v881)), (7, (.int .i64 i679)), (8, (.int .i64 (wI (i884 + 1)))), (13, (.int .i64 (x237.length : Int))), (14, (.int .i64 i679))], ⟨rfl, rfl, rfl, rfl, rfl, rfl, rfl, trivial⟩, _, Nat.lt_succ_self _, v881, l882, (wI (i884 + 1)), rfl, rfl, (hkk890 ▸ H), hs883⟩
        · intro h894
          have h894 := dcd_f (h894)
          have H := iff_ h894 H
          refine Cw_exit ?_
          refine Shift.pull (.there .here) ?_
          refine Shift.pull (.there .here) ?_
          refine Shift.done ?_
          exact ⟨[(0, (sv vp0)), (5, (sv v239)), (6, (sv v881)), (13, (.int .i64 (x237.length : Int))), (14, (.int .i64 i679))], ⟨rfl, rfl, rfl, rfl, rfl, trivial⟩, v881, l882, rfl, rfl, H, hs883⟩
      rintro _ K1005 _ hK1006 ⟨v785, l786, rfl, rfl, H, hs787⟩
      unfold M_happens_Races_J2 at H
      refine Cw_region ?_
      refine Ow_q rfl rfl rfl (Qt_arith (e := wI (i679 + 1)) rfl rfl rfl rfl) ?_
      refine Ow_q rfl rfl rfl (Qt_move rfl) ?_
      refine Ow_nil ?_
      refine Shift.pull (.there .here) ?_
      refine Shift.pull (.there .here) ?_
      refine Shift.done ?_
      exact ⟨[(0, (sv vp0)), (5, (sv v239)), (6, (sv v785)), (13, (.int .i64 (x237.length : Int))), (14, (.int .i64 (wI (i679 + 1))))], ⟨rfl, rfl, rfl, rfl, rfl, trivial⟩, _, Nat.lt_succ_self _, v785, l786, (wI (i679 + 1)), rfl, rfl, (hkk685 ▸ H), hs787⟩
    · intro h687
      have h687 := dcd_f (h687)
      have H := iff_ h687 H
      refine Cw_exit ?_
      refine Shift.rem (.there .here) ?_
      refine Shift.done ?_
      exact ⟨[(6, (sv v676))], ⟨rfl, trivial⟩, v676, l677, rfl, rfl, H, hs678⟩
  rintro _ K1007 _ hK1008 ⟨v460, l461, rfl, rfl, H, hs462⟩
  unfold M_happens_Races_J1 at H
  refine Cw_seq ?_
  refine Cw_region ?_
  refine Ow_q rfl rfl rfl (Qt_move rfl) ?_
  refine Ow_q rfl rfl rfl (Qt_assign rfl) ?_
  refine Ow_nil ?_
  refine Cw_ret ?_
  obtain ey0 := inj1 H
  subst y0
  refine ⟨(by first | exact .inl rfl | exact .inr rfl), [(sv v460)], ⟨(sv v460), _, rfl, rfl, rfl⟩, ?_⟩
  refine Shift.done ?_
  exact ⟨v460, rfl, rfl, hs462⟩

set_option maxHeartbeats 1000000 in
theorem c_M_happens_Before (p0 : List Item) (vp0 : SV) (p1 : Int) (p2 : Int) (p3 : Int) (y0 : Bool) (H : M_happens_Before p0 p1 p2 p3 = some y0) (K : Kp) (G : List Ent) (hp0 : Slr TyItem K (sv vp0) p0) :
    Fc Try.prog 42 #[(sv vp0), (.int .i64 p1), (.int .i64 p2), (.int .i64 p3)] K (G) (fun v K' G' => v = (.bool y0) ∧ G = G') := by
  refine Fc_body Try.func42 rfl Try.ntmps42 Try.results42 rfl ?_
  unfold M_happens_Before at H
  refine Cw_seq ?_
  refine Cw_region ?_
  refine Ow_q rfl rfl rfl (Qt_assign rfl) ?_
  refine Ow_nil ?_
  refine Cw_seq ?_
  refine Cw_region ?_
  refine Ow_q rfl rfl rfl (Qt_move rfl) ?_
  refine Ow_q rfl rfl rfl (Qt_move rfl) ?_
  obtain ⟨x14, hx15, H⟩ := bnd H
  refine Ow_cons rfl (OpW_call rfl Try.call35 rfl rfl (c_M_happens_Clocks p0 vp0 p1 x14 hx15 _ _ hp0) ?_)
  rintro _ K17 _ hK18 ⟨v16, rfl, rfl, hs19⟩
  refine Ow_q rfl rfl rfl (Qt_assign rfl) ?_
  refine Ow_nil ?_
  refine Cw_join (fun env' K' G' => ∃ (t26 : Bool), [(8, (.bool t26))] = env' ∧ K17 = K' ∧ G = G' ∧ M_happens_Before_J1 t26 = some y0) ?_ ?_
  · skip
    refine Cw_region ?_
    refine Ow_q rfl rfl rfl (Qt_move rfl) ?_
    refine Ow_q rfl rfl rfl (Qt_cmp rfl rfl rfl) ?_
    refine Ow_q rfl rfl rfl (Qt_move rfl) ?_
    refine Ow_caseG rfl rfl rfl ?_ ?_
    · intro h27
      have h27 := dcd_t (h27)
      have H := ift h27 H
      refine Ow_qw rfl rfl rfl rfl rfl rfl (Qt_move rfl) ?_
      refine Ow_qw rfl rfl rfl rfl rfl rfl (Qt_move rfl) ?_
      refine Ow_qw rfl rfl rfl rfl rfl rfl (Qt_cmp rfl rfl rfl) ?_
      refine Ow_q rfl rfl rfl (Qt_pick_t rfl rfl) ?_
      refine Ow_q rfl rfl rfl (Qt_move rfl) ?_
      refine Ow_caseG rfl rfl rfl ?_ ?_
      · intro h28
        have h28 := dcd_t (h28)
        have H := ift h28 H
        refine Ow_qw rfl rfl rfl rfl rfl rfl (Qt_move rfl) ?_
        refine Ow_qw rfl rfl rfl rfl rfl rfl (Qt_move rfl) ?_
        refine Ow_qw rfl rfl rfl rfl rfl rfl (Q_len (T := (Ty.sl Ty.i64)) hs19 rfl rfl) ?_
        refine Ow_qw rfl rfl rfl rfl rfl rfl (Qt_cmp rfl rfl rfl) ?_
        refine Ow_q rfl rfl rfl (Qt_pick_t rfl rfl) ?_
        refine Ow_q rfl rfl rfl (Qt_move rfl) ?_
        refine Ow_caseG rfl rfl rfl ?_ ?_
        · intro h29
          have h29 := dcd_t (h29)
          have H := ift h29 H
          refine Ow_qw rfl rfl rfl rfl rfl rfl (Qt_move rfl) ?_
          refine Ow_qw rfl rfl rfl rfl rfl rfl (Qt_move rfl) ?_
          refine Ow_qw rfl rfl rfl rfl rfl rfl (Qt_move rfl) ?_
          refine Ow_qw rfl rfl rfl rfl rfl rfl (Qt_move rfl) ?_
          obtain ⟨x30, hx31, H⟩ := bnd H
          have hs32 := (hp0).mono hK18
          refine Ow_want rfl rfl rfl rfl (OpW_call rfl Try.call55 rfl rfl (c_M_happens_before p0 vp0 x14 v16 p2 p3 x30 hx31 _ _ hs32 hs19) ?_)
          rintro _ _ _ - ⟨rfl, rfl, rfl⟩
          refine Ow_q rfl rfl rfl (Qt_pick_t rfl rfl) ?_
          refine Ow_q rfl rfl rfl (Qt_assign rfl) ?_
          refine Ow_nil ?_
          refine Shift.rem .here ?_
          refine Shift.done ?_
          exact ⟨[(8, (.bool x30))], ⟨rfl, trivial⟩, x30, rfl, rfl, rfl, H⟩
        · intro h29
          have h29 := dcd_f (h29)
          have H := iff_ h29 H
          refine Ow_pass rfl rfl rfl rfl rfl rfl rfl ?_
          refine Ow_pass rfl rfl rfl rfl rfl rfl rfl ?_
          refine Ow_pass rfl rfl rfl rfl rfl rfl rfl ?_
          refine Ow_pass rfl rfl rfl rfl rfl rfl rfl ?_
          refine Ow_pass rfl rfl rfl rfl rfl rfl rfl ?_
          refine Ow_q rfl rfl rfl (Qt_pick_f rfl rfl) ?_
          refine Ow_q rfl rfl rfl (Qt_assign rfl) ?_
          refine Ow_nil ?_
          refine Shift.rem .here ?_
          refine Shift.done ?_
          exact ⟨[(8, (.bool false))], ⟨rfl, trivial⟩, false, rfl, rfl, rfl, H⟩
      · intro h28
        have h28 := dcd_f (h28)
        have H := iff_ h28 H
        refine Ow_pass rfl rfl rfl rfl rfl rfl rfl ?_
        refine Ow_pass rfl rfl rfl rfl rfl rfl rfl ?_
        refine Ow_pass rfl rfl rfl rfl rfl rfl rfl ?_
        refine Ow_pass rfl rfl rfl rfl rfl rfl rfl ?_
        refine Ow_q rfl rfl rfl (Qt_pick_f rfl rfl) ?_
        refine Ow_q rfl rfl rfl (Qt_move rfl) ?_
        refine Ow_pass rfl rfl rfl rfl rfl rfl rfl ?_
        refine Ow_pass rfl rfl rfl rfl rfl rfl rfl ?_
        refine Ow_pass rfl rfl rfl rfl rfl rfl rfl ?_
        refine Ow_pass rfl rfl rfl rfl rfl rfl rfl ?_
        refine Ow_pass rfl rfl rfl rfl rfl rfl rfl ?_
        refine Ow_q rfl rfl rfl (Qt_pick_f rfl rfl) ?_
        refine Ow_q rfl rfl rfl (Qt_assign rfl) ?_
        refine Ow_nil ?_
        refine Shift.rem .here ?_
        refine Shift.done ?_
        exact ⟨[(8, (.bool false))], ⟨rfl, trivial⟩, false, rfl, rfl, rfl, H⟩
    · intro h27
      have h27 := dcd_f (h27)
      have H := iff_ h27 H
      refine Ow_pass rfl rfl rfl rfl rfl rfl rfl ?_
      refine Ow_pass rfl rfl rfl rfl rfl rfl rfl ?_
      refine Ow_pass rfl rfl rfl rfl rfl rfl rfl ?_
      refine Ow_q rfl rfl rfl (Qt_pick_f rfl rfl) ?_
      refine Ow_q rfl rfl rfl (Qt_move rfl) ?_
      refine Ow_pass rfl rfl rfl rfl rfl rfl rfl ?_
      refine Ow_pass rfl rfl rfl rfl rfl rfl rfl ?_
      refine Ow_pass rfl rfl rfl rfl rfl rfl rfl ?_
      refine Ow_pass rfl rfl rfl rfl rfl rfl rfl ?_
      refine Ow_q rfl rfl rfl (Qt_pick_f rfl rfl) ?_
      refine Ow_q rfl rfl rfl (Qt_move rfl) ?_
      refine Ow_pass rfl rfl rfl rfl rfl rfl rfl ?_
      refine Ow_pass rfl rfl rfl rfl rfl rfl rfl ?_
      refine Ow_pass rfl rfl rfl rfl rfl rfl rfl ?_
      refine Ow_pass rfl rfl rfl rfl rfl rfl rfl ?_
      refine Ow_pass rfl rfl rfl rfl rfl rfl rfl ?_
      refine Ow_q rfl rfl rfl (Qt_pick_f rfl rfl) ?_
      refine Ow_q rfl rfl rfl (Qt_assign rfl) ?_
      refine Ow_nil ?_
      refine Shift.rem .here ?_
      refine Shift.done ?_
      exact ⟨[(8, (.bool false))], ⟨rfl, trivial⟩, false, rfl, rfl, rfl, H⟩
  rintro _ _ _ - ⟨t26, rfl, rfl, rfl, H⟩
  unfold M_happens_Before_J1 at H
  refine Cw_ret ?_
  obtain ey0 := inj1 H
  subst y0
  refine ⟨(by first | exact .inl rfl | exact .inr rfl), [(.bool t26)], ⟨(.bool t26), _, rfl, rfl, rfl⟩, ?_⟩
  refine Shift.done ?_
  exact ⟨rfl, rfl⟩


end Go.Hx
