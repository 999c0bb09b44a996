/- Printed by program. -/
import Derived.Test.YtgpoanmjkggijaaXCM
import Derived.Test.YtgpoanmjkggijaaXCWRef4
namespace Go.Hx
open Go Go.Proofs
set_option linter.unusedSimpArgs false
set_option linter.unusedVariables false
set_option maxRecDepth 10000
set_option maxHeartbeats 1000000 in
theorem c_M_ref14_Same (p0 : List Chan) (vp0 : SV) (p1 : List Chan) (vp1 : SV) (y0 : Bool) (H : M_ref14_Same p0 p1 = some y0) (K : Kp) (G : List Ent) (hp0 : Slr TyChan K (sv vp0) p0) (hp1 : Slr TyChan K (sv vp1) p1) :
    Fc Try.prog 21 #[(sv vp0), (sv vp1)] K (G) (fun v K' G' => v = (.bool y0) ∧ G = G') := by
  refine Fc_body Try.func21 rfl Try.ntmps21 Try.results21 rfl ?_
  unfold M_ref14_Same at H
  refine Cw_seq ?_
  refine Cw_region ?_
  refine Ow_q rfl rfl rfl (Qt_assign rfl) ?_
  refine Ow_nil ?_
  refine Cw_seq ?_
  refine Cw_seq ?_
  refine Cw_region ?_
  refine Ow_q rfl rfl rfl (Qt_move rfl) ?_
  refine Ow_q rfl rfl rfl (Q_len (T := TyChan) hp0 rfl rfl) ?_
  refine Ow_q rfl rfl rfl (Qt_move rfl) ?_
  refine Ow_q rfl rfl rfl (Q_len (T := TyChan) hp1 rfl rfl) ?_
  refine Ow_q rfl rfl rfl (Qt_cmp rfl rfl rfl) ?_
  refine Ow_nil ?_
  refine Cw_cond rfl ?_ ?_
  · intro h251
    have h251 := dcd_f (nt_t (h251))
    have H := iff_ h251 H
    refine Cw_seq ?_
    refine Cw_region ?_
    refine Ow_q rfl rfl rfl (Qt_assign rfl) ?_
    refine Ow_nil ?_
    refine Cw_ret ?_
    obtain ey0 := inj1 H
    subst y0
    refine ⟨(by first | exact .inl rfl | exact .inr rfl), [(.bool false)], ⟨(.bool false), _, rfl, rfl, rfl⟩, ?_⟩
    refine Shift.done ?_
    exact ⟨rfl, rfl⟩
  · intro h251
    have h251 := dcd_t (nt_f (h251))
    have H := ift h251 H
    refine Cw_skip ?_
    refine Cw_join (fun env' K' G' => [] = env' ∧ G = G' ∧ M_ref14_Same_J1 = some y0) ?_ ?_
    · skip
      refine Cw_seq ?_
      refine Cw_region ?_
      refine Ow_q rfl rfl rfl (Qt_assign rfl) ?_
      refine Ow_nil ?_
      refine Cw_block ?_
      refine Cw_loopM (fun n744 env' K' G' => ∃ (i743 : Int), [(0, (sv vp0)), (1, (sv vp1)), (5, (.int .i64 i743))] = env' ∧ G = G' ∧ lp1 (M_ref14_Same_L1 p0 p1) n744 i743 = some y0) BIG ?_ ?_
      · skip
        refine Shift.done ?_
        exact ⟨[(0, (sv vp0)), (1, (sv vp1)), (5, (.int .i64 0))], ⟨rfl, rfl, rfl, trivial⟩, 0, rfl, rfl, H⟩
      rintro n744 _ K745 _ hK746 ⟨i743, rfl, rfl, H⟩
      obtain ⟨m747, k748, rfl, hkk749, H⟩ := lps1 H
      unfold M_ref14_Same_L1 at H
      refine Cw_seq ?_
      refine Cw_seq ?_
      refine Cw_region ?_
      refine Ow_q rfl rfl rfl (Qt_move rfl) ?_
      refine Ow_q rfl rfl rfl (Qt_move rfl) ?_
      have hs752 := (hp0).mono hK746
      refine Ow_q rfl rfl rfl (Q_len (T := TyChan) hs752 rfl rfl) ?_
      refine Ow_q rfl rfl rfl (Qt_cmp rfl rfl rfl) ?_
      refine Ow_nil ?_
      refine Cw_cond rfl ?_ ?_
      · intro h753
        have h753 := dcd_t (h753)
        have H := ift h753 H
        refine Cw_skip ?_
        refine Cw_seq ?_
        refine Cw_block ?_
        refine Cw_join (fun env' K' G' => ∃ (t986 : Bool), [(0, (sv vp0)), (1, (sv vp1)), (5, (.int .i64 i743)), (54, (.bool t986))] = env' ∧ G = G' ∧ M_ref14_Same_J2 p0 p1 i743 k748 t986 = some y0) ?_ ?_
        · skip
          obtain ⟨x987, hx988, H⟩ := bnd H
          obtain ⟨x994, hx995, H⟩ := bnd H
          rcases bool_ct (!(dcd (x987.capacity = x994.capacity))) with hb_ | hb_ <;> revert hb_
          · intro h1002
            have h1002 := dcd_f (nt_t (h1002))
            have H := iff_ h1002 H
            refine Cw_region_any [] rfl Inc.nil ?_
            refine Aw_q 0 rfl (by kernel_rfl) (by kernel_rfl) (by kernel_rfl) rfl rfl rfl (Qt_move rfl) ?_
            refine Aw_q 1 rfl (by kernel_rfl) (by kernel_rfl) (by kernel_rfl) rfl rfl rfl (Qt_move rfl) ?_
            obtain ⟨r1003, hr1004, hk1005⟩ := Slr.at hs752 hx988
            obtain ⟨v1006, rfl, hs1007⟩ := hr1004
            refine Aw_q 2 rfl (by kernel_rfl) (by kernel_rfl) (by kernel_rfl) rfl rfl rfl (Q_ix (T := TyChan) hs752 hx988 rfl rfl rfl rfl rfl) ?_
            refine Aw_q 3 rfl (by kernel_rfl) (by kernel_rfl) (by kernel_rfl) rfl rfl rfl (Qt_fieldAddr (m := 0) rfl rfl rfl rfl rfl) ?_
            refine Aw_q 4 rfl (by kernel_rfl) (by kernel_rfl) (by kernel_rfl) rfl rfl rfl (Qt_load1 (v := (.int .i64 x987.capacity)) rfl rfl rfl (Rdc.k hk1005 rfl)) ?_
            refine Aw_q 5 rfl (by kernel_rfl) (by kernel_rfl) (by kernel_rfl) rfl rfl rfl (Qt_move rfl) ?_
            refine Aw_q 6 rfl (by kernel_rfl) (by kernel_rfl) (by kernel_rfl) rfl rfl rfl (Qt_move rfl) ?_
            have hs1008 := (hp1).mono hK746
            obtain ⟨r1009, hr1010, hk1011⟩ := Slr.at hs1008 hx995
            obtain ⟨v1012, rfl, hs1013⟩ := hr1010
            refine Aw_q 7 rfl (by kernel_rfl) (by kernel_rfl) (by kernel_rfl) rfl rfl rfl (Q_ix (T := TyChan) hs1008 hx995 rfl rfl rfl rfl rfl) ?_
            refine Aw_q 8 rfl (by kernel_rfl) (by kernel_rfl) (by kernel_rfl) rfl rfl rfl (Qt_fieldAddr (m := 0) rfl rfl rfl rfl rfl) ?_
            refine Aw_q 9 rfl (by kernel_rfl) (by kernel_rfl) (by kernel_rfl) rfl rfl rfl (Qt_load1 (v := (.int .i64 x994.capacity)) rfl rfl rfl (Rdc.k hk1011 rfl)) ?_
            refine Aw_q 10 rfl (by kernel_rfl) (by kernel_rfl) (by kernel_rfl) rfl rfl rfl (Qt_cmp rfl rfl rfl) ?_
            refine Aw_q 11 rfl (by kernel_rfl) (by kernel_rfl) (by kernel_rfl) rfl rfl rfl (Qt_move rfl) ?_
            refine Aw.known (d := 28) rfl (nt_mt (dcd_neg h1002)) ?_
            refine Aw_pass 12 rfl (by kernel_rfl) (by kernel_rfl) (by kernel_rfl) rfl rfl rfl rfl rfl rfl rfl ?_
            refine Aw_pass 13 rfl (by kernel_rfl) (by kernel_rfl) (by kernel_rfl) rfl rfl rfl rfl rfl rfl rfl ?_
            refine Aw_pass 14 rfl (by kernel_rfl) (by kernel_rfl) (by kernel_rfl) rfl rfl rfl rfl rfl rfl rfl ?_
            refine Aw_pass 15 rfl (by kernel_rfl) (by kernel_rfl) (by kernel_rfl) rfl rfl rfl rfl rfl rfl rfl ?_
            refine Aw_pass 16 rfl (by kernel_rfl) (by kernel_rfl) (by kernel_rfl) rfl rfl rfl rfl rfl rfl rfl ?_
            refine Aw_pass 17 rfl (by kernel_rfl) (by kernel_rfl) (by kernel_rfl) rfl rfl rfl rfl rfl rfl rfl ?_
            refine Aw_pass 18 rfl (by kernel_rfl) (by kernel_rfl) (by kernel_rfl) rfl rfl rfl rfl rfl rfl rfl ?_
            refine Aw_pass 19 rfl (by kernel_rfl) (by kernel_rfl) (by kernel_rfl) rfl rfl rfl rfl rfl rfl rfl ?_
            refine Aw_pass 20 rfl (by kernel_rfl) (by kernel_rfl) (by kernel_rfl) rfl rfl rfl rfl rfl rfl rfl ?_
            refine Aw_pass 21 rfl (by kernel_rfl) (by kernel_rfl) (by kernel_rfl) rfl rfl rfl rfl rfl rfl rfl ?_
            refine Aw_pass 22 rfl (by kernel_rfl) (by kernel_rfl) (by kernel_rfl) rfl rfl rfl rfl rfl rfl rfl ?_
            refine Aw_q 23 rfl (by kernel_rfl) (by kernel_rfl) (by kernel_rfl) rfl rfl rfl (Qt_pick_t rfl rfl) ?_
            refine Aw_q 24 rfl (by kernel_rfl) (by kernel_rfl) (by kernel_rfl) rfl rfl rfl (Qt_move rfl) ?_
            refine Aw_pass 25 rfl (by kernel_rfl) (by kernel_rfl) (by kernel_rfl) rfl rfl rfl rfl rfl rfl rfl ?_
            refine Aw_pass 26 rfl (by kernel_rfl) (by kernel_rfl) (by kernel_rfl) rfl rfl rfl rfl rfl rfl rfl ?_
            refine Aw_pass 27 rfl (by kernel_rfl) (by kernel_rfl) (by kernel_rfl) rfl rfl rfl rfl rfl rfl rfl ?_
            refine Aw_pass 28 rfl (by kernel_rfl) (by kernel_rfl) (by kernel_rfl) rfl rfl rfl rfl rfl rfl rfl ?_
            refine Aw_pass 29 rfl (by kernel_rfl) (by kernel_rfl) (by kernel_rfl) rfl rfl rfl rfl rfl rfl rfl ?_
            refine Aw_pass 30 rfl (by kernel_rfl) (by kernel_rfl) (by kernel_rfl) rfl rfl rfl rfl rfl rfl rfl ?_
            refine Aw_pass 31 rfl (by kernel_rfl) (by kernel_rfl) (by kernel_rfl) rfl rfl rfl rfl rfl rfl rfl ?_
            refine Aw_pass 32 rfl (by kernel_rfl) (by kernel_rfl) (by kernel_rfl) rfl rfl rfl rfl rfl rfl rfl ?_
            refine Aw_pass 33 rfl (by kernel_rfl) (by kernel_rfl) (by kernel_rfl) rfl rfl rfl rfl rfl rfl rfl ?_
            refine Aw_pass 34 rfl (by kernel_rfl) (by kernel_rfl) (by kernel_rfl) rfl rfl rfl rfl rfl rfl rfl ?_
            refine Aw_pass 35 rfl (by kernel_rfl) (by kernel_rfl) (by kernel_rfl) rfl rfl rfl rfl rfl rfl rfl ?_
            refine Aw_pass 36 rfl (by kernel_rfl) (by kernel_rfl) (by kernel_rfl) rfl rfl rfl rfl rfl rfl rfl ?_
            refine Aw_q 37 rfl (by kernel_rfl) (by kernel_rfl) (by kernel_rfl) rfl rfl rfl (Qt_pick_t rfl rfl) ?_
            refine Aw_done (by kernel_rfl) ?_
            refine Shift.done ?_
            exact ⟨[(0, (sv vp0)), (1, (sv vp1)), (5, (.int .i64 i743)), (54, (.bool true))], ⟨rfl, rfl, rfl, rfl, trivial⟩, true, rfl, rfl, H⟩
          · intro h1002
            have h1002 := dcd_t (nt_f (h1002))
            have H := ift h1002 H
            obtain ⟨x1014, hx1015, H⟩ := bnd H
            obtain ⟨x1021, hx1022, H⟩ := bnd H
            rcases bool_ct (!((x1014.closed == x1021.closed))) with hb_ | hb_ <;> revert hb_
            · intro h1028
              have h1028 := nt_t (h1028)
              have H := iff_ (btf h1028) H
              refine Cw_region_any [] rfl Inc.nil ?_
              refine Aw_q 0 rfl (by kernel_rfl) (by kernel_rfl) (by kernel_rfl) rfl rfl rfl (Qt_move rfl) ?_
              refine Aw_q 1 rfl (by kernel_rfl) (by kernel_rfl) (by kernel_rfl) rfl rfl rfl (Qt_move rfl) ?_
              obtain ⟨r1029, hr1030, hk1031⟩ := Slr.at hs752 hx988
              obtain ⟨v1032, rfl, hs1033⟩ := hr1030
              refine Aw_q 2 rfl (by kernel_rfl) (by kernel_rfl) (by kernel_rfl) rfl rfl rfl (Q_ix (T := TyChan) hs752 hx988 rfl rfl rfl rfl rfl) ?_
              refine Aw_q 3 rfl (by kernel_rfl) (by kernel_rfl) (by kernel_rfl) rfl rfl rfl (Qt_fieldAddr (m := 0) rfl rfl rfl rfl rfl) ?_
              refine Aw_q 4 rfl (by kernel_rfl) (by kernel_rfl) (by kernel_rfl) rfl rfl rfl (Qt_load1 (v := (.int .i64 x987.capacity)) rfl rfl rfl (Rdc.k hk1031 rfl)) ?_
              refine Aw_q 5 rfl (by kernel_rfl) (by kernel_rfl) (by kernel_rfl) rfl rfl rfl (Qt_move rfl) ?_
              refine Aw_q 6 rfl (by kernel_rfl) (by kernel_rfl) (by kernel_rfl) rfl rfl rfl (Qt_move rfl) ?_
              have hs1034 := (hp1).mono hK746
              obtain ⟨r1035, hr1036, hk1037⟩ := Slr.at hs1034 hx995
              obtain ⟨v1038, rfl, hs1039⟩ := hr1036
              refine Aw_q 7 rfl (by kernel_rfl) (by kernel_rfl) (by kernel_rfl) rfl rfl rfl (Q_ix (T := TyChan) hs1034 hx995 rfl rfl rfl rfl rfl) ?_
              refine Aw_q 8 rfl (by kernel_rfl) (by kernel_rfl) (by kernel_rfl) rfl rfl rfl (Qt_fieldAddr (m := 0) rfl rfl rfl rfl rfl) ?_
              refine Aw_q 9 rfl (by kernel_rfl) (by kernel_rfl) (by kernel_rfl) rfl rfl rfl (Qt_load1 (v := (.int .i64 x994.capacity)) rfl rfl rfl (Rdc.k hk1037 rfl)) ?_
              refine Aw_q 10 rfl (by kernel_rfl) (by kernel_rfl) (by kernel_rfl) rfl rfl rfl (Qt_cmp rfl rfl rfl) ?_
              refine Aw_q 11 rfl (by kernel_rfl) (by kernel_rfl) (by kernel_rfl) rfl rfl rfl (Qt_move rfl) ?_
              refine Aw.known (d := 28) rfl (nt_mf (dcd_pos h1002)) ?_
              refine Aw_qw 12 rfl (by kernel_rfl) (by kernel_rfl) (by kernel_rfl) rfl rfl rfl rfl rfl rfl (Qt_move rfl) ?_
              refine Aw_qw 13 rfl (by kernel_rfl) (by kernel_rfl) (by kernel_rfl) rfl rfl rfl rfl rfl rfl (Qt_move rfl) ?_
              obtain ⟨r1040, hr1041, hk1042⟩ := Slr.at hs752 hx1015
              obtain ⟨v1043, rfl, hs1044⟩ := hr1041
              refine Aw_qw 14 rfl (by kernel_rfl) (by kernel_rfl) (by kernel_rfl) rfl rfl rfl rfl rfl rfl (Q_ix (T := TyChan) hs752 hx1015 rfl rfl rfl rfl rfl) ?_
              refine Aw_qw 15 rfl (by kernel_rfl) (by kernel_rfl) (by kernel_rfl) rfl rfl rfl rfl rfl rfl (Qt_fieldAddr (m := 2) rfl rfl rfl rfl rfl) ?_
              refine Aw_qw 16 rfl (by kernel_rfl) (by kernel_rfl) (by kernel_rfl) rfl rfl rfl rfl rfl rfl (Qt_load1 (v := (.bool x1014.closed)) rfl rfl rfl (Rdc.k hk1042 rfl)) ?_
              refine Aw_qw 17 rfl (by kernel_rfl) (by kernel_rfl) (by kernel_rfl) rfl rfl rfl rfl rfl rfl (Qt_move rfl) ?_
              refine Aw_qw 18 rfl (by kernel_rfl) (by kernel_rfl) (by kernel_rfl) rfl rfl rfl rfl rfl rfl (Qt_move rfl) ?_
              obtain ⟨r1045, hr1046, hk1047⟩ := Slr.at hs1034 hx1022
              obtain ⟨v1048, rfl, hs1049⟩ := hr1046
              refine Aw_qw 19 rfl (by kernel_rfl) (by kernel_rfl) (by kernel_rfl) rfl rfl rfl rfl rfl rfl (Q_ix (T := TyChan) hs1034 hx1022 rfl rfl rfl rfl rfl) ?_
              refine Aw_qw 20 rfl (by kernel_rfl) (by kernel_rfl) (by kernel_rfl) rfl rfl rfl rfl rfl rfl (Qt_fieldAddr (m := 2) rfl rfl rfl rfl rfl) ?_
              refine Aw_qw 21 rfl (by kernel_rfl) (by kernel_rfl) (by kernel_rfl) rfl rfl rfl rfl rfl rfl (Qt_load1 (v := (.bool x1021.closed)) rfl rfl rfl (Rdc.k hk1047 rfl)) ?_
              refine Aw_qw 22 rfl (by kernel_rfl) (by kernel_rfl) (by kernel_rfl) rfl rfl rfl rfl rfl rfl (Qt_neB rfl rfl rfl) ?_
              refine Aw_q 23 rfl (by kernel_rfl) (by kernel_rfl) (by kernel_rfl) rfl rfl rfl (Qt_pick_f rfl rfl) ?_
              refine Aw_q 24 rfl (by kernel_rfl) (by kernel_rfl) (by kernel_rfl) rfl rfl rfl (Qt_move rfl) ?_
              refine Aw.known (d := 41) rfl (nt_mt (h1028)) ?_
              refine Aw_pass 25 rfl (by kernel_rfl) (by kernel_rfl) (by kernel_rfl) rfl rfl rfl rfl rfl rfl rfl ?_
              refine Aw_pass 26 rfl (by kernel_rfl) (by kernel_rfl) (by kernel_rfl) rfl rfl rfl rfl rfl rfl rfl ?_
              refine Aw_pass 27 rfl (by kernel_rfl) (by kernel_rfl) (by kernel_rfl) rfl rfl rfl rfl rfl rfl rfl ?_
              refine Aw_pass 28 rfl (by kernel_rfl) (by kernel_rfl) (by kernel_rfl) rfl rfl rfl rfl rfl rfl rfl ?_
              refine Aw_pass 29 rfl (by kernel_rfl) (by kernel_rfl) (by kernel_rfl) rfl rfl rfl rfl rfl rfl rfl ?_
              refine Aw_pass 30 rfl (by kernel_rfl) (by kernel_rfl) (by kernel_rfl) rfl rfl rfl rfl rfl rfl rfl ?_
              refine Aw_pass 31 rfl (by kernel_rfl) (by kernel_rfl) (by kernel_rfl) rfl rfl rfl rfl rfl rfl rfl ?_
              refine Aw_pass 32 rfl (by kernel_rfl) (by kernel_rfl) (by kernel_rfl) rfl rfl rfl rfl rfl rfl rfl ?_
              refine Aw_pass 33 rfl (by kernel_rfl) (by kernel_rfl) (by kernel_rfl) rfl rfl rfl rfl rfl rfl rfl ?_
              refine Aw_pass 34 rfl (by kernel_rfl) (by kernel_rfl) (by kernel_rfl) rfl rfl rfl rfl rfl rfl rfl ?_
              refine Aw_pass 35 rfl (by kernel_rfl) (by kernel_rfl) (by kernel_rfl) rfl rfl rfl rfl rfl rfl rfl ?_
              refine Aw_pass 36 rfl (by kernel_rfl) (by kernel_rfl) (by kernel_rfl) rfl rfl rfl rfl rfl rfl rfl ?_
              refine Aw_q 37 rfl (by kernel_rfl) (by kernel_rfl) (by kernel_rfl) rfl rfl rfl (Qt_pick_t rfl rfl) ?_
              refine Aw_done (by kernel_rfl) ?_
              refine Shift.done ?_
              exact ⟨[(0, (sv vp0)), (1, (sv vp1)), (5, (.int .i64 i743)), (54, (.bool true))], ⟨rfl, rfl, rfl, rfl, trivial⟩, true, rfl, rfl, H⟩
            · intro h1028
              have h1028 := nt_f (h1028)
              have H := ift h1028 H
              obtain ⟨x1050, hx1051, H⟩ := bnd H
              obtain ⟨x1057, hx1058, H⟩ := bnd H
              obtain ⟨x1064, hx1065, H⟩ := bnd H
              refine Cw_region_any [] rfl Inc.nil ?_
              refine Aw_q 0 rfl (by kernel_rfl) (by kernel_rfl) (by kernel_rfl) rfl rfl rfl (Qt_move rfl) ?_
              refine Aw_q 1 rfl (by kernel_rfl) (by kernel_rfl) (by kernel_rfl) rfl rfl rfl (Qt_move rfl) ?_
              obtain ⟨r1068, hr1069, hk1070⟩ := Slr.at hs752 hx988
              obtain ⟨v1071, rfl, hs1072⟩ := hr1069
              refine Aw_q 2 rfl (by kernel_rfl) (by kernel_rfl) (by kernel_rfl) rfl rfl rfl (Q_ix (T := TyChan) hs752 hx988 rfl rfl rfl rfl rfl) ?_
              refine Aw_q 3 rfl (by kernel_rfl) (by kernel_rfl) (by kernel_rfl) rfl rfl rfl (Qt_fieldAddr (m := 0) rfl rfl rfl rfl rfl) ?_
              refine Aw_q 4 rfl (by kernel_rfl) (by kernel_rfl) (by kernel_rfl) rfl rfl rfl (Qt_load1 (v := (.int .i64 x987.capacity)) rfl rfl rfl (Rdc.k hk1070 rfl)) ?_
              refine Aw_q 5 rfl (by kernel_rfl) (by kernel_rfl) (by kernel_rfl) rfl rfl rfl (Qt_move rfl) ?_
              refine Aw_q 6 rfl (by kernel_rfl) (by kernel_rfl) (by kernel_rfl) rfl rfl rfl (Qt_move rfl) ?_
              have hs1073 := (hp1).mono hK746
              obtain ⟨r1074, hr1075, hk1076⟩ := Slr.at hs1073 hx995
              obtain ⟨v1077, rfl, hs1078⟩ := hr1075
              refine Aw_q 7 rfl (by kernel_rfl) (by kernel_rfl) (by kernel_rfl) rfl rfl rfl (Q_ix (T := TyChan) hs1073 hx995 rfl rfl rfl rfl rfl) ?_
              refine Aw_q 8 rfl (by kernel_rfl) (by kernel_rfl) (by kernel_rfl) rfl rfl rfl (Qt_fieldAddr (m := 0) rfl rfl rfl rfl rfl) ?_
              refine Aw_q 9 rfl (by kernel_rfl) (by kernel_rfl) (by kernel_rfl) rfl rfl rfl (Qt_load1 (v := (.int .i64 x994.capacity)) rfl rfl rfl (Rdc.k hk1076 rfl)) ?_
              refine Aw_q 10 rfl (by kernel_rfl) (by kernel_rfl) (by kernel_rfl) rfl rfl rfl (Qt_cmp rfl rfl rfl) ?_
              refine Aw_q 11 rfl (by kernel_rfl) (by kernel_rfl) (by kernel_rfl) rfl rfl rfl (Qt_move rfl) ?_
              refine Aw.known (d := 28) rfl (nt_mf (dcd_pos h1002)) ?_
              refine Aw_qw 12 rfl (by kernel_rfl) (by kernel_rfl) (by kernel_rfl) rfl rfl rfl rfl rfl rfl (Qt_move rfl) ?_
              refine Aw_qw 13 rfl (by kernel_rfl) (by kernel_rfl) (by kernel_rfl) rfl rfl rfl rfl rfl rfl (Qt_move rfl) ?_
              obtain ⟨r1079, hr1080, hk1081⟩ := Slr.at hs752 hx1015
              obtain ⟨v1082, rfl, hs1083⟩ := hr1080
              refine Aw_qw 14 rfl (by kernel_rfl) (by kernel_rfl) (by kernel_rfl) rfl rfl rfl rfl rfl rfl (Q_ix (T := TyChan) hs752 hx1015 rfl rfl rfl rfl rfl) ?_
              refine Aw_qw 15 rfl (by kernel_rfl) (by kernel_rfl) (by kernel_rfl) rfl rfl rfl rfl rfl rfl (Qt_fieldAddr (m := 2) rfl rfl rfl rfl rfl) ?_
              refine Aw_qw 16 rfl (by kernel_rfl) (by kernel_rfl) (by kernel_rfl) rfl rfl rfl rfl rfl rfl (Qt_load1 (v := (.bool x1014.closed)) rfl rfl rfl (Rdc.k hk1081 rfl)) ?_
              refine Aw_qw 17 rfl (by kernel_rfl) (by kernel_rfl) (by kernel_rfl) rfl rfl rfl rfl rfl rfl (Qt_move rfl) ?_
              refine Aw_qw 18 rfl (by kernel_rfl) (by kernel_rfl) (by kernel_rfl) rfl rfl rfl rfl rfl rfl (Qt_move rfl) ?_
              obtain ⟨r1084, hr1085, hk1086⟩ := Slr.at hs1073 hx1022
              obtain ⟨v1087, rfl, hs1088⟩ := hr1085
              refine Aw_qw 19 rfl (by kernel_rfl) (by kernel_rfl) (by kernel_rfl) rfl rfl rfl rfl rfl rfl (Q_ix (T := TyChan) hs1073 hx1022 rfl rfl rfl rfl rfl) ?_
              refine Aw_qw 20 rfl (by kernel_rfl) (by kernel_rfl) (by kernel_rfl) rfl rfl rfl rfl rfl rfl (Qt_fieldAddr (m := 2) rfl rfl rfl rfl rfl) ?_
              refine Aw_qw 21 rfl (by kernel_rfl) (by kernel_rfl) (by kernel_rfl) rfl rfl rfl rfl rfl rfl (Qt_load1 (v := (.bool x1021.closed)) rfl rfl rfl (Rdc.k hk1086 rfl)) ?_
              refine Aw_qw 22 rfl (by kernel_rfl) (by kernel_rfl) (by kernel_rfl) rfl rfl rfl rfl rfl rfl (Qt_neB rfl rfl rfl) ?_
              refine Aw_q 23 rfl (by kernel_rfl) (by kernel_rfl) (by kernel_rfl) rfl rfl rfl (Qt_pick_f rfl rfl) ?_
              refine Aw_q 24 rfl (by kernel_rfl) (by kernel_rfl) (by kernel_rfl) rfl rfl rfl (Qt_move rfl) ?_
              refine Aw.known (d := 41) rfl (nt_mf (h1028)) ?_
              refine Aw_qw 25 rfl (by kernel_rfl) (by kernel_rfl) (by kernel_rfl) rfl rfl rfl rfl rfl rfl (Qt_move rfl) ?_
              refine Aw_qw 26 rfl (by kernel_rfl) (by kernel_rfl) (by kernel_rfl) rfl rfl rfl rfl rfl rfl (Qt_move rfl) ?_
              obtain ⟨r1089, hr1090, hk1091⟩ := Slr.at hs752 hx1051
              obtain ⟨v1092, rfl, hs1093⟩ := hr1090
              refine Aw_qw 27 rfl (by kernel_rfl) (by kernel_rfl) (by kernel_rfl) rfl rfl rfl rfl rfl rfl (Q_ix (T := TyChan) hs752 hx1051 rfl rfl rfl rfl rfl) ?_
              refine Aw_qw 28 rfl (by kernel_rfl) (by kernel_rfl) (by kernel_rfl) rfl rfl rfl rfl rfl rfl (Qt_fieldAddr (m := 1) rfl rfl rfl rfl rfl) ?_
              refine Aw_qw 29 rfl (by kernel_rfl) (by kernel_rfl) (by kernel_rfl) rfl rfl rfl rfl rfl rfl (Qt_load1 (v := (sv v1092)) rfl rfl rfl (Rdc.k hk1091 rfl)) ?_
              refine Aw_qw 30 rfl (by kernel_rfl) (by kernel_rfl) (by kernel_rfl) rfl rfl rfl rfl rfl rfl (Qt_move rfl) ?_
              refine Aw_qw 31 rfl (by kernel_rfl) (by kernel_rfl) (by kernel_rfl) rfl rfl rfl rfl rfl rfl (Qt_move rfl) ?_
              obtain ⟨r1094, hr1095, hk1096⟩ := Slr.at hs1073 hx1058
              obtain ⟨v1097, rfl, hs1098⟩ := hr1095
              refine Aw_qw 32 rfl (by kernel_rfl) (by kernel_rfl) (by kernel_rfl) rfl rfl rfl rfl rfl rfl (Q_ix (T := TyChan) hs1073 hx1058 rfl rfl rfl rfl rfl) ?_
              refine Aw_qw 33 rfl (by kernel_rfl) (by kernel_rfl) (by kernel_rfl) rfl rfl rfl rfl rfl rfl (Qt_fieldAddr (m := 1) rfl rfl rfl rfl rfl) ?_
              refine Aw_qw 34 rfl (by kernel_rfl) (by kernel_rfl) (by kernel_rfl) rfl rfl rfl rfl rfl rfl (Qt_load1 (v := (sv v1097)) rfl rfl rfl (Rdc.k hk1096 rfl)) ?_
              refine Aw_one 35 (by kernel_rfl) (Ax_mkw rfl rfl rfl rfl rfl ?_)
              refine OpW_call rfl Try.call36 rfl rfl (c_M_ref4_SameWords x1050.buffer v1092 x1057.buffer v1097 x1064 hx1065 _ _ hs1093 hs1098) ?_
              rintro _ K1099 _ hK1100 ⟨rfl, rfl⟩
              refine ⟨Inc.nil, ?_⟩
              refine Aw_qw 36 rfl (by kernel_rfl) (by kernel_rfl) (by kernel_rfl) rfl rfl rfl rfl rfl rfl (Qt_not rfl) ?_
              refine Aw_q 37 rfl (by kernel_rfl) (by kernel_rfl) (by kernel_rfl) rfl rfl rfl (Qt_pick_f rfl rfl) ?_
              refine Aw_done (by kernel_rfl) ?_
              refine Shift.done ?_
              exact ⟨[(0, (sv vp0)), (1, (sv vp1)), (5, (.int .i64 i743)), (54, (.bool (!(x1064))))], ⟨rfl, rfl, rfl, rfl, trivial⟩, (!(x1064)), rfl, rfl, H⟩
        rintro _ K1101 _ hK1102 ⟨t986, rfl, rfl, H⟩
        unfold M_ref14_Same_J2 at H
        refine Cw_cond rfl ?_ ?_
        · intro h1103
          have H := ift h1103 H
          refine Cw_seq ?_
          refine Cw_region ?_
          refine Ow_q rfl rfl rfl (Qt_assign rfl) ?_
          refine Ow_nil ?_
          refine Cw_ret ?_
          obtain ey0 := inj1 H
          subst y0
          refine ⟨(by first | exact .inl rfl | exact .inr rfl), [(.bool false)], ⟨(.bool false), _, rfl, rfl, rfl⟩, ?_⟩
          refine Shift.done ?_
          exact ⟨rfl, rfl⟩
        · intro h1103
          have H := iff_ (btf h1103) H
          refine Cw_skip ?_
          refine Cw_region ?_
          refine Ow_q rfl rfl rfl (Qt_move rfl) ?_
          refine Ow_q rfl rfl rfl (Qt_arith (e := wI (i743 + 1)) rfl rfl rfl rfl) ?_
          refine Ow_q rfl rfl rfl (Qt_assign rfl) ?_
          refine Ow_nil ?_
          refine Shift.done ?_
          exact ⟨[(0, (sv vp0)), (1, (sv vp1)), (5, (.int .i64 (wI (i743 + 1))))], ⟨rfl, rfl, rfl, trivial⟩, _, Nat.lt_succ_self _, (wI (i743 + 1)), rfl, rfl, (hkk749 ▸ H)⟩
      · intro h753
        have h753 := dcd_f (h753)
        have H := iff_ h753 H
        refine Cw_exit ?_
        refine Shift.done ?_
        exact ⟨[], trivial, rfl, rfl, H⟩
    rintro _ K1104 _ hK1105 ⟨rfl, rfl, H⟩
    unfold M_ref14_Same_J1 at H
    refine Cw_seq ?_
    refine Cw_region ?_
    refine Ow_q rfl rfl rfl (Qt_assign rfl) ?_
    refine Ow_nil ?_
    refine Cw_ret ?_
    obtain ey0 := inj1 H
    subst y0
    refine ⟨(by first | exact .inl rfl | exact .inr rfl), [(.bool true)], ⟨(.bool true), _, rfl, rfl, rfl⟩, ?_⟩
    refine Shift.done ?_
    exact ⟨rfl, rfl⟩

set_option maxHeartbeats 1000000 in
theorem c_M_ref14_exists (p0 : List Chan) (vp0 : SV) (p1 : Int) (y0 : Bool) (H : M_ref14_exists p0 p1 = some y0) (K : Kp) (G : List Ent) (hp0 : Slr TyChan K (sv vp0) p0) :
    Fc Try.prog 80 #[(sv vp0), (.int .i64 p1)] K (G) (fun v K' G' => v = (.bool y0) ∧ K = K' ∧ G = G') := by
  refine Fc_body Try.func80 rfl Try.ntmps80 Try.results80 rfl ?_
  unfold M_ref14_exists at H
  refine Cw_seq ?_
  refine Cw_region ?_
  refine Ow_q rfl rfl rfl (Qt_assign rfl) ?_
  refine Ow_nil ?_
  refine Cw_seq ?_
  refine Cw_region ?_
  refine Ow_q rfl rfl rfl (Qt_move rfl) ?_
  refine Ow_q rfl rfl rfl (Qt_cmp rfl rfl rfl) ?_
  refine Ow_q rfl rfl rfl (Qt_move rfl) ?_
  refine Ow_caseG rfl rfl rfl ?_ ?_
  · intro h3
    have h3 := dcd_t (h3)
    have H := ift h3 H
    refine Ow_qw rfl rfl rfl rfl rfl rfl (Qt_move rfl) ?_
    refine Ow_qw rfl rfl rfl rfl rfl rfl (Qt_move rfl) ?_
    refine Ow_qw rfl rfl rfl rfl rfl rfl (Q_len (T := TyChan) hp0 rfl rfl) ?_
    refine Ow_qw rfl rfl rfl rfl rfl rfl (Qt_cmp rfl rfl rfl) ?_
    refine Ow_q rfl rfl rfl (Qt_pick_t rfl rfl) ?_
    refine Ow_q rfl rfl rfl (Qt_assign rfl) ?_
    refine Ow_nil ?_
    refine Cw_ret ?_
    obtain ey0 := inj1 H
    subst y0
    refine ⟨(by first | exact .inl rfl | exact .inr rfl), [(.bool (dcd (p1 < (p0.length : Int))))], ⟨(.bool (dcd (p1 < (p0.length : Int)))), _, rfl, rfl, rfl⟩, ?_⟩
    refine Shift.done ?_
    exact ⟨rfl, rfl, rfl⟩
  · intro h3
    have h3 := dcd_f (h3)
    have H := iff_ h3 H
    refine Ow_pass rfl rfl rfl rfl rfl rfl rfl ?_
    refine Ow_pass rfl rfl rfl rfl rfl rfl rfl ?_
    refine Ow_pass rfl rfl rfl rfl rfl rfl rfl ?_
    refine Ow_pass rfl rfl rfl rfl rfl rfl rfl ?_
    refine Ow_q rfl rfl rfl (Qt_pick_f rfl rfl) ?_
    refine Ow_q rfl rfl rfl (Qt_assign rfl) ?_
    refine Ow_nil ?_
    refine Cw_ret ?_
    obtain ey0 := inj1 H
    subst y0
    refine ⟨(by first | exact .inl rfl | exact .inr rfl), [(.bool false)], ⟨(.bool false), _, rfl, rfl, rfl⟩, ?_⟩
    refine Shift.done ?_
    exact ⟨rfl, rfl, rfl⟩

set_option maxHeartbeats 1000000 in
theorem c_M_ref14_Ready (p0 : List Chan) (vp0 : SV) (p1 : Case) (y0 : Bool) (H : M_ref14_Ready p0 p1 = some y0) (K : Kp) (G : List Ent) (hp0 : Slr TyChan K (sv vp0) p0) :
    Fc Try.prog 43 #[(sv vp0), (.agg (Case.cells p1).toArray)] K (G) (fun v K' G' => v = (.bool y0) ∧ K = K' ∧ G = G') := by
  refine Fc_body Try.func43 rfl Try.ntmps43 Try.results43 rfl ?_
  unfold M_ref14_Ready at H
  refine Cw_seq ?_
  refine Cw_region ?_
  refine Ow_cons rfl (OpW_box (cs := (Case.cells p1)) rfl rfl rfl (fun b16 => ?_))
  refine Ow_q rfl rfl rfl (Qt_assign rfl) ?_
  refine Ow_nil ?_
  refine Cw_seq ?_
  refine Cw_seq ?_
  refine Cw_region ?_
  refine Ow_q rfl rfl rfl (Qt_move rfl) ?_
  refine Ow_q rfl rfl rfl (Qt_fieldAddr (m := 1) rfl rfl rfl rfl rfl) ?_
  refine Ow_q rfl rfl rfl (Qt_load1 (v := (.int .i64 p1.channel)) rfl rfl rfl (Rdc.blk (.head _) rfl)) ?_
  obtain ⟨x20, hx21, H⟩ := bnd H
  refine Ow_cons rfl (OpW_call rfl Try.call80 rfl rfl (c_M_ref14_exists p0 vp0 p1.channel x20 hx21 _ _ hp0) ?_)
  rintro _ _ _ - ⟨rfl, rfl, rfl⟩
  refine Ow_q rfl rfl rfl (Qt_not rfl) ?_
  refine Ow_nil ?_
  refine Cw_cond rfl ?_ ?_
  · intro h22
    have h22 := nt_t (h22)
    have H := iff_ (btf h22) H
    refine Cw_seq ?_
    refine Cw_region ?_
    refine Ow_q rfl rfl rfl (Qt_assign rfl) ?_
    refine Ow_nil ?_
    refine Cw_ret ?_
    obtain ey0 := inj1 H
    subst y0
    refine ⟨(by first | exact .inl rfl | exact .inr rfl), [(.bool false)], ⟨(.bool false), _, rfl, rfl, rfl⟩, ?_⟩
    refine Shift.rem .here ?_
    refine Shift.done ?_
    exact ⟨rfl, rfl, rfl⟩
  · intro h22
    have h22 := nt_f (h22)
    have H := ift h22 H
    refine Cw_skip ?_
    refine Cw_seq ?_
    refine Cw_region ?_
    refine Ow_q rfl rfl rfl (Qt_move rfl) ?_
    refine Ow_q rfl rfl rfl (Qt_fieldAddr (m := 1) rfl rfl rfl rfl rfl) ?_
    refine Ow_q rfl rfl rfl (Qt_load1 (v := (.int .i64 p1.channel)) rfl rfl rfl (Rdc.blk (.head _) rfl)) ?_
    obtain ⟨x23, hx24, H⟩ := bnd H
    obtain ⟨r25, hr26, hk27⟩ := Slr.at hp0 hx24
    obtain ⟨v28, rfl, hs29⟩ := hr26
    refine Ow_q rfl rfl rfl (Q_ix (T := TyChan) hp0 hx24 rfl rfl rfl rfl rfl) ?_
    refine Ow_q rfl rfl rfl (Qt_loadA (m := 3) (cs := (Chan.cells x23 v28)) rfl rfl rfl rfl ⟨rfl, Rdc.k hk27 rfl⟩) ?_
    refine Ow_cons rfl (OpW_alloc (cs := (Chan.cells (Chan.mk 0 [] false) nilS)) rfl rfl rfl rfl (fun b30 => ?_))
    refine Ow_cons rfl (OpW_store (vs := (Chan.cells x23 v28)) (all' := (Chan.cells x23 v28)) rfl rfl rfl rfl rfl .here rfl rfl rfl ?_)
    refine Ow_nil ?_
    refine Cw_seq ?_
    refine Cw_seq ?_
    refine Cw_region ?_
    refine Ow_q rfl rfl rfl (Qt_fieldAddr (m := 0) rfl rfl rfl rfl rfl) ?_
    refine Ow_q rfl rfl rfl (Qt_load1 (v := (.bool p1.send)) rfl rfl rfl (Rdc.blk (.tail _ (.head _)) rfl)) ?_
    refine Ow_nil ?_
    refine Cw_cond rfl ?_ ?_
    · intro h33
      have H := ift h33 H
      refine Cw_seq ?_
      refine Cw_region ?_
      refine Ow_q rfl rfl rfl (Qt_fieldAddr (m := 2) rfl rfl rfl rfl rfl) ?_
      refine Ow_q rfl rfl rfl (Qt_load1 (v := (.bool x23.closed)) rfl rfl rfl (Rdc.blk (.head _) rfl)) ?_
      refine Ow_q rfl rfl rfl (Qt_move rfl) ?_
      refine Ow_caseG rfl rfl rfl ?_ ?_
      · intro h35
        have H := ift h35 H
        refine Ow_pass rfl rfl rfl rfl rfl rfl rfl ?_
        refine Ow_pass rfl rfl rfl rfl rfl rfl rfl ?_
        refine Ow_pass rfl rfl rfl rfl rfl rfl rfl ?_
        refine Ow_pass rfl rfl rfl rfl rfl rfl rfl ?_
        refine Ow_pass rfl rfl rfl rfl rfl rfl rfl ?_
        refine Ow_pass rfl rfl rfl rfl rfl rfl rfl ?_
        refine Ow_q rfl rfl rfl (Qt_pick_t rfl rfl) ?_
        refine Ow_q rfl rfl rfl (Qt_assign rfl) ?_
        refine Ow_nil ?_
        refine Cw_ret ?_
        obtain ey0 := inj1 H
        subst y0
        refine ⟨(by first | exact .inl rfl | exact .inr rfl), [(.bool true)], ⟨(.bool true), _, rfl, rfl, rfl⟩, ?_⟩
        refine Shift.rem .here ?_
        refine Shift.rem .here ?_
        refine Shift.done ?_
        exact ⟨rfl, rfl, rfl⟩
      · intro h35
        have H := iff_ (btf h35) H
        refine Ow_qw rfl rfl rfl rfl rfl rfl (Qt_fieldAddr (m := 1) rfl rfl rfl rfl rfl) ?_
        refine Ow_qw rfl rfl rfl rfl rfl rfl (Qt_load1 (v := (sv v28)) rfl rfl rfl (Rdc.blk (.head _) rfl)) ?_
        refine Ow_qw rfl rfl rfl rfl rfl rfl (Q_len (T := Ty.u64) hs29 rfl rfl) ?_
        refine Ow_qw rfl rfl rfl rfl rfl rfl (Qt_fieldAddr (m := 0) rfl rfl rfl rfl rfl) ?_
        refine Ow_qw rfl rfl rfl rfl rfl rfl (Qt_load1 (v := (.int .i64 x23.capacity)) rfl rfl rfl (Rdc.blk (.head _) rfl)) ?_
        refine Ow_qw rfl rfl rfl rfl rfl rfl (Qt_cmp rfl rfl rfl) ?_
        refine Ow_q rfl rfl rfl (Qt_pick_f rfl rfl) ?_
        refine Ow_q rfl rfl rfl (Qt_assign rfl) ?_
        refine Ow_nil ?_
        refine Cw_ret ?_
        obtain ey0 := inj1 H
        subst y0
        refine ⟨(by first | exact .inl rfl | exact .inr rfl), [(.bool (dcd ((x23.buffer.length : Int) < x23.capacity)))], ⟨(.bool (dcd ((x23.buffer.length : Int) < x23.capacity))), _, rfl, rfl, rfl⟩, ?_⟩
        refine Shift.rem .here ?_
        refine Shift.rem .here ?_
        refine Shift.done ?_
        exact ⟨rfl, rfl, rfl⟩
    · intro h33
      have H := iff_ (btf h33) H
      refine Cw_skip ?_
      refine Cw_seq ?_
      refine Cw_region ?_
      refine Ow_q rfl rfl rfl (Qt_fieldAddr (m := 2) rfl rfl rfl rfl rfl) ?_
      refine Ow_q rfl rfl rfl (Qt_load1 (v := (.bool x23.closed)) rfl rfl rfl (Rdc.blk (.head _) rfl)) ?_
      refine Ow_q rfl rfl rfl (Qt_move rfl) ?_
      refine Ow_caseG rfl rfl rfl ?_ ?_
      · intro h37
        have H := ift h37 H
        refine Ow_pass rfl rfl rfl rfl rfl rfl rfl ?_
        refine Ow_pass rfl rfl rfl rfl rfl rfl rfl ?_
        refine Ow_pass rfl rfl rfl rfl rfl rfl rfl ?_
        refine Ow_pass rfl rfl rfl rfl rfl rfl rfl ?_
        refine Ow_q rfl rfl rfl (Qt_pick_t rfl rfl) ?_
        refine Ow_q rfl rfl rfl (Qt_assign rfl) ?_
        refine Ow_nil ?_
        refine Cw_ret ?_
        obtain ey0 := inj1 H
        subst y0
        refine ⟨(by first | exact .inl rfl | exact .inr rfl), [(.bool true)], ⟨(.bool true), _, rfl, rfl, rfl⟩, ?_⟩
        refine Shift.rem .here ?_
        refine Shift.rem .here ?_
        refine Shift.done ?_
        exact ⟨rfl, rfl, rfl⟩
      · intro h37
        have H := iff_ (btf h37) H
        refine Ow_qw rfl rfl rfl rfl rfl rfl (Qt_fieldAddr (m := 1) rfl rfl rfl rfl rfl) ?_
        refine Ow_qw rfl rfl rfl rfl rfl rfl (Qt_load1 (v := (sv v28)) rfl rfl rfl (Rdc.blk (.head _) rfl)) ?_
        refine Ow_qw rfl rfl rfl rfl rfl rfl (Q_len (T := Ty.u64) hs29 rfl rfl) ?_
        refine Ow_qw rfl rfl rfl rfl rfl rfl (Qt_cmp rfl rfl rfl) ?_
        refine Ow_q rfl rfl rfl (Qt_pick_f rfl rfl) ?_
        refine Ow_q rfl rfl rfl (Qt_assign rfl) ?_
        refine Ow_nil ?_
        refine Cw_ret ?_
        obtain ey0 := inj1 H
        subst y0
        refine ⟨(by first | exact .inl rfl | exact .inr rfl), [(.bool (dcd ((x23.buffer.length : Int) > 0)))], ⟨(.bool (dcd ((x23.buffer.length : Int) > 0))), _, rfl, rfl, rfl⟩, ?_⟩
        refine Shift.rem .here ?_
        refine Shift.rem .here ?_
        refine Shift.done ?_
        exact ⟨rfl, rfl, rfl⟩

set_option maxHeartbeats 1000000 in
theorem c_M_ref14_only (p0 : Result) (p1 : Bool) (p2 : Bool) (y0 : Bool) (H : M_ref14_only p0 p1 p2 = some y0) (K : Kp) (G : List Ent)  :
    Fc Try.prog 97 #[(.agg (Result.cells p0).toArray), (.bool p1), (.bool p2)] K (G) (fun v K' G' => v = (.bool y0) ∧ K = K' ∧ G = G') := by
  refine Fc_body Try.func97 rfl Try.ntmps97 Try.results97 rfl ?_
  unfold M_ref14_only at H
  refine Cw_seq ?_
  refine Cw_region ?_
  refine Ow_cons rfl (OpW_box (cs := (Result.cells p0)) rfl rfl rfl (fun b8 => ?_))
  refine Ow_q rfl rfl rfl (Qt_assign rfl) ?_
  refine Ow_nil ?_
  refine Cw_join (fun env' K' G' => ∃ (t14 : Bool), [(6, (.bool t14))] = env' ∧ K = K' ∧ G = G' ∧ M_ref14_only_J1 t14 = some y0) ?_ ?_
  · skip
    refine Cw_region ?_
    refine Ow_q rfl rfl rfl (Qt_move rfl) ?_
    refine Ow_q rfl rfl rfl (Qt_move rfl) ?_
    refine Ow_caseG rfl rfl rfl ?_ ?_
    · intro h15
      have H := ift h15 H
      refine Ow_pass rfl rfl rfl rfl rfl rfl rfl ?_
      refine Ow_pass rfl rfl rfl rfl rfl rfl rfl ?_
      refine Ow_pass rfl rfl rfl rfl rfl rfl rfl ?_
      refine Ow_pass rfl rfl rfl rfl rfl rfl rfl ?_
      refine Ow_passU rfl rfl rfl rfl rfl ?_
      refine Ow_passU rfl rfl rfl rfl rfl ?_
      refine Ow_passU rfl rfl rfl rfl rfl ?_
      refine Ow_pass rfl rfl rfl rfl rfl rfl rfl ?_
      refine Ow_q rfl rfl rfl (Qt_pick_t rfl rfl) ?_
      refine Ow_q rfl rfl rfl (Qt_move rfl) ?_
      refine Ow_qw rfl rfl rfl rfl rfl rfl (Qt_move rfl) ?_
      refine Ow_qw rfl rfl rfl rfl rfl rfl (Qt_move rfl) ?_
      refine Ow_caseG rfl rfl rfl ?_ ?_
      · intro h16
        have H := ift h16 H
        refine Ow_pass rfl rfl rfl rfl rfl rfl rfl ?_
        refine Ow_pass rfl rfl rfl rfl rfl rfl rfl ?_
        refine Ow_pass rfl rfl rfl rfl rfl rfl rfl ?_
        refine Ow_qw rfl rfl rfl rfl rfl rfl (Qt_pick_t rfl rfl) ?_
        refine Ow_q rfl rfl rfl (Qt_pick_t rfl rfl) ?_
        refine Ow_q rfl rfl rfl (Qt_assign rfl) ?_
        refine Ow_nil ?_
        refine Shift.rem .here ?_
        refine Shift.done ?_
        exact ⟨[(6, (.bool true))], ⟨rfl, trivial⟩, true, rfl, rfl, rfl, H⟩
      · intro h16
        have H := iff_ (btf h16) H
        refine Ow_qw rfl rfl rfl rfl rfl rfl (Qt_fieldAddr (m := 4) rfl rfl rfl rfl rfl) ?_
        refine Ow_qw rfl rfl rfl rfl rfl rfl (Qt_load1 (v := (.int .i64 p0.number)) rfl rfl rfl (Rdc.blk (.head _) rfl)) ?_
        refine Ow_qw rfl rfl rfl rfl rfl rfl (Qt_cmp rfl rfl rfl) ?_
        refine Ow_qw rfl rfl rfl rfl rfl rfl (Qt_pick_f rfl rfl) ?_
        refine Ow_q rfl rfl rfl (Qt_pick_t rfl rfl) ?_
        refine Ow_q rfl rfl rfl (Qt_assign rfl) ?_
        refine Ow_nil ?_
        refine Shift.rem .here ?_
        refine Shift.done ?_
        exact ⟨[(6, (.bool (dcd (p0.number = 0))))], ⟨rfl, trivial⟩, (dcd (p0.number = 0)), rfl, rfl, rfl, H⟩
    · intro h15
      have H := iff_ (btf h15) H
      refine Ow_qw rfl rfl rfl rfl rfl rfl (Qt_fieldAddr (m := 2) rfl rfl rfl rfl rfl) ?_
      refine Ow_qw rfl rfl rfl rfl rfl rfl (Qt_load1 (v := (.int .u64 p0.value)) rfl rfl rfl (Rdc.blk (.head _) rfl)) ?_
      refine Ow_qw rfl rfl rfl rfl rfl rfl (Qt_cmp rfl rfl rfl) ?_
      refine Ow_qw rfl rfl rfl rfl rfl rfl (Qt_move rfl) ?_
      refine Ow_caseG rfl rfl rfl ?_ ?_
      · intro h17
        have h17 := dcd_t (h17)
        have H := ift h17 H
        refine Ow_qw rfl rfl rfl rfl rfl rfl (Qt_fieldAddr (m := 3) rfl rfl rfl rfl rfl) ?_
        refine Ow_qw rfl rfl rfl rfl rfl rfl (Qt_load1 (v := (.bool p0.ok)) rfl rfl rfl (Rdc.blk (.head _) rfl)) ?_
        refine Ow_qw rfl rfl rfl rfl rfl rfl (Qt_not rfl) ?_
        refine Ow_qw rfl rfl rfl rfl rfl rfl (Qt_pick_t rfl rfl) ?_
        refine Ow_q rfl rfl rfl (Qt_pick_f rfl rfl) ?_
        refine Ow_q rfl rfl rfl (Qt_move rfl) ?_
        refine Ow_caseG rfl rfl rfl ?_ ?_
        · intro h18
          have h18 := nt_t (h18)
          have H := iff_ (btf h18) H
          refine Ow_qw rfl rfl rfl rfl rfl rfl (Qt_move rfl) ?_
          refine Ow_qw rfl rfl rfl rfl rfl rfl (Qt_move rfl) ?_
          refine Ow_caseG rfl rfl rfl ?_ ?_
          · intro h19
            have H := ift h19 H
            refine Ow_pass rfl rfl rfl rfl rfl rfl rfl ?_
            refine Ow_pass rfl rfl rfl rfl rfl rfl rfl ?_
            refine Ow_pass rfl rfl rfl rfl rfl rfl rfl ?_
            refine Ow_qw rfl rfl rfl rfl rfl rfl (Qt_pick_t rfl rfl) ?_
            refine Ow_q rfl rfl rfl (Qt_pick_t rfl rfl) ?_
            refine Ow_q rfl rfl rfl (Qt_assign rfl) ?_
            refine Ow_nil ?_
            refine Shift.rem .here ?_
            refine Shift.done ?_
            exact ⟨[(6, (.bool true))], ⟨rfl, trivial⟩, true, rfl, rfl, rfl, H⟩
          · intro h19
            have H := iff_ (btf h19) H
            refine Ow_qw rfl rfl rfl rfl rfl rfl (Qt_fieldAddr (m := 4) rfl rfl rfl rfl rfl) ?_
            refine Ow_qw rfl rfl rfl rfl rfl rfl (Qt_load1 (v := (.int .i64 p0.number)) rfl rfl rfl (Rdc.blk (.head _) rfl)) ?_
            refine Ow_qw rfl rfl rfl rfl rfl rfl (Qt_cmp rfl rfl rfl) ?_
            refine Ow_qw rfl rfl rfl rfl rfl rfl (Qt_pick_f rfl rfl) ?_
            refine Ow_q rfl rfl rfl (Qt_pick_t rfl rfl) ?_
            refine Ow_q rfl rfl rfl (Qt_assign rfl) ?_
            refine Ow_nil ?_
            refine Shift.rem .here ?_
            refine Shift.done ?_
            exact ⟨[(6, (.bool (dcd (p0.number = 0))))], ⟨rfl, trivial⟩, (dcd (p0.number = 0)), rfl, rfl, rfl, H⟩
        · intro h18
          have h18 := nt_f (h18)
          have H := ift h18 H
          refine Ow_pass rfl rfl rfl rfl rfl rfl rfl ?_
          refine Ow_pass rfl rfl rfl rfl rfl rfl rfl ?_
          refine Ow_passU rfl rfl rfl rfl rfl ?_
          refine Ow_passU rfl rfl rfl rfl rfl ?_
          refine Ow_passU rfl rfl rfl rfl rfl ?_
          refine Ow_pass rfl rfl rfl rfl rfl rfl rfl ?_
          refine Ow_q rfl rfl rfl (Qt_pick_f rfl rfl) ?_
          refine Ow_q rfl rfl rfl (Qt_assign rfl) ?_
          refine Ow_nil ?_
          refine Shift.rem .here ?_
          refine Shift.done ?_
          exact ⟨[(6, (.bool false))], ⟨rfl, trivial⟩, false, rfl, rfl, rfl, H⟩
      · intro h17
        have h17 := dcd_f (h17)
        have H := iff_ h17 H
        refine Ow_pass rfl rfl rfl rfl rfl rfl rfl ?_
        refine Ow_pass rfl rfl rfl rfl rfl rfl rfl ?_
        refine Ow_pass rfl rfl rfl rfl rfl rfl rfl ?_
        refine Ow_qw rfl rfl rfl rfl rfl rfl (Qt_pick_f rfl rfl) ?_
        refine Ow_q rfl rfl rfl (Qt_pick_f rfl rfl) ?_
        refine Ow_q rfl rfl rfl (Qt_move rfl) ?_
        refine Ow_pass rfl rfl rfl rfl rfl rfl rfl ?_
        refine Ow_pass rfl rfl rfl rfl rfl rfl rfl ?_
        refine Ow_passU rfl rfl rfl rfl rfl ?_
        refine Ow_passU rfl rfl rfl rfl rfl ?_
        refine Ow_passU rfl rfl rfl rfl rfl ?_
        refine Ow_pass rfl rfl rfl rfl rfl rfl rfl ?_
        refine Ow_q rfl rfl rfl (Qt_pick_f rfl rfl) ?_
        refine Ow_q rfl rfl rfl (Qt_assign rfl) ?_
        refine Ow_nil ?_
        refine Shift.rem .here ?_
        refine Shift.done ?_
        exact ⟨[(6, (.bool false))], ⟨rfl, trivial⟩, false, rfl, rfl, rfl, H⟩
  rintro _ _ _ - ⟨t14, rfl, rfl, rfl, H⟩
  unfold M_ref14_only_J1 at H
  refine Cw_ret ?_
  obtain ey0 := inj1 H
  subst y0
  refine ⟨(by first | exact .inl rfl | exact .inr rfl), [(.bool t14)], ⟨(.bool t14), _, rfl, rfl, rfl⟩, ?_⟩
  refine Shift.done ?_
  exact ⟨rfl, rfl, rfl⟩


end Go.Hx
