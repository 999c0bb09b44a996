/- Printed by program. -/
import Derived.Test.YthpjaddchdnejaaXBM
import Derived.Test.YthpjaddchdnejaaXBWHappens2
import Derived.Test.YthpjaddchdnejaaXBWLaw18
import Derived.Test.YthpjaddchdnejaaXBWLaw181
namespace Go.Hx
open Go Go.Proofs
set_option linter.unusedSimpArgs false
set_option linter.unusedVariables false
set_option maxRecDepth 10000
set_option maxHeartbeats 1000000 in
theorem c_M_law18_HappensReads (p0 : List Int) (vp0 : SV) (p1 : Int) (y0 : Bool) (H : M_law18_HappensReads p0 p1 = some y0) (K : Kp) (G : List Ent) (hp0 : Slr Ty.u8 K (sv vp0) p0) :
    Fc Try.prog 13 #[(sv vp0), (.int .u8 p1)] K (G) (fun v K' G' => v = (.bool y0) ∧ G = G') := by
  refine Fc_body Try.func13 rfl Try.ntmps13 Try.results13 rfl ?_
  unfold M_law18_HappensReads at H
  refine Cw_seq ?_
  refine Cw_region ?_
  refine Ow_q rfl rfl rfl (Qt_assign rfl) ?_
  refine Ow_nil ?_
  refine Cw_seq ?_
  refine Cw_seq ?_
  refine Cw_region ?_
  obtain ⟨x413, hx414, H⟩ := bnd H
  refine Ow_cons rfl (OpW_call rfl Try.call33 rfl rfl (c_M_law18_awake  x413 hx414 _ _ ) ?_)
  rintro _ K415 _ hK416 ⟨rfl, rfl⟩
  refine Ow_q rfl rfl rfl (Qt_not rfl) ?_
  refine Ow_nil ?_
  refine Cw_cond rfl ?_ ?_
  · intro h417
    have h417 := nt_t (h417)
    have H := iff_ (btf h417) H
    refine Cw_seq ?_
    refine Cw_region ?_
    refine Ow_q rfl rfl rfl (Qt_assign rfl) ?_
    refine Ow_nil ?_
    refine Cw_ret ?_
    obtain ey0 := inj1 H
    subst y0
    refine ⟨(by first | exact .inl rfl | exact .inr rfl), [(.bool false)], ⟨(.bool false), _, rfl, rfl, rfl⟩, ?_⟩
    refine Shift.done ?_
    exact ⟨rfl, rfl⟩
  · intro h417
    have h417 := nt_f (h417)
    have H := ift h417 H
    refine Cw_skip ?_
    refine Cw_seq ?_
    refine Cw_region ?_
    refine Ow_q rfl rfl rfl (Qt_move rfl) ?_
    refine Ow_q rfl rfl rfl (Qt_rem rfl rfl (by decide)) ?_
    refine Ow_q rfl rfl rfl (Qt_conv (c := wI (Int.tmod p1 4)) rfl rfl rfl rfl) ?_
    refine Ow_q rfl rfl rfl (Qt_arith (e := wI (1 + (wI (Int.tmod p1 4)))) rfl rfl rfl rfl) ?_
    refine Ow_q rfl rfl rfl (Qt_assign rfl) ?_
    refine Ow_nil ?_
    refine Cw_seq ?_
    refine Cw_region ?_
    refine Ow_q rfl rfl rfl (Qt_move rfl) ?_
    refine Ow_q rfl rfl rfl (Qt_move rfl) ?_
    obtain ⟨x418, hx419, H⟩ := bnd H
    have hs420 := (hp0).mono hK416
    refine Ow_cons rfl (OpW_call rfl Try.call34 rfl rfl (c_M_law18_items p0 vp0 (wI (1 + (wI (Int.tmod p1 4)))) 24 x418 hx419 _ _ hs420) ?_)
    rintro _ K422 _ hK423 ⟨v421, rfl, rfl, hs424⟩
    refine Ow_q rfl rfl rfl (Qt_assign rfl) ?_
    refine Ow_nil ?_
    refine Cw_join (fun env' K' G' => [] = env' ∧ G = G' ∧ M_law18_HappensReads_J1 = some y0) ?_ ?_
    · skip
      refine Cw_seq ?_
      refine Cw_region ?_
      refine Ow_q rfl rfl rfl (Qt_move rfl) ?_
      refine Ow_q rfl rfl rfl (Q_len (T := TyItem) hs424 rfl rfl) ?_
      refine Ow_q rfl rfl rfl (Qt_move rfl) ?_
      refine Ow_nil ?_
      refine Cw_block ?_
      refine Cw_loopM (fun n851 env' K' G' => ∃ (i850 : Int), [(5, (.int .i64 (wI (1 + (wI (Int.tmod p1 4)))))), (6, (sv v421)), (21, (.int .i64 (x418.length : Int))), (22, (.int .i64 i850))] = env' ∧ (.tok 56 8 [(sv v421)]) :: G = G' ∧ lp1 (M_law18_HappensReads_L1 p1 x418) n851 i850 = some y0) BIG ?_ ?_
      · skip
        refine Shift.done ?_
        exact ⟨[(5, (.int .i64 (wI (1 + (wI (Int.tmod p1 4)))))), (6, (sv v421)), (21, (.int .i64 (x418.length : Int))), (22, (.int .i64 0))], ⟨rfl, rfl, rfl, rfl, trivial⟩, 0, rfl, rfl, H⟩
      rintro n851 _ K852 _ hK853 ⟨i850, rfl, rfl, H⟩
      obtain ⟨m854, k855, rfl, hkk856, H⟩ := lps1 H
      unfold M_law18_HappensReads_L1 at H
      refine Cw_seq ?_
      refine Cw_region ?_
      refine Ow_q rfl rfl rfl (Qt_cmp rfl rfl rfl) ?_
      refine Ow_nil ?_
      refine Cw_seq ?_
      refine Cw_cond rfl ?_ ?_
      · intro h858
        have h858 := dcd_t (h858)
        have H := ift h858 H
        refine Cw_skip ?_
        refine Cw_join (fun env' K' G' => [(5, (.int .i64 (wI (1 + (wI (Int.tmod p1 4)))))), (6, (sv v421)), (21, (.int .i64 (x418.length : Int))), (22, (.int .i64 i850))] = env' ∧ (.tok 56 8 [(sv v421)]) :: G = G' ∧ M_law18_HappensReads_J2 p1 x418 i850 k855 = some y0) ?_ ?_
        · skip
          refine Cw_block ?_
          refine Cw_seq ?_
          refine Cw_region ?_
          refine Ow_q rfl rfl rfl (Qt_move rfl) ?_
          refine Ow_q rfl rfl rfl (Qt_assign rfl) ?_
          refine Ow_nil ?_
          refine Cw_seq ?_
          refine Cw_region ?_
          refine Ow_q rfl rfl rfl (Qt_move rfl) ?_
          refine Ow_q rfl rfl rfl (Qt_move rfl) ?_
          obtain ⟨x1046, hx1047, H⟩ := bnd H
          have hs1048 := (hs424).mono hK853
          obtain ⟨r1049, hr1050, hk1051⟩ := Slr.at hs1048 hx1047
          obtain rfl := hr1050
          refine Ow_q rfl rfl rfl (Q_ix (T := TyItem) hs1048 hx1047 rfl rfl rfl rfl rfl) ?_
          refine Ow_q rfl rfl rfl (Qt_fieldAddr (m := 1) rfl rfl rfl rfl rfl) ?_
          refine Ow_q rfl rfl rfl (Qt_fieldAddr (m := 1) rfl rfl rfl rfl rfl) ?_
          refine Ow_q rfl rfl rfl (Qt_load1 (v := (.int .i64 x1046.access.kind)) rfl rfl rfl (Rdc.k hk1051 rfl)) ?_
          refine Ow_q rfl rfl rfl (Qt_assign rfl) ?_
          refine Ow_nil ?_
          refine Cw_seq ?_
          refine Cw_join (fun env' K' G' => ∃ (t1058 : Bool), [(5, (.int .i64 (wI (1 + (wI (Int.tmod p1 4)))))), (6, (sv v421)), (7, (.int .i64 i850)), (21, (.int .i64 (x418.length : Int))), (22, (.int .i64 i850)), (40, (.bool t1058))] = env' ∧ K852 = K' ∧ (.tok 56 8 [(sv v421)]) :: G = G' ∧ M_law18_HappensReads_J3 p1 x418 i850 k855 t1058 = some y0) ?_ ?_
          · skip
            refine Cw_region ?_
            refine Ow_q rfl rfl rfl (Qt_move rfl) ?_
            refine Ow_q rfl rfl rfl (Qt_cmp rfl rfl rfl) ?_
            refine Ow_q rfl rfl rfl (Qt_move rfl) ?_
            refine Ow_caseG rfl rfl rfl ?_ ?_
            · intro h1059
              have h1059 := dcd_f (nt_t (h1059))
              have H := iff_ h1059 H
              refine Ow_qw rfl rfl rfl rfl rfl rfl (Qt_move rfl) ?_
              refine Ow_qw rfl rfl rfl rfl rfl rfl (Qt_cmp rfl rfl rfl) ?_
              refine Ow_q rfl rfl rfl (Qt_pick_t rfl rfl) ?_
              refine Ow_q rfl rfl rfl (Qt_move rfl) ?_
              refine Ow_caseG rfl rfl rfl ?_ ?_
              · intro h1060
                have h1060 := dcd_f (nt_t (h1060))
                have H := iff_ h1060 H
                refine Ow_qw rfl rfl rfl rfl rfl rfl (Qt_move rfl) ?_
                refine Ow_qw rfl rfl rfl rfl rfl rfl (Qt_cmp rfl rfl rfl) ?_
                refine Ow_q rfl rfl rfl (Qt_pick_t rfl rfl) ?_
                refine Ow_nil ?_
                refine Shift.done ?_
                exact ⟨[(5, (.int .i64 (wI (1 + (wI (Int.tmod p1 4)))))), (6, (sv v421)), (7, (.int .i64 i850)), (21, (.int .i64 (x418.length : Int))), (22, (.int .i64 i850)), (40, (.bool (!(dcd (x1046.access.kind = 3)))))], ⟨rfl, rfl, rfl, rfl, rfl, rfl, trivial⟩, (!(dcd (x1046.access.kind = 3))), rfl, rfl, rfl, H⟩
              · intro h1060
                have h1060 := dcd_t (nt_f (h1060))
                have H := ift h1060 H
                refine Ow_pass rfl rfl rfl rfl rfl rfl rfl ?_
                refine Ow_pass rfl rfl rfl rfl rfl rfl rfl ?_
                refine Ow_q rfl rfl rfl (Qt_pick_f rfl rfl) ?_
                refine Ow_nil ?_
                refine Shift.done ?_
                exact ⟨[(5, (.int .i64 (wI (1 + (wI (Int.tmod p1 4)))))), (6, (sv v421)), (7, (.int .i64 i850)), (21, (.int .i64 (x418.length : Int))), (22, (.int .i64 i850)), (40, (.bool false))], ⟨rfl, rfl, rfl, rfl, rfl, rfl, trivial⟩, false, rfl, rfl, rfl, H⟩
            · intro h1059
              have h1059 := dcd_t (nt_f (h1059))
              have H := ift h1059 H
              refine Ow_pass rfl rfl rfl rfl rfl rfl rfl ?_
              refine Ow_pass rfl rfl rfl rfl rfl rfl rfl ?_
              refine Ow_q rfl rfl rfl (Qt_pick_f rfl rfl) ?_
              refine Ow_q rfl rfl rfl (Qt_move rfl) ?_
              refine Ow_pass rfl rfl rfl rfl rfl rfl rfl ?_
              refine Ow_pass rfl rfl rfl rfl rfl rfl rfl ?_
              refine Ow_q rfl rfl rfl (Qt_pick_f rfl rfl) ?_
              refine Ow_nil ?_
              refine Shift.done ?_
              exact ⟨[(5, (.int .i64 (wI (1 + (wI (Int.tmod p1 4)))))), (6, (sv v421)), (7, (.int .i64 i850)), (21, (.int .i64 (x418.length : Int))), (22, (.int .i64 i850)), (40, (.bool false))], ⟨rfl, rfl, rfl, rfl, rfl, rfl, trivial⟩, false, rfl, rfl, rfl, H⟩
          rintro _ _ _ - ⟨t1058, rfl, rfl, rfl, H⟩
          unfold M_law18_HappensReads_J3 at H
          refine Cw_cond rfl ?_ ?_
          · intro h1061
            have H := ift h1061 H
            refine Cw_exit ?_
            refine Shift.done ?_
            exact ⟨[(5, (.int .i64 (wI (1 + (wI (Int.tmod p1 4)))))), (6, (sv v421)), (21, (.int .i64 (x418.length : Int))), (22, (.int .i64 i850))], ⟨rfl, rfl, rfl, rfl, trivial⟩, rfl, rfl, H⟩
          · intro h1061
            have H := iff_ (btf h1061) H
            refine Cw_skip ?_
            refine Cw_seq ?_
            refine Cw_region ?_
            refine Ow_q rfl rfl rfl (Qt_assign rfl) ?_
            refine Ow_nil ?_
            refine Cw_join (fun env' K' G' => ∃ (i1226 : Int), [(5, (.int .i64 (wI (1 + (wI (Int.tmod p1 4)))))), (6, (sv v421)), (7, (.int .i64 i850)), (9, (.int .i64 i1226)), (21, (.int .i64 (x418.length : Int))), (22, (.int .i64 i850))] = env' ∧ (.tok 56 8 [(sv v421)]) :: G = G' ∧ M_law18_HappensReads_J4 p1 x418 i850 k855 i1226 = some y0) ?_ ?_
            · skip
              refine Cw_seq ?_
              refine Cw_region ?_
              refine Ow_q rfl rfl rfl (Qt_assign rfl) ?_
              refine Ow_nil ?_
              refine Cw_block ?_
              refine Cw_loopM (fun n1391 env' K' G' => ∃ (i1389 : Int) (i1390 : Int), [(5, (.int .i64 (wI (1 + (wI (Int.tmod p1 4)))))), (6, (sv v421)), (7, (.int .i64 i850)), (9, (.int .i64 i1389)), (10, (.int .i64 i1390)), (21, (.int .i64 (x418.length : Int))), (22, (.int .i64 i850))] = env' ∧ K852 = K' ∧ (.tok 56 8 [(sv v421)]) :: G = G' ∧ lp2 (M_law18_HappensReads_L2 p1 x418 i850 k855) n1391 i1389 i1390 = some y0) BIG ?_ ?_
              · skip
                refine Shift.done ?_
                exact ⟨[(5, (.int .i64 (wI (1 + (wI (Int.tmod p1 4)))))), (6, (sv v421)), (7, (.int .i64 i850)), (9, (.int .i64 (-1))), (10, (.int .i64 0)), (21, (.int .i64 (x418.length : Int))), (22, (.int .i64 i850))], ⟨rfl, rfl, rfl, rfl, rfl, rfl, rfl, trivial⟩, (-1), 0, rfl, rfl, rfl, H⟩
              rintro n1391 _ _ _ - ⟨i1389, i1390, rfl, rfl, rfl, H⟩
              obtain ⟨m1392, k1393, rfl, hkk1394, H⟩ := lps2 H
              unfold M_law18_HappensReads_L2 at H
              refine Cw_seq ?_
              refine Cw_seq ?_
              refine Cw_region ?_
              refine Ow_q rfl rfl rfl (Qt_move rfl) ?_
              refine Ow_q rfl rfl rfl (Qt_move rfl) ?_
              refine Ow_q rfl rfl rfl (Qt_cmp rfl rfl rfl) ?_
              refine Ow_nil ?_
              refine Cw_cond rfl ?_ ?_
              · intro h1396
                have h1396 := dcd_t (h1396)
                have H := ift h1396 H
                refine Cw_skip ?_
                refine Cw_seq ?_
                refine Cw_block ?_
                refine Cw_join (fun env' K' G' => ∃ (t1539 : Bool), [(5, (.int .i64 (wI (1 + (wI (Int.tmod p1 4)))))), (6, (sv v421)), (7, (.int .i64 i850)), (9, (.int .i64 i1389)), (10, (.int .i64 i1390)), (21, (.int .i64 (x418.length : Int))), (22, (.int .i64 i850)), (83, (.bool t1539))] = env' ∧ K852 = K' ∧ (.tok 56 8 [(sv v421)]) :: G = G' ∧ M_law18_HappensReads_J5 p1 x418 i850 i1389 i1390 k855 k1393 t1539 = some y0) ?_ ?_
                · skip
                  obtain ⟨x1540, hx1541, H⟩ := bnd H
                  obtain ⟨x1545, hx1546, H⟩ := bnd H
                  rcases bool_ct (dcd (x1540.access.address = x1545.access.address)) with hb_ | hb_ <;> revert hb_
                  · intro h1550
                    have h1550 := dcd_t (h1550)
                    have H := ift h1550 H
                    obtain ⟨x1551, hx1552, H⟩ := bnd H
                    rcases bool_ct (dcd (x1551.access.kind = 2)) with hb_ | hb_ <;> revert hb_
                    · intro h1556
                      have h1556 := dcd_t (h1556)
                      have H := ift h1556 H
                      refine Cw_region_any [.tok 56 8 [(sv v421)]] rfl (Inc.cons (.head _) Inc.nil) ?_
                      refine Aw_q 0 rfl (by kernel_rfl) (by kernel_rfl) (by kernel_rfl) rfl rfl rfl (Qt_move rfl) ?_
                      refine Aw_q 1 rfl (by kernel_rfl) (by kernel_rfl) (by kernel_rfl) rfl rfl rfl (Qt_move rfl) ?_
                      obtain ⟨r1557, hr1558, hk1559⟩ := Slr.at hs1048 hx1541
                      obtain rfl := hr1558
                      refine Aw_q 2 rfl (by kernel_rfl) (by kernel_rfl) (by kernel_rfl) rfl rfl rfl (Q_ix (T := TyItem) hs1048 hx1541 rfl rfl rfl rfl rfl) ?_
                      refine Aw_q 3 rfl (by kernel_rfl) (by kernel_rfl) (by kernel_rfl) rfl rfl rfl (Qt_fieldAddr (m := 1) rfl rfl rfl rfl rfl) ?_
                      refine Aw_q 4 rfl (by kernel_rfl) (by kernel_rfl) (by kernel_rfl) rfl rfl rfl (Qt_fieldAddr (m := 2) rfl rfl rfl rfl rfl) ?_
                      refine Aw_q 5 rfl (by kernel_rfl) (by kernel_rfl) (by kernel_rfl) rfl rfl rfl (Qt_load1 (v := (.int .i64 x1540.access.address)) rfl rfl rfl (Rdc.k hk1559 rfl)) ?_
                      refine Aw_q 6 rfl (by kernel_rfl) (by kernel_rfl) (by kernel_rfl) rfl rfl rfl (Qt_move rfl) ?_
                      refine Aw_q 7 rfl (by kernel_rfl) (by kernel_rfl) (by kernel_rfl) rfl rfl rfl (Qt_move rfl) ?_
                      obtain ⟨r1560, hr1561, hk1562⟩ := Slr.at hs1048 hx1546
                      obtain rfl := hr1561
                      refine Aw_q 8 rfl (by kernel_rfl) (by kernel_rfl) (by kernel_rfl) rfl rfl rfl (Q_ix (T := TyItem) hs1048 hx1546 rfl rfl rfl rfl rfl) ?_
                      refine Aw_q 9 rfl (by kernel_rfl) (by kernel_rfl) (by kernel_rfl) rfl rfl rfl (Qt_fieldAddr (m := 1) rfl rfl rfl rfl rfl) ?_
                      refine Aw_q 10 rfl (by kernel_rfl) (by kernel_rfl) (by kernel_rfl) rfl rfl rfl (Qt_fieldAddr (m := 2) rfl rfl rfl rfl rfl) ?_
                      refine Aw_q 11 rfl (by kernel_rfl) (by kernel_rfl) (by kernel_rfl) rfl rfl rfl (Qt_load1 (v := (.int .i64 x1545.access.address)) rfl rfl rfl (Rdc.k hk1562 rfl)) ?_
                      refine Aw_q 12 rfl (by kernel_rfl) (by kernel_rfl) (by kernel_rfl) rfl rfl rfl (Qt_cmp rfl rfl rfl) ?_
                      refine Aw_q 13 rfl (by kernel_rfl) (by kernel_rfl) (by kernel_rfl) rfl rfl rfl (Qt_move rfl) ?_
                      refine Aw.known (d := 59) rfl (dcd_pos h1550) ?_
                      refine Aw_qw 14 rfl (by kernel_rfl) (by kernel_rfl) (by kernel_rfl) rfl rfl rfl rfl rfl rfl (Qt_move rfl) ?_
                      refine Aw_qw 15 rfl (by kernel_rfl) (by kernel_rfl) (by kernel_rfl) rfl rfl rfl rfl rfl rfl (Qt_move rfl) ?_
                      obtain ⟨r1563, hr1564, hk1565⟩ := Slr.at hs1048 hx1552
                      obtain rfl := hr1564
                      refine Aw_qw 16 rfl (by kernel_rfl) (by kernel_rfl) (by kernel_rfl) rfl rfl rfl rfl rfl rfl (Q_ix (T := TyItem) hs1048 hx1552 rfl rfl rfl rfl rfl) ?_
                      refine Aw_qw 17 rfl (by kernel_rfl) (by kernel_rfl) (by kernel_rfl) rfl rfl rfl rfl rfl rfl (Qt_fieldAddr (m := 1) rfl rfl rfl rfl rfl) ?_
                      refine Aw_qw 18 rfl (by kernel_rfl) (by kernel_rfl) (by kernel_rfl) rfl rfl rfl rfl rfl rfl (Qt_fieldAddr (m := 1) rfl rfl rfl rfl rfl) ?_
                      refine Aw_qw 19 rfl (by kernel_rfl) (by kernel_rfl) (by kernel_rfl) rfl rfl rfl rfl rfl rfl (Qt_load1 (v := (.int .i64 x1551.access.kind)) rfl rfl rfl (Rdc.k hk1565 rfl)) ?_
                      refine Aw_qw 20 rfl (by kernel_rfl) (by kernel_rfl) (by kernel_rfl) rfl rfl rfl rfl rfl rfl (Qt_cmp rfl rfl rfl) ?_
                      refine Aw_qw 21 rfl (by kernel_rfl) (by kernel_rfl) (by kernel_rfl) rfl rfl rfl rfl rfl rfl (Qt_move rfl) ?_
                      refine Aw.known (d := 67) rfl (dcd_pos h1556) ?_
                      refine Aw_pass 22 rfl (by kernel_rfl) (by kernel_rfl) (by kernel_rfl) rfl rfl rfl rfl rfl rfl rfl ?_
                      refine Aw_pass 23 rfl (by kernel_rfl) (by kernel_rfl) (by kernel_rfl) rfl rfl rfl rfl rfl rfl rfl ?_
                      refine Aw_pass 24 rfl (by kernel_rfl) (by kernel_rfl) (by kernel_rfl) rfl rfl rfl rfl rfl rfl rfl ?_
                      refine Aw_pass 25 rfl (by kernel_rfl) (by kernel_rfl) (by kernel_rfl) rfl rfl rfl rfl rfl rfl rfl ?_
                      refine Aw_pass 26 rfl (by kernel_rfl) (by kernel_rfl) (by kernel_rfl) rfl rfl rfl rfl rfl rfl rfl ?_
                      refine Aw_pass 27 rfl (by kernel_rfl) (by kernel_rfl) (by kernel_rfl) rfl rfl rfl rfl rfl rfl rfl ?_
                      refine Aw_pass 28 rfl (by kernel_rfl) (by kernel_rfl) (by kernel_rfl) rfl rfl rfl rfl rfl rfl rfl ?_
                      refine Aw_pass 29 rfl (by kernel_rfl) (by kernel_rfl) (by kernel_rfl) rfl rfl rfl rfl rfl rfl rfl ?_
                      refine Aw_passU 30 rfl (by kernel_rfl) (by kernel_rfl) (by kernel_rfl) rfl rfl rfl rfl rfl ?_
                      refine Aw_passU 31 rfl (by kernel_rfl) (by kernel_rfl) (by kernel_rfl) rfl rfl rfl rfl rfl ?_
                      refine Aw_passU 32 rfl (by kernel_rfl) (by kernel_rfl) (by kernel_rfl) rfl rfl rfl rfl rfl ?_
                      refine Aw_passU 33 rfl (by kernel_rfl) (by kernel_rfl) (by kernel_rfl) rfl rfl rfl rfl rfl ?_
                      refine Aw_passU 34 rfl (by kernel_rfl) (by kernel_rfl) (by kernel_rfl) rfl rfl rfl rfl rfl ?_
                      refine Aw_pass 35 rfl (by kernel_rfl) (by kernel_rfl) (by kernel_rfl) rfl rfl rfl rfl rfl rfl rfl ?_
                      refine Aw_qw 36 rfl (by kernel_rfl) (by kernel_rfl) (by kernel_rfl) rfl rfl rfl rfl rfl rfl (Qt_pick_t rfl rfl) ?_
                      refine Aw_q 37 rfl (by kernel_rfl) (by kernel_rfl) (by kernel_rfl) rfl rfl rfl (Qt_pick_t rfl rfl) ?_
                      refine Aw_done (by kernel_rfl) ?_
                      refine Shift.done ?_
                      exact ⟨[(5, (.int .i64 (wI (1 + (wI (Int.tmod p1 4)))))), (6, (sv v421)), (7, (.int .i64 i850)), (9, (.int .i64 i1389)), (10, (.int .i64 i1390)), (21, (.int .i64 (x418.length : Int))), (22, (.int .i64 i850)), (83, (.bool true))], ⟨rfl, rfl, rfl, rfl, rfl, rfl, rfl, rfl, trivial⟩, true, rfl, rfl, rfl, H⟩
                    · intro h1556
                      have h1556 := dcd_f (h1556)
                      have H := iff_ h1556 H
                      obtain ⟨x1566, hx1567, H⟩ := bnd H
                      rcases bool_ct (dcd (x1566.access.kind = 3)) with hb_ | hb_ <;> revert hb_
                      · intro h1571
                        have h1571 := dcd_t (h1571)
                        have H := ift h1571 H
                        obtain ⟨x1572, hx1573, H⟩ := bnd H
                        refine Cw_region_any [.tok 56 8 [(sv v421)]] rfl (Inc.cons (.head _) Inc.nil) ?_
                        refine Aw_q 0 rfl (by kernel_rfl) (by kernel_rfl) (by kernel_rfl) rfl rfl rfl (Qt_move rfl) ?_
                        refine Aw_q 1 rfl (by kernel_rfl) (by kernel_rfl) (by kernel_rfl) rfl rfl rfl (Qt_move rfl) ?_
                        obtain ⟨r1577, hr1578, hk1579⟩ := Slr.at hs1048 hx1541
                        obtain rfl := hr1578
                        refine Aw_q 2 rfl (by kernel_rfl) (by kernel_rfl) (by kernel_rfl) rfl rfl rfl (Q_ix (T := TyItem) hs1048 hx1541 rfl rfl rfl rfl rfl) ?_
                        refine Aw_q 3 rfl (by kernel_rfl) (by kernel_rfl) (by kernel_rfl) rfl rfl rfl (Qt_fieldAddr (m := 1) rfl rfl rfl rfl rfl) ?_
                        refine Aw_q 4 rfl (by kernel_rfl) (by kernel_rfl) (by kernel_rfl) rfl rfl rfl (Qt_fieldAddr (m := 2) rfl rfl rfl rfl rfl) ?_
                        refine Aw_q 5 rfl (by kernel_rfl) (by kernel_rfl) (by kernel_rfl) rfl rfl rfl (Qt_load1 (v := (.int .i64 x1540.access.address)) rfl rfl rfl (Rdc.k hk1579 rfl)) ?_
                        refine Aw_q 6 rfl (by kernel_rfl) (by kernel_rfl) (by kernel_rfl) rfl rfl rfl (Qt_move rfl) ?_
                        refine Aw_q 7 rfl (by kernel_rfl) (by kernel_rfl) (by kernel_rfl) rfl rfl rfl (Qt_move rfl) ?_
                        obtain ⟨r1580, hr1581, hk1582⟩ := Slr.at hs1048 hx1546
                        obtain rfl := hr1581
                        refine Aw_q 8 rfl (by kernel_rfl) (by kernel_rfl) (by kernel_rfl) rfl rfl rfl (Q_ix (T := TyItem) hs1048 hx1546 rfl rfl rfl rfl rfl) ?_
                        refine Aw_q 9 rfl (by kernel_rfl) (by kernel_rfl) (by kernel_rfl) rfl rfl rfl (Qt_fieldAddr (m := 1) rfl rfl rfl rfl rfl) ?_
                        refine Aw_q 10 rfl (by kernel_rfl) (by kernel_rfl) (by kernel_rfl) rfl rfl rfl (Qt_fieldAddr (m := 2) rfl rfl rfl rfl rfl) ?_
                        refine Aw_q 11 rfl (by kernel_rfl) (by kernel_rfl) (by kernel_rfl) rfl rfl rfl (Qt_load1 (v := (.int .i64 x1545.access.address)) rfl rfl rfl (Rdc.k hk1582 rfl)) ?_
                        refine Aw_q 12 rfl (by kernel_rfl) (by kernel_rfl) (by kernel_rfl) rfl rfl rfl (Qt_cmp rfl rfl rfl) ?_
                        refine Aw_q 13 rfl (by kernel_rfl) (by kernel_rfl) (by kernel_rfl) rfl rfl rfl (Qt_move rfl) ?_
                        refine Aw.known (d := 59) rfl (dcd_pos h1550) ?_
                        refine Aw_qw 14 rfl (by kernel_rfl) (by kernel_rfl) (by kernel_rfl) rfl rfl rfl rfl rfl rfl (Qt_move rfl) ?_
                        refine Aw_qw 15 rfl (by kernel_rfl) (by kernel_rfl) (by kernel_rfl) rfl rfl rfl rfl rfl rfl (Qt_move rfl) ?_
                        obtain ⟨r1583, hr1584, hk1585⟩ := Slr.at hs1048 hx1552
                        obtain rfl := hr1584
                        refine Aw_qw 16 rfl (by kernel_rfl) (by kernel_rfl) (by kernel_rfl) rfl rfl rfl rfl rfl rfl (Q_ix (T := TyItem) hs1048 hx1552 rfl rfl rfl rfl rfl) ?_
                        refine Aw_qw 17 rfl (by kernel_rfl) (by kernel_rfl) (by kernel_rfl) rfl rfl rfl rfl rfl rfl (Qt_fieldAddr (m := 1) rfl rfl rfl rfl rfl) ?_
                        refine Aw_qw 18 rfl (by kernel_rfl) (by kernel_rfl) (by kernel_rfl) rfl rfl rfl rfl rfl rfl (Qt_fieldAddr (m := 1) rfl rfl rfl rfl rfl) ?_
                        refine Aw_qw 19 rfl (by kernel_rfl) (by kernel_rfl) (by kernel_rfl) rfl rfl rfl rfl rfl rfl (Qt_load1 (v := (.int .i64 x1551.access.kind)) rfl rfl rfl (Rdc.k hk1585 rfl)) ?_
                        refine Aw_qw 20 rfl (by kernel_rfl) (by kernel_rfl) (by kernel_rfl) rfl rfl rfl rfl rfl rfl (Qt_cmp rfl rfl rfl) ?_
                        refine Aw_qw 21 rfl (by kernel_rfl) (by kernel_rfl) (by kernel_rfl) rfl rfl rfl rfl rfl rfl (Qt_move rfl) ?_
                        refine Aw.known (d := 67) rfl (dcd_neg h1556) ?_
                        refine Aw_qw 22 rfl (by kernel_rfl) (by kernel_rfl) (by kernel_rfl) rfl rfl rfl rfl rfl rfl (Qt_move rfl) ?_
                        refine Aw_qw 23 rfl (by kernel_rfl) (by kernel_rfl) (by kernel_rfl) rfl rfl rfl rfl rfl rfl (Qt_move rfl) ?_
                        obtain ⟨r1586, hr1587, hk1588⟩ := Slr.at hs1048 hx1567
                        obtain rfl := hr1587
                        refine Aw_qw 24 rfl (by kernel_rfl) (by kernel_rfl) (by kernel_rfl) rfl rfl rfl rfl rfl rfl (Q_ix (T := TyItem) hs1048 hx1567 rfl rfl rfl rfl rfl) ?_
                        refine Aw_qw 25 rfl (by kernel_rfl) (by kernel_rfl) (by kernel_rfl) rfl rfl rfl rfl rfl rfl (Qt_fieldAddr (m := 1) rfl rfl rfl rfl rfl) ?_
                        refine Aw_qw 26 rfl (by kernel_rfl) (by kernel_rfl) (by kernel_rfl) rfl rfl rfl rfl rfl rfl (Qt_fieldAddr (m := 1) rfl rfl rfl rfl rfl) ?_
                        refine Aw_qw 27 rfl (by kernel_rfl) (by kernel_rfl) (by kernel_rfl) rfl rfl rfl rfl rfl rfl (Qt_load1 (v := (.int .i64 x1566.access.kind)) rfl rfl rfl (Rdc.k hk1588 rfl)) ?_
                        refine Aw_qw 28 rfl (by kernel_rfl) (by kernel_rfl) (by kernel_rfl) rfl rfl rfl rfl rfl rfl (Qt_cmp rfl rfl rfl) ?_
                        refine Aw_qw 29 rfl (by kernel_rfl) (by kernel_rfl) (by kernel_rfl) rfl rfl rfl rfl rfl rfl (Qt_move rfl) ?_
                        refine Aw.known (d := 75) rfl (dcd_pos h1571) ?_
                        refine Aw_qw 30 rfl (by kernel_rfl) (by kernel_rfl) (by kernel_rfl) rfl rfl rfl rfl rfl rfl (Qt_move rfl) ?_
                        refine Aw_qw 31 rfl (by kernel_rfl) (by kernel_rfl) (by kernel_rfl) rfl rfl rfl rfl rfl rfl (Qt_move rfl) ?_
                        obtain ⟨r1589, hr1590, hk1591⟩ := Slr.at hs1048 hx1573
                        obtain rfl := hr1590
                        refine Aw_qw 32 rfl (by kernel_rfl) (by kernel_rfl) (by kernel_rfl) rfl rfl rfl rfl rfl rfl (Q_ix (T := TyItem) hs1048 hx1573 rfl rfl rfl rfl rfl) ?_
                        refine Aw_qw 33 rfl (by kernel_rfl) (by kernel_rfl) (by kernel_rfl) rfl rfl rfl rfl rfl rfl (Qt_fieldAddr (m := 7) rfl rfl rfl rfl rfl) ?_
                        refine Aw_qw 34 rfl (by kernel_rfl) (by kernel_rfl) (by kernel_rfl) rfl rfl rfl rfl rfl rfl (Qt_load1 (v := (.bool x1572.ok)) rfl rfl rfl (Rdc.k hk1591 rfl)) ?_
                        refine Aw_qw 35 rfl (by kernel_rfl) (by kernel_rfl) (by kernel_rfl) rfl rfl rfl rfl rfl rfl (Qt_pick_t rfl rfl) ?_
                        refine Aw_qw 36 rfl (by kernel_rfl) (by kernel_rfl) (by kernel_rfl) rfl rfl rfl rfl rfl rfl (Qt_pick_f rfl rfl) ?_
                        refine Aw_q 37 rfl (by kernel_rfl) (by kernel_rfl) (by kernel_rfl) rfl rfl rfl (Qt_pick_t rfl rfl) ?_
                        refine Aw_done (by kernel_rfl) ?_
                        refine Shift.done ?_
                        exact ⟨[(5, (.int .i64 (wI (1 + (wI (Int.tmod p1 4)))))), (6, (sv v421)), (7, (.int .i64 i850)), (9, (.int .i64 i1389)), (10, (.int .i64 i1390)), (21, (.int .i64 (x418.length : Int))), (22, (.int .i64 i850)), (83, (.bool x1572.ok))], ⟨rfl, rfl, rfl, rfl, rfl, rfl, rfl, rfl, trivial⟩, x1572.ok, rfl, rfl, rfl, H⟩
                      · intro h1571
                        have h1571 := dcd_f (h1571)
                        have H := iff_ h1571 H
                        refine Cw_region_any [.tok 56 8 [(sv v421)]] rfl (Inc.cons (.head _) Inc.nil) ?_
                        refine Aw_q 0 rfl (by kernel_rfl) (by kernel_rfl) (by kernel_rfl) rfl rfl rfl (Qt_move rfl) ?_
                        refine Aw_q 1 rfl (by kernel_rfl) (by kernel_rfl) (by kernel_rfl) rfl rfl rfl (Qt_move rfl) ?_
                        obtain ⟨r1592, hr1593, hk1594⟩ := Slr.at hs1048 hx1541
                        obtain rfl := hr1593
                        refine Aw_q 2 rfl (by kernel_rfl) (by kernel_rfl) (by kernel_rfl) rfl rfl rfl (Q_ix (T := TyItem) hs1048 hx1541 rfl rfl rfl rfl rfl) ?_
                        refine Aw_q 3 rfl (by kernel_rfl) (by kernel_rfl) (by kernel_rfl) rfl rfl rfl (Qt_fieldAddr (m := 1) rfl rfl rfl rfl rfl) ?_
                        refine Aw_q 4 rfl (by kernel_rfl) (by kernel_rfl) (by kernel_rfl) rfl rfl rfl (Qt_fieldAddr (m := 2) rfl rfl rfl rfl rfl) ?_
                        refine Aw_q 5 rfl (by kernel_rfl) (by kernel_rfl) (by kernel_rfl) rfl rfl rfl (Qt_load1 (v := (.int .i64 x1540.access.address)) rfl rfl rfl (Rdc.k hk1594 rfl)) ?_
                        refine Aw_q 6 rfl (by kernel_rfl) (by kernel_rfl) (by kernel_rfl) rfl rfl rfl (Qt_move rfl) ?_
                        refine Aw_q 7 rfl (by kernel_rfl) (by kernel_rfl) (by kernel_rfl) rfl rfl rfl (Qt_move rfl) ?_
                        obtain ⟨r1595, hr1596, hk1597⟩ := Slr.at hs1048 hx1546
                        obtain rfl := hr1596
                        refine Aw_q 8 rfl (by kernel_rfl) (by kernel_rfl) (by kernel_rfl) rfl rfl rfl (Q_ix (T := TyItem) hs1048 hx1546 rfl rfl rfl rfl rfl) ?_
                        refine Aw_q 9 rfl (by kernel_rfl) (by kernel_rfl) (by kernel_rfl) rfl rfl rfl (Qt_fieldAddr (m := 1) rfl rfl rfl rfl rfl) ?_
                        refine Aw_q 10 rfl (by kernel_rfl) (by kernel_rfl) (by kernel_rfl) rfl rfl rfl (Qt_fieldAddr (m := 2) rfl rfl rfl rfl rfl) ?_
                        refine Aw_q 11 rfl (by kernel_rfl) (by kernel_rfl) (by kernel_rfl) rfl rfl rfl (Qt_load1 (v := (.int .i64 x1545.access.address)) rfl rfl rfl (Rdc.k hk1597 rfl)) ?_
                        refine Aw_q 12 rfl (by kernel_rfl) (by kernel_rfl) (by kernel_rfl) rfl rfl rfl (Qt_cmp rfl rfl rfl) ?_
                        refine Aw_q 13 rfl (by kernel_rfl) (by kernel_rfl) (by kernel_rfl) rfl rfl rfl (Qt_move rfl) ?_
                        refine Aw.known (d := 59) rfl (dcd_pos h1550) ?_
                        refine Aw_qw 14 rfl (by kernel_rfl) (by kernel_rfl) (by kernel_rfl) rfl rfl rfl rfl rfl rfl (Qt_move rfl) ?_
                        refine Aw_qw 15 rfl (by kernel_rfl) (by kernel_rfl) (by kernel_rfl) rfl rfl rfl rfl rfl rfl (Qt_move rfl) ?_
                        obtain ⟨r1598, hr1599, hk1600⟩ := Slr.at hs1048 hx1552
                        obtain rfl := hr1599
                        refine Aw_qw 16 rfl (by kernel_rfl) (by kernel_rfl) (by kernel_rfl) rfl rfl rfl rfl rfl rfl (Q_ix (T := TyItem) hs1048 hx1552 rfl rfl rfl rfl rfl) ?_
                        refine Aw_qw 17 rfl (by kernel_rfl) (by kernel_rfl) (by kernel_rfl) rfl rfl rfl rfl rfl rfl (Qt_fieldAddr (m := 1) rfl rfl rfl rfl rfl) ?_
                        refine Aw_qw 18 rfl (by kernel_rfl) (by kernel_rfl) (by kernel_rfl) rfl rfl rfl rfl rfl rfl (Qt_fieldAddr (m := 1) rfl rfl rfl rfl rfl) ?_
                        refine Aw_qw 19 rfl (by kernel_rfl) (by kernel_rfl) (by kernel_rfl) rfl rfl rfl rfl rfl rfl (Qt_load1 (v := (.int .i64 x1551.access.kind)) rfl rfl rfl (Rdc.k hk1600 rfl)) ?_
                        refine Aw_qw 20 rfl (by kernel_rfl) (by kernel_rfl) (by kernel_rfl) rfl rfl rfl rfl rfl rfl (Qt_cmp rfl rfl rfl) ?_
                        refine Aw_qw 21 rfl (by kernel_rfl) (by kernel_rfl) (by kernel_rfl) rfl rfl rfl rfl rfl rfl (Qt_move rfl) ?_
                        refine Aw.known (d := 67) rfl (dcd_neg h1556) ?_
                        refine Aw_qw 22 rfl (by kernel_rfl) (by kernel_rfl) (by kernel_rfl) rfl rfl rfl rfl rfl rfl (Qt_move rfl) ?_
                        refine Aw_qw 23 rfl (by kernel_rfl) (by kernel_rfl) (by kernel_rfl) rfl rfl rfl rfl rfl rfl (Qt_move rfl) ?_
                        obtain ⟨r1601, hr1602, hk1603⟩ := Slr.at hs1048 hx1567
                        obtain rfl := hr1602
                        refine Aw_qw 24 rfl (by kernel_rfl) (by kernel_rfl) (by kernel_rfl) rfl rfl rfl rfl rfl rfl (Q_ix (T := TyItem) hs1048 hx1567 rfl rfl rfl rfl rfl) ?_
                        refine Aw_qw 25 rfl (by kernel_rfl) (by kernel_rfl) (by kernel_rfl) rfl rfl rfl rfl rfl rfl (Qt_fieldAddr (m := 1) rfl rfl rfl rfl rfl) ?_
                        refine Aw_qw 26 rfl (by kernel_rfl) (by kernel_rfl) (by kernel_rfl) rfl rfl rfl rfl rfl rfl (Qt_fieldAddr (m := 1) rfl rfl rfl rfl rfl) ?_
                        refine Aw_qw 27 rfl (by kernel_rfl) (by kernel_rfl) (by kernel_rfl) rfl rfl rfl rfl rfl rfl (Qt_load1 (v := (.int .i64 x1566.access.kind)) rfl rfl rfl (Rdc.k hk1603 rfl)) ?_
                        refine Aw_qw 28 rfl (by kernel_rfl) (by kernel_rfl) (by kernel_rfl) rfl rfl rfl rfl rfl rfl (Qt_cmp rfl rfl rfl) ?_
                        refine Aw_qw 29 rfl (by kernel_rfl) (by kernel_rfl) (by kernel_rfl) rfl rfl rfl rfl rfl rfl (Qt_move rfl) ?_
                        refine Aw.known (d := 75) rfl (dcd_neg h1571) ?_
                        refine Aw_pass 30 rfl (by kernel_rfl) (by kernel_rfl) (by kernel_rfl) rfl rfl rfl rfl rfl rfl rfl ?_
                        refine Aw_pass 31 rfl (by kernel_rfl) (by kernel_rfl) (by kernel_rfl) rfl rfl rfl rfl rfl rfl rfl ?_
                        refine Aw_pass 32 rfl (by kernel_rfl) (by kernel_rfl) (by kernel_rfl) rfl rfl rfl rfl rfl rfl rfl ?_
                        refine Aw_pass 33 rfl (by kernel_rfl) (by kernel_rfl) (by kernel_rfl) rfl rfl rfl rfl rfl rfl rfl ?_
                        refine Aw_pass 34 rfl (by kernel_rfl) (by kernel_rfl) (by kernel_rfl) rfl rfl rfl rfl rfl rfl rfl ?_
                        refine Aw_qw 35 rfl (by kernel_rfl) (by kernel_rfl) (by kernel_rfl) rfl rfl rfl rfl rfl rfl (Qt_pick_f rfl rfl) ?_
                        refine Aw_qw 36 rfl (by kernel_rfl) (by kernel_rfl) (by kernel_rfl) rfl rfl rfl rfl rfl rfl (Qt_pick_f rfl rfl) ?_
                        refine Aw_q 37 rfl (by kernel_rfl) (by kernel_rfl) (by kernel_rfl) rfl rfl rfl (Qt_pick_t rfl rfl) ?_
                        refine Aw_done (by kernel_rfl) ?_
                        refine Shift.done ?_
                        exact ⟨[(5, (.int .i64 (wI (1 + (wI (Int.tmod p1 4)))))), (6, (sv v421)), (7, (.int .i64 i850)), (9, (.int .i64 i1389)), (10, (.int .i64 i1390)), (21, (.int .i64 (x418.length : Int))), (22, (.int .i64 i850)), (83, (.bool false))], ⟨rfl, rfl, rfl, rfl, rfl, rfl, rfl, rfl, trivial⟩, false, rfl, rfl, rfl, H⟩
                  · intro h1550
                    have h1550 := dcd_f (h1550)
                    have H := iff_ h1550 H
                    refine Cw_region_any [.tok 56 8 [(sv v421)]] rfl (Inc.cons (.head _) Inc.nil) ?_
                    refine Aw_q 0 rfl (by kernel_rfl) (by kernel_rfl) (by kernel_rfl) rfl rfl rfl (Qt_move rfl) ?_
                    refine Aw_q 1 rfl (by kernel_rfl) (by kernel_rfl) (by kernel_rfl) rfl rfl rfl (Qt_move rfl) ?_
                    obtain ⟨r1604, hr1605, hk1606⟩ := Slr.at hs1048 hx1541
                    obtain rfl := hr1605
                    refine Aw_q 2 rfl (by kernel_rfl) (by kernel_rfl) (by kernel_rfl) rfl rfl rfl (Q_ix (T := TyItem) hs1048 hx1541 rfl rfl rfl rfl rfl) ?_
                    refine Aw_q 3 rfl (by kernel_rfl) (by kernel_rfl) (by kernel_rfl) rfl rfl rfl (Qt_fieldAddr (m := 1) rfl rfl rfl rfl rfl) ?_
                    refine Aw_q 4 rfl (by kernel_rfl) (by kernel_rfl) (by kernel_rfl) rfl rfl rfl (Qt_fieldAddr (m := 2) rfl rfl rfl rfl rfl) ?_
                    refine Aw_q 5 rfl (by kernel_rfl) (by kernel_rfl) (by kernel_rfl) rfl rfl rfl (Qt_load1 (v := (.int .i64 x1540.access.address)) rfl rfl rfl (Rdc.k hk1606 rfl)) ?_
                    refine Aw_q 6 rfl (by kernel_rfl) (by kernel_rfl) (by kernel_rfl) rfl rfl rfl (Qt_move rfl) ?_
                    refine Aw_q 7 rfl (by kernel_rfl) (by kernel_rfl) (by kernel_rfl) rfl rfl rfl (Qt_move rfl) ?_
                    obtain ⟨r1607, hr1608, hk1609⟩ := Slr.at hs1048 hx1546
                    obtain rfl := hr1608
                    refine Aw_q 8 rfl (by kernel_rfl) (by kernel_rfl) (by kernel_rfl) rfl rfl rfl (Q_ix (T := TyItem) hs1048 hx1546 rfl rfl rfl rfl rfl) ?_
                    refine Aw_q 9 rfl (by kernel_rfl) (by kernel_rfl) (by kernel_rfl) rfl rfl rfl (Qt_fieldAddr (m := 1) rfl rfl rfl rfl rfl) ?_
                    refine Aw_q 10 rfl (by kernel_rfl) (by kernel_rfl) (by kernel_rfl) rfl rfl rfl (Qt_fieldAddr (m := 2) rfl rfl rfl rfl rfl) ?_
                    refine Aw_q 11 rfl (by kernel_rfl) (by kernel_rfl) (by kernel_rfl) rfl rfl rfl (Qt_load1 (v := (.int .i64 x1545.access.address)) rfl rfl rfl (Rdc.k hk1609 rfl)) ?_
                    refine Aw_q 12 rfl (by kernel_rfl) (by kernel_rfl) (by kernel_rfl) rfl rfl rfl (Qt_cmp rfl rfl rfl) ?_
                    refine Aw_q 13 rfl (by kernel_rfl) (by kernel_rfl) (by kernel_rfl) rfl rfl rfl (Qt_move rfl) ?_
                    refine Aw.known (d := 59) rfl (dcd_neg h1550) ?_
                    refine Aw_pass 14 rfl (by kernel_rfl) (by kernel_rfl) (by kernel_rfl) rfl rfl rfl rfl rfl rfl rfl ?_
                    refine Aw_pass 15 rfl (by kernel_rfl) (by kernel_rfl) (by kernel_rfl) rfl rfl rfl rfl rfl rfl rfl ?_
                    refine Aw_pass 16 rfl (by kernel_rfl) (by kernel_rfl) (by kernel_rfl) rfl rfl rfl rfl rfl rfl rfl ?_
                    refine Aw_pass 17 rfl (by kernel_rfl) (by kernel_rfl) (by kernel_rfl) rfl rfl rfl rfl rfl rfl rfl ?_
                    refine Aw_pass 18 rfl (by kernel_rfl) (by kernel_rfl) (by kernel_rfl) rfl rfl rfl rfl rfl rfl rfl ?_
                    refine Aw_pass 19 rfl (by kernel_rfl) (by kernel_rfl) (by kernel_rfl) rfl rfl rfl rfl rfl rfl rfl ?_
                    refine Aw_pass 20 rfl (by kernel_rfl) (by kernel_rfl) (by kernel_rfl) rfl rfl rfl rfl rfl rfl rfl ?_
                    refine Aw_pass 21 rfl (by kernel_rfl) (by kernel_rfl) (by kernel_rfl) rfl rfl rfl rfl rfl rfl rfl ?_
                    refine Aw_passU 22 rfl (by kernel_rfl) (by kernel_rfl) (by kernel_rfl) rfl rfl rfl rfl rfl ?_
                    refine Aw_passU 23 rfl (by kernel_rfl) (by kernel_rfl) (by kernel_rfl) rfl rfl rfl rfl rfl ?_
                    refine Aw_passU 24 rfl (by kernel_rfl) (by kernel_rfl) (by kernel_rfl) rfl rfl rfl rfl rfl ?_
                    refine Aw_passU 25 rfl (by kernel_rfl) (by kernel_rfl) (by kernel_rfl) rfl rfl rfl rfl rfl ?_
                    refine Aw_passU 26 rfl (by kernel_rfl) (by kernel_rfl) (by kernel_rfl) rfl rfl rfl rfl rfl ?_
                    refine Aw_passU 27 rfl (by kernel_rfl) (by kernel_rfl) (by kernel_rfl) rfl rfl rfl rfl rfl ?_
                    refine Aw_passU 28 rfl (by kernel_rfl) (by kernel_rfl) (by kernel_rfl) rfl rfl rfl rfl rfl ?_
                    refine Aw_passU 29 rfl (by kernel_rfl) (by kernel_rfl) (by kernel_rfl) rfl rfl rfl rfl rfl ?_
                    refine Aw_passU 30 rfl (by kernel_rfl) (by kernel_rfl) (by kernel_rfl) rfl rfl rfl rfl rfl ?_
                    refine Aw_passU 31 rfl (by kernel_rfl) (by kernel_rfl) (by kernel_rfl) rfl rfl rfl rfl rfl ?_
                    refine Aw_passU 32 rfl (by kernel_rfl) (by kernel_rfl) (by kernel_rfl) rfl rfl rfl rfl rfl ?_
                    refine Aw_passU 33 rfl (by kernel_rfl) (by kernel_rfl) (by kernel_rfl) rfl rfl rfl rfl rfl ?_
                    refine Aw_passU 34 rfl (by kernel_rfl) (by kernel_rfl) (by kernel_rfl) rfl rfl rfl rfl rfl ?_
                    refine Aw_passU 35 rfl (by kernel_rfl) (by kernel_rfl) (by kernel_rfl) rfl rfl rfl rfl rfl ?_
                    refine Aw_pass 36 rfl (by kernel_rfl) (by kernel_rfl) (by kernel_rfl) rfl rfl rfl rfl rfl rfl rfl ?_
                    refine Aw_q 37 rfl (by kernel_rfl) (by kernel_rfl) (by kernel_rfl) rfl rfl rfl (Qt_pick_f rfl rfl) ?_
                    refine Aw_done (by kernel_rfl) ?_
                    refine Shift.done ?_
                    exact ⟨[(5, (.int .i64 (wI (1 + (wI (Int.tmod p1 4)))))), (6, (sv v421)), (7, (.int .i64 i850)), (9, (.int .i64 i1389)), (10, (.int .i64 i1390)), (21, (.int .i64 (x418.length : Int))), (22, (.int .i64 i850)), (83, (.bool false))], ⟨rfl, rfl, rfl, rfl, rfl, rfl, rfl, rfl, trivial⟩, false, rfl, rfl, rfl, H⟩
                rintro _ _ _ - ⟨t1539, rfl, rfl, rfl, H⟩
                unfold M_law18_HappensReads_J5 at H
                refine Cw_cond rfl ?_ ?_
                · intro h1610
                  have H := ift h1610 H
                  refine Cw_region ?_
                  refine Ow_q rfl rfl rfl (Qt_move rfl) ?_
                  refine Ow_q rfl rfl rfl (Qt_assign rfl) ?_
                  refine Ow_nil ?_
                  refine Cw_region ?_
                  refine Ow_q rfl rfl rfl (Qt_move rfl) ?_
                  refine Ow_q rfl rfl rfl (Qt_arith (e := wI (i1390 + 1)) rfl rfl rfl rfl) ?_
                  refine Ow_q rfl rfl rfl (Qt_assign rfl) ?_
                  refine Ow_nil ?_
                  refine Shift.done ?_
                  exact ⟨[(5, (.int .i64 (wI (1 + (wI (Int.tmod p1 4)))))), (6, (sv v421)), (7, (.int .i64 i850)), (9, (.int .i64 i1390)), (10, (.int .i64 (wI (i1390 + 1)))), (21, (.int .i64 (x418.length : Int))), (22, (.int .i64 i850))], ⟨rfl, rfl, rfl, rfl, rfl, rfl, rfl, trivial⟩, _, Nat.lt_succ_self _, i1390, (wI (i1390 + 1)), rfl, rfl, rfl, (hkk1394 ▸ H)⟩
                · intro h1610
                  have H := iff_ (btf h1610) H
                  refine Cw_skip ?_
                  refine Cw_region ?_
                  refine Ow_q rfl rfl rfl (Qt_move rfl) ?_
                  refine Ow_q rfl rfl rfl (Qt_arith (e := wI (i1390 + 1)) rfl rfl rfl rfl) ?_
                  refine Ow_q rfl rfl rfl (Qt_assign rfl) ?_
                  refine Ow_nil ?_
                  refine Shift.done ?_
                  exact ⟨[(5, (.int .i64 (wI (1 + (wI (Int.tmod p1 4)))))), (6, (sv v421)), (7, (.int .i64 i850)), (9, (.int .i64 i1389)), (10, (.int .i64 (wI (i1390 + 1)))), (21, (.int .i64 (x418.length : Int))), (22, (.int .i64 i850))], ⟨rfl, rfl, rfl, rfl, rfl, rfl, rfl, trivial⟩, _, Nat.lt_succ_self _, i1389, (wI (i1390 + 1)), rfl, rfl, rfl, (hkk1394 ▸ H)⟩
              · intro h1396
                have h1396 := dcd_f (h1396)
                have H := iff_ h1396 H
                refine Cw_exit ?_
                refine Shift.done ?_
                exact ⟨[(5, (.int .i64 (wI (1 + (wI (Int.tmod p1 4)))))), (6, (sv v421)), (7, (.int .i64 i850)), (9, (.int .i64 i1389)), (21, (.int .i64 (x418.length : Int))), (22, (.int .i64 i850))], ⟨rfl, rfl, rfl, rfl, rfl, rfl, trivial⟩, i1389, rfl, rfl, H⟩
            rintro _ K1611 _ hK1612 ⟨i1226, rfl, rfl, H⟩
            unfold M_law18_HappensReads_J4 at H
            refine Cw_join (fun env' K' G' => ∃ (t1619 : Bool), [(5, (.int .i64 (wI (1 + (wI (Int.tmod p1 4)))))), (6, (sv v421)), (21, (.int .i64 (x418.length : Int))), (22, (.int .i64 i850)), (94, (.bool t1619))] = env' ∧ (.tok 56 8 [(sv v421)]) :: G = G' ∧ M_law18_HappensReads_J6 p1 x418 i850 k855 t1619 = some y0) ?_ ?_
            · skip
              refine Cw_region ?_
              refine Ow_q rfl rfl rfl (Qt_move rfl) ?_
              refine Ow_q rfl rfl rfl (Qt_cmp rfl rfl rfl) ?_
              refine Ow_q rfl rfl rfl (Qt_move rfl) ?_
              refine Ow_caseG rfl rfl rfl ?_ ?_
              · intro h1620
                have h1620 := dcd_t (h1620)
                have H := ift h1620 H
                refine Ow_qw rfl rfl rfl rfl rfl rfl (Qt_move rfl) ?_
                refine Ow_qw rfl rfl rfl rfl rfl rfl (Qt_move rfl) ?_
                refine Ow_qw rfl rfl rfl rfl rfl rfl (Qt_move rfl) ?_
                refine Ow_qw rfl rfl rfl rfl rfl rfl (Qt_move rfl) ?_
                obtain ⟨x1621, hx1622, H⟩ := bnd H
                have hs1623 := (hs1048).mono hK1612
                refine Ow_want rfl rfl rfl rfl (OpW_call rfl Try.call42 rfl rfl (c_M_happens_Before x418 v421 (wI (1 + (wI (Int.tmod p1 4)))) i1226 i850 x1621 hx1622 _ _ hs1623) ?_)
                rintro _ K1624 _ hK1625 ⟨rfl, rfl⟩
                refine Ow_qw rfl rfl rfl rfl rfl rfl (Qt_not rfl) ?_
                refine Ow_q rfl rfl rfl (Qt_pick_t rfl rfl) ?_
                refine Ow_nil ?_
                refine Shift.done ?_
                exact ⟨[(5, (.int .i64 (wI (1 + (wI (Int.tmod p1 4)))))), (6, (sv v421)), (21, (.int .i64 (x418.length : Int))), (22, (.int .i64 i850)), (94, (.bool (!(x1621))))], ⟨rfl, rfl, rfl, rfl, rfl, trivial⟩, (!(x1621)), rfl, rfl, H⟩
              · intro h1620
                have h1620 := dcd_f (h1620)
                have H := iff_ h1620 H
                refine Ow_pass rfl rfl rfl rfl rfl rfl rfl ?_
                refine Ow_pass rfl rfl rfl rfl rfl rfl rfl ?_
                refine Ow_pass rfl rfl rfl rfl rfl rfl rfl ?_
                refine Ow_pass rfl rfl rfl rfl rfl rfl rfl ?_
                refine Ow_pass rfl rfl rfl rfl rfl rfl rfl ?_
                refine Ow_pass rfl rfl rfl rfl rfl rfl rfl ?_
                refine Ow_q rfl rfl rfl (Qt_pick_f rfl rfl) ?_
                refine Ow_nil ?_
                refine Shift.done ?_
                exact ⟨[(5, (.int .i64 (wI (1 + (wI (Int.tmod p1 4)))))), (6, (sv v421)), (21, (.int .i64 (x418.length : Int))), (22, (.int .i64 i850)), (94, (.bool false))], ⟨rfl, rfl, rfl, rfl, rfl, trivial⟩, false, rfl, rfl, H⟩
            rintro _ K1626 _ hK1627 ⟨t1619, rfl, rfl, H⟩
            unfold M_law18_HappensReads_J6 at H
            refine Cw_cond rfl ?_ ?_
            · intro h1628
              have H := ift h1628 H
              refine Cw_seq ?_
              refine Cw_region ?_
              refine Ow_q rfl rfl rfl (Qt_assign rfl) ?_
              refine Ow_nil ?_
              refine Cw_ret ?_
              obtain ey0 := inj1 H
              subst y0
              refine ⟨(by first | exact .inl rfl | exact .inr rfl), [(.bool false)], ⟨(.bool false), _, rfl, rfl, rfl⟩, ?_⟩
              refine Shift.rem .here ?_
              refine Shift.done ?_
              exact ⟨rfl, rfl⟩
            · intro h1628
              have H := iff_ (btf h1628) H
              refine Cw_skip ?_
              refine Shift.done ?_
              exact ⟨[(5, (.int .i64 (wI (1 + (wI (Int.tmod p1 4)))))), (6, (sv v421)), (21, (.int .i64 (x418.length : Int))), (22, (.int .i64 i850))], ⟨rfl, rfl, rfl, rfl, trivial⟩, rfl, rfl, H⟩
        rintro _ K1629 _ hK1630 ⟨rfl, rfl, H⟩
        unfold M_law18_HappensReads_J2 at H
        refine Cw_region ?_
        refine Ow_q rfl rfl rfl (Qt_arith (e := wI (i850 + 1)) rfl rfl rfl rfl) ?_
        refine Ow_q rfl rfl rfl (Qt_move rfl) ?_
        refine Ow_nil ?_
        refine Shift.done ?_
        exact ⟨[(5, (.int .i64 (wI (1 + (wI (Int.tmod p1 4)))))), (6, (sv v421)), (21, (.int .i64 (x418.length : Int))), (22, (.int .i64 (wI (i850 + 1))))], ⟨rfl, rfl, rfl, rfl, trivial⟩, _, Nat.lt_succ_self _, (wI (i850 + 1)), rfl, rfl, (hkk856 ▸ H)⟩
      · intro h858
        have h858 := dcd_f (h858)
        have H := iff_ h858 H
        refine Cw_exit ?_
        refine Shift.rem .here ?_
        refine Shift.done ?_
        exact ⟨[], trivial, rfl, rfl, H⟩
    rintro _ K1631 _ hK1632 ⟨rfl, rfl, H⟩
    unfold M_law18_HappensReads_J1 at H
    refine Cw_seq ?_
    refine Cw_region ?_
    refine Ow_q rfl rfl rfl (Qt_assign rfl) ?_
    refine Ow_nil ?_
    refine Cw_ret ?_
    obtain ey0 := inj1 H
    subst y0
    refine ⟨(by first | exact .inl rfl | exact .inr rfl), [(.bool true)], ⟨(.bool true), _, rfl, rfl, rfl⟩, ?_⟩
    refine Shift.done ?_
    exact ⟨rfl, rfl⟩


end Go.Hx
