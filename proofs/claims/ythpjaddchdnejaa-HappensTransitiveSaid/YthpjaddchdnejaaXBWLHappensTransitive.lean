/- Printed by program. -/
import Derived.Test.YthpjaddchdnejaaXBM
import Derived.Test.YthpjaddchdnejaaXBWHappens2
import Derived.Test.YthpjaddchdnejaaXBWLaw18
import Derived.Test.YthpjaddchdnejaaXBWLaw181
namespace Go.Hx
open Go Go.Proofs
set_option linter.unusedSimpArgs false
set_option linter.unusedVariables false
set_option maxRecDepth 10000
set_option maxHeartbeats 1000000 in
theorem c_M_law18_HappensTransitive (p0 : List Int) (vp0 : SV) (p1 : Int) (y0 : Bool) (H : M_law18_HappensTransitive p0 p1 = some y0) (K : Kp) (G : List Ent) (hp0 : Slr Ty.u8 K (sv vp0) p0) :
    Fc Try.prog 12 #[(sv vp0), (.int .u8 p1)] K (G) (fun v K' G' => v = (.bool y0) ∧ G = G') := by
  refine Fc_body Try.func12 rfl Try.ntmps12 Try.results12 rfl ?_
  unfold M_law18_HappensTransitive at H
  refine Cw_seq ?_
  refine Cw_region ?_
  refine Ow_q rfl rfl rfl (Qt_assign rfl) ?_
  refine Ow_nil ?_
  refine Cw_seq ?_
  refine Cw_seq ?_
  refine Cw_region ?_
  obtain ⟨x469, hx470, H⟩ := bnd H
  refine Ow_cons rfl (OpW_call rfl Try.call33 rfl rfl (c_M_law18_awake  x469 hx470 _ _ ) ?_)
  rintro _ K471 _ hK472 ⟨rfl, rfl⟩
  refine Ow_q rfl rfl rfl (Qt_not rfl) ?_
  refine Ow_nil ?_
  refine Cw_cond rfl ?_ ?_
  · intro h473
    have h473 := nt_t (h473)
    have H := iff_ (btf h473) H
    refine Cw_seq ?_
    refine Cw_region ?_
    refine Ow_q rfl rfl rfl (Qt_assign rfl) ?_
    refine Ow_nil ?_
    refine Cw_ret ?_
    obtain ey0 := inj1 H
    subst y0
    refine ⟨(by first | exact .inl rfl | exact .inr rfl), [(.bool false)], ⟨(.bool false), _, rfl, rfl, rfl⟩, ?_⟩
    refine Shift.done ?_
    exact ⟨rfl, rfl⟩
  · intro h473
    have h473 := nt_f (h473)
    have H := ift h473 H
    refine Cw_skip ?_
    refine Cw_seq ?_
    refine Cw_region ?_
    refine Ow_q rfl rfl rfl (Qt_move rfl) ?_
    refine Ow_q rfl rfl rfl (Qt_rem rfl rfl (by decide)) ?_
    refine Ow_q rfl rfl rfl (Qt_conv (c := wI (Int.tmod p1 4)) rfl rfl rfl rfl) ?_
    refine Ow_q rfl rfl rfl (Qt_arith (e := wI (1 + (wI (Int.tmod p1 4)))) rfl rfl rfl rfl) ?_
    refine Ow_q rfl rfl rfl (Qt_assign rfl) ?_
    refine Ow_nil ?_
    refine Cw_seq ?_
    refine Cw_region ?_
    refine Ow_q rfl rfl rfl (Qt_move rfl) ?_
    refine Ow_q rfl rfl rfl (Qt_move rfl) ?_
    obtain ⟨x474, hx475, H⟩ := bnd H
    have hs476 := (hp0).mono hK472
    refine Ow_cons rfl (OpW_call rfl Try.call34 rfl rfl (c_M_law18_items p0 vp0 (wI (1 + (wI (Int.tmod p1 4)))) 14 x474 hx475 _ _ hs476) ?_)
    rintro _ K478 _ hK479 ⟨v477, rfl, rfl, hs480⟩
    refine Ow_q rfl rfl rfl (Qt_assign rfl) ?_
    refine Ow_nil ?_
    refine Cw_join (fun env' K' G' => [] = env' ∧ G = G' ∧ M_law18_HappensTransitive_J1 = some y0) ?_ ?_
    · skip
      refine Cw_seq ?_
      refine Cw_region ?_
      refine Ow_q rfl rfl rfl (Qt_move rfl) ?_
      refine Ow_q rfl rfl rfl (Q_len (T := TyItem) hs480 rfl rfl) ?_
      refine Ow_q rfl rfl rfl (Qt_move rfl) ?_
      refine Ow_nil ?_
      refine Cw_block ?_
      refine Cw_loopM (fun n1345 env' K' G' => ∃ (i1344 : Int), [(5, (.int .i64 (wI (1 + (wI (Int.tmod p1 4)))))), (6, (sv v477)), (20, (.int .i64 (x474.length : Int))), (21, (.int .i64 i1344))] = env' ∧ (.tok 56 8 [(sv v477)]) :: G = G' ∧ lp1 (M_law18_HappensTransitive_L1 p1 x474) n1345 i1344 = some y0) BIG ?_ ?_
      · skip
        refine Shift.done ?_
        exact ⟨[(5, (.int .i64 (wI (1 + (wI (Int.tmod p1 4)))))), (6, (sv v477)), (20, (.int .i64 (x474.length : Int))), (21, (.int .i64 0))], ⟨rfl, rfl, rfl, rfl, trivial⟩, 0, rfl, rfl, H⟩
      rintro n1345 _ K1346 _ hK1347 ⟨i1344, rfl, rfl, H⟩
      obtain ⟨m1348, k1349, rfl, hkk1350, H⟩ := lps1 H
      unfold M_law18_HappensTransitive_L1 at H
      refine Cw_seq ?_
      refine Cw_region ?_
      refine Ow_q rfl rfl rfl (Qt_cmp rfl rfl rfl) ?_
      refine Ow_nil ?_
      refine Cw_seq ?_
      refine Cw_cond rfl ?_ ?_
      · intro h1352
        have h1352 := dcd_t (h1352)
        have H := ift h1352 H
        refine Cw_skip ?_
        refine Cw_join (fun env' K' G' => [(5, (.int .i64 (wI (1 + (wI (Int.tmod p1 4)))))), (6, (sv v477)), (20, (.int .i64 (x474.length : Int))), (21, (.int .i64 i1344))] = env' ∧ (.tok 56 8 [(sv v477)]) :: G = G' ∧ M_law18_HappensTransitive_J2 p1 x474 i1344 k1349 = some y0) ?_ ?_
        · skip
          refine Cw_block ?_
          refine Cw_seq ?_
          refine Cw_region ?_
          refine Ow_q rfl rfl rfl (Qt_move rfl) ?_
          refine Ow_q rfl rfl rfl (Qt_assign rfl) ?_
          refine Ow_nil ?_
          refine Cw_seq ?_
          refine Cw_region ?_
          refine Ow_q rfl rfl rfl (Qt_move rfl) ?_
          refine Ow_q rfl rfl rfl (Qt_arith (e := wI (i1344 + 1)) rfl rfl rfl rfl) ?_
          refine Ow_q rfl rfl rfl (Qt_assign rfl) ?_
          refine Ow_nil ?_
          refine Cw_block ?_
          refine Cw_loopM (fun n1773 env' K' G' => ∃ (i1772 : Int), [(5, (.int .i64 (wI (1 + (wI (Int.tmod p1 4)))))), (6, (sv v477)), (7, (.int .i64 i1344)), (8, (.int .i64 i1772)), (20, (.int .i64 (x474.length : Int))), (21, (.int .i64 i1344))] = env' ∧ (.tok 56 8 [(sv v477)]) :: G = G' ∧ lp1 (M_law18_HappensTransitive_L2 p1 x474 i1344 k1349) n1773 i1772 = some y0) BIG ?_ ?_
          · skip
            refine Shift.done ?_
            exact ⟨[(5, (.int .i64 (wI (1 + (wI (Int.tmod p1 4)))))), (6, (sv v477)), (7, (.int .i64 i1344)), (8, (.int .i64 (wI (i1344 + 1)))), (20, (.int .i64 (x474.length : Int))), (21, (.int .i64 i1344))], ⟨rfl, rfl, rfl, rfl, rfl, rfl, trivial⟩, (wI (i1344 + 1)), rfl, rfl, H⟩
          rintro n1773 _ K1774 _ hK1775 ⟨i1772, rfl, rfl, H⟩
          obtain ⟨m1776, k1777, rfl, hkk1778, H⟩ := lps1 H
          unfold M_law18_HappensTransitive_L2 at H
          refine Cw_seq ?_
          refine Cw_seq ?_
          refine Cw_region ?_
          refine Ow_q rfl rfl rfl (Qt_move rfl) ?_
          refine Ow_q rfl rfl rfl (Qt_move rfl) ?_
          have hs1781 := ((hs480).mono hK1347).mono hK1775
          refine Ow_q rfl rfl rfl (Q_len (T := TyItem) hs1781 rfl rfl) ?_
          refine Ow_q rfl rfl rfl (Qt_cmp rfl rfl rfl) ?_
          refine Ow_nil ?_
          refine Cw_cond rfl ?_ ?_
          · intro h1782
            have h1782 := dcd_t (h1782)
            have H := ift h1782 H
            refine Cw_skip ?_
            refine Cw_join (fun env' K' G' => [(5, (.int .i64 (wI (1 + (wI (Int.tmod p1 4)))))), (6, (sv v477)), (7, (.int .i64 i1344)), (8, (.int .i64 i1772)), (20, (.int .i64 (x474.length : Int))), (21, (.int .i64 i1344))] = env' ∧ (.tok 56 8 [(sv v477)]) :: G = G' ∧ M_law18_HappensTransitive_J3 p1 x474 i1344 i1772 k1349 k1777 = some y0) ?_ ?_
            · skip
              refine Cw_block ?_
              refine Cw_seq ?_
              refine Cw_join (fun env' K' G' => ∃ (t1943 : Bool), [(5, (.int .i64 (wI (1 + (wI (Int.tmod p1 4)))))), (6, (sv v477)), (7, (.int .i64 i1344)), (8, (.int .i64 i1772)), (20, (.int .i64 (x474.length : Int))), (21, (.int .i64 i1344)), (50, (.bool t1943))] = env' ∧ (.tok 56 8 [(sv v477)]) :: G = G' ∧ M_law18_HappensTransitive_J4 p1 x474 i1344 i1772 k1349 k1777 t1943 = some y0) ?_ ?_
              · skip
                obtain ⟨x1944, hx1945, H⟩ := bnd H
                obtain ⟨x1949, hx1950, H⟩ := bnd H
                rcases bool_ct (dcd (x1944.thread = x1949.thread)) with hb_ | hb_ <;> revert hb_
                · intro h1954
                  have h1954 := dcd_t (h1954)
                  have H := ift h1954 H
                  obtain ⟨x1955, hx1956, H⟩ := bnd H
                  refine Cw_region_any [.tok 56 8 [(sv v477)]] rfl (Inc.cons (.head _) Inc.nil) ?_
                  refine Aw_q 0 rfl (by kernel_rfl) (by kernel_rfl) (by kernel_rfl) rfl rfl rfl (Qt_move rfl) ?_
                  refine Aw_q 1 rfl (by kernel_rfl) (by kernel_rfl) (by kernel_rfl) rfl rfl rfl (Qt_move rfl) ?_
                  obtain ⟨r1959, hr1960, hk1961⟩ := Slr.at hs1781 hx1945
                  obtain rfl := hr1960
                  refine Aw_q 2 rfl (by kernel_rfl) (by kernel_rfl) (by kernel_rfl) rfl rfl rfl (Q_ix (T := TyItem) hs1781 hx1945 rfl rfl rfl rfl rfl) ?_
                  refine Aw_q 3 rfl (by kernel_rfl) (by kernel_rfl) (by kernel_rfl) rfl rfl rfl (Qt_fieldAddr (m := 0) rfl rfl rfl rfl rfl) ?_
                  refine Aw_q 4 rfl (by kernel_rfl) (by kernel_rfl) (by kernel_rfl) rfl rfl rfl (Qt_load1 (v := (.int .i64 x1944.thread)) rfl rfl rfl (Rdc.k hk1961 rfl)) ?_
                  refine Aw_q 5 rfl (by kernel_rfl) (by kernel_rfl) (by kernel_rfl) rfl rfl rfl (Qt_move rfl) ?_
                  refine Aw_q 6 rfl (by kernel_rfl) (by kernel_rfl) (by kernel_rfl) rfl rfl rfl (Qt_move rfl) ?_
                  obtain ⟨r1962, hr1963, hk1964⟩ := Slr.at hs1781 hx1950
                  obtain rfl := hr1963
                  refine Aw_q 7 rfl (by kernel_rfl) (by kernel_rfl) (by kernel_rfl) rfl rfl rfl (Q_ix (T := TyItem) hs1781 hx1950 rfl rfl rfl rfl rfl) ?_
                  refine Aw_q 8 rfl (by kernel_rfl) (by kernel_rfl) (by kernel_rfl) rfl rfl rfl (Qt_fieldAddr (m := 0) rfl rfl rfl rfl rfl) ?_
                  refine Aw_q 9 rfl (by kernel_rfl) (by kernel_rfl) (by kernel_rfl) rfl rfl rfl (Qt_load1 (v := (.int .i64 x1949.thread)) rfl rfl rfl (Rdc.k hk1964 rfl)) ?_
                  refine Aw_q 10 rfl (by kernel_rfl) (by kernel_rfl) (by kernel_rfl) rfl rfl rfl (Qt_cmp rfl rfl rfl) ?_
                  refine Aw_q 11 rfl (by kernel_rfl) (by kernel_rfl) (by kernel_rfl) rfl rfl rfl (Qt_move rfl) ?_
                  refine Aw.known (d := 43) rfl (dcd_pos h1954) ?_
                  refine Aw_qw 12 rfl (by kernel_rfl) (by kernel_rfl) (by kernel_rfl) rfl rfl rfl rfl rfl rfl (Qt_move rfl) ?_
                  refine Aw_qw 13 rfl (by kernel_rfl) (by kernel_rfl) (by kernel_rfl) rfl rfl rfl rfl rfl rfl (Qt_move rfl) ?_
                  refine Aw_qw 14 rfl (by kernel_rfl) (by kernel_rfl) (by kernel_rfl) rfl rfl rfl rfl rfl rfl (Qt_move rfl) ?_
                  refine Aw_qw 15 rfl (by kernel_rfl) (by kernel_rfl) (by kernel_rfl) rfl rfl rfl rfl rfl rfl (Qt_move rfl) ?_
                  refine Aw_one 16 (by kernel_rfl) (Ax_mkw rfl rfl rfl rfl rfl ?_)
                  refine OpW_call rfl Try.call42 rfl rfl (c_M_happens_Before x474 v477 (wI (1 + (wI (Int.tmod p1 4)))) i1344 i1772 x1955 hx1956 _ _ hs1781) ?_
                  rintro _ K1965 _ hK1966 ⟨rfl, rfl⟩
                  refine ⟨(Inc.cons (.head _) Inc.nil), ?_⟩
                  refine Aw_qw 17 rfl (by kernel_rfl) (by kernel_rfl) (by kernel_rfl) rfl rfl rfl rfl rfl rfl (Qt_not rfl) ?_
                  refine Aw_q 18 rfl (by kernel_rfl) (by kernel_rfl) (by kernel_rfl) rfl rfl rfl (Qt_pick_t rfl rfl) ?_
                  refine Aw_done (by kernel_rfl) ?_
                  refine Shift.done ?_
                  exact ⟨[(5, (.int .i64 (wI (1 + (wI (Int.tmod p1 4)))))), (6, (sv v477)), (7, (.int .i64 i1344)), (8, (.int .i64 i1772)), (20, (.int .i64 (x474.length : Int))), (21, (.int .i64 i1344)), (50, (.bool (!(x1955))))], ⟨rfl, rfl, rfl, rfl, rfl, rfl, rfl, trivial⟩, (!(x1955)), rfl, rfl, H⟩
                · intro h1954
                  have h1954 := dcd_f (h1954)
                  have H := iff_ h1954 H
                  refine Cw_region_any [.tok 56 8 [(sv v477)]] rfl (Inc.cons (.head _) Inc.nil) ?_
                  refine Aw_q 0 rfl (by kernel_rfl) (by kernel_rfl) (by kernel_rfl) rfl rfl rfl (Qt_move rfl) ?_
                  refine Aw_q 1 rfl (by kernel_rfl) (by kernel_rfl) (by kernel_rfl) rfl rfl rfl (Qt_move rfl) ?_
                  obtain ⟨r1967, hr1968, hk1969⟩ := Slr.at hs1781 hx1945
                  obtain rfl := hr1968
                  refine Aw_q 2 rfl (by kernel_rfl) (by kernel_rfl) (by kernel_rfl) rfl rfl rfl (Q_ix (T := TyItem) hs1781 hx1945 rfl rfl rfl rfl rfl) ?_
                  refine Aw_q 3 rfl (by kernel_rfl) (by kernel_rfl) (by kernel_rfl) rfl rfl rfl (Qt_fieldAddr (m := 0) rfl rfl rfl rfl rfl) ?_
                  refine Aw_q 4 rfl (by kernel_rfl) (by kernel_rfl) (by kernel_rfl) rfl rfl rfl (Qt_load1 (v := (.int .i64 x1944.thread)) rfl rfl rfl (Rdc.k hk1969 rfl)) ?_
                  refine Aw_q 5 rfl (by kernel_rfl) (by kernel_rfl) (by kernel_rfl) rfl rfl rfl (Qt_move rfl) ?_
                  refine Aw_q 6 rfl (by kernel_rfl) (by kernel_rfl) (by kernel_rfl) rfl rfl rfl (Qt_move rfl) ?_
                  obtain ⟨r1970, hr1971, hk1972⟩ := Slr.at hs1781 hx1950
                  obtain rfl := hr1971
                  refine Aw_q 7 rfl (by kernel_rfl) (by kernel_rfl) (by kernel_rfl) rfl rfl rfl (Q_ix (T := TyItem) hs1781 hx1950 rfl rfl rfl rfl rfl) ?_
                  refine Aw_q 8 rfl (by kernel_rfl) (by kernel_rfl) (by kernel_rfl) rfl rfl rfl (Qt_fieldAddr (m := 0) rfl rfl rfl rfl rfl) ?_
                  refine Aw_q 9 rfl (by kernel_rfl) (by kernel_rfl) (by kernel_rfl) rfl rfl rfl (Qt_load1 (v := (.int .i64 x1949.thread)) rfl rfl rfl (Rdc.k hk1972 rfl)) ?_
                  refine Aw_q 10 rfl (by kernel_rfl) (by kernel_rfl) (by kernel_rfl) rfl rfl rfl (Qt_cmp rfl rfl rfl) ?_
                  refine Aw_q 11 rfl (by kernel_rfl) (by kernel_rfl) (by kernel_rfl) rfl rfl rfl (Qt_move rfl) ?_
                  refine Aw.known (d := 43) rfl (dcd_neg h1954) ?_
                  refine Aw_pass 12 rfl (by kernel_rfl) (by kernel_rfl) (by kernel_rfl) rfl rfl rfl rfl rfl rfl rfl ?_
                  refine Aw_pass 13 rfl (by kernel_rfl) (by kernel_rfl) (by kernel_rfl) rfl rfl rfl rfl rfl rfl rfl ?_
                  refine Aw_pass 14 rfl (by kernel_rfl) (by kernel_rfl) (by kernel_rfl) rfl rfl rfl rfl rfl rfl rfl ?_
                  refine Aw_pass 15 rfl (by kernel_rfl) (by kernel_rfl) (by kernel_rfl) rfl rfl rfl rfl rfl rfl rfl ?_
                  refine Aw_pass 16 rfl (by kernel_rfl) (by kernel_rfl) (by kernel_rfl) rfl rfl rfl rfl rfl rfl rfl ?_
                  refine Aw_pass 17 rfl (by kernel_rfl) (by kernel_rfl) (by kernel_rfl) rfl rfl rfl rfl rfl rfl rfl ?_
                  refine Aw_q 18 rfl (by kernel_rfl) (by kernel_rfl) (by kernel_rfl) rfl rfl rfl (Qt_pick_f rfl rfl) ?_
                  refine Aw_done (by kernel_rfl) ?_
                  refine Shift.done ?_
                  exact ⟨[(5, (.int .i64 (wI (1 + (wI (Int.tmod p1 4)))))), (6, (sv v477)), (7, (.int .i64 i1344)), (8, (.int .i64 i1772)), (20, (.int .i64 (x474.length : Int))), (21, (.int .i64 i1344)), (50, (.bool false))], ⟨rfl, rfl, rfl, rfl, rfl, rfl, rfl, trivial⟩, false, rfl, rfl, H⟩
              rintro _ K1973 _ hK1974 ⟨t1943, rfl, rfl, H⟩
              unfold M_law18_HappensTransitive_J4 at H
              refine Cw_cond rfl ?_ ?_
              · intro h1975
                have H := ift h1975 H
                refine Cw_seq ?_
                refine Cw_region ?_
                refine Ow_q rfl rfl rfl (Qt_assign rfl) ?_
                refine Ow_nil ?_
                refine Cw_ret ?_
                obtain ey0 := inj1 H
                subst y0
                refine ⟨(by first | exact .inl rfl | exact .inr rfl), [(.bool false)], ⟨(.bool false), _, rfl, rfl, rfl⟩, ?_⟩
                refine Shift.rem .here ?_
                refine Shift.done ?_
                exact ⟨rfl, rfl⟩
              · intro h1975
                have H := iff_ (btf h1975) H
                refine Cw_skip ?_
                refine Cw_seq ?_
                refine Cw_join (fun env' K' G' => ∃ (t2002 : Bool), [(5, (.int .i64 (wI (1 + (wI (Int.tmod p1 4)))))), (6, (sv v477)), (7, (.int .i64 i1344)), (8, (.int .i64 i1772)), (20, (.int .i64 (x474.length : Int))), (21, (.int .i64 i1344)), (62, (.bool t2002))] = env' ∧ (.tok 56 8 [(sv v477)]) :: G = G' ∧ M_law18_HappensTransitive_J5 p1 x474 i1344 i1772 k1349 k1777 t2002 = some y0) ?_ ?_
                · skip
                  refine Cw_region ?_
                  refine Ow_q rfl rfl rfl (Qt_move rfl) ?_
                  refine Ow_q rfl rfl rfl (Qt_move rfl) ?_
                  refine Ow_q rfl rfl rfl (Qt_move rfl) ?_
                  refine Ow_q rfl rfl rfl (Qt_move rfl) ?_
                  obtain ⟨x2003, hx2004, H⟩ := bnd H
                  have hs2005 := (hs1781).mono hK1974
                  refine Ow_cons rfl (OpW_call rfl Try.call42 rfl rfl (c_M_happens_Before x474 v477 (wI (1 + (wI (Int.tmod p1 4)))) i1772 i1344 x2003 hx2004 _ _ hs2005) ?_)
                  rintro _ K2006 _ hK2007 ⟨rfl, rfl⟩
                  refine Ow_q rfl rfl rfl (Qt_move rfl) ?_
                  refine Ow_caseG rfl rfl rfl ?_ ?_
                  · intro h2008
                    have H := ift h2008 H
                    refine Ow_pass rfl rfl rfl rfl rfl rfl rfl ?_
                    refine Ow_pass rfl rfl rfl rfl rfl rfl rfl ?_
                    refine Ow_pass rfl rfl rfl rfl rfl rfl rfl ?_
                    refine Ow_pass rfl rfl rfl rfl rfl rfl rfl ?_
                    refine Ow_pass rfl rfl rfl rfl rfl rfl rfl ?_
                    refine Ow_q rfl rfl rfl (Qt_pick_t rfl rfl) ?_
                    refine Ow_nil ?_
                    refine Shift.done ?_
                    exact ⟨[(5, (.int .i64 (wI (1 + (wI (Int.tmod p1 4)))))), (6, (sv v477)), (7, (.int .i64 i1344)), (8, (.int .i64 i1772)), (20, (.int .i64 (x474.length : Int))), (21, (.int .i64 i1344)), (62, (.bool true))], ⟨rfl, rfl, rfl, rfl, rfl, rfl, rfl, trivial⟩, true, rfl, rfl, H⟩
                  · intro h2008
                    have H := iff_ (btf h2008) H
                    refine Ow_qw rfl rfl rfl rfl rfl rfl (Qt_move rfl) ?_
                    refine Ow_qw rfl rfl rfl rfl rfl rfl (Qt_move rfl) ?_
                    refine Ow_qw rfl rfl rfl rfl rfl rfl (Qt_move rfl) ?_
                    refine Ow_qw rfl rfl rfl rfl rfl rfl (Qt_move rfl) ?_
                    obtain ⟨x2009, hx2010, H⟩ := bnd H
                    have hs2011 := (hs2005).mono hK2007
                    refine Ow_want rfl rfl rfl rfl (OpW_call rfl Try.call42 rfl rfl (c_M_happens_Before x474 v477 (wI (1 + (wI (Int.tmod p1 4)))) i1344 i1344 x2009 hx2010 _ _ hs2011) ?_)
                    rintro _ K2012 _ hK2013 ⟨rfl, rfl⟩
                    refine Ow_q rfl rfl rfl (Qt_pick_f rfl rfl) ?_
                    refine Ow_nil ?_
                    refine Shift.done ?_
                    exact ⟨[(5, (.int .i64 (wI (1 + (wI (Int.tmod p1 4)))))), (6, (sv v477)), (7, (.int .i64 i1344)), (8, (.int .i64 i1772)), (20, (.int .i64 (x474.length : Int))), (21, (.int .i64 i1344)), (62, (.bool x2009))], ⟨rfl, rfl, rfl, rfl, rfl, rfl, rfl, trivial⟩, x2009, rfl, rfl, H⟩
                rintro _ K2014 _ hK2015 ⟨t2002, rfl, rfl, H⟩
                unfold M_law18_HappensTransitive_J5 at H
                refine Cw_cond rfl ?_ ?_
                · intro h2016
                  have H := ift h2016 H
                  refine Cw_seq ?_
                  refine Cw_region ?_
                  refine Ow_q rfl rfl rfl (Qt_assign rfl) ?_
                  refine Ow_nil ?_
                  refine Cw_ret ?_
                  obtain ey0 := inj1 H
                  subst y0
                  refine ⟨(by first | exact .inl rfl | exact .inr rfl), [(.bool false)], ⟨(.bool false), _, rfl, rfl, rfl⟩, ?_⟩
                  refine Shift.rem .here ?_
                  refine Shift.done ?_
                  exact ⟨rfl, rfl⟩
                · intro h2016
                  have H := iff_ (btf h2016) H
                  refine Cw_skip ?_
                  refine Cw_seq ?_
                  refine Cw_region ?_
                  refine Ow_q rfl rfl rfl (Qt_move rfl) ?_
                  refine Ow_q rfl rfl rfl (Qt_arith (e := wI (i1772 + 1)) rfl rfl rfl rfl) ?_
                  refine Ow_q rfl rfl rfl (Qt_assign rfl) ?_
                  refine Ow_nil ?_
                  refine Cw_block ?_
                  refine Cw_loopM (fun n2067 env' K' G' => ∃ (i2066 : Int), [(5, (.int .i64 (wI (1 + (wI (Int.tmod p1 4)))))), (6, (sv v477)), (7, (.int .i64 i1344)), (8, (.int .i64 i1772)), (9, (.int .i64 i2066)), (20, (.int .i64 (x474.length : Int))), (21, (.int .i64 i1344))] = env' ∧ (.tok 56 8 [(sv v477)]) :: G = G' ∧ lp1 (M_law18_HappensTransitive_L3 p1 x474 i1344 i1772 k1349 k1777) n2067 i2066 = some y0) BIG ?_ ?_
                  · skip
                    refine Shift.done ?_
                    exact ⟨[(5, (.int .i64 (wI (1 + (wI (Int.tmod p1 4)))))), (6, (sv v477)), (7, (.int .i64 i1344)), (8, (.int .i64 i1772)), (9, (.int .i64 (wI (i1772 + 1)))), (20, (.int .i64 (x474.length : Int))), (21, (.int .i64 i1344))], ⟨rfl, rfl, rfl, rfl, rfl, rfl, rfl, trivial⟩, (wI (i1772 + 1)), rfl, rfl, H⟩
                  rintro n2067 _ K2068 _ hK2069 ⟨i2066, rfl, rfl, H⟩
                  obtain ⟨m2070, k2071, rfl, hkk2072, H⟩ := lps1 H
                  unfold M_law18_HappensTransitive_L3 at H
                  refine Cw_seq ?_
                  refine Cw_seq ?_
                  refine Cw_region ?_
                  refine Ow_q rfl rfl rfl (Qt_move rfl) ?_
                  refine Ow_q rfl rfl rfl (Qt_move rfl) ?_
                  have hs2075 := (((hs1781).mono hK1974).mono hK2015).mono hK2069
                  refine Ow_q rfl rfl rfl (Q_len (T := TyItem) hs2075 rfl rfl) ?_
                  refine Ow_q rfl rfl rfl (Qt_cmp rfl rfl rfl) ?_
                  refine Ow_nil ?_
                  refine Cw_cond rfl ?_ ?_
                  · intro h2076
                    have h2076 := dcd_t (h2076)
                    have H := ift h2076 H
                    refine Cw_skip ?_
                    refine Cw_seq ?_
                    refine Cw_block ?_
                    refine Cw_join (fun env' K' G' => ∃ (t2113 : Bool), [(5, (.int .i64 (wI (1 + (wI (Int.tmod p1 4)))))), (6, (sv v477)), (7, (.int .i64 i1344)), (8, (.int .i64 i1772)), (9, (.int .i64 i2066)), (20, (.int .i64 (x474.length : Int))), (21, (.int .i64 i1344)), (90, (.bool t2113))] = env' ∧ (.tok 56 8 [(sv v477)]) :: G = G' ∧ M_law18_HappensTransitive_J6 p1 x474 i1344 i1772 i2066 k1349 k1777 k2071 t2113 = some y0) ?_ ?_
                    · skip
                      refine Cw_region ?_
                      refine Ow_q rfl rfl rfl (Qt_move rfl) ?_
                      refine Ow_q rfl rfl rfl (Qt_move rfl) ?_
                      refine Ow_q rfl rfl rfl (Qt_move rfl) ?_
                      refine Ow_q rfl rfl rfl (Qt_move rfl) ?_
                      obtain ⟨x2114, hx2115, H⟩ := bnd H
                      refine Ow_cons rfl (OpW_call rfl Try.call42 rfl rfl (c_M_happens_Before x474 v477 (wI (1 + (wI (Int.tmod p1 4)))) i1344 i1772 x2114 hx2115 _ _ hs2075) ?_)
                      rintro _ K2116 _ hK2117 ⟨rfl, rfl⟩
                      refine Ow_q rfl rfl rfl (Qt_move rfl) ?_
                      refine Ow_caseG rfl rfl rfl ?_ ?_
                      · intro h2118
                        have H := ift h2118 H
                        refine Ow_qw rfl rfl rfl rfl rfl rfl (Qt_move rfl) ?_
                        refine Ow_qw rfl rfl rfl rfl rfl rfl (Qt_move rfl) ?_
                        refine Ow_qw rfl rfl rfl rfl rfl rfl (Qt_move rfl) ?_
                        refine Ow_qw rfl rfl rfl rfl rfl rfl (Qt_move rfl) ?_
                        obtain ⟨x2119, hx2120, H⟩ := bnd H
                        have hs2121 := (hs2075).mono hK2117
                        refine Ow_want rfl rfl rfl rfl (OpW_call rfl Try.call42 rfl rfl (c_M_happens_Before x474 v477 (wI (1 + (wI (Int.tmod p1 4)))) i1772 i2066 x2119 hx2120 _ _ hs2121) ?_)
                        rintro _ K2122 _ hK2123 ⟨rfl, rfl⟩
                        refine Ow_q rfl rfl rfl (Qt_pick_t rfl rfl) ?_
                        refine Ow_q rfl rfl rfl (Qt_move rfl) ?_
                        refine Ow_caseG rfl rfl rfl ?_ ?_
                        · intro h2124
                          have H := ift h2124 H
                          refine Ow_qw rfl rfl rfl rfl rfl rfl (Qt_move rfl) ?_
                          refine Ow_qw rfl rfl rfl rfl rfl rfl (Qt_move rfl) ?_
                          refine Ow_qw rfl rfl rfl rfl rfl rfl (Qt_move rfl) ?_
                          refine Ow_qw rfl rfl rfl rfl rfl rfl (Qt_move rfl) ?_
                          obtain ⟨x2125, hx2126, H⟩ := bnd H
                          have hs2127 := (hs2121).mono hK2123
                          refine Ow_want rfl rfl rfl rfl (OpW_call rfl Try.call42 rfl rfl (c_M_happens_Before x474 v477 (wI (1 + (wI (Int.tmod p1 4)))) i1344 i2066 x2125 hx2126 _ _ hs2127) ?_)
                          rintro _ K2128 _ hK2129 ⟨rfl, rfl⟩
                          refine Ow_qw rfl rfl rfl rfl rfl rfl (Qt_not rfl) ?_
                          refine Ow_q rfl rfl rfl (Qt_pick_t rfl rfl) ?_
                          refine Ow_nil ?_
                          refine Shift.done ?_
                          exact ⟨[(5, (.int .i64 (wI (1 + (wI (Int.tmod p1 4)))))), (6, (sv v477)), (7, (.int .i64 i1344)), (8, (.int .i64 i1772)), (9, (.int .i64 i2066)), (20, (.int .i64 (x474.length : Int))), (21, (.int .i64 i1344)), (90, (.bool (!(x2125))))], ⟨rfl, rfl, rfl, rfl, rfl, rfl, rfl, rfl, trivial⟩, (!(x2125)), rfl, rfl, H⟩
                        · intro h2124
                          have H := iff_ (btf h2124) H
                          refine Ow_pass rfl rfl rfl rfl rfl rfl rfl ?_
                          refine Ow_pass rfl rfl rfl rfl rfl rfl rfl ?_
                          refine Ow_pass rfl rfl rfl rfl rfl rfl rfl ?_
                          refine Ow_pass rfl rfl rfl rfl rfl rfl rfl ?_
                          refine Ow_pass rfl rfl rfl rfl rfl rfl rfl ?_
                          refine Ow_pass rfl rfl rfl rfl rfl rfl rfl ?_
                          refine Ow_q rfl rfl rfl (Qt_pick_f rfl rfl) ?_
                          refine Ow_nil ?_
                          refine Shift.done ?_
                          exact ⟨[(5, (.int .i64 (wI (1 + (wI (Int.tmod p1 4)))))), (6, (sv v477)), (7, (.int .i64 i1344)), (8, (.int .i64 i1772)), (9, (.int .i64 i2066)), (20, (.int .i64 (x474.length : Int))), (21, (.int .i64 i1344)), (90, (.bool false))], ⟨rfl, rfl, rfl, rfl, rfl, rfl, rfl, rfl, trivial⟩, false, rfl, rfl, H⟩
                      · intro h2118
                        have H := iff_ (btf h2118) H
                        refine Ow_pass rfl rfl rfl rfl rfl rfl rfl ?_
                        refine Ow_pass rfl rfl rfl rfl rfl rfl rfl ?_
                        refine Ow_pass rfl rfl rfl rfl rfl rfl rfl ?_
                        refine Ow_pass rfl rfl rfl rfl rfl rfl rfl ?_
                        refine Ow_pass rfl rfl rfl rfl rfl rfl rfl ?_
                        refine Ow_q rfl rfl rfl (Qt_pick_f rfl rfl) ?_
                        refine Ow_q rfl rfl rfl (Qt_move rfl) ?_
                        refine Ow_pass rfl rfl rfl rfl rfl rfl rfl ?_
                        refine Ow_pass rfl rfl rfl rfl rfl rfl rfl ?_
                        refine Ow_pass rfl rfl rfl rfl rfl rfl rfl ?_
                        refine Ow_pass rfl rfl rfl rfl rfl rfl rfl ?_
                        refine Ow_pass rfl rfl rfl rfl rfl rfl rfl ?_
                        refine Ow_pass rfl rfl rfl rfl rfl rfl rfl ?_
                        refine Ow_q rfl rfl rfl (Qt_pick_f rfl rfl) ?_
                        refine Ow_nil ?_
                        refine Shift.done ?_
                        exact ⟨[(5, (.int .i64 (wI (1 + (wI (Int.tmod p1 4)))))), (6, (sv v477)), (7, (.int .i64 i1344)), (8, (.int .i64 i1772)), (9, (.int .i64 i2066)), (20, (.int .i64 (x474.length : Int))), (21, (.int .i64 i1344)), (90, (.bool false))], ⟨rfl, rfl, rfl, rfl, rfl, rfl, rfl, rfl, trivial⟩, false, rfl, rfl, H⟩
                    rintro _ K2130 _ hK2131 ⟨t2113, rfl, rfl, H⟩
                    unfold M_law18_HappensTransitive_J6 at H
                    refine Cw_cond rfl ?_ ?_
                    · intro h2132
                      have H := ift h2132 H
                      refine Cw_seq ?_
                      refine Cw_region ?_
                      refine Ow_q rfl rfl rfl (Qt_assign rfl) ?_
                      refine Ow_nil ?_
                      refine Cw_ret ?_
                      obtain ey0 := inj1 H
                      subst y0
                      refine ⟨(by first | exact .inl rfl | exact .inr rfl), [(.bool false)], ⟨(.bool false), _, rfl, rfl, rfl⟩, ?_⟩
                      refine Shift.rem .here ?_
                      refine Shift.done ?_
                      exact ⟨rfl, rfl⟩
                    · intro h2132
                      have H := iff_ (btf h2132) H
                      refine Cw_skip ?_
                      refine Cw_region ?_
                      refine Ow_q rfl rfl rfl (Qt_move rfl) ?_
                      refine Ow_q rfl rfl rfl (Qt_arith (e := wI (i2066 + 1)) rfl rfl rfl rfl) ?_
                      refine Ow_q rfl rfl rfl (Qt_assign rfl) ?_
                      refine Ow_nil ?_
                      refine Shift.done ?_
                      exact ⟨[(5, (.int .i64 (wI (1 + (wI (Int.tmod p1 4)))))), (6, (sv v477)), (7, (.int .i64 i1344)), (8, (.int .i64 i1772)), (9, (.int .i64 (wI (i2066 + 1)))), (20, (.int .i64 (x474.length : Int))), (21, (.int .i64 i1344))], ⟨rfl, rfl, rfl, rfl, rfl, rfl, rfl, trivial⟩, _, Nat.lt_succ_self _, (wI (i2066 + 1)), rfl, rfl, (hkk2072 ▸ H)⟩
                  · intro h2076
                    have h2076 := dcd_f (h2076)
                    have H := iff_ h2076 H
                    refine Cw_exit ?_
                    refine Shift.done ?_
                    exact ⟨[(5, (.int .i64 (wI (1 + (wI (Int.tmod p1 4)))))), (6, (sv v477)), (7, (.int .i64 i1344)), (8, (.int .i64 i1772)), (20, (.int .i64 (x474.length : Int))), (21, (.int .i64 i1344))], ⟨rfl, rfl, rfl, rfl, rfl, rfl, trivial⟩, rfl, rfl, H⟩
            rintro _ K2133 _ hK2134 ⟨rfl, rfl, H⟩
            unfold M_law18_HappensTransitive_J3 at H
            refine Cw_region ?_
            refine Ow_q rfl rfl rfl (Qt_move rfl) ?_
            refine Ow_q rfl rfl rfl (Qt_arith (e := wI (i1772 + 1)) rfl rfl rfl rfl) ?_
            refine Ow_q rfl rfl rfl (Qt_assign rfl) ?_
            refine Ow_nil ?_
            refine Shift.done ?_
            exact ⟨[(5, (.int .i64 (wI (1 + (wI (Int.tmod p1 4)))))), (6, (sv v477)), (7, (.int .i64 i1344)), (8, (.int .i64 (wI (i1772 + 1)))), (20, (.int .i64 (x474.length : Int))), (21, (.int .i64 i1344))], ⟨rfl, rfl, rfl, rfl, rfl, rfl, trivial⟩, _, Nat.lt_succ_self _, (wI (i1772 + 1)), rfl, rfl, (hkk1778 ▸ H)⟩
          · intro h1782
            have h1782 := dcd_f (h1782)
            have H := iff_ h1782 H
            refine Cw_exit ?_
            refine Shift.done ?_
            exact ⟨[(5, (.int .i64 (wI (1 + (wI (Int.tmod p1 4)))))), (6, (sv v477)), (20, (.int .i64 (x474.length : Int))), (21, (.int .i64 i1344))], ⟨rfl, rfl, rfl, rfl, trivial⟩, rfl, rfl, H⟩
        rintro _ K2135 _ hK2136 ⟨rfl, rfl, H⟩
        unfold M_law18_HappensTransitive_J2 at H
        refine Cw_region ?_
        refine Ow_q rfl rfl rfl (Qt_arith (e := wI (i1344 + 1)) rfl rfl rfl rfl) ?_
        refine Ow_q rfl rfl rfl (Qt_move rfl) ?_
        refine Ow_nil ?_
        refine Shift.done ?_
        exact ⟨[(5, (.int .i64 (wI (1 + (wI (Int.tmod p1 4)))))), (6, (sv v477)), (20, (.int .i64 (x474.length : Int))), (21, (.int .i64 (wI (i1344 + 1))))], ⟨rfl, rfl, rfl, rfl, trivial⟩, _, Nat.lt_succ_self _, (wI (i1344 + 1)), rfl, rfl, (hkk1350 ▸ H)⟩
      · intro h1352
        have h1352 := dcd_f (h1352)
        have H := iff_ h1352 H
        refine Cw_exit ?_
        refine Shift.rem .here ?_
        refine Shift.done ?_
        exact ⟨[], trivial, rfl, rfl, H⟩
    rintro _ K2137 _ hK2138 ⟨rfl, rfl, H⟩
    unfold M_law18_HappensTransitive_J1 at H
    refine Cw_seq ?_
    refine Cw_region ?_
    refine Ow_q rfl rfl rfl (Qt_assign rfl) ?_
    refine Ow_nil ?_
    refine Cw_ret ?_
    obtain ey0 := inj1 H
    subst y0
    refine ⟨(by first | exact .inl rfl | exact .inr rfl), [(.bool true)], ⟨(.bool true), _, rfl, rfl, rfl⟩, ?_⟩
    refine Shift.done ?_
    exact ⟨rfl, rfl⟩


end Go.Hx
