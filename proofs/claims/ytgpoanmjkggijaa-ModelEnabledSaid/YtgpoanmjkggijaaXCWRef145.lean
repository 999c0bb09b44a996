/- Printed by program. -/
import Derived.Test.YtgpoanmjkggijaaXCM
import Derived.Test.YtgpoanmjkggijaaXCWRef141
import Derived.Test.YtgpoanmjkggijaaXCWRef142
import Derived.Test.YtgpoanmjkggijaaXCWRef144
import Derived.Test.YtgpoanmjkggijaaXCWRef3
namespace Go.Hx
open Go Go.Proofs
set_option linter.unusedSimpArgs false
set_option linter.unusedVariables false
set_option maxRecDepth 10000
set_option maxHeartbeats 1000000 in
theorem c_M_ref14_Could (p0 : List Chan) (vp0 : SV) (p1 : Op) (vp1_cases : SV) (vp1_draws : SV) (y0 : List Result) (H : M_ref14_Could p0 p1 = some y0) (K : Kp) (G : List Ent) (hp0 : Slr TyChan K (sv vp0) p0) (hp1_cases : Slr TyCase K (sv vp1_cases) p1.cases) (hp1_draws : Slr Ty.i64 K (sv vp1_draws) p1.draws) :
    Fc Try.prog 35 #[(sv vp0), (.agg (Op.cells p1 vp1_cases vp1_draws).toArray)] K (G) (fun v K' G' => ∃ (wy0 : SV), v = (sv wy0) ∧ (.tok 25 5 [(sv wy0)]) :: G = G' ∧ Slr TyResult K' (sv wy0) y0) := by
  refine Fc_body Try.func35 rfl Try.ntmps35 Try.results35 rfl ?_
  unfold M_ref14_Could at H
  refine Cw_seq ?_
  refine Cw_region ?_
  refine Ow_cons rfl (OpW_box (cs := (Op.cells p1 vp1_cases vp1_draws)) rfl rfl rfl (fun b317 => ?_))
  refine Ow_q rfl rfl rfl (Qt_assign rfl) ?_
  refine Ow_nil ?_
  refine Cw_seq ?_
  refine Cw_region ?_
  refine Ow_q rfl rfl rfl (Qt_assign rfl) ?_
  refine Ow_q rfl rfl rfl (Qt_assign rfl) ?_
  refine Ow_nil ?_
  refine Cw_join (fun env' K' G' => ∃ (v321 : SV) (l322 : List Result) (rs324 : List (List Value)), [(0, (sv vp0)), (3, (.pointer (some ((⟨b317, 0, none⟩ : Addr).add 0)))), (5, (sv v321)), (6, (sv nilS))] = env' ∧ K = K' ∧ (.blk b317 38 (Op.cells p1 vp1_cases vp1_draws)) :: (.row (sv v321) 25 5 rs324.flatten) :: G = G' ∧ M_ref14_Could_J1 p0 p1 l322 = some y0 ∧ RowR TyResult K' rs324 l322) ?_ ?_
  · skip
    refine Cw_seq ?_
    refine Cw_region ?_
    refine Ow_q rfl rfl rfl (Qt_fieldAddr (m := 0) rfl rfl rfl rfl rfl) ?_
    refine Ow_q rfl rfl rfl (Qt_load1 (v := (.int .i64 p1.kind)) rfl rfl rfl (Rdc.blk (.head _) rfl)) ?_
    refine Ow_q rfl rfl rfl (Qt_cmp rfl rfl rfl) ?_
    refine Ow_nil ?_
    refine Cw_cond rfl ?_ ?_
    · intro h325
      have h325 := dcd_t (h325)
      have H := ift h325 H
      refine Cw_region ?_
      refine Ow_q rfl rfl rfl (Qt_build (cs := (Result.cells (Result.mk 6 (-1) 0 false 0))) rfl rfl rfl rfl rfl rfl) ?_
      refine Ow_q rfl rfl rfl (Qt_build (cs := (Result.cells (Result.mk 5 (-1) 0 false 0))) rfl rfl rfl rfl rfl rfl) ?_
      have hR327 : RowR TyResult K [(Result.cells (Result.mk 6 (-1) 0 false 0)), (Result.cells (Result.mk 5 (-1) 0 false 0))] [(Result.mk 6 (-1) 0 false 0), (Result.mk 5 (-1) 0 false 0)] := RowR.cons rfl (RowR.cons rfl (RowR.nil))
      refine Ow_cons rfl (O_lit (T := TyResult) (rows := [(Result.cells (Result.mk 6 (-1) 0 false 0)), (Result.cells (Result.mk 5 (-1) 0 false 0))]) (l := [(Result.mk 6 (-1) 0 false 0), (Result.mk 5 (-1) 0 false 0)]) rfl rfl rfl hR327 rfl rfl rfl rfl rfl rfl rfl rfl (fun v326 => ?_))
      refine Ow_q rfl rfl rfl (Qt_assign rfl) ?_
      refine Ow_nil ?_
      refine Shift.pull (.there .here) ?_
      refine Shift.done ?_
      exact ⟨[(0, (sv vp0)), (3, (.pointer (some ((⟨b317, 0, none⟩ : Addr).add 0)))), (5, (sv v326)), (6, (sv nilS))], ⟨rfl, rfl, rfl, rfl, trivial⟩, v326, [(Result.mk 6 (-1) 0 false 0), (Result.mk 5 (-1) 0 false 0)], [(Result.cells (Result.mk 6 (-1) 0 false 0)), (Result.cells (Result.mk 5 (-1) 0 false 0))], rfl, rfl, rfl, H, hR327⟩
    · intro h325
      have h325 := dcd_f (h325)
      have H := iff_ h325 H
      refine Cw_skip ?_
      have hR328 : RowR TyResult K [] [] := RowR.nil
      refine Shift.nilRow 25 5 ?_
      refine Shift.pull (.there .here) ?_
      refine Shift.done ?_
      exact ⟨[(0, (sv vp0)), (3, (.pointer (some ((⟨b317, 0, none⟩ : Addr).add 0)))), (5, (sv nilS)), (6, (sv nilS))], ⟨rfl, rfl, rfl, rfl, trivial⟩, nilS, ([] : List Result), ([] : List (List Value)), rfl, rfl, rfl, H, hR328⟩
  rintro _ _ _ - ⟨v321, l322, rs324, rfl, rfl, rfl, H, hR323⟩
  unfold M_ref14_Could_J1 at H
  refine Cw_seq ?_
  refine Cw_region ?_
  refine Ow_q rfl rfl rfl (Qt_loadA (m := 7) (cs := (Op.cells p1 vp1_cases vp1_draws)) rfl rfl rfl rfl ⟨rfl, Rdc.blk (.head _) rfl⟩) ?_
  obtain ⟨x329, hx330, H⟩ := bnd H
  refine Ow_cons rfl (OpW_call rfl Try.call63 rfl rfl (c_M_ref3_Cases p1 vp1_cases vp1_draws x329 hx330 _ _ hp1_cases hp1_draws) ?_)
  rintro _ K332 _ hK333 ⟨v331, rfl, rfl, hs334⟩
  refine Ow_q rfl rfl rfl (Qt_assign rfl) ?_
  refine Ow_nil ?_
  refine Cw_join (fun env' K' G' => ∃ (v503 : SV) (l504 : List Result) (rs506 : List (List Value)), [(0, (sv vp0)), (3, (.pointer (some ((⟨b317, 0, none⟩ : Addr).add 0)))), (5, (sv v503)), (6, (sv nilS))] = env' ∧ (.blk b317 38 (Op.cells p1 vp1_cases vp1_draws)) :: (.row (sv v503) 25 5 rs506.flatten) :: G = G' ∧ M_ref14_Could_J2 p0 p1 l504 = some y0 ∧ RowR TyResult K' rs506 l504) ?_ ?_
  · skip
    refine Cw_seq ?_
    refine Cw_region ?_
    refine Ow_q rfl rfl rfl (Qt_assign rfl) ?_
    refine Ow_nil ?_
    refine Cw_block ?_
    refine Cw_loopM (fun n675 env' K' G' => ∃ (v670 : SV) (l671 : List Result) (rs673 : List (List Value)) (i674 : Int), [(0, (sv vp0)), (3, (.pointer (some ((⟨b317, 0, none⟩ : Addr).add 0)))), (5, (sv v670)), (6, (sv nilS)), (7, (sv v331)), (8, (.int .i64 i674))] = env' ∧ K332 = K' ∧ (.blk b317 38 (Op.cells p1 vp1_cases vp1_draws)) :: (.row (sv v670) 25 5 rs673.flatten) :: G = G' ∧ lp2 (M_ref14_Could_L1 p0 x329 p1) n675 l671 i674 = some y0 ∧ RowR TyResult K' rs673 l671) BIG ?_ ?_
    · skip
      refine Shift.pull (.there .here) ?_
      refine Shift.pull (.there .here) ?_
      have hs676 := (hR323).mono hK333
      refine Shift.done ?_
      exact ⟨[(0, (sv vp0)), (3, (.pointer (some ((⟨b317, 0, none⟩ : Addr).add 0)))), (5, (sv v321)), (6, (sv nilS)), (7, (sv v331)), (8, (.int .i64 0))], ⟨rfl, rfl, rfl, rfl, rfl, rfl, trivial⟩, v321, l322, rs324, 0, rfl, rfl, rfl, H, hs676⟩
    rintro n675 _ _ _ - ⟨v670, l671, rs673, i674, rfl, rfl, rfl, H, hR672⟩
    obtain ⟨m677, k678, rfl, hkk679, H⟩ := lps2 H
    unfold M_ref14_Could_L1 at H
    refine Cw_seq ?_
    refine Cw_seq ?_
    refine Cw_region ?_
    refine Ow_q rfl rfl rfl (Qt_move rfl) ?_
    refine Ow_q rfl rfl rfl (Qt_move rfl) ?_
    refine Ow_q rfl rfl rfl (Q_len (T := TyCase) hs334 rfl rfl) ?_
    refine Ow_q rfl rfl rfl (Qt_cmp rfl rfl rfl) ?_
    refine Ow_nil ?_
    refine Cw_cond rfl ?_ ?_
    · intro h681
      have h681 := dcd_t (h681)
      have H := ift h681 H
      refine Cw_skip ?_
      refine Cw_seq ?_
      refine Cw_block ?_
      refine Cw_seq ?_
      refine Cw_region ?_
      refine Ow_q rfl rfl rfl (Qt_assign rfl) ?_
      refine Ow_nil ?_
      refine Cw_join (fun env' K' G' => ∃ (i757 : Int), [(0, (sv vp0)), (3, (.pointer (some ((⟨b317, 0, none⟩ : Addr).add 0)))), (5, (sv v670)), (6, (sv nilS)), (7, (sv v331)), (8, (.int .i64 i674)), (9, (.int .i64 i757))] = env' ∧ K332 = K' ∧ (.blk b317 38 (Op.cells p1 vp1_cases vp1_draws)) :: (.row (sv v670) 25 5 rs673.flatten) :: G = G' ∧ M_ref14_Could_J3 p0 l671 x329 i674 p1 k678 i757 = some y0) ?_ ?_
      · skip
        refine Cw_seq ?_
        refine Cw_region ?_
        refine Ow_q rfl rfl rfl (Qt_fieldAddr (m := 0) rfl rfl rfl rfl rfl) ?_
        refine Ow_q rfl rfl rfl (Qt_load1 (v := (.int .i64 p1.kind)) rfl rfl rfl (Rdc.blk (.head _) rfl)) ?_
        refine Ow_q rfl rfl rfl (Qt_cmp rfl rfl rfl) ?_
        refine Ow_nil ?_
        refine Cw_cond rfl ?_ ?_
        · intro h758
          have h758 := dcd_t (h758)
          have H := ift h758 H
          refine Cw_region ?_
          refine Ow_q rfl rfl rfl (Qt_move rfl) ?_
          refine Ow_q rfl rfl rfl (Qt_assign rfl) ?_
          refine Ow_nil ?_
          refine Shift.pull (.there .here) ?_
          refine Shift.pull (.there .here) ?_
          refine Shift.done ?_
          exact ⟨[(0, (sv vp0)), (3, (.pointer (some ((⟨b317, 0, none⟩ : Addr).add 0)))), (5, (sv v670)), (6, (sv nilS)), (7, (sv v331)), (8, (.int .i64 i674)), (9, (.int .i64 i674))], ⟨rfl, rfl, rfl, rfl, rfl, rfl, rfl, trivial⟩, i674, rfl, rfl, rfl, H⟩
        · intro h758
          have h758 := dcd_f (h758)
          have H := iff_ h758 H
          refine Cw_skip ?_
          refine Shift.pull (.there .here) ?_
          refine Shift.pull (.there .here) ?_
          refine Shift.done ?_
          exact ⟨[(0, (sv vp0)), (3, (.pointer (some ((⟨b317, 0, none⟩ : Addr).add 0)))), (5, (sv v670)), (6, (sv nilS)), (7, (sv v331)), (8, (.int .i64 i674)), (9, (.int .i64 (-1)))], ⟨rfl, rfl, rfl, rfl, rfl, rfl, rfl, trivial⟩, (-1), rfl, rfl, rfl, H⟩
      rintro _ _ _ - ⟨i757, rfl, rfl, rfl, H⟩
      unfold M_ref14_Could_J3 at H
      refine Cw_seq ?_
      refine Cw_seq ?_
      refine Cw_region ?_
      refine Ow_q rfl rfl rfl (Qt_move rfl) ?_
      refine Ow_q rfl rfl rfl (Qt_move rfl) ?_
      obtain ⟨x772, hx773, H⟩ := bnd H
      obtain ⟨r774, hr775, hk776⟩ := Slr.at hs334 hx773
      obtain rfl := hr775
      refine Ow_q rfl rfl rfl (Q_ix (T := TyCase) hs334 hx773 rfl rfl rfl rfl rfl) ?_
      refine Ow_q rfl rfl rfl (Qt_fieldAddr (m := 0) rfl rfl rfl rfl rfl) ?_
      refine Ow_q rfl rfl rfl (Qt_load1 (v := (.bool x772.send)) rfl rfl rfl (Rdc.k hk776 rfl)) ?_
      refine Ow_nil ?_
      refine Cw_cond rfl ?_ ?_
      · intro h777
        have H := ift h777 H
        refine Cw_seq ?_
        refine Cw_region ?_
        refine Ow_q rfl rfl rfl (Qt_move rfl) ?_
        refine Ow_q rfl rfl rfl (Qt_move rfl) ?_
        refine Ow_q rfl rfl rfl (Qt_build (cs := (Result.cells (Result.mk 5 i757 0 false 0))) rfl rfl rfl rfl rfl rfl) ?_
        refine Ow_q rfl rfl rfl (Qt_move rfl) ?_
        refine Ow_q rfl rfl rfl (Qt_build (cs := (Result.cells (Result.mk 1 i757 0 false 0))) rfl rfl rfl rfl rfl rfl) ?_
        have hR779 : RowR TyResult K332 [(Result.cells (Result.mk 5 i757 0 false 0)), (Result.cells (Result.mk 1 i757 0 false 0))] [(Result.mk 5 i757 0 false 0), (Result.mk 1 i757 0 false 0)] := RowR.cons rfl (RowR.cons rfl (RowR.nil))
        refine Ow_cons rfl (O_lit (T := TyResult) (rows := [(Result.cells (Result.mk 5 i757 0 false 0)), (Result.cells (Result.mk 1 i757 0 false 0))]) (l := [(Result.mk 5 i757 0 false 0), (Result.mk 1 i757 0 false 0)]) rfl rfl rfl hR779 rfl rfl rfl rfl rfl rfl rfl rfl (fun v778 => ?_))
        obtain ⟨x780, hx781, H⟩ := bnd H
        refine Ow_cons rfl (O_appRow (T := TyResult) (bytes := 40) rfl rfl rfl (.tail _ (.tail _ (.head _))) hR672 (SrcT.row (.head _) hR779 rfl) hx781 rfl rfl rfl rfl rfl rfl rfl rfl (fun v782 rs783 hR784 => ⟨_, (.there (.there .here)), ?_⟩))
        refine Ow.shift (Shift.rem .here (Shift.done ?_))
        refine Ow_q rfl rfl rfl (Qt_assign rfl) ?_
        refine Ow_nil ?_
        refine Cw_exit ?_
        refine Cw_region ?_
        refine Ow_q rfl rfl rfl (Qt_move rfl) ?_
        refine Ow_q rfl rfl rfl (Qt_arith (e := wI (i674 + 1)) rfl rfl rfl rfl) ?_
        refine Ow_q rfl rfl rfl (Qt_assign rfl) ?_
        refine Ow_nil ?_
        refine Shift.pull (.there .here) ?_
        refine Shift.pull (.there .here) ?_
        refine Shift.done ?_
        exact ⟨[(0, (sv vp0)), (3, (.pointer (some ((⟨b317, 0, none⟩ : Addr).add 0)))), (5, (sv v782)), (6, (sv nilS)), (7, (sv v331)), (8, (.int .i64 (wI (i674 + 1))))], ⟨rfl, rfl, rfl, rfl, rfl, rfl, trivial⟩, _, Nat.lt_succ_self _, v782, x780, rs783, (wI (i674 + 1)), rfl, rfl, rfl, (hkk679 ▸ H), hR784⟩
      · intro h777
        have H := iff_ (btf h777) H
        refine Cw_skip ?_
        refine Cw_join (fun env' K' G' => ∃ (v833 : SV) (l834 : List Result) (rs836 : List (List Value)), [(0, (sv vp0)), (3, (.pointer (some ((⟨b317, 0, none⟩ : Addr).add 0)))), (5, (sv v833)), (6, (sv nilS)), (7, (sv v331)), (8, (.int .i64 i674)), (9, (.int .i64 i757))] = env' ∧ K332 = K' ∧ (.blk b317 38 (Op.cells p1 vp1_cases vp1_draws)) :: (.row (sv v833) 25 5 rs836.flatten) :: G = G' ∧ M_ref14_Could_J4 p0 x329 i674 i757 p1 k678 l834 = some y0 ∧ RowR TyResult K' rs836 l834) ?_ ?_
        · skip
          refine Cw_join (fun env' K' G' => ∃ (t858 : Bool), [(0, (sv vp0)), (3, (.pointer (some ((⟨b317, 0, none⟩ : Addr).add 0)))), (5, (sv v670)), (6, (sv nilS)), (7, (sv v331)), (8, (.int .i64 i674)), (9, (.int .i64 i757)), (62, (.bool t858))] = env' ∧ K332 = K' ∧ (.blk b317 38 (Op.cells p1 vp1_cases vp1_draws)) :: (.row (sv v670) 25 5 rs673.flatten) :: G = G' ∧ M_ref14_Could_J5 p0 l671 x329 i674 i757 p1 k678 t858 = some y0) ?_ ?_
          · skip
            refine Cw_region ?_
            refine Ow_q rfl rfl rfl (Qt_move rfl) ?_
            refine Ow_q rfl rfl rfl (Qt_move rfl) ?_
            refine Ow_q rfl rfl rfl (Qt_move rfl) ?_
            obtain ⟨x859, hx860, H⟩ := bnd H
            obtain ⟨r861, hr862, hk863⟩ := Slr.at hs334 hx860
            obtain rfl := hr862
            refine Ow_q rfl rfl rfl (Q_ix (T := TyCase) hs334 hx860 rfl rfl rfl rfl rfl) ?_
            refine Ow_q rfl rfl rfl (Qt_fieldAddr (m := 1) rfl rfl rfl rfl rfl) ?_
            refine Ow_q rfl rfl rfl (Qt_load1 (v := (.int .i64 x859.channel)) rfl rfl rfl (Rdc.k hk863 rfl)) ?_
            obtain ⟨x864, hx865, H⟩ := bnd H
            have hs866 := (hp0).mono hK333
            refine Ow_cons rfl (OpW_call rfl Try.call80 rfl rfl (c_M_ref14_exists p0 vp0 x859.channel x864 hx865 _ _ hs866) ?_)
            rintro _ _ _ - ⟨rfl, rfl, rfl⟩
            refine Ow_q rfl rfl rfl (Qt_move rfl) ?_
            refine Ow_caseG rfl rfl rfl ?_ ?_
            · intro h867
              have H := ift h867 H
              refine Ow_qw rfl rfl rfl rfl rfl rfl (Qt_move rfl) ?_
              refine Ow_qw rfl rfl rfl rfl rfl rfl (Qt_move rfl) ?_
              refine Ow_qw rfl rfl rfl rfl rfl rfl (Qt_move rfl) ?_
              obtain ⟨x868, hx869, H⟩ := bnd H
              obtain ⟨r870, hr871, hk872⟩ := Slr.at hs334 hx869
              obtain rfl := hr871
              refine Ow_qw rfl rfl rfl rfl rfl rfl (Q_ix (T := TyCase) hs334 hx869 rfl rfl rfl rfl rfl) ?_
              refine Ow_qw rfl rfl rfl rfl rfl rfl (Qt_fieldAddr (m := 1) rfl rfl rfl rfl rfl) ?_
              refine Ow_qw rfl rfl rfl rfl rfl rfl (Qt_load1 (v := (.int .i64 x868.channel)) rfl rfl rfl (Rdc.k hk872 rfl)) ?_
              obtain ⟨x873, hx874, H⟩ := bnd H
              obtain ⟨r875, hr876, hk877⟩ := Slr.at hs866 hx874
              obtain ⟨v878, rfl, hs879⟩ := hr876
              refine Ow_qw rfl rfl rfl rfl rfl rfl (Q_ix (T := TyChan) hs866 hx874 rfl rfl rfl rfl rfl) ?_
              refine Ow_qw rfl rfl rfl rfl rfl rfl (Qt_fieldAddr (m := 1) rfl rfl rfl rfl rfl) ?_
              refine Ow_qw rfl rfl rfl rfl rfl rfl (Qt_load1 (v := (sv v878)) rfl rfl rfl (Rdc.k hk877 rfl)) ?_
              refine Ow_qw rfl rfl rfl rfl rfl rfl (Q_len (T := Ty.u64) hs879 rfl rfl) ?_
              refine Ow_qw rfl rfl rfl rfl rfl rfl (Qt_cmp rfl rfl rfl) ?_
              refine Ow_q rfl rfl rfl (Qt_pick_t rfl rfl) ?_
              refine Ow_nil ?_
              refine Shift.pull (.there .here) ?_
              refine Shift.pull (.there .here) ?_
              refine Shift.done ?_
              exact ⟨[(0, (sv vp0)), (3, (.pointer (some ((⟨b317, 0, none⟩ : Addr).add 0)))), (5, (sv v670)), (6, (sv nilS)), (7, (sv v331)), (8, (.int .i64 i674)), (9, (.int .i64 i757)), (62, (.bool (dcd ((x873.buffer.length : Int) > 0))))], ⟨rfl, rfl, rfl, rfl, rfl, rfl, rfl, rfl, trivial⟩, (dcd ((x873.buffer.length : Int) > 0)), rfl, rfl, rfl, H⟩
            · intro h867
              have H := iff_ (btf h867) H
              refine Ow_pass rfl rfl rfl rfl rfl rfl rfl ?_
              refine Ow_pass rfl rfl rfl rfl rfl rfl rfl ?_
              refine Ow_pass rfl rfl rfl rfl rfl rfl rfl ?_
              refine Ow_pass rfl rfl rfl rfl rfl rfl rfl ?_
              refine Ow_pass rfl rfl rfl rfl rfl rfl rfl ?_
              refine Ow_pass rfl rfl rfl rfl rfl rfl rfl ?_
              refine Ow_pass rfl rfl rfl rfl rfl rfl rfl ?_
              refine Ow_pass rfl rfl rfl rfl rfl rfl rfl ?_
              refine Ow_pass rfl rfl rfl rfl rfl rfl rfl ?_
              refine Ow_pass rfl rfl rfl rfl rfl rfl rfl ?_
              refine Ow_pass rfl rfl rfl rfl rfl rfl rfl ?_
              refine Ow_q rfl rfl rfl (Qt_pick_f rfl rfl) ?_
              refine Ow_nil ?_
              refine Shift.pull (.there .here) ?_
              refine Shift.pull (.there .here) ?_
              refine Shift.done ?_
              exact ⟨[(0, (sv vp0)), (3, (.pointer (some ((⟨b317, 0, none⟩ : Addr).add 0)))), (5, (sv v670)), (6, (sv nilS)), (7, (sv v331)), (8, (.int .i64 i674)), (9, (.int .i64 i757)), (62, (.bool false))], ⟨rfl, rfl, rfl, rfl, rfl, rfl, rfl, rfl, trivial⟩, false, rfl, rfl, rfl, H⟩
          rintro _ _ _ - ⟨t858, rfl, rfl, rfl, H⟩
          unfold M_ref14_Could_J5 at H
          refine Cw_cond rfl ?_ ?_
          · intro h880
            have H := ift h880 H
            refine Cw_region ?_
            refine Ow_q rfl rfl rfl (Qt_move rfl) ?_
            refine Ow_q rfl rfl rfl (Qt_move rfl) ?_
            refine Ow_q rfl rfl rfl (Qt_move rfl) ?_
            refine Ow_q rfl rfl rfl (Qt_move rfl) ?_
            refine Ow_q rfl rfl rfl (Qt_move rfl) ?_
            obtain ⟨x881, hx882, H⟩ := bnd H
            obtain ⟨r883, hr884, hk885⟩ := Slr.at hs334 hx882
            obtain rfl := hr884
            refine Ow_q rfl rfl rfl (Q_ix (T := TyCase) hs334 hx882 rfl rfl rfl rfl rfl) ?_
            refine Ow_q rfl rfl rfl (Qt_fieldAddr (m := 1) rfl rfl rfl rfl rfl) ?_
            refine Ow_q rfl rfl rfl (Qt_load1 (v := (.int .i64 x881.channel)) rfl rfl rfl (Rdc.k hk885 rfl)) ?_
            obtain ⟨x886, hx887, H⟩ := bnd H
            have hs888 := (hp0).mono hK333
            obtain ⟨r889, hr890, hk891⟩ := Slr.at hs888 hx887
            obtain ⟨v892, rfl, hs893⟩ := hr890
            refine Ow_q rfl rfl rfl (Q_ix (T := TyChan) hs888 hx887 rfl rfl rfl rfl rfl) ?_
            refine Ow_q rfl rfl rfl (Qt_fieldAddr (m := 1) rfl rfl rfl rfl rfl) ?_
            refine Ow_q rfl rfl rfl (Qt_load1 (v := (sv v892)) rfl rfl rfl (Rdc.k hk891 rfl)) ?_
            obtain ⟨x894, hx895, H⟩ := bnd H
            obtain ⟨r896, hr897, hk898⟩ := Slr.at hs893 hx895
            obtain rfl := hr897
            refine Ow_q rfl rfl rfl (Q_ix (T := Ty.u64) hs893 hx895 rfl rfl rfl rfl rfl) ?_
            refine Ow_q rfl rfl rfl (Qt_load1 (v := (.int .u64 x894)) rfl rfl rfl (Rdc.k hk898 rfl)) ?_
            refine Ow_q rfl rfl rfl (Qt_build (cs := (Result.cells (Result.mk 2 i757 x894 true 0))) rfl rfl rfl rfl rfl rfl) ?_
            have hR900 : RowR TyResult K332 [(Result.cells (Result.mk 2 i757 x894 true 0))] [(Result.mk 2 i757 x894 true 0)] := RowR.cons rfl (RowR.nil)
            refine Ow_cons rfl (O_lit (T := TyResult) (rows := [(Result.cells (Result.mk 2 i757 x894 true 0))]) (l := [(Result.mk 2 i757 x894 true 0)]) rfl rfl rfl hR900 rfl rfl rfl rfl rfl rfl rfl rfl (fun v899 => ?_))
            obtain ⟨x901, hx902, H⟩ := bnd H
            refine Ow_cons rfl (O_appRow (T := TyResult) (bytes := 40) rfl rfl rfl (.tail _ (.tail _ (.head _))) hR672 (SrcT.row (.head _) hR900 rfl) hx902 rfl rfl rfl rfl rfl rfl rfl rfl (fun v903 rs904 hR905 => ⟨_, (.there (.there .here)), ?_⟩))
            refine Ow.shift (Shift.rem .here (Shift.done ?_))
            refine Ow_q rfl rfl rfl (Qt_assign rfl) ?_
            refine Ow_nil ?_
            refine Shift.pull (.there .here) ?_
            refine Shift.pull (.there .here) ?_
            refine Shift.done ?_
            exact ⟨[(0, (sv vp0)), (3, (.pointer (some ((⟨b317, 0, none⟩ : Addr).add 0)))), (5, (sv v903)), (6, (sv nilS)), (7, (sv v331)), (8, (.int .i64 i674)), (9, (.int .i64 i757))], ⟨rfl, rfl, rfl, rfl, rfl, rfl, rfl, trivial⟩, v903, x901, rs904, rfl, rfl, rfl, H, hR905⟩
          · intro h880
            have H := iff_ (btf h880) H
            refine Cw_skip ?_
            refine Shift.pull (.there .here) ?_
            refine Shift.pull (.there .here) ?_
            refine Shift.done ?_
            exact ⟨[(0, (sv vp0)), (3, (.pointer (some ((⟨b317, 0, none⟩ : Addr).add 0)))), (5, (sv v670)), (6, (sv nilS)), (7, (sv v331)), (8, (.int .i64 i674)), (9, (.int .i64 i757))], ⟨rfl, rfl, rfl, rfl, rfl, rfl, rfl, trivial⟩, v670, l671, rs673, rfl, rfl, rfl, H, hR672⟩
        rintro _ _ _ - ⟨v833, l834, rs836, rfl, rfl, rfl, H, hR835⟩
        unfold M_ref14_Could_J4 at H
        refine Cw_region ?_
        refine Ow_q rfl rfl rfl (Qt_move rfl) ?_
        refine Ow_q rfl rfl rfl (Qt_move rfl) ?_
        refine Ow_q rfl rfl rfl (Qt_build (cs := (Result.cells (Result.mk 2 i757 0 false 0))) rfl rfl rfl rfl rfl rfl) ?_
        have hR907 : RowR TyResult K332 [(Result.cells (Result.mk 2 i757 0 false 0))] [(Result.mk 2 i757 0 false 0)] := RowR.cons rfl (RowR.nil)
        refine Ow_cons rfl (O_lit (T := TyResult) (rows := [(Result.cells (Result.mk 2 i757 0 false 0))]) (l := [(Result.mk 2 i757 0 false 0)]) rfl rfl rfl hR907 rfl rfl rfl rfl rfl rfl rfl rfl (fun v906 => ?_))
        obtain ⟨x908, hx909, H⟩ := bnd H
        refine Ow_cons rfl (O_appRow (T := TyResult) (bytes := 40) rfl rfl rfl (.tail _ (.tail _ (.head _))) hR835 (SrcT.row (.head _) hR907 rfl) hx909 rfl rfl rfl rfl rfl rfl rfl rfl (fun v910 rs911 hR912 => ⟨_, (.there (.there .here)), ?_⟩))
        refine Ow.shift (Shift.rem .here (Shift.done ?_))
        refine Ow_q rfl rfl rfl (Qt_assign rfl) ?_
        refine Ow_nil ?_
        refine Cw_region ?_
        refine Ow_q rfl rfl rfl (Qt_move rfl) ?_
        refine Ow_q rfl rfl rfl (Qt_arith (e := wI (i674 + 1)) rfl rfl rfl rfl) ?_
        refine Ow_q rfl rfl rfl (Qt_assign rfl) ?_
        refine Ow_nil ?_
        refine Shift.pull (.there .here) ?_
        refine Shift.pull (.there .here) ?_
        refine Shift.done ?_
        exact ⟨[(0, (sv vp0)), (3, (.pointer (some ((⟨b317, 0, none⟩ : Addr).add 0)))), (5, (sv v910)), (6, (sv nilS)), (7, (sv v331)), (8, (.int .i64 (wI (i674 + 1))))], ⟨rfl, rfl, rfl, rfl, rfl, rfl, trivial⟩, _, Nat.lt_succ_self _, v910, x908, rs911, (wI (i674 + 1)), rfl, rfl, rfl, (hkk679 ▸ H), hR912⟩
    · intro h681
      have h681 := dcd_f (h681)
      have H := iff_ h681 H
      refine Cw_exit ?_
      refine Shift.pull (.there .here) ?_
      refine Shift.pull (.there .here) ?_
      refine Shift.done ?_
      exact ⟨[(0, (sv vp0)), (3, (.pointer (some ((⟨b317, 0, none⟩ : Addr).add 0)))), (5, (sv v670)), (6, (sv nilS))], ⟨rfl, rfl, rfl, rfl, trivial⟩, v670, l671, rs673, rfl, rfl, H, hR672⟩
  rintro _ K913 _ hK914 ⟨v503, l504, rs506, rfl, rfl, H, hR505⟩
  unfold M_ref14_Could_J2 at H
  refine Cw_join (fun env' K' G' => ∃ (v1012 : SV) (l1013 : List Result), [(6, (sv v1012))] = env' ∧ (.tok 25 5 [(sv v1012)]) :: G = G' ∧ M_ref14_Could_J6 l1013 = some y0 ∧ Slr TyResult K' (sv v1012) l1013) ?_ ?_
  · skip
    refine Cw_seq ?_
    refine Cw_region ?_
    refine Ow_q rfl rfl rfl (Qt_assign rfl) ?_
    refine Ow_nil ?_
    refine Cw_block ?_
    refine Cw_loopM (fun n1112 env' K' G' => ∃ (v1108 : SV) (l1109 : List Result) (i1111 : Int), [(0, (sv vp0)), (3, (.pointer (some ((⟨b317, 0, none⟩ : Addr).add 0)))), (5, (sv v503)), (6, (sv v1108)), (10, (.int .i64 i1111))] = env' ∧ (.blk b317 38 (Op.cells p1 vp1_cases vp1_draws)) :: (.tok 25 5 [(sv v1108)]) :: (.row (sv v503) 25 5 rs506.flatten) :: G = G' ∧ lp2 (M_ref14_Could_L2 p0 l504 p1) n1112 l1109 i1111 = some y0 ∧ Slr TyResult K' (sv v1108) l1109) BIG ?_ ?_
    · skip
      refine Shift.nilTok1 25 5 ?_
      refine Shift.pull (.there (.there .here)) ?_
      refine Shift.pull (.there .here) ?_
      refine Shift.pull (.there (.there .here)) ?_
      refine Shift.done ?_
      exact ⟨[(0, (sv vp0)), (3, (.pointer (some ((⟨b317, 0, none⟩ : Addr).add 0)))), (5, (sv v503)), (6, (sv nilS)), (10, (.int .i64 0))], ⟨rfl, rfl, rfl, rfl, rfl, trivial⟩, nilS, ([] : List Result), 0, rfl, rfl, H, (Slr.nil TyResult _)⟩
    rintro n1112 _ K1113 _ hK1114 ⟨v1108, l1109, i1111, rfl, rfl, H, hs1110⟩
    obtain ⟨m1115, k1116, rfl, hkk1117, H⟩ := lps2 H
    unfold M_ref14_Could_L2 at H
    refine Cw_seq ?_
    refine Cw_seq ?_
    refine Cw_region ?_
    refine Ow_q rfl rfl rfl (Qt_move rfl) ?_
    refine Ow_q rfl rfl rfl (Qt_move rfl) ?_
    have hs1120 := (hR505).mono hK1114
    refine Ow_q rfl rfl rfl (Q_lenR (T := TyResult) (.tail _ (.tail _ (.head _))) hs1120 rfl rfl rfl) ?_
    refine Ow_q rfl rfl rfl (Qt_cmp rfl rfl rfl) ?_
    refine Ow_nil ?_
    refine Cw_cond rfl ?_ ?_
    · intro h1121
      have h1121 := dcd_t (h1121)
      have H := ift h1121 H
      refine Cw_skip ?_
      refine Cw_seq ?_
      refine Cw_block ?_
      refine Cw_seq ?_
      obtain ⟨x1163, hx1164, H⟩ := bnd H
      obtain ⟨x1168, x1169, hx1170, H⟩ := bnd2 H
      refine Cw_region_any [.blk b317 38 (Op.cells p1 vp1_cases vp1_draws), .tok 25 5 [(sv v1108)], .row (sv v503) 25 5 rs506.flatten] rfl (Inc.cons (.head _) (Inc.cons (.tail _ (.head _)) (Inc.cons (.tail _ (.tail _ (.head _))) Inc.nil))) ?_
      refine Aw_q 0 rfl (by kernel_rfl) (by kernel_rfl) (by kernel_rfl) rfl rfl rfl (Qt_move rfl) ?_
      refine Aw_q 1 rfl (by kernel_rfl) (by kernel_rfl) (by kernel_rfl) rfl rfl rfl (Qt_loadA (m := 7) (cs := (Op.cells p1 vp1_cases vp1_draws)) rfl rfl rfl rfl ⟨rfl, Rdc.blk (.head _) rfl⟩) ?_
      refine Aw_q 2 rfl (by kernel_rfl) (by kernel_rfl) (by kernel_rfl) rfl rfl rfl (Qt_move rfl) ?_
      refine Aw_q 3 rfl (by kernel_rfl) (by kernel_rfl) (by kernel_rfl) rfl rfl rfl (Qt_move rfl) ?_
      obtain ⟨r1178, hq1179, hr1180⟩ := RowR.at hs1120 hx1164
      obtain rfl := hr1180
      refine Aw_q 4 rfl (by kernel_rfl) (by kernel_rfl) (by kernel_rfl) rfl rfl rfl (Q_ixR (T := TyResult) (.tail _ (.tail _ (.head _))) hs1120 hq1179 (getI_ix hx1164).1 rfl rfl rfl rfl rfl) ?_
      refine Aw_q 5 rfl (by kernel_rfl) (by kernel_rfl) (by kernel_rfl) rfl rfl rfl (Qt_loadA (m := 5) (cs := (Result.cells x1163)) rfl rfl rfl rfl ⟨rfl, Rd_row (T := TyResult) (.tail _ (.tail _ (.head _))) hs1120 hq1179 rfl rfl⟩) ?_
      refine Aw_one 6 (by kernel_rfl) (Ax_mk rfl rfl ?_)
      have hs1181 := (((hp0).mono hK333).mono hK914).mono hK1114
      have hs1182 := (((hp1_cases).mono hK333).mono hK914).mono hK1114
      have hs1183 := (((hp1_draws).mono hK333).mono hK914).mono hK1114
      refine OpW_call rfl Try.call20 rfl rfl (c_M_ref14_Apply p0 vp0 p1 vp1_cases vp1_draws x1163 x1168 x1169 hx1170 _ _ hs1181 hs1182 hs1183) ?_
      rintro _ K1185 _ hK1186 ⟨v1184, rfl, rfl, hs1187⟩
      refine ⟨(Inc.cons (.head _) (Inc.cons (.tail _ (.head _)) (Inc.cons (.tail _ (.tail _ (.head _))) Inc.nil))), ?_⟩
      refine Aw_q 7 rfl (by kernel_rfl) (by kernel_rfl) (by kernel_rfl) rfl rfl rfl (Qt_move rfl) ?_
      refine Aw_q 8 rfl (by kernel_rfl) (by kernel_rfl) (by kernel_rfl) rfl rfl rfl (Qt_extract rfl rfl) ?_
      refine Aw_q 9 rfl (by kernel_rfl) (by kernel_rfl) (by kernel_rfl) rfl rfl rfl (Qt_extract rfl rfl) ?_
      refine Aw_q 10 rfl (by kernel_rfl) (by kernel_rfl) (by kernel_rfl) rfl rfl rfl (Qt_assign rfl) ?_
      refine Aw_q 11 rfl (by kernel_rfl) (by kernel_rfl) (by kernel_rfl) rfl rfl rfl (Qt_assign rfl) ?_
      refine Aw_done (by kernel_rfl) ?_
      refine Cw_seq ?_
      refine Cw_region ?_
      refine Ow_q rfl rfl rfl (Qt_move rfl) ?_
      refine Ow_nil ?_
      refine Cw_cond rfl ?_ ?_
      · intro h1188
        have H := ift h1188 H
        refine Cw_region ?_
        refine Ow_q rfl rfl rfl (Qt_move rfl) ?_
        refine Ow_q rfl rfl rfl (Qt_move rfl) ?_
        refine Ow_q rfl rfl rfl (Qt_move rfl) ?_
        obtain ⟨x1189, hx1190, H⟩ := bnd H
        have hs1191 := (hs1120).mono hK1186
        obtain ⟨r1192, hq1193, hr1194⟩ := RowR.at hs1191 hx1190
        obtain rfl := hr1194
        refine Ow_q rfl rfl rfl (Q_ixR (T := TyResult) (.tail _ (.tail _ (.head _))) hs1191 hq1193 (getI_ix hx1190).1 rfl rfl rfl rfl rfl) ?_
        refine Ow_q rfl rfl rfl (Qt_loadA (m := 5) (cs := (Result.cells x1189)) rfl rfl rfl rfl ⟨rfl, Rd_row (T := TyResult) (.tail _ (.tail _ (.head _))) hs1191 hq1193 rfl rfl⟩) ?_
        have hR1196 : RowR TyResult K1185 [(Result.cells x1189)] [x1189] := RowR.cons rfl (RowR.nil)
        refine Ow_cons rfl (O_lit (T := TyResult) (rows := [(Result.cells x1189)]) (l := [x1189]) rfl rfl rfl hR1196 rfl rfl rfl rfl rfl rfl rfl rfl (fun v1195 => ?_))
        obtain ⟨x1197, hx1198, H⟩ := bnd H
        have hs1203 := (hs1110).mono hK1186
        refine Ow_cons rfl (O_appTok (T := TyResult) (bytes := 40) (q := 0) rfl rfl rfl hs1203 (.tail _ (.tail _ (.head _))) rfl (SrcT.row (.head _) hR1196 rfl) hx1198 rfl rfl rfl rfl rfl rfl rfl rfl (fun v1199 K1200 hK1201 hs1202 => ⟨_, (.there (.there .here)), ?_⟩))
        refine Ow.shift (Shift.rem .here (Shift.done ?_))
        refine Ow_q rfl rfl rfl (Qt_assign rfl) ?_
        refine Ow_nil ?_
        refine Cw_region ?_
        refine Ow_q rfl rfl rfl (Qt_move rfl) ?_
        refine Ow_q rfl rfl rfl (Qt_arith (e := wI (i1111 + 1)) rfl rfl rfl rfl) ?_
        refine Ow_q rfl rfl rfl (Qt_assign rfl) ?_
        refine Ow_nil ?_
        refine Shift.pull (.there (.there .here)) ?_
        refine Shift.pull (.there (.there .here)) ?_
        refine Shift.pull (.there (.there .here)) ?_
        refine Shift.done ?_
        exact ⟨[(0, (sv vp0)), (3, (.pointer (some ((⟨b317, 0, none⟩ : Addr).add 0)))), (5, (sv v503)), (6, (sv v1199)), (10, (.int .i64 (wI (i1111 + 1))))], ⟨rfl, rfl, rfl, rfl, rfl, trivial⟩, _, Nat.lt_succ_self _, v1199, x1197, (wI (i1111 + 1)), rfl, rfl, (hkk1117 ▸ H), hs1202⟩
      · intro h1188
        have H := iff_ (btf h1188) H
        refine Cw_skip ?_
        refine Cw_region ?_
        refine Ow_q rfl rfl rfl (Qt_move rfl) ?_
        refine Ow_q rfl rfl rfl (Qt_arith (e := wI (i1111 + 1)) rfl rfl rfl rfl) ?_
        refine Ow_q rfl rfl rfl (Qt_assign rfl) ?_
        refine Ow_nil ?_
        refine Shift.pull (.there (.there .here)) ?_
        refine Shift.pull (.there (.there .here)) ?_
        refine Shift.pull (.there (.there .here)) ?_
        have hs1204 := (hs1110).mono hK1186
        refine Shift.done ?_
        exact ⟨[(0, (sv vp0)), (3, (.pointer (some ((⟨b317, 0, none⟩ : Addr).add 0)))), (5, (sv v503)), (6, (sv v1108)), (10, (.int .i64 (wI (i1111 + 1))))], ⟨rfl, rfl, rfl, rfl, rfl, trivial⟩, _, Nat.lt_succ_self _, v1108, l1109, (wI (i1111 + 1)), rfl, rfl, (hkk1117 ▸ H), hs1204⟩
    · intro h1121
      have h1121 := dcd_f (h1121)
      have H := iff_ h1121 H
      refine Cw_exit ?_
      refine Shift.pull (.there .here) ?_
      refine Shift.rem (.there .here) ?_
      refine Shift.rem (.there .here) ?_
      refine Shift.done ?_
      exact ⟨[(6, (sv v1108))], ⟨rfl, trivial⟩, v1108, l1109, rfl, rfl, H, hs1110⟩
  rintro _ K1205 _ hK1206 ⟨v1012, l1013, rfl, rfl, H, hs1014⟩
  unfold M_ref14_Could_J6 at H
  refine Cw_seq ?_
  refine Cw_region ?_
  refine Ow_q rfl rfl rfl (Qt_move rfl) ?_
  refine Ow_q rfl rfl rfl (Qt_assign rfl) ?_
  refine Ow_nil ?_
  refine Cw_ret ?_
  obtain ey0 := inj1 H
  subst y0
  refine ⟨(by first | exact .inl rfl | exact .inr rfl), [(sv v1012)], ⟨(sv v1012), _, rfl, rfl, rfl⟩, ?_⟩
  refine Shift.done ?_
  exact ⟨v1012, rfl, rfl, hs1014⟩

set_option maxHeartbeats 1000000 in
theorem c_M_ref14_Meets (p0 : List Chan) (vp0 : SV) (p1 : Op) (vp1_cases : SV) (vp1_draws : SV) (p2 : Op) (vp2_cases : SV) (vp2_draws : SV) (y0 : Bool) (H : M_ref14_Meets p0 p1 p2 = some y0) (K : Kp) (G : List Ent) (hp0 : Slr TyChan K (sv vp0) p0) (hp1_cases : Slr TyCase K (sv vp1_cases) p1.cases) (hp1_draws : Slr Ty.i64 K (sv vp1_draws) p1.draws) (hp2_cases : Slr TyCase K (sv vp2_cases) p2.cases) (hp2_draws : Slr Ty.i64 K (sv vp2_draws) p2.draws) :
    Fc Try.prog 48 #[(sv vp0), (.agg (Op.cells p1 vp1_cases vp1_draws).toArray), (.agg (Op.cells p2 vp2_cases vp2_draws).toArray)] K (G) (fun v K' G' => v = (.bool y0) ∧ G = G') := by
  refine Fc_body Try.func48 rfl Try.ntmps48 Try.results48 rfl ?_
  unfold M_ref14_Meets at H
  refine Cw_seq ?_
  refine Cw_region ?_
  refine Ow_cons rfl (OpW_box (cs := (Op.cells p1 vp1_cases vp1_draws)) rfl rfl rfl (fun b9 => ?_))
  refine Ow_cons rfl (OpW_box (cs := (Op.cells p2 vp2_cases vp2_draws)) rfl rfl rfl (fun b10 => ?_))
  refine Ow_q rfl rfl rfl (Qt_assign rfl) ?_
  refine Ow_nil ?_
  refine Cw_seq ?_
  refine Cw_region ?_
  refine Ow_q rfl rfl rfl (Qt_move rfl) ?_
  refine Ow_q rfl rfl rfl (Qt_loadA (m := 7) (cs := (Op.cells p1 vp1_cases vp1_draws)) rfl rfl rfl rfl ⟨rfl, Rdc.blk (.tail _ (.head _)) rfl⟩) ?_
  refine Ow_q rfl rfl rfl (Qt_loadA (m := 7) (cs := (Op.cells p2 vp2_cases vp2_draws)) rfl rfl rfl rfl ⟨rfl, Rdc.blk (.head _) rfl⟩) ?_
  obtain ⟨x11, hx12, H⟩ := bnd H
  refine Ow_cons rfl (OpW_call rfl Try.call22 rfl rfl (c_M_ref14_Meeting p0 vp0 p1 vp1_cases vp1_draws p2 vp2_cases vp2_draws x11 hx12 _ _ hp0 hp1_cases hp1_draws hp2_cases hp2_draws) ?_)
  rintro _ K14 _ hK15 ⟨v13, rfl, rfl, hs16⟩
  refine Ow_q rfl rfl rfl (Q_len (T := TyA2Result) hs16 rfl rfl) ?_
  refine Ow_q rfl rfl rfl (Qt_cmp rfl rfl rfl) ?_
  refine Ow_q rfl rfl rfl (Qt_assign rfl) ?_
  refine Ow_nil ?_
  refine Cw_ret ?_
  obtain ey0 := inj1 H
  subst y0
  refine ⟨(by first | exact .inl rfl | exact .inr rfl), [(.bool (dcd ((x11.length : Int) > 0)))], ⟨(.bool (dcd ((x11.length : Int) > 0))), _, rfl, rfl, rfl⟩, ?_⟩
  refine Shift.rem .here ?_
  refine Shift.rem .here ?_
  refine Shift.rem .here ?_
  refine Shift.done ?_
  exact ⟨rfl, rfl⟩

set_option maxHeartbeats 1000000 in
theorem c_M_ref14_Enabled (p0 : List Chan) (vp0 : SV) (p1 : List Waiter) (vp1 : SV) (y0 : Bool) (H : M_ref14_Enabled p0 p1 = some y0) (K : Kp) (G : List Ent) (hp0 : Slr TyChan K (sv vp0) p0) (hp1 : Slr TyWaiter K (sv vp1) p1) :
    Fc Try.prog 46 #[(sv vp0), (sv vp1)] K (G) (fun v K' G' => v = (.bool y0) ∧ G = G') := by
  refine Fc_body Try.func46 rfl Try.ntmps46 Try.results46 rfl ?_
  unfold M_ref14_Enabled at H
  refine Cw_seq ?_
  refine Cw_region ?_
  refine Ow_q rfl rfl rfl (Qt_assign rfl) ?_
  refine Ow_nil ?_
  refine Cw_join (fun env' K' G' => [] = env' ∧ G = G' ∧ M_ref14_Enabled_J1 = some y0) ?_ ?_
  · skip
    refine Cw_seq ?_
    refine Cw_region ?_
    refine Ow_q rfl rfl rfl (Qt_assign rfl) ?_
    refine Ow_nil ?_
    refine Cw_block ?_
    refine Cw_loopM (fun n742 env' K' G' => ∃ (i741 : Int), [(0, (sv vp0)), (1, (sv vp1)), (5, (.int .i64 i741))] = env' ∧ G = G' ∧ lp1 (M_ref14_Enabled_L1 p0 p1) n742 i741 = some y0) BIG ?_ ?_
    · skip
      refine Shift.done ?_
      exact ⟨[(0, (sv vp0)), (1, (sv vp1)), (5, (.int .i64 0))], ⟨rfl, rfl, rfl, trivial⟩, 0, rfl, rfl, H⟩
    rintro n742 _ K743 _ hK744 ⟨i741, rfl, rfl, H⟩
    obtain ⟨m745, k746, rfl, hkk747, H⟩ := lps1 H
    unfold M_ref14_Enabled_L1 at H
    refine Cw_seq ?_
    refine Cw_seq ?_
    refine Cw_region ?_
    refine Ow_q rfl rfl rfl (Qt_move rfl) ?_
    refine Ow_q rfl rfl rfl (Qt_move rfl) ?_
    have hs750 := (hp1).mono hK744
    refine Ow_q rfl rfl rfl (Q_len (T := TyWaiter) hs750 rfl rfl) ?_
    refine Ow_q rfl rfl rfl (Qt_cmp rfl rfl rfl) ?_
    refine Ow_nil ?_
    refine Cw_cond rfl ?_ ?_
    · intro h751
      have h751 := dcd_t (h751)
      have H := ift h751 H
      refine Cw_skip ?_
      refine Cw_join (fun env' K' G' => [(0, (sv vp0)), (1, (sv vp1)), (5, (.int .i64 i741))] = env' ∧ G = G' ∧ M_ref14_Enabled_J2 p0 p1 i741 k746 = some y0) ?_ ?_
      · skip
        refine Cw_block ?_
        refine Cw_seq ?_
        refine Cw_seq ?_
        refine Cw_region ?_
        refine Ow_q rfl rfl rfl (Qt_move rfl) ?_
        refine Ow_q rfl rfl rfl (Qt_move rfl) ?_
        refine Ow_q rfl rfl rfl (Qt_move rfl) ?_
        obtain ⟨x982, hx983, H⟩ := bnd H
        obtain ⟨r984, hr985, hk986⟩ := Slr.at hs750 hx983
        obtain ⟨v987, v988, rfl, hs989, hs990⟩ := hr985
        refine Ow_q rfl rfl rfl (Q_ix (T := TyWaiter) hs750 hx983 rfl rfl rfl rfl rfl) ?_
        refine Ow_q rfl rfl rfl (Qt_fieldAddr (m := 1) rfl rfl rfl rfl rfl) ?_
        refine Ow_q rfl rfl rfl (Qt_loadA (m := 7) (cs := (Op.cells x982.op v987 v988)) rfl rfl rfl rfl ⟨rfl, Rdc.k hk986 rfl⟩) ?_
        obtain ⟨x991, hx992, H⟩ := bnd H
        have hs993 := (hp0).mono hK744
        refine Ow_cons rfl (OpW_call rfl Try.call35 rfl rfl (c_M_ref14_Could p0 vp0 x982.op v987 v988 x991 hx992 _ _ hs993 hs989 hs990) ?_)
        rintro _ K995 _ hK996 ⟨v994, rfl, rfl, hs997⟩
        refine Ow_q rfl rfl rfl (Q_len (T := TyResult) hs997 rfl rfl) ?_
        refine Ow_q rfl rfl rfl (Qt_cmp rfl rfl rfl) ?_
        refine Ow_nil ?_
        refine Cw_cond rfl ?_ ?_
        · intro h998
          have h998 := dcd_t (h998)
          have H := ift h998 H
          refine Cw_seq ?_
          refine Cw_region ?_
          refine Ow_q rfl rfl rfl (Qt_assign rfl) ?_
          refine Ow_nil ?_
          refine Cw_ret ?_
          obtain ey0 := inj1 H
          subst y0
          refine ⟨(by first | exact .inl rfl | exact .inr rfl), [(.bool true)], ⟨(.bool true), _, rfl, rfl, rfl⟩, ?_⟩
          refine Shift.rem .here ?_
          refine Shift.done ?_
          exact ⟨rfl, rfl⟩
        · intro h998
          have h998 := dcd_f (h998)
          have H := iff_ h998 H
          refine Cw_skip ?_
          refine Cw_seq ?_
          refine Cw_region ?_
          refine Ow_q rfl rfl rfl (Qt_assign rfl) ?_
          refine Ow_nil ?_
          refine Cw_block ?_
          refine Cw_loopM (fun n1195 env' K' G' => ∃ (i1194 : Int), [(0, (sv vp0)), (1, (sv vp1)), (5, (.int .i64 i741)), (6, (.int .i64 i1194))] = env' ∧ G = G' ∧ lp1 (M_ref14_Enabled_L2 p0 p1 i741 k746) n1195 i1194 = some y0) BIG ?_ ?_
          · skip
            refine Shift.rem .here ?_
            refine Shift.done ?_
            exact ⟨[(0, (sv vp0)), (1, (sv vp1)), (5, (.int .i64 i741)), (6, (.int .i64 0))], ⟨rfl, rfl, rfl, rfl, trivial⟩, 0, rfl, rfl, H⟩
          rintro n1195 _ K1196 _ hK1197 ⟨i1194, rfl, rfl, H⟩
          obtain ⟨m1198, k1199, rfl, hkk1200, H⟩ := lps1 H
          unfold M_ref14_Enabled_L2 at H
          refine Cw_seq ?_
          refine Cw_seq ?_
          refine Cw_region ?_
          refine Ow_q rfl rfl rfl (Qt_move rfl) ?_
          refine Ow_q rfl rfl rfl (Qt_move rfl) ?_
          refine Ow_q rfl rfl rfl (Qt_cmp rfl rfl rfl) ?_
          refine Ow_nil ?_
          refine Cw_cond rfl ?_ ?_
          · intro h1202
            have h1202 := dcd_t (h1202)
            have H := ift h1202 H
            refine Cw_skip ?_
            refine Cw_seq ?_
            refine Cw_block ?_
            refine Cw_join (fun env' K' G' => ∃ (t1387 : Bool), [(0, (sv vp0)), (1, (sv vp1)), (5, (.int .i64 i741)), (6, (.int .i64 i1194)), (51, (.bool t1387))] = env' ∧ G = G' ∧ M_ref14_Enabled_J3 p0 p1 i741 i1194 k746 k1199 t1387 = some y0) ?_ ?_
            · skip
              obtain ⟨x1388, hx1389, H⟩ := bnd H
              obtain ⟨x1398, hx1399, H⟩ := bnd H
              rcases bool_ct (!(dcd (x1388.thread = x1398.thread))) with hb_ | hb_ <;> revert hb_
              · intro h1407
                have h1407 := dcd_f (nt_t (h1407))
                have H := iff_ h1407 H
                obtain ⟨x1408, hx1409, H⟩ := bnd H
                obtain ⟨x1417, hx1418, H⟩ := bnd H
                obtain ⟨x1426, hx1427, H⟩ := bnd H
                refine Cw_region_any [] rfl Inc.nil ?_
                refine Aw_q 0 rfl (by kernel_rfl) (by kernel_rfl) (by kernel_rfl) rfl rfl rfl (Qt_move rfl) ?_
                refine Aw_q 1 rfl (by kernel_rfl) (by kernel_rfl) (by kernel_rfl) rfl rfl rfl (Qt_move rfl) ?_
                have hs1431 := ((hs750).mono hK996).mono hK1197
                obtain ⟨r1432, hr1433, hk1434⟩ := Slr.at hs1431 hx1389
                obtain ⟨v1435, v1436, rfl, hs1437, hs1438⟩ := hr1433
                refine Aw_q 2 rfl (by kernel_rfl) (by kernel_rfl) (by kernel_rfl) rfl rfl rfl (Q_ix (T := TyWaiter) hs1431 hx1389 rfl rfl rfl rfl rfl) ?_
                refine Aw_q 3 rfl (by kernel_rfl) (by kernel_rfl) (by kernel_rfl) rfl rfl rfl (Qt_fieldAddr (m := 0) rfl rfl rfl rfl rfl) ?_
                refine Aw_q 4 rfl (by kernel_rfl) (by kernel_rfl) (by kernel_rfl) rfl rfl rfl (Qt_load1 (v := (.int .i64 x1388.thread)) rfl rfl rfl (Rdc.k hk1434 rfl)) ?_
                refine Aw_q 5 rfl (by kernel_rfl) (by kernel_rfl) (by kernel_rfl) rfl rfl rfl (Qt_move rfl) ?_
                refine Aw_q 6 rfl (by kernel_rfl) (by kernel_rfl) (by kernel_rfl) rfl rfl rfl (Qt_move rfl) ?_
                obtain ⟨r1439, hr1440, hk1441⟩ := Slr.at hs1431 hx1399
                obtain ⟨v1442, v1443, rfl, hs1444, hs1445⟩ := hr1440
                refine Aw_q 7 rfl (by kernel_rfl) (by kernel_rfl) (by kernel_rfl) rfl rfl rfl (Q_ix (T := TyWaiter) hs1431 hx1399 rfl rfl rfl rfl rfl) ?_
                refine Aw_q 8 rfl (by kernel_rfl) (by kernel_rfl) (by kernel_rfl) rfl rfl rfl (Qt_fieldAddr (m := 0) rfl rfl rfl rfl rfl) ?_
                refine Aw_q 9 rfl (by kernel_rfl) (by kernel_rfl) (by kernel_rfl) rfl rfl rfl (Qt_load1 (v := (.int .i64 x1398.thread)) rfl rfl rfl (Rdc.k hk1441 rfl)) ?_
                refine Aw_q 10 rfl (by kernel_rfl) (by kernel_rfl) (by kernel_rfl) rfl rfl rfl (Qt_cmp rfl rfl rfl) ?_
                refine Aw_q 11 rfl (by kernel_rfl) (by kernel_rfl) (by kernel_rfl) rfl rfl rfl (Qt_move rfl) ?_
                refine Aw.known (d := 38) rfl (nt_mt (dcd_neg h1407)) ?_
                refine Aw_qw 12 rfl (by kernel_rfl) (by kernel_rfl) (by kernel_rfl) rfl rfl rfl rfl rfl rfl (Qt_move rfl) ?_
                refine Aw_qw 13 rfl (by kernel_rfl) (by kernel_rfl) (by kernel_rfl) rfl rfl rfl rfl rfl rfl (Qt_move rfl) ?_
                refine Aw_qw 14 rfl (by kernel_rfl) (by kernel_rfl) (by kernel_rfl) rfl rfl rfl rfl rfl rfl (Qt_move rfl) ?_
                obtain ⟨r1446, hr1447, hk1448⟩ := Slr.at hs1431 hx1409
                obtain ⟨v1449, v1450, rfl, hs1451, hs1452⟩ := hr1447
                refine Aw_qw 15 rfl (by kernel_rfl) (by kernel_rfl) (by kernel_rfl) rfl rfl rfl rfl rfl rfl (Q_ix (T := TyWaiter) hs1431 hx1409 rfl rfl rfl rfl rfl) ?_
                refine Aw_qw 16 rfl (by kernel_rfl) (by kernel_rfl) (by kernel_rfl) rfl rfl rfl rfl rfl rfl (Qt_fieldAddr (m := 1) rfl rfl rfl rfl rfl) ?_
                refine Aw_qw 17 rfl (by kernel_rfl) (by kernel_rfl) (by kernel_rfl) rfl rfl rfl rfl rfl rfl (Qt_loadA (m := 7) (cs := (Op.cells x1408.op v1449 v1450)) rfl rfl rfl rfl ⟨rfl, Rdc.k hk1448 rfl⟩) ?_
                refine Aw_qw 18 rfl (by kernel_rfl) (by kernel_rfl) (by kernel_rfl) rfl rfl rfl rfl rfl rfl (Qt_move rfl) ?_
                refine Aw_qw 19 rfl (by kernel_rfl) (by kernel_rfl) (by kernel_rfl) rfl rfl rfl rfl rfl rfl (Qt_move rfl) ?_
                obtain ⟨r1453, hr1454, hk1455⟩ := Slr.at hs1431 hx1418
                obtain ⟨v1456, v1457, rfl, hs1458, hs1459⟩ := hr1454
                refine Aw_qw 20 rfl (by kernel_rfl) (by kernel_rfl) (by kernel_rfl) rfl rfl rfl rfl rfl rfl (Q_ix (T := TyWaiter) hs1431 hx1418 rfl rfl rfl rfl rfl) ?_
                refine Aw_qw 21 rfl (by kernel_rfl) (by kernel_rfl) (by kernel_rfl) rfl rfl rfl rfl rfl rfl (Qt_fieldAddr (m := 1) rfl rfl rfl rfl rfl) ?_
                refine Aw_qw 22 rfl (by kernel_rfl) (by kernel_rfl) (by kernel_rfl) rfl rfl rfl rfl rfl rfl (Qt_loadA (m := 7) (cs := (Op.cells x1417.op v1456 v1457)) rfl rfl rfl rfl ⟨rfl, Rdc.k hk1455 rfl⟩) ?_
                refine Aw_one 23 (by kernel_rfl) (Ax_mkw rfl rfl rfl rfl rfl ?_)
                have hs1460 := ((hs993).mono hK996).mono hK1197
                refine OpW_call rfl Try.call48 rfl rfl (c_M_ref14_Meets p0 vp0 x1408.op v1449 v1450 x1417.op v1456 v1457 x1426 hx1427 _ _ hs1460 hs1451 hs1452 hs1458 hs1459) ?_
                rintro _ K1461 _ hK1462 ⟨rfl, rfl⟩
                refine ⟨Inc.nil, ?_⟩
                refine Aw_q 24 rfl (by kernel_rfl) (by kernel_rfl) (by kernel_rfl) rfl rfl rfl (Qt_pick_t rfl rfl) ?_
                refine Aw_done (by kernel_rfl) ?_
                refine Shift.done ?_
                exact ⟨[(0, (sv vp0)), (1, (sv vp1)), (5, (.int .i64 i741)), (6, (.int .i64 i1194)), (51, (.bool x1426))], ⟨rfl, rfl, rfl, rfl, rfl, trivial⟩, x1426, rfl, rfl, H⟩
              · intro h1407
                have h1407 := dcd_t (nt_f (h1407))
                have H := ift h1407 H
                refine Cw_region_any [] rfl Inc.nil ?_
                refine Aw_q 0 rfl (by kernel_rfl) (by kernel_rfl) (by kernel_rfl) rfl rfl rfl (Qt_move rfl) ?_
                refine Aw_q 1 rfl (by kernel_rfl) (by kernel_rfl) (by kernel_rfl) rfl rfl rfl (Qt_move rfl) ?_
                have hs1463 := ((hs750).mono hK996).mono hK1197
                obtain ⟨r1464, hr1465, hk1466⟩ := Slr.at hs1463 hx1389
                obtain ⟨v1467, v1468, rfl, hs1469, hs1470⟩ := hr1465
                refine Aw_q 2 rfl (by kernel_rfl) (by kernel_rfl) (by kernel_rfl) rfl rfl rfl (Q_ix (T := TyWaiter) hs1463 hx1389 rfl rfl rfl rfl rfl) ?_
                refine Aw_q 3 rfl (by kernel_rfl) (by kernel_rfl) (by kernel_rfl) rfl rfl rfl (Qt_fieldAddr (m := 0) rfl rfl rfl rfl rfl) ?_
                refine Aw_q 4 rfl (by kernel_rfl) (by kernel_rfl) (by kernel_rfl) rfl rfl rfl (Qt_load1 (v := (.int .i64 x1388.thread)) rfl rfl rfl (Rdc.k hk1466 rfl)) ?_
                refine Aw_q 5 rfl (by kernel_rfl) (by kernel_rfl) (by kernel_rfl) rfl rfl rfl (Qt_move rfl) ?_
                refine Aw_q 6 rfl (by kernel_rfl) (by kernel_rfl) (by kernel_rfl) rfl rfl rfl (Qt_move rfl) ?_
                obtain ⟨r1471, hr1472, hk1473⟩ := Slr.at hs1463 hx1399
                obtain ⟨v1474, v1475, rfl, hs1476, hs1477⟩ := hr1472
                refine Aw_q 7 rfl (by kernel_rfl) (by kernel_rfl) (by kernel_rfl) rfl rfl rfl (Q_ix (T := TyWaiter) hs1463 hx1399 rfl rfl rfl rfl rfl) ?_
                refine Aw_q 8 rfl (by kernel_rfl) (by kernel_rfl) (by kernel_rfl) rfl rfl rfl (Qt_fieldAddr (m := 0) rfl rfl rfl rfl rfl) ?_
                refine Aw_q 9 rfl (by kernel_rfl) (by kernel_rfl) (by kernel_rfl) rfl rfl rfl (Qt_load1 (v := (.int .i64 x1398.thread)) rfl rfl rfl (Rdc.k hk1473 rfl)) ?_
                refine Aw_q 10 rfl (by kernel_rfl) (by kernel_rfl) (by kernel_rfl) rfl rfl rfl (Qt_cmp rfl rfl rfl) ?_
                refine Aw_q 11 rfl (by kernel_rfl) (by kernel_rfl) (by kernel_rfl) rfl rfl rfl (Qt_move rfl) ?_
                refine Aw.known (d := 38) rfl (nt_mf (dcd_pos h1407)) ?_
                refine Aw_pass 12 rfl (by kernel_rfl) (by kernel_rfl) (by kernel_rfl) rfl rfl rfl rfl rfl rfl rfl ?_
                refine Aw_pass 13 rfl (by kernel_rfl) (by kernel_rfl) (by kernel_rfl) rfl rfl rfl rfl rfl rfl rfl ?_
                refine Aw_pass 14 rfl (by kernel_rfl) (by kernel_rfl) (by kernel_rfl) rfl rfl rfl rfl rfl rfl rfl ?_
                refine Aw_pass 15 rfl (by kernel_rfl) (by kernel_rfl) (by kernel_rfl) rfl rfl rfl rfl rfl rfl rfl ?_
                refine Aw_pass 16 rfl (by kernel_rfl) (by kernel_rfl) (by kernel_rfl) rfl rfl rfl rfl rfl rfl rfl ?_
                refine Aw_pass 17 rfl (by kernel_rfl) (by kernel_rfl) (by kernel_rfl) rfl rfl rfl rfl rfl rfl rfl ?_
                refine Aw_pass 18 rfl (by kernel_rfl) (by kernel_rfl) (by kernel_rfl) rfl rfl rfl rfl rfl rfl rfl ?_
                refine Aw_pass 19 rfl (by kernel_rfl) (by kernel_rfl) (by kernel_rfl) rfl rfl rfl rfl rfl rfl rfl ?_
                refine Aw_pass 20 rfl (by kernel_rfl) (by kernel_rfl) (by kernel_rfl) rfl rfl rfl rfl rfl rfl rfl ?_
                refine Aw_pass 21 rfl (by kernel_rfl) (by kernel_rfl) (by kernel_rfl) rfl rfl rfl rfl rfl rfl rfl ?_
                refine Aw_pass 22 rfl (by kernel_rfl) (by kernel_rfl) (by kernel_rfl) rfl rfl rfl rfl rfl rfl rfl ?_
                refine Aw_pass 23 rfl (by kernel_rfl) (by kernel_rfl) (by kernel_rfl) rfl rfl rfl rfl rfl rfl rfl ?_
                refine Aw_q 24 rfl (by kernel_rfl) (by kernel_rfl) (by kernel_rfl) rfl rfl rfl (Qt_pick_f rfl rfl) ?_
                refine Aw_done (by kernel_rfl) ?_
                refine Shift.done ?_
                exact ⟨[(0, (sv vp0)), (1, (sv vp1)), (5, (.int .i64 i741)), (6, (.int .i64 i1194)), (51, (.bool false))], ⟨rfl, rfl, rfl, rfl, rfl, trivial⟩, false, rfl, rfl, H⟩
            rintro _ K1478 _ hK1479 ⟨t1387, rfl, rfl, H⟩
            unfold M_ref14_Enabled_J3 at H
            refine Cw_cond rfl ?_ ?_
            · intro h1480
              have H := ift h1480 H
              refine Cw_seq ?_
              refine Cw_region ?_
              refine Ow_q rfl rfl rfl (Qt_assign rfl) ?_
              refine Ow_nil ?_
              refine Cw_ret ?_
              obtain ey0 := inj1 H
              subst y0
              refine ⟨(by first | exact .inl rfl | exact .inr rfl), [(.bool true)], ⟨(.bool true), _, rfl, rfl, rfl⟩, ?_⟩
              refine Shift.done ?_
              exact ⟨rfl, rfl⟩
            · intro h1480
              have H := iff_ (btf h1480) H
              refine Cw_skip ?_
              refine Cw_region ?_
              refine Ow_q rfl rfl rfl (Qt_move rfl) ?_
              refine Ow_q rfl rfl rfl (Qt_arith (e := wI (i1194 + 1)) rfl rfl rfl rfl) ?_
              refine Ow_q rfl rfl rfl (Qt_assign rfl) ?_
              refine Ow_nil ?_
              refine Shift.done ?_
              exact ⟨[(0, (sv vp0)), (1, (sv vp1)), (5, (.int .i64 i741)), (6, (.int .i64 (wI (i1194 + 1))))], ⟨rfl, rfl, rfl, rfl, trivial⟩, _, Nat.lt_succ_self _, (wI (i1194 + 1)), rfl, rfl, (hkk1200 ▸ H)⟩
          · intro h1202
            have h1202 := dcd_f (h1202)
            have H := iff_ h1202 H
            refine Cw_exit ?_
            refine Shift.done ?_
            exact ⟨[(0, (sv vp0)), (1, (sv vp1)), (5, (.int .i64 i741))], ⟨rfl, rfl, rfl, trivial⟩, rfl, rfl, H⟩
      rintro _ K1481 _ hK1482 ⟨rfl, rfl, H⟩
      unfold M_ref14_Enabled_J2 at H
      refine Cw_region ?_
      refine Ow_q rfl rfl rfl (Qt_move rfl) ?_
      refine Ow_q rfl rfl rfl (Qt_arith (e := wI (i741 + 1)) rfl rfl rfl rfl) ?_
      refine Ow_q rfl rfl rfl (Qt_assign rfl) ?_
      refine Ow_nil ?_
      refine Shift.done ?_
      exact ⟨[(0, (sv vp0)), (1, (sv vp1)), (5, (.int .i64 (wI (i741 + 1))))], ⟨rfl, rfl, rfl, trivial⟩, _, Nat.lt_succ_self _, (wI (i741 + 1)), rfl, rfl, (hkk747 ▸ H)⟩
    · intro h751
      have h751 := dcd_f (h751)
      have H := iff_ h751 H
      refine Cw_exit ?_
      refine Shift.done ?_
      exact ⟨[], trivial, rfl, rfl, H⟩
  rintro _ K1483 _ hK1484 ⟨rfl, rfl, H⟩
  unfold M_ref14_Enabled_J1 at H
  refine Cw_seq ?_
  refine Cw_region ?_
  refine Ow_q rfl rfl rfl (Qt_assign rfl) ?_
  refine Ow_nil ?_
  refine Cw_ret ?_
  obtain ey0 := inj1 H
  subst y0
  refine ⟨(by first | exact .inl rfl | exact .inr rfl), [(.bool false)], ⟨(.bool false), _, rfl, rfl, rfl⟩, ?_⟩
  refine Shift.done ?_
  exact ⟨rfl, rfl⟩



end Go.Hx
