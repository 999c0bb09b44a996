/- Printed by program. -/
import Derived.Test.YtlegagccaeoidaaXFM
import Derived.Test.YtlegagccaeoidaaXFWCases3
import Derived.Test.YtlegagccaeoidaaXFWDraw
import Derived.Test.YtlegagccaeoidaaXFWDraw1
import Derived.Test.YtlegagccaeoidaaXFWLaw3
import Derived.Test.YtlegagccaeoidaaXFWRef2
import Derived.Test.YtlegagccaeoidaaXFWRef3
namespace Go.Hx
open Go Go.Proofs
set_option linter.unusedSimpArgs false
set_option linter.unusedVariables false
set_option maxRecDepth 10000
set_option maxHeartbeats 1000000 in
theorem c_M_law3_CasesOrders (p0 : Op) (vp0_cases : SV) (vp0_draws : SV) (p1 : List Int) (vp1 : SV) (y0 : Bool) (H : M_law3_CasesOrders p0 p1 = some y0) (K : Kp) (G : List Ent) (hp0_cases : Slr TyCase K (sv vp0_cases) p0.cases) (hp0_draws : Slr Ty.i64 K (sv vp0_draws) p0.draws) (hp1 : Slr Ty.u8 K (sv vp1) p1) :
    Fc Try.prog 6 #[(.agg (Op.cells p0 vp0_cases vp0_draws).toArray), (sv vp1)] K (G) (fun v K' G' => v = (.bool y0) ∧ G = G') := by
  refine Fc_body Try.func6 rfl Try.ntmps6 Try.results6 rfl ?_
  unfold M_law3_CasesOrders at H
  refine Cw_seq ?_
  refine Cw_region ?_
  refine Ow_cons rfl (OpW_box (cs := (Op.cells p0 vp0_cases vp0_draws)) rfl rfl rfl (fun b245 => ?_))
  refine Ow_q rfl rfl rfl (Qt_assign rfl) ?_
  refine Ow_nil ?_
  refine Cw_seq ?_
  refine Cw_seq ?_
  refine Cw_region ?_
  obtain ⟨x251, hx252, H⟩ := bnd H
  refine Ow_cons rfl (OpW_call rfl Try.call7 rfl rfl (c_M_law3_awake  x251 hx252 _ _ ) ?_)
  rintro _ K253 _ hK254 ⟨rfl, rfl⟩
  refine Ow_q rfl rfl rfl (Qt_not rfl) ?_
  refine Ow_nil ?_
  refine Cw_cond rfl ?_ ?_
  · intro h255
    have h255 := nt_t (h255)
    have H := iff_ (btf h255) H
    refine Cw_seq ?_
    refine Cw_region ?_
    refine Ow_q rfl rfl rfl (Qt_assign rfl) ?_
    refine Ow_nil ?_
    refine Cw_ret ?_
    obtain ey0 := inj1 H
    subst y0
    refine ⟨(by first | exact .inl rfl | exact .inr rfl), [(.bool false)], ⟨(.bool false), _, rfl, rfl, rfl⟩, ?_⟩
    refine Shift.rem .here ?_
    refine Shift.done ?_
    exact ⟨rfl, rfl⟩
  · intro h255
    have h255 := nt_f (h255)
    have H := ift h255 H
    refine Cw_skip ?_
    refine Cw_seq ?_
    refine Cw_seq ?_
    refine Cw_region ?_
    refine Ow_q rfl rfl rfl (Qt_loadA (m := 7) (cs := (Op.cells p0 vp0_cases vp0_draws)) rfl rfl rfl rfl ⟨rfl, Rdc.blk (.head _) rfl⟩) ?_
    obtain ⟨x261, hx262, H⟩ := bnd H
    have hs263 := (hp0_cases).mono hK254
    have hs264 := (hp0_draws).mono hK254
    refine Ow_cons rfl (OpW_call rfl Try.call8 rfl rfl (c_M_law3_big p0 vp0_cases vp0_draws x261 hx262 _ _ hs263 hs264) ?_)
    rintro _ _ _ - ⟨rfl, rfl, rfl⟩
    refine Ow_nil ?_
    refine Cw_cond rfl ?_ ?_
    · intro h265
      have H := ift h265 H
      refine Cw_seq ?_
      refine Cw_region ?_
      refine Ow_q rfl rfl rfl (Qt_assign rfl) ?_
      refine Ow_nil ?_
      refine Cw_ret ?_
      obtain ey0 := inj1 H
      subst y0
      refine ⟨(by first | exact .inl rfl | exact .inr rfl), [(.bool true)], ⟨(.bool true), _, rfl, rfl, rfl⟩, ?_⟩
      refine Shift.rem .here ?_
      refine Shift.done ?_
      exact ⟨rfl, rfl⟩
    · intro h265
      have H := iff_ (btf h265) H
      refine Cw_skip ?_
      refine Cw_seq ?_
      refine Cw_region ?_
      refine Ow_q rfl rfl rfl (Qt_move rfl) ?_
      obtain ⟨x266, hx267, H⟩ := bnd H
      have hs268 := (hp1).mono hK254
      refine Ow_cons rfl (OpW_call rfl Try.call9 rfl rfl (c_M_draw_New p1 vp1 60 x266 hx267 _ _ hs268) ?_)
      rintro _ _ _ - ⟨b269, v270, rfl, rfl, rfl, hs271⟩
      refine Ow_q rfl rfl rfl (Qt_assign rfl) ?_
      refine Ow_nil ?_
      refine Cw_seq ?_
      refine Cw_region ?_
      refine Ow_q rfl rfl rfl (Qt_move rfl) ?_
      obtain ⟨x272, x273, x274, hx275, H⟩ := bnd3 H
      refine Ow_cons rfl (OpW_call rfl Try.call10 rfl rfl (c_M_draw_Codes_Config b269 x266 v270 x272 x273 x274 hx275 _ _ hs271) ?_)
      rintro _ K278 _ hK279 ⟨v276, v277, rfl, rfl, hs280, hs281⟩
      refine Ow_cons rfl (OpW_alloc (cs := (Config.cells (Config.mk [] [] 0) nilS nilS)) rfl rfl rfl rfl (fun b282 => ?_))
      refine Ow_cons rfl (OpW_store (vs := (Config.cells x272 v276 v277)) (all' := (Config.cells x272 v276 v277)) rfl rfl rfl rfl rfl .here rfl rfl rfl ?_)
      refine Ow_nil ?_
      refine Cw_join (fun env' K' G' => [] = env' ∧ G = G' ∧ M_law3_CasesOrders_J1 = some y0) ?_ ?_
      · skip
        refine Cw_seq ?_
        obtain ⟨x549, x550, x551, hx552, H⟩ := bnd3 H
        obtain ⟨x560, x561, x562, hx563, H⟩ := bnd3 H
        refine Cw_region_any [.blk b282 34 (Config.cells x272 v276 v277), .tok 3 1 [(sv v276)], .tok 22 1 [(sv v277)], .blk b245 26 (Op.cells p0 vp0_cases vp0_draws)] rfl (Inc.cons (.head _) (Inc.cons (.tail _ (.tail _ (.head _))) (Inc.cons (.tail _ (.tail _ (.tail _ (.head _)))) (Inc.cons (.tail _ (.tail _ (.tail _ (.tail _ (.head _))))) Inc.nil)))) ?_
        refine Aw_q 0 rfl (by kernel_rfl) (by kernel_rfl) (by kernel_rfl) rfl rfl rfl (Qt_loadA (m := 7) (cs := (Op.cells p0 vp0_cases vp0_draws)) rfl rfl rfl rfl ⟨rfl, Rdc.blk (.tail _ (.tail _ (.tail _ (.head _)))) rfl⟩) ?_
        refine Aw_q 1 rfl (by kernel_rfl) (by kernel_rfl) (by kernel_rfl) rfl rfl rfl (Qt_move rfl) ?_
        refine Aw_q 2 rfl (by kernel_rfl) (by kernel_rfl) (by kernel_rfl) rfl rfl rfl (Qt_loadA (m := 3) (cs := (Config.cells x272 v276 v277)) rfl rfl rfl rfl ⟨rfl, Rdc.blk (.head _) rfl⟩) ?_
        refine Aw_q 4 rfl (by kernel_rfl) (by kernel_rfl) (by kernel_rfl) rfl rfl rfl (Qt_move rfl) ?_
        refine Aw_q 5 rfl (by kernel_rfl) (by kernel_rfl) (by kernel_rfl) rfl rfl rfl (Qt_loadA (m := 3) (cs := (Config.cells x272 v276 v277)) rfl rfl rfl rfl ⟨rfl, Rdc.blk (.head _) rfl⟩) ?_
        refine Aw_q 9 rfl (by kernel_rfl) (by kernel_rfl) (by kernel_rfl) rfl rfl rfl (Qt_move rfl) ?_
        refine Aw_one 3 (by kernel_rfl) (Ax_mk rfl rfl ?_)
        refine OpW.shift (Shift.pull (.there .here) (Shift.done ?_))
        have hs579 := (hs271).mono hK279
        refine OpW_call rfl Try.call11 rfl rfl (c_M_draw_Codes_Op b269 (Draw_Codes.mk x266.list x273 x274) v270 x272 v276 v277 x549 x550 x551 hx552 _ _ hs579 hs280 hs281) ?_
        rintro _ K582 _ hK583 ⟨v580, v581, rfl, rfl, hs584, hs585⟩
        refine ⟨(Inc.cons (.tail _ (.head _)) (Inc.cons (.tail _ (.tail _ (.head _))) (Inc.cons (.tail _ (.tail _ (.tail _ (.head _)))) (Inc.cons (.tail _ (.tail _ (.tail _ (.tail _ (.head _))))) Inc.nil)))), ?_⟩
        refine Aw_one 6 (by kernel_rfl) (Ax_mk rfl rfl ?_)
        have hs586 := (hs579).mono hK583
        have hs587 := (hs280).mono hK583
        have hs588 := (hs281).mono hK583
        refine OpW_call rfl Try.call25 rfl rfl (c_M_draw_Codes_Select b269 (Draw_Codes.mk x266.list x550 x551) v270 x272 v276 v277 6 x560 x561 x562 hx563 _ _ hs586 hs587 hs588) ?_
        rintro _ K591 _ hK592 ⟨v589, v590, rfl, rfl, hs593, hs594⟩
        refine ⟨(Inc.cons (.tail _ (.head _)) (Inc.cons (.tail _ (.tail _ (.head _))) (Inc.cons (.tail _ (.tail _ (.tail _ (.head _)))) (Inc.cons (.tail _ (.tail _ (.tail _ (.tail _ (.head _))))) Inc.nil)))), ?_⟩
        refine Aw_one 7 (by kernel_rfl) (Ax_mk rfl rfl ?_)
        have hs597 := (hs584).mono hK592
        have hs598 := (hs585).mono hK592
        have hs599 := (((hs263).mono hK279).mono hK583).mono hK592
        have hs600 := (((hs264).mono hK279).mono hK583).mono hK592
        have hR596 : RowR TyOp K591 [(Op.cells p0 vp0_cases vp0_draws), (Op.cells x549 v580 v581), (Op.cells x560 v589 v590)] [p0, x549, x560] := RowR.cons ⟨vp0_cases, vp0_draws, rfl, hs599, hs600⟩ (RowR.cons ⟨v580, v581, rfl, hs597, hs598⟩ (RowR.cons ⟨v589, v590, rfl, hs593, hs594⟩ (RowR.nil)))
        refine O_lit (T := TyOp) (rows := [(Op.cells p0 vp0_cases vp0_draws), (Op.cells x549 v580 v581), (Op.cells x560 v589 v590)]) (l := [p0, x549, x560]) rfl rfl rfl hR596 rfl rfl rfl rfl rfl rfl rfl rfl (fun v595 => ⟨(Inc.cons (.tail _ (.tail _ (.head _))) (Inc.cons (.tail _ (.tail _ (.tail _ (.head _)))) (Inc.cons (.tail _ (.tail _ (.tail _ (.tail _ (.head _))))) (Inc.cons (.tail _ (.tail _ (.tail _ (.tail _ (.tail _ (.head _)))))) Inc.nil)))), ?_⟩)
        refine Aw_one 8 (by kernel_rfl) (Ax_mk rfl rfl (OpW_of_Qt rfl rfl (Q_lenR (T := TyOp) (.head _) hR596 rfl rfl rfl) ⟨(Inc.cons (.tail _ (.tail _ (.head _))) (Inc.cons (.tail _ (.tail _ (.tail _ (.head _)))) (Inc.cons (.tail _ (.tail _ (.tail _ (.tail _ (.head _))))) (Inc.cons (.tail _ (.tail _ (.tail _ (.tail _ (.tail _ (.head _)))))) Inc.nil)))), ?_⟩))
        refine Aw_done (by kernel_rfl) ?_
        refine Cw_block ?_
        refine Cw_loopM (fun n763 env' K' G' => ∃ (i762 : Int), [(28, (sv v595)), (29, (.int .i64 ([p0, x549, x560].length : Int))), (30, (.int .i64 i762))] = env' ∧ (.row (sv v595) 26 7 [(Op.cells p0 vp0_cases vp0_draws), (Op.cells x549 v580 v581), (Op.cells x560 v589 v590)].flatten) :: G = G' ∧ lp1 (M_law3_CasesOrders_L1 p0 x549 x560) n763 i762 = some y0) BIG ?_ ?_
        · skip
          refine Shift.rem (.there .here) ?_
          refine Shift.rem (.there .here) ?_
          refine Shift.rem (.there .here) ?_
          refine Shift.rem (.there .here) ?_
          refine Shift.rem (.there .here) ?_
          refine Shift.done ?_
          exact ⟨[(28, (sv v595)), (29, (.int .i64 ([p0, x549, x560].length : Int))), (30, (.int .i64 0))], ⟨rfl, rfl, rfl, trivial⟩, 0, rfl, rfl, H⟩
        rintro n763 _ K764 _ hK765 ⟨i762, rfl, rfl, H⟩
        obtain ⟨m766, k767, rfl, hkk768, H⟩ := lps1 H
        unfold M_law3_CasesOrders_L1 at H
        refine Cw_seq ?_
        refine Cw_region ?_
        refine Ow_q rfl rfl rfl (Qt_cmp rfl rfl rfl) ?_
        refine Ow_nil ?_
        refine Cw_seq ?_
        refine Cw_cond rfl ?_ ?_
        · intro h770
          have h770 := dcd_t (h770)
          have H := ift h770 H
          refine Cw_skip ?_
          refine Cw_seq ?_
          refine Cw_block ?_
          refine Cw_seq ?_
          refine Cw_region ?_
          obtain ⟨x848, hx849, H⟩ := bnd H
          have hs850 := (hR596).mono hK765
          obtain ⟨r851, hq852, hr853⟩ := RowR.at hs850 hx849
          obtain ⟨v854, v855, rfl, hs856, hs857⟩ := hr853
          refine Ow_q rfl rfl rfl (Q_ixR (T := TyOp) (.head _) hs850 hq852 (getI_ix hx849).1 rfl rfl rfl rfl rfl) ?_
          refine Ow_q rfl rfl rfl (Qt_loadA (m := 7) (cs := (Op.cells x848 v854 v855)) rfl rfl rfl rfl ⟨rfl, Rd_row (T := TyOp) (.head _) hs850 hq852 rfl rfl⟩) ?_
          refine Ow_cons rfl (OpW_alloc (cs := (Op.cells (Op.mk 0 0 0 0 0 [] []) nilS nilS)) rfl rfl rfl rfl (fun b858 => ?_))
          refine Ow_cons rfl (OpW_store (vs := (Op.cells x848 v854 v855)) (all' := (Op.cells x848 v854 v855)) rfl rfl rfl rfl rfl .here rfl rfl rfl ?_)
          refine Ow_nil ?_
          refine Cw_seq ?_
          refine Cw_region ?_
          refine Ow_q rfl rfl rfl (Qt_loadA (m := 7) (cs := (Op.cells x848 v854 v855)) rfl rfl rfl rfl ⟨rfl, Rdc.blk (.head _) rfl⟩) ?_
          obtain ⟨x859, x860, hx861, H⟩ := bnd2 H
          refine Ow_cons rfl (OpW_call rfl Try.call26 rfl rfl (c_M_cases_Single x848 v854 v855 x859 x860 hx861 _ _ hs856 hs857) ?_)
          rintro _ _ _ - ⟨rfl, rfl, rfl⟩
          refine Ow_q rfl rfl rfl (Qt_move rfl) ?_
          refine Ow_q rfl rfl rfl (Qt_extract rfl rfl) ?_
          refine Ow_q rfl rfl rfl (Qt_extract rfl rfl) ?_
          refine Ow_cons rfl (OpW_alloc (cs := (Case.cells (Case.mk false 0 0))) rfl rfl rfl rfl (fun b862 => ?_))
          refine Ow_cons rfl (OpW_store (vs := (Case.cells x859)) (all' := (Case.cells x859)) rfl rfl rfl rfl rfl .here rfl rfl rfl ?_)
          refine Ow_q rfl rfl rfl (Qt_assign rfl) ?_
          refine Ow_nil ?_
          refine Cw_seq ?_
          refine Cw_region ?_
          refine Ow_q rfl rfl rfl (Qt_loadA (m := 7) (cs := (Op.cells x848 v854 v855)) rfl rfl rfl rfl ⟨rfl, Rdc.blk (.tail _ (.head _)) rfl⟩) ?_
          obtain ⟨x863, x864, hx865, H⟩ := bnd2 H
          refine Ow_cons rfl (OpW_call rfl Try.call27 rfl rfl (c_M_ref3_Single x848 v854 v855 x863 x864 hx865 _ _ hs856 hs857) ?_)
          rintro _ _ _ - ⟨rfl, rfl, rfl⟩
          refine Ow_q rfl rfl rfl (Qt_move rfl) ?_
          refine Ow_q rfl rfl rfl (Qt_extract rfl rfl) ?_
          refine Ow_q rfl rfl rfl (Qt_extract rfl rfl) ?_
          refine Ow_cons rfl (OpW_alloc (cs := (Case.cells (Case.mk false 0 0))) rfl rfl rfl rfl (fun b866 => ?_))
          refine Ow_cons rfl (OpW_store (vs := (Case.cells x863)) (all' := (Case.cells x863)) rfl rfl rfl rfl rfl .here rfl rfl rfl ?_)
          refine Ow_q rfl rfl rfl (Qt_assign rfl) ?_
          refine Ow_nil ?_
          refine Cw_join (fun env' K' G' => ∃ (t921 : Bool), [(28, (sv v595)), (29, (.int .i64 ([p0, x549, x560].length : Int))), (30, (.int .i64 i762)), (59, (.bool t921))] = env' ∧ (.row (sv v595) 26 7 [(Op.cells p0 vp0_cases vp0_draws), (Op.cells x549 v580 v581), (Op.cells x560 v589 v590)].flatten) :: G = G' ∧ M_law3_CasesOrders_J2 p0 x549 x560 i762 k767 t921 = some y0) ?_ ?_
          · skip
            rcases bool_ct (!(dcd (x859 = x863))) with hb_ | hb_ <;> revert hb_
            · intro h922
              have h922 := dcd_f (nt_t (h922))
              have H := iff_ h922 H
              refine Cw_region_any [.blk b866 56 (Case.cells x863), .blk b862 56 (Case.cells x859), .blk b858 26 (Op.cells x848 v854 v855), .row (sv v595) 26 7 [(Op.cells p0 vp0_cases vp0_draws), (Op.cells x549 v580 v581), (Op.cells x560 v589 v590)].flatten] rfl (Inc.cons (.head _) (Inc.cons (.tail _ (.head _)) (Inc.cons (.tail _ (.tail _ (.head _))) (Inc.cons (.tail _ (.tail _ (.tail _ (.head _)))) Inc.nil)))) ?_
              refine Aw_q 0 rfl (by kernel_rfl) (by kernel_rfl) (by kernel_rfl) rfl rfl rfl (Qt_loadA (m := 3) (cs := (Case.cells x859)) rfl rfl rfl rfl ⟨rfl, Rdc.blk (.tail _ (.head _)) rfl⟩) ?_
              refine Aw_q 1 rfl (by kernel_rfl) (by kernel_rfl) (by kernel_rfl) rfl rfl rfl (Qt_loadA (m := 3) (cs := (Case.cells x863)) rfl rfl rfl rfl ⟨rfl, Rdc.blk (.head _) rfl⟩) ?_
              refine Aw_q 2 rfl (by kernel_rfl) (by kernel_rfl) (by kernel_rfl) rfl rfl rfl (Qt_neS rfl rfl (fun w => Case.eqrun x859 x863 w) (by kernel_rfl)) ?_
              refine Aw_q 3 rfl (by kernel_rfl) (by kernel_rfl) (by kernel_rfl) rfl rfl rfl (Qt_move rfl) ?_
              refine Aw.known (d := 47) rfl (nt_mt (dcd_neg h922)) ?_
              refine Aw_pass 4 rfl (by kernel_rfl) (by kernel_rfl) (by kernel_rfl) rfl rfl rfl rfl rfl rfl rfl ?_
              refine Aw_pass 5 rfl (by kernel_rfl) (by kernel_rfl) (by kernel_rfl) rfl rfl rfl rfl rfl rfl rfl ?_
              refine Aw_pass 6 rfl (by kernel_rfl) (by kernel_rfl) (by kernel_rfl) rfl rfl rfl rfl rfl rfl rfl ?_
              refine Aw_q 7 rfl (by kernel_rfl) (by kernel_rfl) (by kernel_rfl) rfl rfl rfl (Qt_pick_t rfl rfl) ?_
              refine Aw_q 8 rfl (by kernel_rfl) (by kernel_rfl) (by kernel_rfl) rfl rfl rfl (Qt_move rfl) ?_
              refine Aw_pass 9 rfl (by kernel_rfl) (by kernel_rfl) (by kernel_rfl) rfl rfl rfl rfl rfl rfl rfl ?_
              refine Aw_pass 10 rfl (by kernel_rfl) (by kernel_rfl) (by kernel_rfl) rfl rfl rfl rfl rfl rfl rfl ?_
              refine Aw_pass 11 rfl (by kernel_rfl) (by kernel_rfl) (by kernel_rfl) rfl rfl rfl rfl rfl rfl rfl ?_
              refine Aw_pass 12 rfl (by kernel_rfl) (by kernel_rfl) (by kernel_rfl) rfl rfl rfl rfl rfl rfl rfl ?_
              refine Aw_pass 13 rfl (by kernel_rfl) (by kernel_rfl) (by kernel_rfl) rfl rfl rfl rfl rfl rfl rfl ?_
              refine Aw_pass 14 rfl (by kernel_rfl) (by kernel_rfl) (by kernel_rfl) rfl rfl rfl rfl rfl rfl rfl ?_
              refine Aw_q 15 rfl (by kernel_rfl) (by kernel_rfl) (by kernel_rfl) rfl rfl rfl (Qt_pick_t rfl rfl) ?_
              refine Aw_done (by kernel_rfl) ?_
              refine Shift.pull (.there (.there (.there .here))) ?_
              refine Shift.rem (.there .here) ?_
              refine Shift.rem (.there .here) ?_
              refine Shift.rem (.there .here) ?_
              refine Shift.done ?_
              exact ⟨[(28, (sv v595)), (29, (.int .i64 ([p0, x549, x560].length : Int))), (30, (.int .i64 i762)), (59, (.bool true))], ⟨rfl, rfl, rfl, rfl, trivial⟩, true, rfl, rfl, H⟩
            · intro h922
              have h922 := dcd_t (nt_f (h922))
              have H := ift h922 H
              rcases bool_ct (!((x860 == x864))) with hb_ | hb_ <;> revert hb_
              · intro h923
                have h923 := nt_t (h923)
                have H := iff_ (btf h923) H
                refine Cw_region_any [.blk b866 56 (Case.cells x863), .blk b862 56 (Case.cells x859), .blk b858 26 (Op.cells x848 v854 v855), .row (sv v595) 26 7 [(Op.cells p0 vp0_cases vp0_draws), (Op.cells x549 v580 v581), (Op.cells x560 v589 v590)].flatten] rfl (Inc.cons (.head _) (Inc.cons (.tail _ (.head _)) (Inc.cons (.tail _ (.tail _ (.head _))) (Inc.cons (.tail _ (.tail _ (.tail _ (.head _)))) Inc.nil)))) ?_
                refine Aw_q 0 rfl (by kernel_rfl) (by kernel_rfl) (by kernel_rfl) rfl rfl rfl (Qt_loadA (m := 3) (cs := (Case.cells x859)) rfl rfl rfl rfl ⟨rfl, Rdc.blk (.tail _ (.head _)) rfl⟩) ?_
                refine Aw_q 1 rfl (by kernel_rfl) (by kernel_rfl) (by kernel_rfl) rfl rfl rfl (Qt_loadA (m := 3) (cs := (Case.cells x863)) rfl rfl rfl rfl ⟨rfl, Rdc.blk (.head _) rfl⟩) ?_
                refine Aw_q 2 rfl (by kernel_rfl) (by kernel_rfl) (by kernel_rfl) rfl rfl rfl (Qt_neS rfl rfl (fun w => Case.eqrun x859 x863 w) (by kernel_rfl)) ?_
                refine Aw_q 3 rfl (by kernel_rfl) (by kernel_rfl) (by kernel_rfl) rfl rfl rfl (Qt_move rfl) ?_
                refine Aw.known (d := 47) rfl (nt_mf (dcd_pos h922)) ?_
                refine Aw_qw 4 rfl (by kernel_rfl) (by kernel_rfl) (by kernel_rfl) rfl rfl rfl rfl rfl rfl (Qt_move rfl) ?_
                refine Aw_qw 5 rfl (by kernel_rfl) (by kernel_rfl) (by kernel_rfl) rfl rfl rfl rfl rfl rfl (Qt_move rfl) ?_
                refine Aw_qw 6 rfl (by kernel_rfl) (by kernel_rfl) (by kernel_rfl) rfl rfl rfl rfl rfl rfl (Qt_neB rfl rfl rfl) ?_
                refine Aw_q 7 rfl (by kernel_rfl) (by kernel_rfl) (by kernel_rfl) rfl rfl rfl (Qt_pick_f rfl rfl) ?_
                refine Aw_q 8 rfl (by kernel_rfl) (by kernel_rfl) (by kernel_rfl) rfl rfl rfl (Qt_move rfl) ?_
                refine Aw.known (d := 52) rfl (nt_mt (h923)) ?_
                refine Aw_pass 9 rfl (by kernel_rfl) (by kernel_rfl) (by kernel_rfl) rfl rfl rfl rfl rfl rfl rfl ?_
                refine Aw_pass 10 rfl (by kernel_rfl) (by kernel_rfl) (by kernel_rfl) rfl rfl rfl rfl rfl rfl rfl ?_
                refine Aw_pass 11 rfl (by kernel_rfl) (by kernel_rfl) (by kernel_rfl) rfl rfl rfl rfl rfl rfl rfl ?_
                refine Aw_pass 12 rfl (by kernel_rfl) (by kernel_rfl) (by kernel_rfl) rfl rfl rfl rfl rfl rfl rfl ?_
                refine Aw_pass 13 rfl (by kernel_rfl) (by kernel_rfl) (by kernel_rfl) rfl rfl rfl rfl rfl rfl rfl ?_
                refine Aw_pass 14 rfl (by kernel_rfl) (by kernel_rfl) (by kernel_rfl) rfl rfl rfl rfl rfl rfl rfl ?_
                refine Aw_q 15 rfl (by kernel_rfl) (by kernel_rfl) (by kernel_rfl) rfl rfl rfl (Qt_pick_t rfl rfl) ?_
                refine Aw_done (by kernel_rfl) ?_
                refine Shift.pull (.there (.there (.there .here))) ?_
                refine Shift.rem (.there .here) ?_
                refine Shift.rem (.there .here) ?_
                refine Shift.rem (.there .here) ?_
                refine Shift.done ?_
                exact ⟨[(28, (sv v595)), (29, (.int .i64 ([p0, x549, x560].length : Int))), (30, (.int .i64 i762)), (59, (.bool true))], ⟨rfl, rfl, rfl, rfl, trivial⟩, true, rfl, rfl, H⟩
              · intro h923
                have h923 := nt_f (h923)
                have H := ift h923 H
                obtain ⟨x924, hx925, H⟩ := bnd H
                obtain ⟨x931, hx932, H⟩ := bnd H
                obtain ⟨x948, hx949, H⟩ := bnd H
                refine Cw_region_any [.blk b866 56 (Case.cells x863), .blk b862 56 (Case.cells x859), .blk b858 26 (Op.cells x848 v854 v855), .row (sv v595) 26 7 [(Op.cells p0 vp0_cases vp0_draws), (Op.cells x549 v580 v581), (Op.cells x560 v589 v590)].flatten] rfl (Inc.cons (.head _) (Inc.cons (.tail _ (.head _)) (Inc.cons (.tail _ (.tail _ (.head _))) (Inc.cons (.tail _ (.tail _ (.tail _ (.head _)))) Inc.nil)))) ?_
                refine Aw_q 0 rfl (by kernel_rfl) (by kernel_rfl) (by kernel_rfl) rfl rfl rfl (Qt_loadA (m := 3) (cs := (Case.cells x859)) rfl rfl rfl rfl ⟨rfl, Rdc.blk (.tail _ (.head _)) rfl⟩) ?_
                refine Aw_q 1 rfl (by kernel_rfl) (by kernel_rfl) (by kernel_rfl) rfl rfl rfl (Qt_loadA (m := 3) (cs := (Case.cells x863)) rfl rfl rfl rfl ⟨rfl, Rdc.blk (.head _) rfl⟩) ?_
                refine Aw_q 2 rfl (by kernel_rfl) (by kernel_rfl) (by kernel_rfl) rfl rfl rfl (Qt_neS rfl rfl (fun w => Case.eqrun x859 x863 w) (by kernel_rfl)) ?_
                refine Aw_q 3 rfl (by kernel_rfl) (by kernel_rfl) (by kernel_rfl) rfl rfl rfl (Qt_move rfl) ?_
                refine Aw.known (d := 47) rfl (nt_mf (dcd_pos h922)) ?_
                refine Aw_qw 4 rfl (by kernel_rfl) (by kernel_rfl) (by kernel_rfl) rfl rfl rfl rfl rfl rfl (Qt_move rfl) ?_
                refine Aw_qw 5 rfl (by kernel_rfl) (by kernel_rfl) (by kernel_rfl) rfl rfl rfl rfl rfl rfl (Qt_move rfl) ?_
                refine Aw_qw 6 rfl (by kernel_rfl) (by kernel_rfl) (by kernel_rfl) rfl rfl rfl rfl rfl rfl (Qt_neB rfl rfl rfl) ?_
                refine Aw_q 7 rfl (by kernel_rfl) (by kernel_rfl) (by kernel_rfl) rfl rfl rfl (Qt_pick_f rfl rfl) ?_
                refine Aw_q 8 rfl (by kernel_rfl) (by kernel_rfl) (by kernel_rfl) rfl rfl rfl (Qt_move rfl) ?_
                refine Aw.known (d := 52) rfl (nt_mf (h923)) ?_
                refine Aw_qw 9 rfl (by kernel_rfl) (by kernel_rfl) (by kernel_rfl) rfl rfl rfl rfl rfl rfl (Qt_loadA (m := 7) (cs := (Op.cells x848 v854 v855)) rfl rfl rfl rfl ⟨rfl, Rdc.blk (.tail _ (.tail _ (.head _))) rfl⟩) ?_
                refine Aw_qw 11 rfl (by kernel_rfl) (by kernel_rfl) (by kernel_rfl) rfl rfl rfl rfl rfl rfl (Qt_loadA (m := 7) (cs := (Op.cells x848 v854 v855)) rfl rfl rfl rfl ⟨rfl, Rdc.blk (.tail _ (.tail _ (.head _))) rfl⟩) ?_
                refine Aw_one 10 (by kernel_rfl) (Ax_mkw rfl rfl rfl rfl rfl ?_)
                refine OpW_call rfl Try.call24 rfl rfl (c_M_cases_Order x848 v854 v855 x924 hx925 _ _ hs856 hs857) ?_
                rintro _ K955 _ hK956 ⟨v953, rs954, rfl, rfl, hs957⟩
                refine ⟨(Inc.cons (.tail _ (.head _)) (Inc.cons (.tail _ (.tail _ (.head _))) (Inc.cons (.tail _ (.tail _ (.tail _ (.head _)))) (Inc.cons (.tail _ (.tail _ (.tail _ (.tail _ (.head _))))) Inc.nil)))), ?_⟩
                refine Aw_one 12 (by kernel_rfl) (Ax_mkw rfl rfl rfl rfl rfl ?_)
                have hs958 := (hs856).mono hK956
                have hs959 := (hs857).mono hK956
                refine OpW_call rfl Try.call28 rfl rfl (c_M_ref3_Order x848 v854 v855 x931 hx932 _ _ hs958 hs959) ?_
                rintro _ K962 _ hK963 ⟨v960, rs961, rfl, rfl, hs964⟩
                refine ⟨(Inc.cons (.tail _ (.tail _ (.head _))) (Inc.cons (.tail _ (.tail _ (.tail _ (.head _)))) (Inc.cons (.tail _ (.tail _ (.tail _ (.tail _ (.head _))))) (Inc.cons (.tail _ (.tail _ (.tail _ (.tail _ (.tail _ (.head _)))))) Inc.nil)))), ?_⟩
                refine Aw_one 13 (by kernel_rfl) (Ax_mkw rfl rfl rfl rfl rfl ?_)
                have hs968 := (hs957).mono hK963
                refine OpW.shift (Shift.settle (T := Ty.i64) (.there .here) hs968 rfl (fun K965 hK966 hs967 => Shift.done ?_))
                have hs972 := (hs964).mono hK966
                refine OpW.shift (Shift.settle (T := Ty.i64) .here hs972 rfl (fun K969 hK970 hs971 => Shift.done ?_))
                have hs973 := (hs967).mono hK970
                refine OpW_call rfl Try.call17 rfl rfl (c_M_ref2_Same x924 v953 x931 v960 x948 hx949 _ _ hs973 hs971) ?_
                rintro _ K974 _ hK975 ⟨rfl, rfl⟩
                refine ⟨(Inc.cons (.tail _ (.tail _ (.head _))) (Inc.cons (.tail _ (.tail _ (.tail _ (.head _)))) (Inc.cons (.tail _ (.tail _ (.tail _ (.tail _ (.head _))))) (Inc.cons (.tail _ (.tail _ (.tail _ (.tail _ (.tail _ (.head _)))))) Inc.nil)))), ?_⟩
                refine Aw_qw 14 rfl (by kernel_rfl) (by kernel_rfl) (by kernel_rfl) rfl rfl rfl rfl rfl rfl (Qt_not rfl) ?_
                refine Aw_q 15 rfl (by kernel_rfl) (by kernel_rfl) (by kernel_rfl) rfl rfl rfl (Qt_pick_f rfl rfl) ?_
                refine Aw_done (by kernel_rfl) ?_
                refine Shift.pull (.there (.there (.there (.there (.there .here))))) ?_
                refine Shift.rem (.there .here) ?_
                refine Shift.rem (.there .here) ?_
                refine Shift.rem (.there .here) ?_
                refine Shift.rem (.there .here) ?_
                refine Shift.rem (.there .here) ?_
                refine Shift.done ?_
                exact ⟨[(28, (sv v595)), (29, (.int .i64 ([p0, x549, x560].length : Int))), (30, (.int .i64 i762)), (59, (.bool (!(x948))))], ⟨rfl, rfl, rfl, rfl, trivial⟩, (!(x948)), rfl, rfl, H⟩
          rintro _ K976 _ hK977 ⟨t921, rfl, rfl, H⟩
          unfold M_law3_CasesOrders_J2 at H
          refine Cw_cond rfl ?_ ?_
          · intro h978
            have H := ift h978 H
            refine Cw_seq ?_
            refine Cw_region ?_
            refine Ow_q rfl rfl rfl (Qt_assign rfl) ?_
            refine Ow_nil ?_
            refine Cw_ret ?_
            obtain ey0 := inj1 H
            subst y0
            refine ⟨(by first | exact .inl rfl | exact .inr rfl), [(.bool false)], ⟨(.bool false), _, rfl, rfl, rfl⟩, ?_⟩
            refine Shift.rem .here ?_
            refine Shift.done ?_
            exact ⟨rfl, rfl⟩
          · intro h978
            have H := iff_ (btf h978) H
            refine Cw_skip ?_
            refine Cw_region ?_
            refine Ow_q rfl rfl rfl (Qt_arith (e := wI (i762 + 1)) rfl rfl rfl rfl) ?_
            refine Ow_q rfl rfl rfl (Qt_move rfl) ?_
            refine Ow_nil ?_
            refine Shift.done ?_
            exact ⟨[(28, (sv v595)), (29, (.int .i64 ([p0, x549, x560].length : Int))), (30, (.int .i64 (wI (i762 + 1))))], ⟨rfl, rfl, rfl, trivial⟩, _, Nat.lt_succ_self _, (wI (i762 + 1)), rfl, rfl, (hkk768 ▸ H)⟩
        · intro h770
          have h770 := dcd_f (h770)
          have H := iff_ h770 H
          refine Cw_exit ?_
          refine Shift.rem .here ?_
          refine Shift.done ?_
          exact ⟨[], trivial, rfl, rfl, H⟩
      rintro _ K979 _ hK980 ⟨rfl, rfl, H⟩
      unfold M_law3_CasesOrders_J1 at H
      refine Cw_seq ?_
      refine Cw_region ?_
      refine Ow_q rfl rfl rfl (Qt_assign rfl) ?_
      refine Ow_nil ?_
      refine Cw_ret ?_
      obtain ey0 := inj1 H
      subst y0
      refine ⟨(by first | exact .inl rfl | exact .inr rfl), [(.bool true)], ⟨(.bool true), _, rfl, rfl, rfl⟩, ?_⟩
      refine Shift.done ?_
      exact ⟨rfl, rfl⟩


end Go.Hx
