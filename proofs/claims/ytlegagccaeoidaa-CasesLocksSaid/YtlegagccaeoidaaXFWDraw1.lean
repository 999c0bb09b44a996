/- Printed by program. -/
import Derived.Test.YtlegagccaeoidaaXFM
import Derived.Test.YtlegagccaeoidaaXFWDraw
namespace Go.Hx
open Go Go.Proofs
set_option linter.unusedSimpArgs false
set_option linter.unusedVariables false
set_option maxRecDepth 10000
set_option maxHeartbeats 1000000 in
theorem c_M_draw_Codes_Select (bp0 : Nat) (p0 : Draw_Codes) (vp0_list : SV) (p1 : Config) (vp1_capacities : SV) (vp1_starts : SV) (p2 : Int) (y0 : Op) (z0_at_ : Int) (z0_value : Int) (H : M_draw_Codes_Select p0 p1 p2 = some (y0, z0_at_, z0_value)) (K : Kp) (G : List Ent) (hp0_list : Slr Ty.u8 K (sv vp0_list) p0.list) (hp1_capacities : Slr Ty.i64 K (sv vp1_capacities) p1.capacities) (hp1_starts : Slr Ty.u64 K (sv vp1_starts) p1.starts) :
    Fc Try.prog 25 #[(.pointer (some ((⟨bp0, 0, none⟩ : Addr).add 0))), (.agg (Config.cells p1 vp1_capacities vp1_starts).toArray), (.int .i64 p2)] K ((.blk bp0 60 (Draw_Codes.cells p0 vp0_list)) :: G) (fun v K' G' => ∃ (wy0_cases : SV) (wy0_draws : SV), v = (.agg (Op.cells y0 wy0_cases wy0_draws).toArray) ∧ (.blk bp0 60 (Draw_Codes.cells (Draw_Codes.mk p0.list z0_at_ z0_value) vp0_list)) :: G = G' ∧ Slr TyCase K' (sv wy0_cases) y0.cases ∧ Slr Ty.i64 K' (sv wy0_draws) y0.draws) := by
  refine Fc_body Try.func25 rfl Try.ntmps25 Try.results25 rfl ?_
  unfold M_draw_Codes_Select at H
  refine Cw_seq ?_
  refine Cw_region ?_
  refine Ow_cons rfl (OpW_box (cs := (Config.cells p1 vp1_capacities vp1_starts)) rfl rfl rfl (fun b241 => ?_))
  refine Ow_cons rfl (OpW_alloc (cs := (Op.cells (Op.mk 0 0 0 0 0 [] []) nilS nilS)) rfl rfl rfl rfl (fun b242 => ?_))
  refine Ow_nil ?_
  refine Cw_seq ?_
  refine Cw_region ?_
  refine Ow_q rfl rfl rfl (Qt_build (cs := (Op.cells (Op.mk 4 0 0 0 0 [] []) nilS nilS)) rfl rfl rfl rfl rfl rfl) ?_
  refine Ow_cons rfl (OpW_alloc (cs := (Op.cells (Op.mk 0 0 0 0 0 [] []) nilS nilS)) rfl rfl rfl rfl (fun b243 => ?_))
  refine Ow_cons rfl (OpW_store (vs := (Op.cells (Op.mk 4 0 0 0 0 [] []) nilS nilS)) (all' := (Op.cells (Op.mk 4 0 0 0 0 [] []) nilS nilS)) rfl rfl rfl rfl rfl .here rfl rfl rfl ?_)
  refine Ow_nil ?_
  refine Cw_join (fun env' K' G' => ∃ (i442 : Int) (i443 : Int) (v444 : SV) (l445 : List Case) (v447 : SV) (l448 : List Int), [(0, (.pointer (some ((⟨bp0, 0, none⟩ : Addr).add 0)))), (6, (.pointer (some ((⟨b242, 0, none⟩ : Addr).add 0)))), (7, (.pointer (some ((⟨b243, 0, none⟩ : Addr).add 0))))] = env' ∧ (.blk bp0 60 (Draw_Codes.cells (Draw_Codes.mk p0.list i442 i443) vp0_list)) :: (.blk b243 26 (Op.cells (Op.mk 4 0 0 0 0 l445 l448) v444 v447)) :: (.blk b242 26 (Op.cells (Op.mk 0 0 0 0 0 [] []) nilS nilS)) :: (.tok 56 3 [(sv v444)]) :: (.tok 3 1 [(sv v447)]) :: G = G' ∧ M_draw_Codes_Select_J1 p0 i442 i443 l445 l448 = some (y0, z0_at_, z0_value) ∧ Slr TyCase K' (sv v444) l445 ∧ Slr Ty.i64 K' (sv v447) l448) ?_ ?_
  · skip
    refine Cw_seq ?_
    refine Cw_region ?_
    refine Ow_q rfl rfl rfl (Qt_assign rfl) ?_
    refine Ow_nil ?_
    refine Cw_block ?_
    refine Cw_loopM (fun n648 env' K' G' => ∃ (i639 : Int) (i640 : Int) (i641 : Int) (v642 : SV) (l643 : List Case) (v645 : SV) (l646 : List Int), [(0, (.pointer (some ((⟨bp0, 0, none⟩ : Addr).add 0)))), (2, (.int .i64 p2)), (4, (.pointer (some ((⟨b241, 0, none⟩ : Addr).add 0)))), (6, (.pointer (some ((⟨b242, 0, none⟩ : Addr).add 0)))), (7, (.pointer (some ((⟨b243, 0, none⟩ : Addr).add 0)))), (8, (.int .i64 i639))] = env' ∧ (.blk bp0 60 (Draw_Codes.cells (Draw_Codes.mk p0.list i640 i641) vp0_list)) :: (.blk b243 26 (Op.cells (Op.mk 4 0 0 0 0 l643 l646) v642 v645)) :: (.blk b242 26 (Op.cells (Op.mk 0 0 0 0 0 [] []) nilS nilS)) :: (.blk b241 34 (Config.cells p1 vp1_capacities vp1_starts)) :: (.tok 56 3 [(sv v642)]) :: (.tok 3 1 [(sv v645)]) :: G = G' ∧ lp5 (M_draw_Codes_Select_L1 p2 p0 p1) n648 i639 i640 i641 l643 l646 = some (y0, z0_at_, z0_value) ∧ Slr TyCase K' (sv v642) l643 ∧ Slr Ty.i64 K' (sv v645) l646) BIG ?_ ?_
    · skip
      refine Shift.nilTok1 56 3 ?_
      refine Shift.nilTok1 3 1 ?_
      refine Shift.pull (.there .here) ?_
      refine Shift.pull (.there (.there (.there (.there .here)))) ?_
      refine Shift.pull (.there (.there (.there (.there .here)))) ?_
      refine Shift.pull (.there (.there (.there (.there .here)))) ?_
      refine Shift.pull (.there (.there (.there (.there (.there .here))))) ?_
      refine Shift.done ?_
      exact ⟨[(0, (.pointer (some ((⟨bp0, 0, none⟩ : Addr).add 0)))), (2, (.int .i64 p2)), (4, (.pointer (some ((⟨b241, 0, none⟩ : Addr).add 0)))), (6, (.pointer (some ((⟨b242, 0, none⟩ : Addr).add 0)))), (7, (.pointer (some ((⟨b243, 0, none⟩ : Addr).add 0)))), (8, (.int .i64 0))], ⟨rfl, rfl, rfl, rfl, rfl, rfl, trivial⟩, 0, p0.at_, p0.value, nilS, ([] : List Case), nilS, ([] : List Int), rfl, rfl, H, (Slr.nil TyCase _), (Slr.nil Ty.i64 _)⟩
    rintro n648 _ K649 _ hK650 ⟨i639, i640, i641, v642, l643, v645, l646, rfl, rfl, H, hs644, hs647⟩
    obtain ⟨m651, k652, rfl, hkk653, H⟩ := lps5 H
    unfold M_draw_Codes_Select_L1 at H
    refine Cw_seq ?_
    refine Cw_seq ?_
    refine Cw_region ?_
    refine Ow_q rfl rfl rfl (Qt_move rfl) ?_
    refine Ow_q rfl rfl rfl (Qt_move rfl) ?_
    refine Ow_q rfl rfl rfl (Qt_move rfl) ?_
    refine Ow_q rfl rfl rfl (Qt_arith (e := wI (p2 + 1)) rfl rfl rfl rfl) ?_
    obtain ⟨x659, x660, hx661, H⟩ := bnd2 H
    have hs662 := (hp0_list).mono hK650
    refine Ow_cons rfl (OpW_call rfl Try.call29 rfl rfl (c_M_draw_Codes_Next bp0 (Draw_Codes.mk p0.list i640 i641) vp0_list (wI (p2 + 1)) x659 x660 hx661 _ _ hs662) ?_)
    rintro _ _ _ - ⟨rfl, rfl, rfl⟩
    refine Ow_q rfl rfl rfl (Qt_cmp rfl rfl rfl) ?_
    refine Ow_nil ?_
    refine Cw_cond rfl ?_ ?_
    · intro h663
      have h663 := dcd_t (h663)
      have H := ift h663 H
      refine Cw_skip ?_
      refine Cw_join (fun env' K' G' => ∃ (i739 : Int) (i740 : Int) (v741 : SV) (l742 : List Case) (v744 : SV) (l745 : List Int), [(0, (.pointer (some ((⟨bp0, 0, none⟩ : Addr).add 0)))), (2, (.int .i64 p2)), (4, (.pointer (some ((⟨b241, 0, none⟩ : Addr).add 0)))), (6, (.pointer (some ((⟨b242, 0, none⟩ : Addr).add 0)))), (7, (.pointer (some ((⟨b243, 0, none⟩ : Addr).add 0)))), (8, (.int .i64 i639))] = env' ∧ (.blk bp0 60 (Draw_Codes.cells (Draw_Codes.mk p0.list i739 i740) vp0_list)) :: (.blk b243 26 (Op.cells (Op.mk 4 0 0 0 0 l742 l745) v741 v744)) :: (.blk b242 26 (Op.cells (Op.mk 0 0 0 0 0 [] []) nilS nilS)) :: (.blk b241 34 (Config.cells p1 vp1_capacities vp1_starts)) :: (.tok 56 3 [(sv v741)]) :: (.tok 3 1 [(sv v744)]) :: G = G' ∧ M_draw_Codes_Select_J2 p2 i639 p0 p1 k652 i739 i740 l742 l745 = some (y0, z0_at_, z0_value) ∧ Slr TyCase K' (sv v741) l742 ∧ Slr Ty.i64 K' (sv v744) l745) ?_ ?_
      · skip
        refine Cw_block ?_
        refine Cw_join (fun env' K' G' => ∃ (b766 : Nat) (i767 : Int) (i768 : Int) (t769 : Bool) (i770 : Int), [(0, (.pointer (some ((⟨bp0, 0, none⟩ : Addr).add 0)))), (2, (.int .i64 p2)), (4, (.pointer (some ((⟨b241, 0, none⟩ : Addr).add 0)))), (6, (.pointer (some ((⟨b242, 0, none⟩ : Addr).add 0)))), (7, (.pointer (some ((⟨b243, 0, none⟩ : Addr).add 0)))), (8, (.int .i64 i639)), (9, (.pointer (some ((⟨b766, 0, none⟩ : Addr).add 0))))] = env' ∧ K649 = K' ∧ (.blk bp0 60 (Draw_Codes.cells (Draw_Codes.mk p0.list i767 i768) vp0_list)) :: (.blk b766 56 (Case.cells (Case.mk t769 i770 0))) :: (.blk b243 26 (Op.cells (Op.mk 4 0 0 0 0 l643 l646) v642 v645)) :: (.blk b242 26 (Op.cells (Op.mk 0 0 0 0 0 [] []) nilS nilS)) :: (.blk b241 34 (Config.cells p1 vp1_capacities vp1_starts)) :: (.tok 56 3 [(sv v642)]) :: (.tok 3 1 [(sv v645)]) :: G = G' ∧ M_draw_Codes_Select_J3 p2 i639 p0 l643 l646 p1 k652 i767 i768 t769 i770 = some (y0, z0_at_, z0_value)) ?_ ?_
        · skip
          obtain ⟨x771, x772, hx773, H⟩ := bnd2 H
          obtain ⟨x774, x775, x776, hx777, H⟩ := bnd3 H
          refine Cw_region_any [.blk b243 26 (Op.cells (Op.mk 4 0 0 0 0 l643 l646) v642 v645), .blk b242 26 (Op.cells (Op.mk 0 0 0 0 0 [] []) nilS nilS), .blk b241 34 (Config.cells p1 vp1_capacities vp1_starts), .tok 56 3 [(sv v642)], .tok 3 1 [(sv v645)]] rfl (Inc.cons (.tail _ (.head _)) (Inc.cons (.tail _ (.tail _ (.head _))) (Inc.cons (.tail _ (.tail _ (.tail _ (.head _)))) (Inc.cons (.tail _ (.tail _ (.tail _ (.tail _ (.head _))))) (Inc.cons (.tail _ (.tail _ (.tail _ (.tail _ (.tail _ (.head _)))))) Inc.nil))))) ?_
          refine Aw_q 0 rfl (by kernel_rfl) (by kernel_rfl) (by kernel_rfl) rfl rfl rfl (Qt_move rfl) ?_
          refine Aw_q 3 rfl (by kernel_rfl) (by kernel_rfl) (by kernel_rfl) rfl rfl rfl (Qt_move rfl) ?_
          refine Aw_q 4 rfl (by kernel_rfl) (by kernel_rfl) (by kernel_rfl) rfl rfl rfl (Qt_loadA (m := 3) (cs := (Config.cells p1 vp1_capacities vp1_starts)) rfl rfl rfl rfl ⟨rfl, Rdc.blk (.tail _ (.tail _ (.head _))) rfl⟩) ?_
          refine Aw_two 1 7 (by kernel_rfl) ?_ ?_
          · skip
            refine id (Ax_mk rfl rfl ?_)
            refine OpW_call rfl Try.call29 rfl rfl (c_M_draw_Codes_Next bp0 (Draw_Codes.mk p0.list x660 ((Draw_Codes.mk p0.list i640 i641).value)) vp0_list 2 x771 x772 hx773 _ _ hs662) ?_
            rintro _ _ _ - ⟨rfl, rfl, rfl⟩
            refine ⟨(Inc.cons (.tail _ (.head _)) (Inc.cons (.tail _ (.tail _ (.head _))) (Inc.cons (.tail _ (.tail _ (.tail _ (.head _)))) (Inc.cons (.tail _ (.tail _ (.tail _ (.tail _ (.head _))))) (Inc.cons (.tail _ (.tail _ (.tail _ (.tail _ (.tail _ (.head _)))))) Inc.nil))))), ?_⟩
            refine Aw_q 2 rfl (by kernel_rfl) (by kernel_rfl) (by kernel_rfl) rfl rfl rfl (Qt_cmp rfl rfl rfl) ?_
            refine Aw_two 5 7 (by kernel_rfl) ?_ ?_
            · skip
              refine id (Ax_mk rfl rfl ?_)
              have hs781 := (hp1_capacities).mono hK650
              have hs782 := (hp1_starts).mono hK650
              refine OpW_call rfl Try.call31 rfl rfl (c_M_draw_Codes_channel bp0 (Draw_Codes.mk p0.list x772 ((Draw_Codes.mk p0.list x660 ((Draw_Codes.mk p0.list i640 i641).value)).value)) vp0_list p1 vp1_capacities vp1_starts x774 x775 x776 hx777 _ _ hs662 hs781 hs782) ?_
              rintro _ _ _ - ⟨rfl, rfl, rfl⟩
              refine ⟨(Inc.cons (.tail _ (.head _)) (Inc.cons (.tail _ (.tail _ (.head _))) (Inc.cons (.tail _ (.tail _ (.tail _ (.head _)))) (Inc.cons (.tail _ (.tail _ (.tail _ (.tail _ (.head _))))) (Inc.cons (.tail _ (.tail _ (.tail _ (.tail _ (.tail _ (.head _)))))) Inc.nil))))), ?_⟩
              refine Aw_q 6 rfl (by kernel_rfl) (by kernel_rfl) (by kernel_rfl) rfl rfl rfl (Qt_build (cs := (Case.cells (Case.mk (dcd (x771 = 1)) x774 0))) rfl rfl rfl rfl rfl rfl) ?_
              refine Aw_one 7 (by kernel_rfl) (Ax_mk rfl rfl ?_)
              refine OpW_alloc (cs := (Case.cells (Case.mk false 0 0))) rfl rfl rfl rfl (fun b783 => ⟨(Inc.cons (.tail _ (.tail _ (.head _))) (Inc.cons (.tail _ (.tail _ (.tail _ (.head _)))) (Inc.cons (.tail _ (.tail _ (.tail _ (.tail _ (.head _))))) (Inc.cons (.tail _ (.tail _ (.tail _ (.tail _ (.tail _ (.head _)))))) (Inc.cons (.tail _ (.tail _ (.tail _ (.tail _ (.tail _ (.tail _ (.head _))))))) Inc.nil))))), ?_⟩)
              refine Aw_one 8 (by kernel_rfl) (Ax_mk rfl rfl ?_)
              refine OpW_store (vs := (Case.cells (Case.mk (dcd (x771 = 1)) x774 0))) (all' := (Case.cells (Case.mk (dcd (x771 = 1)) x774 0))) rfl rfl rfl rfl rfl .here rfl rfl rfl ⟨(Inc.cons (.tail _ (.tail _ (.head _))) (Inc.cons (.tail _ (.tail _ (.tail _ (.head _)))) (Inc.cons (.tail _ (.tail _ (.tail _ (.tail _ (.head _))))) (Inc.cons (.tail _ (.tail _ (.tail _ (.tail _ (.tail _ (.head _)))))) (Inc.cons (.tail _ (.tail _ (.tail _ (.tail _ (.tail _ (.tail _ (.head _))))))) Inc.nil))))), ?_⟩
              refine Aw_done (by kernel_rfl) ?_
              refine Shift.pull (.there (.there (.there (.there (.there (.there .here)))))) ?_
              refine Shift.pull (.there (.there (.there (.there (.there (.there .here)))))) ?_
              refine Shift.pull (.there (.there (.there (.there (.there (.there .here)))))) ?_
              refine Shift.pull (.there (.there (.there (.there (.there (.there .here)))))) ?_
              refine Shift.pull (.there (.there (.there (.there (.there (.there .here)))))) ?_
              refine Shift.pull (.there (.there (.there (.there (.there .here))))) ?_
              refine Shift.pull (.there (.there (.there (.there (.there (.there .here)))))) ?_
              refine Shift.done ?_
              exact ⟨[(0, (.pointer (some ((⟨bp0, 0, none⟩ : Addr).add 0)))), (2, (.int .i64 p2)), (4, (.pointer (some ((⟨b241, 0, none⟩ : Addr).add 0)))), (6, (.pointer (some ((⟨b242, 0, none⟩ : Addr).add 0)))), (7, (.pointer (some ((⟨b243, 0, none⟩ : Addr).add 0)))), (8, (.int .i64 i639)), (9, (.pointer (some ((⟨b783, 0, none⟩ : Addr).add 0))))], ⟨rfl, rfl, rfl, rfl, rfl, rfl, rfl, trivial⟩, b783, x775, x776, (dcd (x771 = 1)), x774, rfl, rfl, rfl, H⟩
            · skip
              refine id (Ax_mk rfl rfl ?_)
              refine OpW_alloc (cs := (Case.cells (Case.mk false 0 0))) rfl rfl rfl rfl (fun b784 => ⟨(Inc.cons (.tail _ (.tail _ (.head _))) (Inc.cons (.tail _ (.tail _ (.tail _ (.head _)))) (Inc.cons (.tail _ (.tail _ (.tail _ (.tail _ (.head _))))) (Inc.cons (.tail _ (.tail _ (.tail _ (.tail _ (.tail _ (.head _)))))) (Inc.cons (.tail _ (.tail _ (.tail _ (.tail _ (.tail _ (.tail _ (.head _))))))) Inc.nil))))), ?_⟩)
              refine Aw_one 5 (by kernel_rfl) (Ax_mk rfl rfl ?_)
              refine OpW.shift (Shift.pull (.there .here) (Shift.done ?_))
              have hs785 := (hp1_capacities).mono hK650
              have hs786 := (hp1_starts).mono hK650
              refine OpW_call rfl Try.call31 rfl rfl (c_M_draw_Codes_channel bp0 (Draw_Codes.mk p0.list x772 ((Draw_Codes.mk p0.list x660 ((Draw_Codes.mk p0.list i640 i641).value)).value)) vp0_list p1 vp1_capacities vp1_starts x774 x775 x776 hx777 _ _ hs662 hs785 hs786) ?_
              rintro _ _ _ - ⟨rfl, rfl, rfl⟩
              refine ⟨(Inc.cons (.tail _ (.tail _ (.head _))) (Inc.cons (.tail _ (.tail _ (.tail _ (.head _)))) (Inc.cons (.tail _ (.tail _ (.tail _ (.tail _ (.head _))))) (Inc.cons (.tail _ (.tail _ (.tail _ (.tail _ (.tail _ (.head _)))))) (Inc.cons (.tail _ (.tail _ (.tail _ (.tail _ (.tail _ (.tail _ (.head _))))))) Inc.nil))))), ?_⟩
              refine Aw_q 6 rfl (by kernel_rfl) (by kernel_rfl) (by kernel_rfl) rfl rfl rfl (Qt_build (cs := (Case.cells (Case.mk (dcd (x771 = 1)) x774 0))) rfl rfl rfl rfl rfl rfl) ?_
              refine Aw_one 8 (by kernel_rfl) (Ax_mk rfl rfl ?_)
              refine OpW_store (vs := (Case.cells (Case.mk (dcd (x771 = 1)) x774 0))) (all' := (Case.cells (Case.mk (dcd (x771 = 1)) x774 0))) rfl rfl rfl rfl rfl (.there .here) rfl rfl rfl ⟨(Inc.cons (.tail _ (.tail _ (.head _))) (Inc.cons (.tail _ (.tail _ (.tail _ (.head _)))) (Inc.cons (.tail _ (.tail _ (.tail _ (.tail _ (.head _))))) (Inc.cons (.tail _ (.tail _ (.tail _ (.tail _ (.tail _ (.head _)))))) (Inc.cons (.tail _ (.tail _ (.tail _ (.tail _ (.tail _ (.tail _ (.head _))))))) Inc.nil))))), ?_⟩
              refine Aw_done (by kernel_rfl) ?_
              refine Shift.pull (.there (.there (.there (.there (.there (.there .here)))))) ?_
              refine Shift.pull (.there (.there (.there (.there (.there (.there .here)))))) ?_
              refine Shift.pull (.there (.there (.there (.there (.there (.there .here)))))) ?_
              refine Shift.pull (.there (.there (.there (.there (.there (.there .here)))))) ?_
              refine Shift.pull (.there (.there (.there (.there (.there (.there .here)))))) ?_
              refine Shift.pull (.there (.there (.there (.there (.there (.there .here)))))) ?_
              refine Shift.pull (.there (.there (.there (.there (.there (.there .here)))))) ?_
              refine Shift.done ?_
              exact ⟨[(0, (.pointer (some ((⟨bp0, 0, none⟩ : Addr).add 0)))), (2, (.int .i64 p2)), (4, (.pointer (some ((⟨b241, 0, none⟩ : Addr).add 0)))), (6, (.pointer (some ((⟨b242, 0, none⟩ : Addr).add 0)))), (7, (.pointer (some ((⟨b243, 0, none⟩ : Addr).add 0)))), (8, (.int .i64 i639)), (9, (.pointer (some ((⟨b784, 0, none⟩ : Addr).add 0))))], ⟨rfl, rfl, rfl, rfl, rfl, rfl, rfl, trivial⟩, b784, x775, x776, (dcd (x771 = 1)), x774, rfl, rfl, rfl, H⟩
          · skip
            refine id (Ax_mk rfl rfl ?_)
            refine OpW_alloc (cs := (Case.cells (Case.mk false 0 0))) rfl rfl rfl rfl (fun b787 => ⟨(Inc.cons (.tail _ (.tail _ (.head _))) (Inc.cons (.tail _ (.tail _ (.tail _ (.head _)))) (Inc.cons (.tail _ (.tail _ (.tail _ (.tail _ (.head _))))) (Inc.cons (.tail _ (.tail _ (.tail _ (.tail _ (.tail _ (.head _)))))) (Inc.cons (.tail _ (.tail _ (.tail _ (.tail _ (.tail _ (.tail _ (.head _))))))) Inc.nil))))), ?_⟩)
            refine Aw_one 1 (by kernel_rfl) (Ax_mk rfl rfl ?_)
            refine OpW.shift (Shift.pull (.there .here) (Shift.done ?_))
            refine OpW_call rfl Try.call29 rfl rfl (c_M_draw_Codes_Next bp0 (Draw_Codes.mk p0.list x660 ((Draw_Codes.mk p0.list i640 i641).value)) vp0_list 2 x771 x772 hx773 _ _ hs662) ?_
            rintro _ _ _ - ⟨rfl, rfl, rfl⟩
            refine ⟨(Inc.cons (.tail _ (.tail _ (.head _))) (Inc.cons (.tail _ (.tail _ (.tail _ (.head _)))) (Inc.cons (.tail _ (.tail _ (.tail _ (.tail _ (.head _))))) (Inc.cons (.tail _ (.tail _ (.tail _ (.tail _ (.tail _ (.head _)))))) (Inc.cons (.tail _ (.tail _ (.tail _ (.tail _ (.tail _ (.tail _ (.head _))))))) Inc.nil))))), ?_⟩
            refine Aw_q 2 rfl (by kernel_rfl) (by kernel_rfl) (by kernel_rfl) rfl rfl rfl (Qt_cmp rfl rfl rfl) ?_
            refine Aw_one 5 (by kernel_rfl) (Ax_mk rfl rfl ?_)
            have hs788 := (hp1_capacities).mono hK650
            have hs789 := (hp1_starts).mono hK650
            refine OpW_call rfl Try.call31 rfl rfl (c_M_draw_Codes_channel bp0 (Draw_Codes.mk p0.list x772 ((Draw_Codes.mk p0.list x660 ((Draw_Codes.mk p0.list i640 i641).value)).value)) vp0_list p1 vp1_capacities vp1_starts x774 x775 x776 hx777 _ _ hs662 hs788 hs789) ?_
            rintro _ _ _ - ⟨rfl, rfl, rfl⟩
            refine ⟨(Inc.cons (.tail _ (.tail _ (.head _))) (Inc.cons (.tail _ (.tail _ (.tail _ (.head _)))) (Inc.cons (.tail _ (.tail _ (.tail _ (.tail _ (.head _))))) (Inc.cons (.tail _ (.tail _ (.tail _ (.tail _ (.tail _ (.head _)))))) (Inc.cons (.tail _ (.tail _ (.tail _ (.tail _ (.tail _ (.tail _ (.head _))))))) Inc.nil))))), ?_⟩
            refine Aw_q 6 rfl (by kernel_rfl) (by kernel_rfl) (by kernel_rfl) rfl rfl rfl (Qt_build (cs := (Case.cells (Case.mk (dcd (x771 = 1)) x774 0))) rfl rfl rfl rfl rfl rfl) ?_
            refine Aw_one 8 (by kernel_rfl) (Ax_mk rfl rfl ?_)
            refine OpW_store (vs := (Case.cells (Case.mk (dcd (x771 = 1)) x774 0))) (all' := (Case.cells (Case.mk (dcd (x771 = 1)) x774 0))) rfl rfl rfl rfl rfl (.there .here) rfl rfl rfl ⟨(Inc.cons (.tail _ (.tail _ (.head _))) (Inc.cons (.tail _ (.tail _ (.tail _ (.head _)))) (Inc.cons (.tail _ (.tail _ (.tail _ (.tail _ (.head _))))) (Inc.cons (.tail _ (.tail _ (.tail _ (.tail _ (.tail _ (.head _)))))) (Inc.cons (.tail _ (.tail _ (.tail _ (.tail _ (.tail _ (.tail _ (.head _))))))) Inc.nil))))), ?_⟩
            refine Aw_done (by kernel_rfl) ?_
            refine Shift.pull (.there (.there (.there (.there (.there (.there .here)))))) ?_
            refine Shift.pull (.there (.there (.there (.there (.there (.there .here)))))) ?_
            refine Shift.pull (.there (.there (.there (.there (.there (.there .here)))))) ?_
            refine Shift.pull (.there (.there (.there (.there (.there (.there .here)))))) ?_
            refine Shift.pull (.there (.there (.there (.there (.there (.there .here)))))) ?_
            refine Shift.pull (.there (.there (.there (.there (.there (.there .here)))))) ?_
            refine Shift.pull (.there (.there (.there (.there (.there (.there .here)))))) ?_
            refine Shift.done ?_
            exact ⟨[(0, (.pointer (some ((⟨bp0, 0, none⟩ : Addr).add 0)))), (2, (.int .i64 p2)), (4, (.pointer (some ((⟨b241, 0, none⟩ : Addr).add 0)))), (6, (.pointer (some ((⟨b242, 0, none⟩ : Addr).add 0)))), (7, (.pointer (some ((⟨b243, 0, none⟩ : Addr).add 0)))), (8, (.int .i64 i639)), (9, (.pointer (some ((⟨b787, 0, none⟩ : Addr).add 0))))], ⟨rfl, rfl, rfl, rfl, rfl, rfl, rfl, trivial⟩, b787, x775, x776, (dcd (x771 = 1)), x774, rfl, rfl, rfl, H⟩
        rintro _ _ _ - ⟨b766, i767, i768, t769, i770, rfl, rfl, rfl, H⟩
        unfold M_draw_Codes_Select_J3 at H
        refine Cw_join (fun env' K' G' => ∃ (i794 : Int) (i795 : Int) (i796 : Int), [(0, (.pointer (some ((⟨bp0, 0, none⟩ : Addr).add 0)))), (2, (.int .i64 p2)), (4, (.pointer (some ((⟨b241, 0, none⟩ : Addr).add 0)))), (6, (.pointer (some ((⟨b242, 0, none⟩ : Addr).add 0)))), (7, (.pointer (some ((⟨b243, 0, none⟩ : Addr).add 0)))), (8, (.int .i64 i639)), (9, (.pointer (some ((⟨b766, 0, none⟩ : Addr).add 0))))] = env' ∧ K649 = K' ∧ (.blk bp0 60 (Draw_Codes.cells (Draw_Codes.mk p0.list i794 i795) vp0_list)) :: (.blk b766 56 (Case.cells (Case.mk t769 i770 i796))) :: (.blk b243 26 (Op.cells (Op.mk 4 0 0 0 0 l643 l646) v642 v645)) :: (.blk b242 26 (Op.cells (Op.mk 0 0 0 0 0 [] []) nilS nilS)) :: (.blk b241 34 (Config.cells p1 vp1_capacities vp1_starts)) :: (.tok 56 3 [(sv v642)]) :: (.tok 3 1 [(sv v645)]) :: G = G' ∧ M_draw_Codes_Select_J4 p2 i639 p0 t769 i770 l643 l646 p1 k652 i794 i795 i796 = some (y0, z0_at_, z0_value)) ?_ ?_
        · skip
          refine Cw_seq ?_
          refine Cw_region ?_
          refine Ow_q rfl rfl rfl (Qt_fieldAddr (m := 0) rfl rfl rfl rfl rfl) ?_
          refine Ow_q rfl rfl rfl (Qt_load1 (v := (.bool t769)) rfl rfl rfl (Rdc.blk (.tail _ (.head _)) rfl)) ?_
          refine Ow_nil ?_
          refine Cw_cond rfl ?_ ?_
          · intro h797
            have H := ift h797 H
            refine Cw_region ?_
            refine Ow_q rfl rfl rfl (Qt_move rfl) ?_
            obtain ⟨x798, x799, hx800, H⟩ := bnd2 H
            refine Ow_cons rfl (OpW_call rfl Try.call32 rfl rfl (c_M_draw_Codes_Value bp0 (Draw_Codes.mk p0.list i767 i768) vp0_list x798 x799 hx800 _ _ hs662) ?_)
            rintro _ _ _ - ⟨rfl, rfl, rfl⟩
            refine Ow_q rfl rfl rfl (Qt_fieldAddr (m := 2) rfl rfl rfl rfl rfl) ?_
            refine Ow_cons rfl (OpW_store (vs := [(.int .u64 x798)]) (all' := (Case.cells (Case.mk t769 i770 x798))) rfl rfl rfl rfl rfl (.there .here) rfl rfl rfl ?_)
            refine Ow_nil ?_
            refine Shift.pull (.there (.there (.there (.there (.there (.there .here)))))) ?_
            refine Shift.pull (.there (.there (.there (.there (.there (.there .here)))))) ?_
            refine Shift.pull (.there (.there (.there (.there (.there (.there .here)))))) ?_
            refine Shift.pull (.there (.there (.there (.there (.there (.there .here)))))) ?_
            refine Shift.pull (.there (.there (.there (.there (.there (.there .here)))))) ?_
            refine Shift.pull (.there (.there (.there (.there (.there (.there .here)))))) ?_
            refine Shift.pull (.there (.there (.there (.there (.there (.there .here)))))) ?_
            refine Shift.done ?_
            exact ⟨[(0, (.pointer (some ((⟨bp0, 0, none⟩ : Addr).add 0)))), (2, (.int .i64 p2)), (4, (.pointer (some ((⟨b241, 0, none⟩ : Addr).add 0)))), (6, (.pointer (some ((⟨b242, 0, none⟩ : Addr).add 0)))), (7, (.pointer (some ((⟨b243, 0, none⟩ : Addr).add 0)))), (8, (.int .i64 i639)), (9, (.pointer (some ((⟨b766, 0, none⟩ : Addr).add 0))))], ⟨rfl, rfl, rfl, rfl, rfl, rfl, rfl, trivial⟩, ((Draw_Codes.mk p0.list i767 i768).at_), x799, x798, rfl, rfl, rfl, H⟩
          · intro h797
            have H := iff_ (btf h797) H
            refine Cw_skip ?_
            refine Shift.pull (.there (.there (.there (.there (.there (.there .here)))))) ?_
            refine Shift.pull (.there (.there (.there (.there (.there (.there .here)))))) ?_
            refine Shift.pull (.there (.there (.there (.there (.there (.there .here)))))) ?_
            refine Shift.pull (.there (.there (.there (.there (.there (.there .here)))))) ?_
            refine Shift.pull (.there (.there (.there (.there (.there (.there .here)))))) ?_
            refine Shift.pull (.there (.there (.there (.there (.there (.there .here)))))) ?_
            refine Shift.pull (.there (.there (.there (.there (.there (.there .here)))))) ?_
            refine Shift.done ?_
            exact ⟨[(0, (.pointer (some ((⟨bp0, 0, none⟩ : Addr).add 0)))), (2, (.int .i64 p2)), (4, (.pointer (some ((⟨b241, 0, none⟩ : Addr).add 0)))), (6, (.pointer (some ((⟨b242, 0, none⟩ : Addr).add 0)))), (7, (.pointer (some ((⟨b243, 0, none⟩ : Addr).add 0)))), (8, (.int .i64 i639)), (9, (.pointer (some ((⟨b766, 0, none⟩ : Addr).add 0))))], ⟨rfl, rfl, rfl, rfl, rfl, rfl, rfl, trivial⟩, i767, i768, 0, rfl, rfl, rfl, H⟩
        rintro _ _ _ - ⟨i794, i795, i796, rfl, rfl, rfl, H⟩
        unfold M_draw_Codes_Select_J4 at H
        refine Cw_seq ?_
        refine Cw_region ?_
        refine Ow_q rfl rfl rfl (Qt_fieldAddr (m := 5) rfl rfl rfl rfl rfl) ?_
        refine Ow_q rfl rfl rfl (Qt_load1 (v := (sv v642)) rfl rfl rfl (Rdc.blk (.tail _ (.tail _ (.head _))) rfl)) ?_
        refine Ow_q rfl rfl rfl (Qt_loadA (m := 3) (cs := (Case.cells (Case.mk t769 i770 i796))) rfl rfl rfl rfl ⟨rfl, Rdc.blk (.tail _ (.head _)) rfl⟩) ?_
        have hR802 : RowR TyCase K649 [(Case.cells (Case.mk t769 i770 i796))] [(Case.mk t769 i770 i796)] := RowR.cons rfl (RowR.nil)
        refine Ow_cons rfl (O_lit (T := TyCase) (rows := [(Case.cells (Case.mk t769 i770 i796))]) (l := [(Case.mk t769 i770 i796)]) rfl rfl rfl hR802 rfl rfl rfl rfl rfl rfl rfl rfl (fun v801 => ?_))
        obtain ⟨x803, hx804, H⟩ := bnd H
        refine Ow_cons rfl (O_appTok (T := TyCase) (bytes := 24) (q := 0) rfl rfl rfl hs644 (.tail _ (.tail _ (.tail _ (.tail _ (.tail _ (.tail _ (.head _))))))) rfl (SrcT.row (.head _) hR802 rfl) hx804 rfl rfl rfl rfl rfl rfl rfl rfl (fun v805 K806 hK807 hs808 => ⟨_, (.there (.there (.there (.there (.there (.there .here)))))), ?_⟩))
        refine Ow.shift (Shift.rem .here (Shift.done ?_))
        refine Ow_q rfl rfl rfl (Qt_fieldAddr (m := 5) rfl rfl rfl rfl rfl) ?_
        refine Ow_cons rfl (OpW_store (vs := [(sv v805)]) (all' := (Op.cells (Op.mk 4 0 0 0 0 x803 l646) v805 v645)) rfl rfl rfl rfl rfl (.there (.there .here)) rfl rfl rfl ?_)
        refine Ow_nil ?_
        obtain ⟨x809, x810, hx811, H⟩ := bnd2 H
        obtain ⟨x815, hx816, H⟩ := bnd H
        refine Cw_region_any [.blk b766 56 (Case.cells (Case.mk t769 i770 i796)), .blk b242 26 (Op.cells (Op.mk 0 0 0 0 0 [] []) nilS nilS), .blk b241 34 (Config.cells p1 vp1_capacities vp1_starts), .tok 56 3 [(sv v805)]] rfl (Inc.cons (.tail _ (.head _)) (Inc.cons (.tail _ (.tail _ (.tail _ (.head _)))) (Inc.cons (.tail _ (.tail _ (.tail _ (.tail _ (.head _))))) (Inc.cons (.tail _ (.tail _ (.tail _ (.tail _ (.tail _ (.head _)))))) Inc.nil)))) ?_
        refine Aw_q 0 rfl (by kernel_rfl) (by kernel_rfl) (by kernel_rfl) rfl rfl rfl (Qt_fieldAddr (m := 6) rfl rfl rfl rfl rfl) ?_
        refine Aw_q 2 rfl (by kernel_rfl) (by kernel_rfl) (by kernel_rfl) rfl rfl rfl (Qt_move rfl) ?_
        refine Aw_q 3 rfl (by kernel_rfl) (by kernel_rfl) (by kernel_rfl) rfl rfl rfl (Qt_move rfl) ?_
        refine Aw_q 4 rfl (by kernel_rfl) (by kernel_rfl) (by kernel_rfl) rfl rfl rfl (Qt_arith (e := wI (i639 + 1)) rfl rfl rfl rfl) ?_
        refine Aw_two 1 5 (by kernel_rfl) ?_ ?_
        · skip
          refine id (Ax_mk rfl rfl (OpW_of_Qt rfl rfl (Qt_load1 (v := (sv v645)) rfl rfl rfl (Rdc.blk (.tail _ (.tail _ (.head _))) rfl)) ⟨(Inc.cons (.tail _ (.head _)) (Inc.cons (.tail _ (.tail _ (.tail _ (.head _)))) (Inc.cons (.tail _ (.tail _ (.tail _ (.tail _ (.head _))))) (Inc.cons (.tail _ (.tail _ (.tail _ (.tail _ (.tail _ (.head _)))))) Inc.nil)))), ?_⟩))
          refine Aw_one 5 (by kernel_rfl) (Ax_mk rfl rfl ?_)
          have hs822 := (hs662).mono hK807
          refine OpW_call rfl Try.call29 rfl rfl (c_M_draw_Codes_Next bp0 (Draw_Codes.mk p0.list i794 i795) vp0_list (wI (i639 + 1)) x809 x810 hx811 _ _ hs822) ?_
          rintro _ _ _ - ⟨rfl, rfl, rfl⟩
          refine ⟨(Inc.cons (.tail _ (.head _)) (Inc.cons (.tail _ (.tail _ (.tail _ (.head _)))) (Inc.cons (.tail _ (.tail _ (.tail _ (.tail _ (.head _))))) (Inc.cons (.tail _ (.tail _ (.tail _ (.tail _ (.tail _ (.head _)))))) Inc.nil)))), ?_⟩
          refine Aw_one 6 (by kernel_rfl) (Ax_mk rfl rfl ?_)
          have hR824 : RowR Ty.i64 K806 [[(.int .i64 x809)]] [x809] := RowR.cons rfl (RowR.nil)
          refine O_lit (T := Ty.i64) (rows := [[(.int .i64 x809)]]) (l := [x809]) rfl rfl rfl hR824 rfl rfl rfl rfl rfl rfl rfl rfl (fun v823 => ⟨(Inc.cons (.tail _ (.tail _ (.head _))) (Inc.cons (.tail _ (.tail _ (.tail _ (.tail _ (.head _))))) (Inc.cons (.tail _ (.tail _ (.tail _ (.tail _ (.tail _ (.head _)))))) (Inc.cons (.tail _ (.tail _ (.tail _ (.tail _ (.tail _ (.tail _ (.head _))))))) Inc.nil)))), ?_⟩)
          refine Aw_one 7 (by kernel_rfl) (Ax_mk rfl rfl ?_)
          have hs829 := (hs647).mono hK807
          refine O_appTok (T := Ty.i64) (bytes := 8) (q := 0) rfl rfl rfl hs829 (.tail _ (.tail _ (.tail _ (.tail _ (.tail _ (.tail _ (.tail _ (.head _)))))))) rfl (SrcT.row (.head _) hR824 rfl) hx816 rfl rfl rfl rfl rfl rfl rfl rfl (fun v825 K826 hK827 hs828 => ⟨_, (.there (.there (.there (.there (.there (.there (.there .here))))))), ⟨(Inc.cons (.tail _ (.tail _ (.head _))) (Inc.cons (.tail _ (.tail _ (.tail _ (.tail _ (.head _))))) (Inc.cons (.tail _ (.tail _ (.tail _ (.tail _ (.tail _ (.head _)))))) (Inc.cons (.tail _ (.tail _ (.tail _ (.tail _ (.tail _ (.tail _ (.head _))))))) Inc.nil)))), ?_⟩⟩)
          refine Aw.shift (Shift.rem .here (Shift.done ⟨(Inc.cons (.tail _ (.head _)) (Inc.cons (.tail _ (.tail _ (.tail _ (.head _)))) (Inc.cons (.tail _ (.tail _ (.tail _ (.tail _ (.head _))))) (Inc.cons (.tail _ (.tail _ (.tail _ (.tail _ (.tail _ (.head _)))))) Inc.nil)))), ?_⟩))
          refine Aw_q 8 rfl (by kernel_rfl) (by kernel_rfl) (by kernel_rfl) rfl rfl rfl (Qt_fieldAddr (m := 6) rfl rfl rfl rfl rfl) ?_
          refine Aw_one 9 (by kernel_rfl) (Ax_mk rfl rfl ?_)
          refine OpW_store (vs := [(sv v825)]) (all' := (Op.cells (Op.mk 4 0 0 0 0 x803 x815) v805 v825)) rfl rfl rfl rfl rfl (.there (.there .here)) rfl rfl rfl ⟨(Inc.cons (.tail _ (.head _)) (Inc.cons (.tail _ (.tail _ (.tail _ (.head _)))) (Inc.cons (.tail _ (.tail _ (.tail _ (.tail _ (.head _))))) (Inc.cons (.tail _ (.tail _ (.tail _ (.tail _ (.tail _ (.head _)))))) Inc.nil)))), ?_⟩
          refine Aw_done (by kernel_rfl) ?_
          refine Shift.pull (.there (.there (.there (.there (.there (.there .here)))))) ?_
          refine Shift.pull (.there (.there (.there (.there (.there (.there .here)))))) ?_
          refine Shift.pull (.there (.there (.there (.there (.there (.there .here)))))) ?_
          refine Shift.pull (.there (.there (.there (.there (.there (.there .here)))))) ?_
          refine Shift.pull (.there (.there (.there (.there (.there (.there .here)))))) ?_
          refine Shift.pull (.there (.there (.there (.there (.there .here))))) ?_
          refine Shift.rem (.there (.there (.there (.there (.there (.there .here)))))) ?_
          have hs830 := (hs808).mono hK827
          refine Shift.done ?_
          exact ⟨[(0, (.pointer (some ((⟨bp0, 0, none⟩ : Addr).add 0)))), (2, (.int .i64 p2)), (4, (.pointer (some ((⟨b241, 0, none⟩ : Addr).add 0)))), (6, (.pointer (some ((⟨b242, 0, none⟩ : Addr).add 0)))), (7, (.pointer (some ((⟨b243, 0, none⟩ : Addr).add 0)))), (8, (.int .i64 i639))], ⟨rfl, rfl, rfl, rfl, rfl, rfl, trivial⟩, x810, ((Draw_Codes.mk p0.list i794 i795).value), v805, x803, v825, x815, rfl, rfl, H, hs830, hs828⟩
        · skip
          refine id (Ax_mk rfl rfl ?_)
          have hs831 := (hs662).mono hK807
          refine OpW_call rfl Try.call29 rfl rfl (c_M_draw_Codes_Next bp0 (Draw_Codes.mk p0.list i794 i795) vp0_list (wI (i639 + 1)) x809 x810 hx811 _ _ hs831) ?_
          rintro _ _ _ - ⟨rfl, rfl, rfl⟩
          refine ⟨(Inc.cons (.tail _ (.head _)) (Inc.cons (.tail _ (.tail _ (.tail _ (.head _)))) (Inc.cons (.tail _ (.tail _ (.tail _ (.tail _ (.head _))))) (Inc.cons (.tail _ (.tail _ (.tail _ (.tail _ (.tail _ (.head _)))))) Inc.nil)))), ?_⟩
          refine Aw_two 1 6 (by kernel_rfl) ?_ ?_
          · skip
            refine id (Ax_mk rfl rfl (OpW_of_Qt rfl rfl (Qt_load1 (v := (sv v645)) rfl rfl rfl (Rdc.blk (.tail _ (.tail _ (.head _))) rfl)) ⟨(Inc.cons (.tail _ (.head _)) (Inc.cons (.tail _ (.tail _ (.tail _ (.head _)))) (Inc.cons (.tail _ (.tail _ (.tail _ (.tail _ (.head _))))) (Inc.cons (.tail _ (.tail _ (.tail _ (.tail _ (.tail _ (.head _)))))) Inc.nil)))), ?_⟩))
            refine Aw_one 6 (by kernel_rfl) (Ax_mk rfl rfl ?_)
            have hR833 : RowR Ty.i64 K806 [[(.int .i64 x809)]] [x809] := RowR.cons rfl (RowR.nil)
            refine O_lit (T := Ty.i64) (rows := [[(.int .i64 x809)]]) (l := [x809]) rfl rfl rfl hR833 rfl rfl rfl rfl rfl rfl rfl rfl (fun v832 => ⟨(Inc.cons (.tail _ (.tail _ (.head _))) (Inc.cons (.tail _ (.tail _ (.tail _ (.tail _ (.head _))))) (Inc.cons (.tail _ (.tail _ (.tail _ (.tail _ (.tail _ (.head _)))))) (Inc.cons (.tail _ (.tail _ (.tail _ (.tail _ (.tail _ (.tail _ (.head _))))))) Inc.nil)))), ?_⟩)
            refine Aw_one 7 (by kernel_rfl) (Ax_mk rfl rfl ?_)
            have hs838 := (hs647).mono hK807
            refine O_appTok (T := Ty.i64) (bytes := 8) (q := 0) rfl rfl rfl hs838 (.tail _ (.tail _ (.tail _ (.tail _ (.tail _ (.tail _ (.tail _ (.head _)))))))) rfl (SrcT.row (.head _) hR833 rfl) hx816 rfl rfl rfl rfl rfl rfl rfl rfl (fun v834 K835 hK836 hs837 => ⟨_, (.there (.there (.there (.there (.there (.there (.there .here))))))), ⟨(Inc.cons (.tail _ (.tail _ (.head _))) (Inc.cons (.tail _ (.tail _ (.tail _ (.tail _ (.head _))))) (Inc.cons (.tail _ (.tail _ (.tail _ (.tail _ (.tail _ (.head _)))))) (Inc.cons (.tail _ (.tail _ (.tail _ (.tail _ (.tail _ (.tail _ (.head _))))))) Inc.nil)))), ?_⟩⟩)
            refine Aw.shift (Shift.rem .here (Shift.done ⟨(Inc.cons (.tail _ (.head _)) (Inc.cons (.tail _ (.tail _ (.tail _ (.head _)))) (Inc.cons (.tail _ (.tail _ (.tail _ (.tail _ (.head _))))) (Inc.cons (.tail _ (.tail _ (.tail _ (.tail _ (.tail _ (.head _)))))) Inc.nil)))), ?_⟩))
            refine Aw_q 8 rfl (by kernel_rfl) (by kernel_rfl) (by kernel_rfl) rfl rfl rfl (Qt_fieldAddr (m := 6) rfl rfl rfl rfl rfl) ?_
            refine Aw_one 9 (by kernel_rfl) (Ax_mk rfl rfl ?_)
            refine OpW_store (vs := [(sv v834)]) (all' := (Op.cells (Op.mk 4 0 0 0 0 x803 x815) v805 v834)) rfl rfl rfl rfl rfl (.there (.there .here)) rfl rfl rfl ⟨(Inc.cons (.tail _ (.head _)) (Inc.cons (.tail _ (.tail _ (.tail _ (.head _)))) (Inc.cons (.tail _ (.tail _ (.tail _ (.tail _ (.head _))))) (Inc.cons (.tail _ (.tail _ (.tail _ (.tail _ (.tail _ (.head _)))))) Inc.nil)))), ?_⟩
            refine Aw_done (by kernel_rfl) ?_
            refine Shift.pull (.there (.there (.there (.there (.there (.there .here)))))) ?_
            refine Shift.pull (.there (.there (.there (.there (.there (.there .here)))))) ?_
            refine Shift.pull (.there (.there (.there (.there (.there (.there .here)))))) ?_
            refine Shift.pull (.there (.there (.there (.there (.there (.there .here)))))) ?_
            refine Shift.pull (.there (.there (.there (.there (.there (.there .here)))))) ?_
            refine Shift.pull (.there (.there (.there (.there (.there .here))))) ?_
            refine Shift.rem (.there (.there (.there (.there (.there (.there .here)))))) ?_
            have hs839 := (hs808).mono hK836
            refine Shift.done ?_
            exact ⟨[(0, (.pointer (some ((⟨bp0, 0, none⟩ : Addr).add 0)))), (2, (.int .i64 p2)), (4, (.pointer (some ((⟨b241, 0, none⟩ : Addr).add 0)))), (6, (.pointer (some ((⟨b242, 0, none⟩ : Addr).add 0)))), (7, (.pointer (some ((⟨b243, 0, none⟩ : Addr).add 0)))), (8, (.int .i64 i639))], ⟨rfl, rfl, rfl, rfl, rfl, rfl, trivial⟩, x810, ((Draw_Codes.mk p0.list i794 i795).value), v805, x803, v834, x815, rfl, rfl, H, hs839, hs837⟩
          · skip
            refine id (Ax_mk rfl rfl ?_)
            have hR841 : RowR Ty.i64 K806 [[(.int .i64 x809)]] [x809] := RowR.cons rfl (RowR.nil)
            refine O_lit (T := Ty.i64) (rows := [[(.int .i64 x809)]]) (l := [x809]) rfl rfl rfl hR841 rfl rfl rfl rfl rfl rfl rfl rfl (fun v840 => ⟨(Inc.cons (.tail _ (.tail _ (.head _))) (Inc.cons (.tail _ (.tail _ (.tail _ (.tail _ (.head _))))) (Inc.cons (.tail _ (.tail _ (.tail _ (.tail _ (.tail _ (.head _)))))) (Inc.cons (.tail _ (.tail _ (.tail _ (.tail _ (.tail _ (.tail _ (.head _))))))) Inc.nil)))), ?_⟩)
            refine Aw_one 1 (by kernel_rfl) (Ax_mk rfl rfl (OpW_of_Qt rfl rfl (Qt_load1 (v := (sv v645)) rfl rfl rfl (Rdc.blk (.tail _ (.tail _ (.tail _ (.head _)))) rfl)) ⟨(Inc.cons (.tail _ (.tail _ (.head _))) (Inc.cons (.tail _ (.tail _ (.tail _ (.tail _ (.head _))))) (Inc.cons (.tail _ (.tail _ (.tail _ (.tail _ (.tail _ (.head _)))))) (Inc.cons (.tail _ (.tail _ (.tail _ (.tail _ (.tail _ (.tail _ (.head _))))))) Inc.nil)))), ?_⟩))
            refine Aw_one 7 (by kernel_rfl) (Ax_mk rfl rfl ?_)
            have hs846 := (hs647).mono hK807
            refine O_appTok (T := Ty.i64) (bytes := 8) (q := 0) rfl rfl rfl hs846 (.tail _ (.tail _ (.tail _ (.tail _ (.tail _ (.tail _ (.tail _ (.head _)))))))) rfl (SrcT.row (.head _) hR841 rfl) hx816 rfl rfl rfl rfl rfl rfl rfl rfl (fun v842 K843 hK844 hs845 => ⟨_, (.there (.there (.there (.there (.there (.there (.there .here))))))), ⟨(Inc.cons (.tail _ (.tail _ (.head _))) (Inc.cons (.tail _ (.tail _ (.tail _ (.tail _ (.head _))))) (Inc.cons (.tail _ (.tail _ (.tail _ (.tail _ (.tail _ (.head _)))))) (Inc.cons (.tail _ (.tail _ (.tail _ (.tail _ (.tail _ (.tail _ (.head _))))))) Inc.nil)))), ?_⟩⟩)
            refine Aw.shift (Shift.rem .here (Shift.done ⟨(Inc.cons (.tail _ (.head _)) (Inc.cons (.tail _ (.tail _ (.tail _ (.head _)))) (Inc.cons (.tail _ (.tail _ (.tail _ (.tail _ (.head _))))) (Inc.cons (.tail _ (.tail _ (.tail _ (.tail _ (.tail _ (.head _)))))) Inc.nil)))), ?_⟩))
            refine Aw_q 8 rfl (by kernel_rfl) (by kernel_rfl) (by kernel_rfl) rfl rfl rfl (Qt_fieldAddr (m := 6) rfl rfl rfl rfl rfl) ?_
            refine Aw_one 9 (by kernel_rfl) (Ax_mk rfl rfl ?_)
            refine OpW_store (vs := [(sv v842)]) (all' := (Op.cells (Op.mk 4 0 0 0 0 x803 x815) v805 v842)) rfl rfl rfl rfl rfl (.there (.there .here)) rfl rfl rfl ⟨(Inc.cons (.tail _ (.head _)) (Inc.cons (.tail _ (.tail _ (.tail _ (.head _)))) (Inc.cons (.tail _ (.tail _ (.tail _ (.tail _ (.head _))))) (Inc.cons (.tail _ (.tail _ (.tail _ (.tail _ (.tail _ (.head _)))))) Inc.nil)))), ?_⟩
            refine Aw_done (by kernel_rfl) ?_
            refine Shift.pull (.there (.there (.there (.there (.there (.there .here)))))) ?_
            refine Shift.pull (.there (.there (.there (.there (.there (.there .here)))))) ?_
            refine Shift.pull (.there (.there (.there (.there (.there (.there .here)))))) ?_
            refine Shift.pull (.there (.there (.there (.there (.there (.there .here)))))) ?_
            refine Shift.pull (.there (.there (.there (.there (.there (.there .here)))))) ?_
            refine Shift.pull (.there (.there (.there (.there (.there .here))))) ?_
            refine Shift.rem (.there (.there (.there (.there (.there (.there .here)))))) ?_
            have hs847 := (hs808).mono hK844
            refine Shift.done ?_
            exact ⟨[(0, (.pointer (some ((⟨bp0, 0, none⟩ : Addr).add 0)))), (2, (.int .i64 p2)), (4, (.pointer (some ((⟨b241, 0, none⟩ : Addr).add 0)))), (6, (.pointer (some ((⟨b242, 0, none⟩ : Addr).add 0)))), (7, (.pointer (some ((⟨b243, 0, none⟩ : Addr).add 0)))), (8, (.int .i64 i639))], ⟨rfl, rfl, rfl, rfl, rfl, rfl, trivial⟩, x810, ((Draw_Codes.mk p0.list i794 i795).value), v805, x803, v842, x815, rfl, rfl, H, hs847, hs845⟩
      rintro _ K848 _ hK849 ⟨i739, i740, v741, l742, v744, l745, rfl, rfl, H, hs743, hs746⟩
      unfold M_draw_Codes_Select_J2 at H
      refine Cw_region ?_
      refine Ow_q rfl rfl rfl (Qt_move rfl) ?_
      refine Ow_q rfl rfl rfl (Qt_arith (e := wI (i639 + 1)) rfl rfl rfl rfl) ?_
      refine Ow_q rfl rfl rfl (Qt_assign rfl) ?_
      refine Ow_nil ?_
      refine Shift.pull (.there (.there (.there (.there (.there .here))))) ?_
      refine Shift.pull (.there (.there (.there (.there (.there .here))))) ?_
      refine Shift.pull (.there (.there (.there (.there (.there .here))))) ?_
      refine Shift.pull (.there (.there (.there (.there (.there .here))))) ?_
      refine Shift.pull (.there (.there (.there (.there (.there .here))))) ?_
      refine Shift.pull (.there (.there (.there (.there (.there .here))))) ?_
      refine Shift.done ?_
      exact ⟨[(0, (.pointer (some ((⟨bp0, 0, none⟩ : Addr).add 0)))), (2, (.int .i64 p2)), (4, (.pointer (some ((⟨b241, 0, none⟩ : Addr).add 0)))), (6, (.pointer (some ((⟨b242, 0, none⟩ : Addr).add 0)))), (7, (.pointer (some ((⟨b243, 0, none⟩ : Addr).add 0)))), (8, (.int .i64 (wI (i639 + 1))))], ⟨rfl, rfl, rfl, rfl, rfl, rfl, trivial⟩, _, Nat.lt_succ_self _, (wI (i639 + 1)), i739, i740, v741, l742, v744, l745, rfl, rfl, (hkk653 ▸ H), hs743, hs746⟩
    · intro h663
      have h663 := dcd_f (h663)
      have H := iff_ h663 H
      refine Cw_exit ?_
      refine Shift.pull (.there (.there (.there (.there (.there .here))))) ?_
      refine Shift.pull (.there (.there (.there (.there (.there .here))))) ?_
      refine Shift.pull (.there (.there (.there (.there .here)))) ?_
      refine Shift.pull (.there (.there (.there (.there .here)))) ?_
      refine Shift.pull (.there (.there (.there (.there .here)))) ?_
      refine Shift.rem (.there (.there (.there (.there (.there .here))))) ?_
      refine Shift.done ?_
      exact ⟨[(0, (.pointer (some ((⟨bp0, 0, none⟩ : Addr).add 0)))), (6, (.pointer (some ((⟨b242, 0, none⟩ : Addr).add 0)))), (7, (.pointer (some ((⟨b243, 0, none⟩ : Addr).add 0))))], ⟨rfl, rfl, rfl, trivial⟩, x660, ((Draw_Codes.mk p0.list i640 i641).value), v642, l643, v645, l646, rfl, rfl, H, hs644, hs647⟩
  rintro _ K850 _ hK851 ⟨i442, i443, v444, l445, v447, l448, rfl, rfl, H, hs446, hs449⟩
  unfold M_draw_Codes_Select_J1 at H
  refine Cw_seq ?_
  refine Cw_region ?_
  refine Ow_q rfl rfl rfl (Qt_move rfl) ?_
  refine Ow_q rfl rfl rfl (Qt_loadA (m := 7) (cs := (Op.cells (Op.mk 4 0 0 0 0 l445 l448) v444 v447)) rfl rfl rfl rfl ⟨rfl, Rdc.blk (.tail _ (.head _)) rfl⟩) ?_
  obtain ⟨x852, x853, x854, hx855, H⟩ := bnd3 H
  have hs856 := (hp0_list).mono hK851
  refine Ow_cons rfl (OpW_call rfl Try.call30 rfl rfl (c_M_draw_Codes_mode bp0 (Draw_Codes.mk p0.list i442 i443) vp0_list (Op.mk 4 0 0 0 0 l445 l448) v444 v447 x852 x853 x854 hx855 _ _ hs856 hs446 hs449) ?_)
  rintro _ _ _ - ⟨v857, v858, rfl, rfl, rfl, hs859, hs860⟩
  refine Ow_cons rfl (OpW_store (vs := (Op.cells x852 v857 v858)) (all' := (Op.cells x852 v857 v858)) rfl rfl rfl rfl rfl (.there (.there .here)) rfl rfl rfl ?_)
  refine Ow_nil ?_
  refine Cw_ret ?_
  obtain ⟨ey0, ez0_at_, ez0_value⟩ := inj3 H
  subst y0 z0_at_ z0_value
  refine ⟨(by first | exact .inl rfl | exact .inr rfl), [(.agg (Op.cells x852 v857 v858).toArray)], ⟨(.agg (Op.cells x852 v857 v858).toArray), _, rfl, ⟨_, 7, (Op.cells x852 v857 v858), rfl, rfl, rfl, rfl, ⟨rfl, Rdc.blk (.tail _ (.tail _ (.head _))) rfl⟩, rfl⟩, rfl⟩, ?_⟩
  refine Shift.rem (.there .here) ?_
  refine Shift.rem (.there .here) ?_
  refine Shift.rem (.there .here) ?_
  refine Shift.rem (.there .here) ?_
  refine Shift.done ?_
  exact ⟨v857, v858, rfl, rfl, hs859, hs860⟩

set_option maxHeartbeats 1000000 in
theorem c_M_draw_Codes_Op (bp0 : Nat) (p0 : Draw_Codes) (vp0_list : SV) (p1 : Config) (vp1_capacities : SV) (vp1_starts : SV) (y0 : Op) (z0_at_ : Int) (z0_value : Int) (H : M_draw_Codes_Op p0 p1 = some (y0, z0_at_, z0_value)) (K : Kp) (G : List Ent) (hp0_list : Slr Ty.u8 K (sv vp0_list) p0.list) (hp1_capacities : Slr Ty.i64 K (sv vp1_capacities) p1.capacities) (hp1_starts : Slr Ty.u64 K (sv vp1_starts) p1.starts) :
    Fc Try.prog 11 #[(.pointer (some ((⟨bp0, 0, none⟩ : Addr).add 0))), (.agg (Config.cells p1 vp1_capacities vp1_starts).toArray)] K ((.blk bp0 60 (Draw_Codes.cells p0 vp0_list)) :: G) (fun v K' G' => ∃ (wy0_cases : SV) (wy0_draws : SV), v = (.agg (Op.cells y0 wy0_cases wy0_draws).toArray) ∧ (.blk bp0 60 (Draw_Codes.cells (Draw_Codes.mk p0.list z0_at_ z0_value) vp0_list)) :: G = G' ∧ Slr TyCase K' (sv wy0_cases) y0.cases ∧ Slr Ty.i64 K' (sv wy0_draws) y0.draws) := by
  refine Fc_body Try.func11 rfl Try.ntmps11 Try.results11 rfl ?_
  unfold M_draw_Codes_Op at H
  refine Cw_seq ?_
  refine Cw_region ?_
  refine Ow_cons rfl (OpW_box (cs := (Config.cells p1 vp1_capacities vp1_starts)) rfl rfl rfl (fun b60 => ?_))
  refine Ow_cons rfl (OpW_alloc (cs := (Op.cells (Op.mk 0 0 0 0 0 [] []) nilS nilS)) rfl rfl rfl rfl (fun b61 => ?_))
  refine Ow_nil ?_
  refine Cw_seq ?_
  refine Cw_seq ?_
  refine Cw_region ?_
  refine Ow_q rfl rfl rfl (Qt_move rfl) ?_
  obtain ⟨x115, x116, hx117, H⟩ := bnd2 H
  refine Ow.shift (Shift.pull (.there (.there .here)) (Shift.done ?_))
  refine Ow_cons rfl (OpW_call rfl Try.call29 rfl rfl (c_M_draw_Codes_Next bp0 p0 vp0_list 20 x115 x116 hx117 _ _ hp0_list) ?_)
  rintro _ _ _ - ⟨rfl, rfl, rfl⟩
  refine Ow_q rfl rfl rfl (Qt_assign rfl) ?_
  refine Ow_nil ?_
  refine Cw_block ?_
  refine Cw_seq ?_
  refine Cw_region ?_
  refine Ow_q rfl rfl rfl (Qt_move rfl) ?_
  refine Ow_q rfl rfl rfl (Qt_cmp rfl rfl rfl) ?_
  refine Ow_q rfl rfl rfl (Qt_assign rfl) ?_
  refine Ow_nil ?_
  refine Cw_cond rfl ?_ ?_
  · intro h118
    have h118 := dcd_t (h118)
    have H := ift h118 H
    refine Cw_seq ?_
    refine Cw_region ?_
    refine Ow_q rfl rfl rfl (Qt_move rfl) ?_
    refine Ow_q rfl rfl rfl (Qt_move rfl) ?_
    refine Ow_q rfl rfl rfl (Qt_loadA (m := 3) (cs := (Config.cells p1 vp1_capacities vp1_starts)) rfl rfl rfl rfl ⟨rfl, Rdc.blk (.tail _ (.tail _ (.head _))) rfl⟩) ?_
    obtain ⟨x119, x120, x121, hx122, H⟩ := bnd3 H
    refine Ow_cons rfl (OpW_call rfl Try.call31 rfl rfl (c_M_draw_Codes_channel bp0 (Draw_Codes.mk p0.list x116 p0.value) vp0_list p1 vp1_capacities vp1_starts x119 x120 x121 hx122 _ _ hp0_list hp1_capacities hp1_starts) ?_)
    rintro _ _ _ - ⟨rfl, rfl, rfl⟩
    refine Ow_q rfl rfl rfl (Qt_move rfl) ?_
    obtain ⟨x123, x124, hx125, H⟩ := bnd2 H
    refine Ow_cons rfl (OpW_call rfl Try.call32 rfl rfl (c_M_draw_Codes_Value bp0 (Draw_Codes.mk p0.list x120 x121) vp0_list x123 x124 hx125 _ _ hp0_list) ?_)
    rintro _ _ _ - ⟨rfl, rfl, rfl⟩
    refine Ow_q rfl rfl rfl (Qt_build (cs := (Op.cells (Op.mk 1 0 x119 x123 0 [] []) nilS nilS)) rfl rfl rfl rfl rfl rfl) ?_
    obtain ⟨x126, x127, x128, hx129, H⟩ := bnd3 H
    refine Ow_cons rfl (OpW_call rfl Try.call30 rfl rfl (c_M_draw_Codes_mode bp0 (Draw_Codes.mk p0.list ((Draw_Codes.mk p0.list x120 x121).at_) x124) vp0_list (Op.mk 1 0 x119 x123 0 [] []) nilS nilS x126 x127 x128 hx129 _ _ hp0_list (Slr.nil TyCase _) (Slr.nil Ty.i64 _)) ?_)
    rintro _ _ _ - ⟨v130, v131, rfl, rfl, rfl, hs132, hs133⟩
    refine Ow_cons rfl (OpW_store (vs := (Op.cells x126 v130 v131)) (all' := (Op.cells x126 v130 v131)) rfl rfl rfl rfl rfl (.there .here) rfl rfl rfl ?_)
    refine Ow_nil ?_
    refine Cw_ret ?_
    obtain ⟨ey0, ez0_at_, ez0_value⟩ := inj3 H
    subst y0 z0_at_ z0_value
    refine ⟨(by first | exact .inl rfl | exact .inr rfl), [(.agg (Op.cells x126 v130 v131).toArray)], ⟨(.agg (Op.cells x126 v130 v131).toArray), _, rfl, ⟨_, 7, (Op.cells x126 v130 v131), rfl, rfl, rfl, rfl, ⟨rfl, Rdc.blk (.tail _ (.head _)) rfl⟩, rfl⟩, rfl⟩, ?_⟩
    refine Shift.rem (.there .here) ?_
    refine Shift.rem (.there .here) ?_
    refine Shift.done ?_
    exact ⟨v130, v131, rfl, rfl, hs132, hs133⟩
  · intro h118
    have h118 := dcd_f (h118)
    have H := iff_ h118 H
    refine Cw_seq ?_
    refine Cw_region ?_
    refine Ow_q rfl rfl rfl (Qt_move rfl) ?_
    refine Ow_q rfl rfl rfl (Qt_cmp rfl rfl rfl) ?_
    refine Ow_q rfl rfl rfl (Qt_assign rfl) ?_
    refine Ow_nil ?_
    refine Cw_cond rfl ?_ ?_
    · intro h134
      have h134 := dcd_t (h134)
      have H := ift h134 H
      refine Cw_seq ?_
      refine Cw_region ?_
      refine Ow_q rfl rfl rfl (Qt_move rfl) ?_
      refine Ow_q rfl rfl rfl (Qt_move rfl) ?_
      refine Ow_q rfl rfl rfl (Qt_loadA (m := 3) (cs := (Config.cells p1 vp1_capacities vp1_starts)) rfl rfl rfl rfl ⟨rfl, Rdc.blk (.tail _ (.tail _ (.head _))) rfl⟩) ?_
      obtain ⟨x135, x136, x137, hx138, H⟩ := bnd3 H
      refine Ow_cons rfl (OpW_call rfl Try.call31 rfl rfl (c_M_draw_Codes_channel bp0 (Draw_Codes.mk p0.list x116 p0.value) vp0_list p1 vp1_capacities vp1_starts x135 x136 x137 hx138 _ _ hp0_list hp1_capacities hp1_starts) ?_)
      rintro _ _ _ - ⟨rfl, rfl, rfl⟩
      refine Ow_q rfl rfl rfl (Qt_build (cs := (Op.cells (Op.mk 2 0 x135 0 0 [] []) nilS nilS)) rfl rfl rfl rfl rfl rfl) ?_
      obtain ⟨x139, x140, x141, hx142, H⟩ := bnd3 H
      refine Ow_cons rfl (OpW_call rfl Try.call30 rfl rfl (c_M_draw_Codes_mode bp0 (Draw_Codes.mk p0.list x136 x137) vp0_list (Op.mk 2 0 x135 0 0 [] []) nilS nilS x139 x140 x141 hx142 _ _ hp0_list (Slr.nil TyCase _) (Slr.nil Ty.i64 _)) ?_)
      rintro _ _ _ - ⟨v143, v144, rfl, rfl, rfl, hs145, hs146⟩
      refine Ow_cons rfl (OpW_store (vs := (Op.cells x139 v143 v144)) (all' := (Op.cells x139 v143 v144)) rfl rfl rfl rfl rfl (.there .here) rfl rfl rfl ?_)
      refine Ow_nil ?_
      refine Cw_ret ?_
      obtain ⟨ey0, ez0_at_, ez0_value⟩ := inj3 H
      subst y0 z0_at_ z0_value
      refine ⟨(by first | exact .inl rfl | exact .inr rfl), [(.agg (Op.cells x139 v143 v144).toArray)], ⟨(.agg (Op.cells x139 v143 v144).toArray), _, rfl, ⟨_, 7, (Op.cells x139 v143 v144), rfl, rfl, rfl, rfl, ⟨rfl, Rdc.blk (.tail _ (.head _)) rfl⟩, rfl⟩, rfl⟩, ?_⟩
      refine Shift.rem (.there .here) ?_
      refine Shift.rem (.there .here) ?_
      refine Shift.done ?_
      exact ⟨v143, v144, rfl, rfl, hs145, hs146⟩
    · intro h134
      have h134 := dcd_f (h134)
      have H := iff_ h134 H
      refine Cw_seq ?_
      refine Cw_region ?_
      refine Ow_q rfl rfl rfl (Qt_move rfl) ?_
      refine Ow_q rfl rfl rfl (Qt_cmp rfl rfl rfl) ?_
      refine Ow_q rfl rfl rfl (Qt_assign rfl) ?_
      refine Ow_nil ?_
      refine Cw_cond rfl ?_ ?_
      · intro h147
        have h147 := dcd_t (h147)
        have H := ift h147 H
        refine Cw_seq ?_
        refine Cw_region ?_
        refine Ow_q rfl rfl rfl (Qt_move rfl) ?_
        refine Ow_q rfl rfl rfl (Qt_loadA (m := 3) (cs := (Config.cells p1 vp1_capacities vp1_starts)) rfl rfl rfl rfl ⟨rfl, Rdc.blk (.tail _ (.tail _ (.head _))) rfl⟩) ?_
        obtain ⟨x148, x149, x150, hx151, H⟩ := bnd3 H
        refine Ow_cons rfl (OpW_call rfl Try.call25 rfl rfl (c_M_draw_Codes_Select bp0 (Draw_Codes.mk p0.list x116 p0.value) vp0_list p1 vp1_capacities vp1_starts 4 x148 x149 x150 hx151 _ _ hp0_list hp1_capacities hp1_starts) ?_)
        rintro _ K154 _ hK155 ⟨v152, v153, rfl, rfl, hs156, hs157⟩
        refine Ow_cons rfl (OpW_store (vs := (Op.cells x148 v152 v153)) (all' := (Op.cells x148 v152 v153)) rfl rfl rfl rfl rfl (.there .here) rfl rfl rfl ?_)
        refine Ow_nil ?_
        refine Cw_ret ?_
        obtain ⟨ey0, ez0_at_, ez0_value⟩ := inj3 H
        subst y0 z0_at_ z0_value
        refine ⟨(by first | exact .inl rfl | exact .inr rfl), [(.agg (Op.cells x148 v152 v153).toArray)], ⟨(.agg (Op.cells x148 v152 v153).toArray), _, rfl, ⟨_, 7, (Op.cells x148 v152 v153), rfl, rfl, rfl, rfl, ⟨rfl, Rdc.blk (.tail _ (.head _)) rfl⟩, rfl⟩, rfl⟩, ?_⟩
        refine Shift.rem (.there .here) ?_
        refine Shift.rem (.there .here) ?_
        refine Shift.done ?_
        exact ⟨v152, v153, rfl, rfl, hs156, hs157⟩
      · intro h147
        have h147 := dcd_f (h147)
        have H := iff_ h147 H
        refine Cw_seq ?_
        refine Cw_region ?_
        refine Ow_q rfl rfl rfl (Qt_move rfl) ?_
        refine Ow_q rfl rfl rfl (Qt_cmp rfl rfl rfl) ?_
        refine Ow_q rfl rfl rfl (Qt_assign rfl) ?_
        refine Ow_nil ?_
        refine Cw_cond rfl ?_ ?_
        · intro h158
          have h158 := dcd_t (h158)
          have H := ift h158 H
          refine Cw_seq ?_
          refine Cw_region ?_
          refine Ow_q rfl rfl rfl (Qt_move rfl) ?_
          refine Ow_q rfl rfl rfl (Qt_loadA (m := 3) (cs := (Config.cells p1 vp1_capacities vp1_starts)) rfl rfl rfl rfl ⟨rfl, Rdc.blk (.tail _ (.tail _ (.head _))) rfl⟩) ?_
          obtain ⟨x159, x160, x161, hx162, H⟩ := bnd3 H
          refine Ow_cons rfl (OpW_call rfl Try.call31 rfl rfl (c_M_draw_Codes_channel bp0 (Draw_Codes.mk p0.list x116 p0.value) vp0_list p1 vp1_capacities vp1_starts x159 x160 x161 hx162 _ _ hp0_list hp1_capacities hp1_starts) ?_)
          rintro _ _ _ - ⟨rfl, rfl, rfl⟩
          refine Ow_q rfl rfl rfl (Qt_build (cs := (Op.cells (Op.mk 3 0 x159 0 0 [] []) nilS nilS)) rfl rfl rfl rfl rfl rfl) ?_
          refine Ow_cons rfl (OpW_store (vs := (Op.cells (Op.mk 3 0 x159 0 0 [] []) nilS nilS)) (all' := (Op.cells (Op.mk 3 0 x159 0 0 [] []) nilS nilS)) rfl rfl rfl rfl rfl (.there .here) rfl rfl rfl ?_)
          refine Ow_nil ?_
          refine Cw_ret ?_
          obtain ⟨ey0, ez0_at_, ez0_value⟩ := inj3 H
          subst y0 z0_at_ z0_value
          refine ⟨(by first | exact .inl rfl | exact .inr rfl), [(.agg (Op.cells (Op.mk 3 0 x159 0 0 [] []) nilS nilS).toArray)], ⟨(.agg (Op.cells (Op.mk 3 0 x159 0 0 [] []) nilS nilS).toArray), _, rfl, ⟨_, 7, (Op.cells (Op.mk 3 0 x159 0 0 [] []) nilS nilS), rfl, rfl, rfl, rfl, ⟨rfl, Rdc.blk (.tail _ (.head _)) rfl⟩, rfl⟩, rfl⟩, ?_⟩
          refine Shift.rem (.there .here) ?_
          refine Shift.rem (.there .here) ?_
          refine Shift.done ?_
          exact ⟨nilS, nilS, rfl, rfl, (Slr.nil TyCase _), (Slr.nil Ty.i64 _)⟩
        · intro h158
          have h158 := dcd_f (h158)
          have H := iff_ h158 H
          refine Cw_seq ?_
          refine Cw_region ?_
          refine Ow_q rfl rfl rfl (Qt_move rfl) ?_
          refine Ow_q rfl rfl rfl (Qt_cmp rfl rfl rfl) ?_
          refine Ow_q rfl rfl rfl (Qt_assign rfl) ?_
          refine Ow_nil ?_
          refine Cw_cond rfl ?_ ?_
          · intro h163
            have h163 := dcd_t (h163)
            have H := ift h163 H
            refine Cw_seq ?_
            refine Cw_region ?_
            refine Ow_q rfl rfl rfl (Qt_move rfl) ?_
            refine Ow_q rfl rfl rfl (Qt_loadA (m := 3) (cs := (Config.cells p1 vp1_capacities vp1_starts)) rfl rfl rfl rfl ⟨rfl, Rdc.blk (.tail _ (.tail _ (.head _))) rfl⟩) ?_
            obtain ⟨x164, x165, x166, hx167, H⟩ := bnd3 H
            refine Ow_cons rfl (OpW_call rfl Try.call31 rfl rfl (c_M_draw_Codes_channel bp0 (Draw_Codes.mk p0.list x116 p0.value) vp0_list p1 vp1_capacities vp1_starts x164 x165 x166 hx167 _ _ hp0_list hp1_capacities hp1_starts) ?_)
            rintro _ _ _ - ⟨rfl, rfl, rfl⟩
            refine Ow_q rfl rfl rfl (Qt_build (cs := (Op.cells (Op.mk 5 0 x164 0 0 [] []) nilS nilS)) rfl rfl rfl rfl rfl rfl) ?_
            refine Ow_cons rfl (OpW_store (vs := (Op.cells (Op.mk 5 0 x164 0 0 [] []) nilS nilS)) (all' := (Op.cells (Op.mk 5 0 x164 0 0 [] []) nilS nilS)) rfl rfl rfl rfl rfl (.there .here) rfl rfl rfl ?_)
            refine Ow_nil ?_
            refine Cw_ret ?_
            obtain ⟨ey0, ez0_at_, ez0_value⟩ := inj3 H
            subst y0 z0_at_ z0_value
            refine ⟨(by first | exact .inl rfl | exact .inr rfl), [(.agg (Op.cells (Op.mk 5 0 x164 0 0 [] []) nilS nilS).toArray)], ⟨(.agg (Op.cells (Op.mk 5 0 x164 0 0 [] []) nilS nilS).toArray), _, rfl, ⟨_, 7, (Op.cells (Op.mk 5 0 x164 0 0 [] []) nilS nilS), rfl, rfl, rfl, rfl, ⟨rfl, Rdc.blk (.tail _ (.head _)) rfl⟩, rfl⟩, rfl⟩, ?_⟩
            refine Shift.rem (.there .here) ?_
            refine Shift.rem (.there .here) ?_
            refine Shift.done ?_
            exact ⟨nilS, nilS, rfl, rfl, (Slr.nil TyCase _), (Slr.nil Ty.i64 _)⟩
          · intro h163
            have h163 := dcd_f (h163)
            have H := iff_ h163 H
            refine Cw_skip ?_
            refine Cw_seq ?_
            refine Cw_region ?_
            refine Ow_q rfl rfl rfl (Qt_move rfl) ?_
            refine Ow_q rfl rfl rfl (Qt_loadA (m := 3) (cs := (Config.cells p1 vp1_capacities vp1_starts)) rfl rfl rfl rfl ⟨rfl, Rdc.blk (.tail _ (.tail _ (.head _))) rfl⟩) ?_
            obtain ⟨x168, x169, x170, hx171, H⟩ := bnd3 H
            refine Ow_cons rfl (OpW_call rfl Try.call31 rfl rfl (c_M_draw_Codes_channel bp0 (Draw_Codes.mk p0.list x116 p0.value) vp0_list p1 vp1_capacities vp1_starts x168 x169 x170 hx171 _ _ hp0_list hp1_capacities hp1_starts) ?_)
            rintro _ _ _ - ⟨rfl, rfl, rfl⟩
            refine Ow_q rfl rfl rfl (Qt_build (cs := (Op.cells (Op.mk 6 0 x168 0 0 [] []) nilS nilS)) rfl rfl rfl rfl rfl rfl) ?_
            refine Ow_cons rfl (OpW_store (vs := (Op.cells (Op.mk 6 0 x168 0 0 [] []) nilS nilS)) (all' := (Op.cells (Op.mk 6 0 x168 0 0 [] []) nilS nilS)) rfl rfl rfl rfl rfl (.there .here) rfl rfl rfl ?_)
            refine Ow_nil ?_
            refine Cw_ret ?_
            obtain ⟨ey0, ez0_at_, ez0_value⟩ := inj3 H
            subst y0 z0_at_ z0_value
            refine ⟨(by first | exact .inl rfl | exact .inr rfl), [(.agg (Op.cells (Op.mk 6 0 x168 0 0 [] []) nilS nilS).toArray)], ⟨(.agg (Op.cells (Op.mk 6 0 x168 0 0 [] []) nilS nilS).toArray), _, rfl, ⟨_, 7, (Op.cells (Op.mk 6 0 x168 0 0 [] []) nilS nilS), rfl, rfl, rfl, rfl, ⟨rfl, Rdc.blk (.tail _ (.head _)) rfl⟩, rfl⟩, rfl⟩, ?_⟩
            refine Shift.rem (.there .here) ?_
            refine Shift.rem (.there .here) ?_
            refine Shift.done ?_
            exact ⟨nilS, nilS, rfl, rfl, (Slr.nil TyCase _), (Slr.nil Ty.i64 _)⟩

set_option maxHeartbeats 1000000 in
theorem c_M_draw_Codes_Number (bp0 : Nat) (p0 : Draw_Codes) (vp0_list : SV) (y0 : Int) (z0_at_ : Int) (H : M_draw_Codes_Number p0 = some (y0, z0_at_)) (K : Kp) (G : List Ent) (hp0_list : Slr Ty.u8 K (sv vp0_list) p0.list) :
    Fc Try.prog 37 #[(.pointer (some ((⟨bp0, 0, none⟩ : Addr).add 0)))] K ((.blk bp0 60 (Draw_Codes.cells p0 vp0_list)) :: G) (fun v K' G' => v = (.int .i64 y0) ∧ K = K' ∧ (.blk bp0 60 (Draw_Codes.cells (Draw_Codes.mk p0.list z0_at_ p0.value) vp0_list)) :: G = G') := by
  refine Fc_body Try.func37 rfl Try.ntmps37 Try.results37 rfl ?_
  unfold M_draw_Codes_Number at H
  refine Cw_seq ?_
  refine Cw_region ?_
  refine Ow_q rfl rfl rfl (Qt_assign rfl) ?_
  refine Ow_nil ?_
  refine Cw_seq ?_
  refine Cw_region ?_
  have hR12 : RowR Ty.i64 K [[(.int .i64 0)], [(.int .i64 1)], [(.int .i64 (-1))], [(.int .i64 2)], [(.int .i64 5)], [(.int .i64 6)], [(.int .i64 7)], [(.int .i64 8)], [(.int .i64 9)], [(.int .i64 16)], [(.int .i64 17)], [(.int .i64 1099511627776)], [(.int .i64 1099511627777)], [(.int .i64 (-1099511627777))], [(.int .i64 100)], [(.int .i64 3)]] [0, 1, (-1), 2, 5, 6, 7, 8, 9, 16, 17, 1099511627776, 1099511627777, (-1099511627777), 100, 3] := RowR.cons rfl (RowR.cons rfl (RowR.cons rfl (RowR.cons rfl (RowR.cons rfl (RowR.cons rfl (RowR.cons rfl (RowR.cons rfl (RowR.cons rfl (RowR.cons rfl (RowR.cons rfl (RowR.cons rfl (RowR.cons rfl (RowR.cons rfl (RowR.cons rfl (RowR.cons rfl (RowR.nil))))))))))))))))
  refine Ow_cons rfl (O_lit (T := Ty.i64) (rows := [[(.int .i64 0)], [(.int .i64 1)], [(.int .i64 (-1))], [(.int .i64 2)], [(.int .i64 5)], [(.int .i64 6)], [(.int .i64 7)], [(.int .i64 8)], [(.int .i64 9)], [(.int .i64 16)], [(.int .i64 17)], [(.int .i64 1099511627776)], [(.int .i64 1099511627777)], [(.int .i64 (-1099511627777))], [(.int .i64 100)], [(.int .i64 3)]]) (l := [0, 1, (-1), 2, 5, 6, 7, 8, 9, 16, 17, 1099511627776, 1099511627777, (-1099511627777), 100, 3]) rfl rfl rfl hR12 rfl rfl rfl rfl rfl rfl rfl rfl (fun v11 => ?_))
  refine Ow_q rfl rfl rfl (Qt_assign rfl) ?_
  refine Ow_nil ?_
  refine Cw_seq ?_
  refine Cw_region ?_
  refine Ow_q rfl rfl rfl (Qt_move rfl) ?_
  refine Ow_q rfl rfl rfl (Qt_move rfl) ?_
  refine Ow_q rfl rfl rfl (Qt_move rfl) ?_
  refine Ow_q rfl rfl rfl (Q_lenR (T := Ty.i64) (.head _) hR12 rfl rfl rfl) ?_
  obtain ⟨x13, x14, hx15, H⟩ := bnd2 H
  refine Ow.shift (Shift.pull (.there .here) (Shift.done ?_))
  refine Ow_cons rfl (OpW_call rfl Try.call29 rfl rfl (c_M_draw_Codes_Next bp0 p0 vp0_list ([0, 1, (-1), 2, 5, 6, 7, 8, 9, 16, 17, 1099511627776, 1099511627777, (-1099511627777), 100, 3].length : Int) x13 x14 hx15 _ _ hp0_list) ?_)
  rintro _ _ _ - ⟨rfl, rfl, rfl⟩
  obtain ⟨x16, hx17, H⟩ := bnd H
  obtain ⟨r18, hq19, hr20⟩ := RowR.at hR12 hx17
  obtain rfl := hr20
  refine Ow_q rfl rfl rfl (Q_ixR (T := Ty.i64) (.tail _ (.head _)) hR12 hq19 (getI_ix hx17).1 rfl rfl rfl rfl rfl) ?_
  refine Ow_q rfl rfl rfl (Qt_load1 (v := (.int .i64 x16)) rfl rfl rfl (Rd_row (T := Ty.i64) (.tail _ (.head _)) hR12 hq19 rfl rfl)) ?_
  refine Ow_q rfl rfl rfl (Qt_assign rfl) ?_
  refine Ow_nil ?_
  refine Cw_ret ?_
  obtain ⟨ey0, ez0_at_⟩ := inj2 H
  subst y0 z0_at_
  refine ⟨(by first | exact .inl rfl | exact .inr rfl), [(.int .i64 x16)], ⟨(.int .i64 x16), _, rfl, rfl, rfl⟩, ?_⟩
  refine Shift.rem (.there .here) ?_
  refine Shift.done ?_
  exact ⟨rfl, rfl, rfl⟩


end Go.Hx
