/- Printed by program. -/
import Derived.Test.YthokebmjjkjjfaaXDM
import Derived.Test.YthokebmjjkjjfaaXDWSlices
import Derived.Test.YthokebmjjkjjfaaXDWModel
import Derived.Test.YthokebmjjkjjfaaXDWDesk3
namespace Go.Hx
open Go Go.Proofs
set_option linter.unusedSimpArgs false
set_option linter.unusedVariables false
set_option maxRecDepth 10000
set_option maxHeartbeats 1000000 in
theorem c_M_118z (bp0 : Nat) (p0 : Draw_Codes) (vp0_list : SV) (p1 : Config) (vp1_capacities : SV) (vp1_starts : SV) (p2 : Int) (y0 : Op) (z0_at_ : Int) (z0_value : Int) (H : M_118z p0 p1 p2 = some (y0, z0_at_, z0_value)) (K : Kp) (G : List Ent) (hp0_list : Slr Ty.u8 K (sv vp0_list) p0.list) (hp1_capacities : Slr Ty.i64 K (sv vp1_capacities) p1.capacities) (hp1_starts : Slr Ty.u64 K (sv vp1_starts) p1.starts) :
  Fc Try.prog 15 #[(.pointer (some ((⟨bp0, 0, none⟩ : Addr).add 0))), (.agg (Config.cells p1 vp1_capacities vp1_starts).toArray), (.int .i64 p2)] K ((.blk bp0 77 (Draw_Codes.cells p0 vp0_list)) :: G) (fun v K' G' => ∃ (wy0_cases : SV) (wy0_draws : SV), v = (.agg (Op.cells y0 wy0_cases wy0_draws).toArray) ∧ (.blk bp0 77 (Draw_Codes.cells (Draw_Codes.mk p0.list z0_at_ z0_value) vp0_list)) :: G = G' ∧ Slr TyCase K' (sv wy0_cases) y0.cases ∧ Slr Ty.i64 K' (sv wy0_draws) y0.draws) := by
 refine Fc_body Try.func15 rfl Try.ntmps15 Try.results15 rfl ?_
 unfold M_118z at H
 refine Cw_seq ?_
 refine Cw_region ?_
 refine Ow_cons rfl (OpW_box (cs := (Config.cells p1 vp1_capacities vp1_starts)) rfl rfl rfl (fun b241 => ?_))
 refine Ow_cons rfl (OpW_alloc (cs := (Op.cells (Op.mk 0 0 0 0 0 [] []) nilS nilS)) rfl rfl rfl rfl (fun b242 => ?_))
 refine Ow_nil ?_
 refine Cw_seq ?_
 refine Cw_region ?_
 refine Ow_q rfl rfl rfl (Qt_build (cs := (Op.cells (Op.mk 4 0 0 0 0 [] []) nilS nilS)) rfl rfl rfl rfl rfl rfl) ?_
 refine Ow_cons rfl (OpW_alloc (cs := (Op.cells (Op.mk 0 0 0 0 0 [] []) nilS nilS)) rfl rfl rfl rfl (fun b243 => ?_))
 refine Ow_cons rfl (OpW_store (vs := (Op.cells (Op.mk 4 0 0 0 0 [] []) nilS nilS)) (all' := (Op.cells (Op.mk 4 0 0 0 0 [] []) nilS nilS)) rfl rfl rfl rfl rfl .here rfl rfl rfl ?_)
 refine Ow_nil ?_
 refine Cw_join (fun env' K' G' => ∃ (i442 : Int) (i443 : Int) (v444 : SV) (l445 : List Case) (v447 : SV) (l448 : List Int), [(0, (.pointer (some ((⟨bp0, 0, none⟩ : Addr).add 0)))), (6, (.pointer (some ((⟨b242, 0, none⟩ : Addr).add 0)))), (7, (.pointer (some ((⟨b243, 0, none⟩ : Addr).add 0))))] = env' ∧ (.blk bp0 77 (Draw_Codes.cells (Draw_Codes.mk p0.list i442 i443) vp0_list)) :: (.blk b243 41 (Op.cells (Op.mk 4 0 0 0 0 l445 l448) v444 v447)) :: (.blk b242 41 (Op.cells (Op.mk 0 0 0 0 0 [] []) nilS nilS)) :: (.tok 45 3 [(sv v444)]) :: (.tok 3 1 [(sv v447)]) :: G = G' ∧ M_165z p0 i442 i443 l445 l448 = some (y0, z0_at_, z0_value) ∧ Slr TyCase K' (sv v444) l445 ∧ Slr Ty.i64 K' (sv v447) l448) ?_ ?_
 ·skip
  refine Cw_seq ?_
  refine Cw_region ?_
  refine Ow_q rfl rfl rfl (Qt_assign rfl) ?_
  refine Ow_nil ?_
  refine Cw_block ?_
  refine Cw_loopM (fun n648 env' K' G' => ∃ (i639 : Int) (i640 : Int) (i641 : Int) (v642 : SV) (l643 : List Case) (v645 : SV) (l646 : List Int), [(0, (.pointer (some ((⟨bp0, 0, none⟩ : Addr).add 0)))), (2, (.int .i64 p2)), (4, (.pointer (some ((⟨b241, 0, none⟩ : Addr).add 0)))), (6, (.pointer (some ((⟨b242, 0, none⟩ : Addr).add 0)))), (7, (.pointer (some ((⟨b243, 0, none⟩ : Addr).add 0)))), (8, (.int .i64 i639))] = env' ∧ (.blk bp0 77 (Draw_Codes.cells (Draw_Codes.mk p0.list i640 i641) vp0_list)) :: (.blk b243 41 (Op.cells (Op.mk 4 0 0 0 0 l643 l646) v642 v645)) :: (.blk b242 41 (Op.cells (Op.mk 0 0 0 0 0 [] []) nilS nilS)) :: (.blk b241 29 (Config.cells p1 vp1_capacities vp1_starts)) :: (.tok 45 3 [(sv v642)]) :: (.tok 3 1 [(sv v645)]) :: G = G' ∧ lp5 (M_168z p2 p0 p1) n648 i639 i640 i641 l643 l646 = some (y0, z0_at_, z0_value) ∧ Slr TyCase K' (sv v642) l643 ∧ Slr Ty.i64 K' (sv v645) l646) BIG ?_ ?_
  ·skip
   refine Shift.nilTok1 45 3 ?_
   refine Shift.nilTok1 3 1 ?_
   refine Pu1 ?_
   refine Pu4 ?_
   refine Pu4 ?_
   refine Pu4 ?_
   refine Pu5 ?_
   refine Shift.done ?_
   exact ⟨_, by exact ⟨rfl, rfl, rfl, rfl, rfl, rfl, trivial⟩, 0, p0.at_, p0.value, nilS, ([] : List Case), nilS, ([] : List Int), rfl, rfl, H, (Slr.nil TyCase _), (Slr.nil Ty.i64 _)⟩
  rintro n648 _ K649 _ hK650 ⟨i639, i640, i641, v642, l643, v645, l646, rfl, rfl, H, hs644, hs647⟩
  obtain ⟨m651, k652, rfl, hkk653, H⟩ := lps5 H
  unfold M_168z at H
  refine Cw_seq ?_
  refine Cw_seq ?_
  refine Cw_region ?_
  refine Ow_q rfl rfl rfl (Qt_move rfl) ?_
  refine Ow_q rfl rfl rfl (Qt_move rfl) ?_
  refine Ow_q rfl rfl rfl (Qt_move rfl) ?_
  refine Ow_q rfl rfl rfl (Qt_arith (e := wI (p2 + 1)) rfl rfl rfl rfl) ?_
  obtain ⟨x659, x660, hx661, H⟩ := bnd2 H
  have hs662 := (hp0_list).mono hK650
  refine Ow_cons rfl (OpW_call rfl Try.call20 rfl rfl (c_M_0z bp0 (Draw_Codes.mk p0.list i640 i641) vp0_list (wI (p2 + 1)) x659 x660 hx661 _ _ hs662) ?_)
  rintro _ _ _ - ⟨rfl, rfl, rfl⟩
  refine Ow_q rfl rfl rfl (Qt_cmp rfl rfl rfl) ?_
  refine Ow_nil ?_
  refine Cw_cond rfl ?_ ?_
  ·intro h663
   have h663 := dcd_t (h663)
   have H := ift h663 H
   refine Cw_skip ?_
   refine Cw_join (fun env' K' G' => ∃ (i739 : Int) (i740 : Int) (v741 : SV) (l742 : List Case) (v744 : SV) (l745 : List Int), [(0, (.pointer (some ((⟨bp0, 0, none⟩ : Addr).add 0)))), (2, (.int .i64 p2)), (4, (.pointer (some ((⟨b241, 0, none⟩ : Addr).add 0)))), (6, (.pointer (some ((⟨b242, 0, none⟩ : Addr).add 0)))), (7, (.pointer (some ((⟨b243, 0, none⟩ : Addr).add 0)))), (8, (.int .i64 i639))] = env' ∧ (.blk bp0 77 (Draw_Codes.cells (Draw_Codes.mk p0.list i739 i740) vp0_list)) :: (.blk b243 41 (Op.cells (Op.mk 4 0 0 0 0 l742 l745) v741 v744)) :: (.blk b242 41 (Op.cells (Op.mk 0 0 0 0 0 [] []) nilS nilS)) :: (.blk b241 29 (Config.cells p1 vp1_capacities vp1_starts)) :: (.tok 45 3 [(sv v741)]) :: (.tok 3 1 [(sv v744)]) :: G = G' ∧ M_166z p2 i639 p0 p1 k652 i739 i740 l742 l745 = some (y0, z0_at_, z0_value) ∧ Slr TyCase K' (sv v741) l742 ∧ Slr Ty.i64 K' (sv v744) l745) ?_ ?_
   ·skip
    refine Cw_block ?_
    refine Cw_join (fun env' K' G' => ∃ (b766 : Nat) (i767 : Int) (i768 : Int) (t769 : Bool) (i770 : Int), [(0, (.pointer (some ((⟨bp0, 0, none⟩ : Addr).add 0)))), (2, (.int .i64 p2)), (4, (.pointer (some ((⟨b241, 0, none⟩ : Addr).add 0)))), (6, (.pointer (some ((⟨b242, 0, none⟩ : Addr).add 0)))), (7, (.pointer (some ((⟨b243, 0, none⟩ : Addr).add 0)))), (8, (.int .i64 i639)), (9, (.pointer (some ((⟨b766, 0, none⟩ : Addr).add 0))))] = env' ∧ K649 = K' ∧ (.blk bp0 77 (Draw_Codes.cells (Draw_Codes.mk p0.list i767 i768) vp0_list)) :: (.blk b766 45 (Case.cells (Case.mk t769 i770 0))) :: (.blk b243 41 (Op.cells (Op.mk 4 0 0 0 0 l643 l646) v642 v645)) :: (.blk b242 41 (Op.cells (Op.mk 0 0 0 0 0 [] []) nilS nilS)) :: (.blk b241 29 (Config.cells p1 vp1_capacities vp1_starts)) :: (.tok 45 3 [(sv v642)]) :: (.tok 3 1 [(sv v645)]) :: G = G' ∧ M_167z p2 i639 p0 l643 l646 p1 k652 i767 i768 t769 i770 = some (y0, z0_at_, z0_value)) ?_ ?_
    ·skip
     obtain ⟨x771, x772, hx773, H⟩ := bnd2 H
     obtain ⟨x774, x775, x776, hx777, H⟩ := bnd3 H
     refine Cw_region_any [.blk b243 41 (Op.cells (Op.mk 4 0 0 0 0 l643 l646) v642 v645), .blk b242 41 (Op.cells (Op.mk 0 0 0 0 0 [] []) nilS nilS), .blk b241 29 (Config.cells p1 vp1_capacities vp1_starts), .tok 45 3 [(sv v642)], .tok 3 1 [(sv v645)]] rfl (Inc.cons (.tail _ (.head _)) (Inc.cons (.tail _ (.tail _ (.head _))) (Inc.cons (.tail _ (.tail _ (.tail _ (.head _)))) (Inc.cons (.tail _ (.tail _ (.tail _ (.tail _ (.head _))))) (Inc.cons (.tail _ (.tail _ (.tail _ (.tail _ (.tail _ (.head _)))))) Inc.nil))))) ?_
     refine Awq 0 rfl (by kernel_rfl) rfl rfl rfl (Qt_move rfl) ?_
     refine Awq 3 rfl (by kernel_rfl) rfl rfl rfl (Qt_move rfl) ?_
     refine Awq 4 rfl (by kernel_rfl) rfl rfl rfl (Qt_loadA (m := 3) (cs := (Config.cells p1 vp1_capacities vp1_starts)) rfl rfl rfl rfl ⟨rfl, Rdc.blk (.tail _ (.tail _ (.head _))) rfl⟩) ?_
     refine Aw_two 1 7 (by kernel_rfl) ?_ ?_
     ·skip
      refine id (Ax_mk rfl rfl ?_)
      refine OpW_call rfl Try.call20 rfl rfl (c_M_0z bp0 (Draw_Codes.mk p0.list x660 ((Draw_Codes.mk p0.list i640 i641).value)) vp0_list 2 x771 x772 hx773 _ _ hs662) ?_
      rintro _ _ _ - ⟨rfl, rfl, rfl⟩
      refine ⟨(Inc.cons (.tail _ (.head _)) (Inc.cons (.tail _ (.tail _ (.head _))) (Inc.cons (.tail _ (.tail _ (.tail _ (.head _)))) (Inc.cons (.tail _ (.tail _ (.tail _ (.tail _ (.head _))))) (Inc.cons (.tail _ (.tail _ (.tail _ (.tail _ (.tail _ (.head _)))))) Inc.nil))))), ?_⟩
      refine Awq 2 rfl (by kernel_rfl) rfl rfl rfl (Qt_cmp rfl rfl rfl) ?_
      refine Aw_two 5 7 (by kernel_rfl) ?_ ?_
      ·skip
       refine id (Ax_mk rfl rfl ?_)
       have hs781 := (hp1_capacities).mono hK650
       have hs782 := (hp1_starts).mono hK650
       refine OpW_call rfl Try.call36 rfl rfl (c_M_8z bp0 (Draw_Codes.mk p0.list x772 ((Draw_Codes.mk p0.list x660 ((Draw_Codes.mk p0.list i640 i641).value)).value)) vp0_list p1 vp1_capacities vp1_starts x774 x775 x776 hx777 _ _ hs662 hs781 hs782) ?_
       rintro _ _ _ - ⟨rfl, rfl, rfl⟩
       refine ⟨(Inc.cons (.tail _ (.head _)) (Inc.cons (.tail _ (.tail _ (.head _))) (Inc.cons (.tail _ (.tail _ (.tail _ (.head _)))) (Inc.cons (.tail _ (.tail _ (.tail _ (.tail _ (.head _))))) (Inc.cons (.tail _ (.tail _ (.tail _ (.tail _ (.tail _ (.head _)))))) Inc.nil))))), ?_⟩
       refine Awq 6 rfl (by kernel_rfl) rfl rfl rfl (Qt_build (cs := (Case.cells (Case.mk (dcd (x771 = 1)) x774 0))) rfl rfl rfl rfl rfl rfl) ?_
       refine Aw_one 7 (by kernel_rfl) (Ax_mk rfl rfl ?_)
       refine OpW_alloc (cs := (Case.cells (Case.mk false 0 0))) rfl rfl rfl rfl (fun b783 => ⟨(Inc.cons (.tail _ (.tail _ (.head _))) (Inc.cons (.tail _ (.tail _ (.tail _ (.head _)))) (Inc.cons (.tail _ (.tail _ (.tail _ (.tail _ (.head _))))) (Inc.cons (.tail _ (.tail _ (.tail _ (.tail _ (.tail _ (.head _)))))) (Inc.cons (.tail _ (.tail _ (.tail _ (.tail _ (.tail _ (.tail _ (.head _))))))) Inc.nil))))), ?_⟩)
       refine Aw_one 8 (by kernel_rfl) (Ax_mk rfl rfl ?_)
       refine OpW_store (vs := (Case.cells (Case.mk (dcd (x771 = 1)) x774 0))) (all' := (Case.cells (Case.mk (dcd (x771 = 1)) x774 0))) rfl rfl rfl rfl rfl .here rfl rfl rfl ⟨(Inc.cons (.tail _ (.tail _ (.head _))) (Inc.cons (.tail _ (.tail _ (.tail _ (.head _)))) (Inc.cons (.tail _ (.tail _ (.tail _ (.tail _ (.head _))))) (Inc.cons (.tail _ (.tail _ (.tail _ (.tail _ (.tail _ (.head _)))))) (Inc.cons (.tail _ (.tail _ (.tail _ (.tail _ (.tail _ (.tail _ (.head _))))))) Inc.nil))))), ?_⟩
       refine Aw_done (by kernel_rfl) ?_
       refine Pu6 ?_
       refine Pu6 ?_
       refine Pu6 ?_
       refine Pu6 ?_
       refine Pu6 ?_
       refine Pu5 ?_
       refine Pu6 ?_
       refine Shift.done ?_
       exact ⟨_, by exact ⟨rfl, rfl, rfl, rfl, rfl, rfl, rfl, trivial⟩, b783, x775, x776, (dcd (x771 = 1)), x774, rfl, rfl, rfl, H⟩
      ·skip
       refine id (Ax_mk rfl rfl ?_)
       refine OpW_alloc (cs := (Case.cells (Case.mk false 0 0))) rfl rfl rfl rfl (fun b784 => ⟨(Inc.cons (.tail _ (.tail _ (.head _))) (Inc.cons (.tail _ (.tail _ (.tail _ (.head _)))) (Inc.cons (.tail _ (.tail _ (.tail _ (.tail _ (.head _))))) (Inc.cons (.tail _ (.tail _ (.tail _ (.tail _ (.tail _ (.head _)))))) (Inc.cons (.tail _ (.tail _ (.tail _ (.tail _ (.tail _ (.tail _ (.head _))))))) Inc.nil))))), ?_⟩)
       refine Aw_one 5 (by kernel_rfl) (Ax_mk rfl rfl ?_)
       refine OpW.shift (Pu1 (Shift.done ?_))
       have hs785 := (hp1_capacities).mono hK650
       have hs786 := (hp1_starts).mono hK650
       refine OpW_call rfl Try.call36 rfl rfl (c_M_8z bp0 (Draw_Codes.mk p0.list x772 ((Draw_Codes.mk p0.list x660 ((Draw_Codes.mk p0.list i640 i641).value)).value)) vp0_list p1 vp1_capacities vp1_starts x774 x775 x776 hx777 _ _ hs662 hs785 hs786) ?_
       rintro _ _ _ - ⟨rfl, rfl, rfl⟩
       refine ⟨(Inc.cons (.tail _ (.tail _ (.head _))) (Inc.cons (.tail _ (.tail _ (.tail _ (.head _)))) (Inc.cons (.tail _ (.tail _ (.tail _ (.tail _ (.head _))))) (Inc.cons (.tail _ (.tail _ (.tail _ (.tail _ (.tail _ (.head _)))))) (Inc.cons (.tail _ (.tail _ (.tail _ (.tail _ (.tail _ (.tail _ (.head _))))))) Inc.nil))))), ?_⟩
       refine Awq 6 rfl (by kernel_rfl) rfl rfl rfl (Qt_build (cs := (Case.cells (Case.mk (dcd (x771 = 1)) x774 0))) rfl rfl rfl rfl rfl rfl) ?_
       refine Aw_one 8 (by kernel_rfl) (Ax_mk rfl rfl ?_)
       refine OpW_store (vs := (Case.cells (Case.mk (dcd (x771 = 1)) x774 0))) (all' := (Case.cells (Case.mk (dcd (x771 = 1)) x774 0))) rfl rfl rfl rfl rfl (.there .here) rfl rfl rfl ⟨(Inc.cons (.tail _ (.tail _ (.head _))) (Inc.cons (.tail _ (.tail _ (.tail _ (.head _)))) (Inc.cons (.tail _ (.tail _ (.tail _ (.tail _ (.head _))))) (Inc.cons (.tail _ (.tail _ (.tail _ (.tail _ (.tail _ (.head _)))))) (Inc.cons (.tail _ (.tail _ (.tail _ (.tail _ (.tail _ (.tail _ (.head _))))))) Inc.nil))))), ?_⟩
       refine Aw_done (by kernel_rfl) ?_
       refine Pu6 ?_
       refine Pu6 ?_
       refine Pu6 ?_
       refine Pu6 ?_
       refine Pu6 ?_
       refine Pu6 ?_
       refine Pu6 ?_
       refine Shift.done ?_
       exact ⟨_, by exact ⟨rfl, rfl, rfl, rfl, rfl, rfl, rfl, trivial⟩, b784, x775, x776, (dcd (x771 = 1)), x774, rfl, rfl, rfl, H⟩
     ·skip
      refine id (Ax_mk rfl rfl ?_)
      refine OpW_alloc (cs := (Case.cells (Case.mk false 0 0))) rfl rfl rfl rfl (fun b787 => ⟨(Inc.cons (.tail _ (.tail _ (.head _))) (Inc.cons (.tail _ (.tail _ (.tail _ (.head _)))) (Inc.cons (.tail _ (.tail _ (.tail _ (.tail _ (.head _))))) (Inc.cons (.tail _ (.tail _ (.tail _ (.tail _ (.tail _ (.head _)))))) (Inc.cons (.tail _ (.tail _ (.tail _ (.tail _ (.tail _ (.tail _ (.head _))))))) Inc.nil))))), ?_⟩)
      refine Aw_one 1 (by kernel_rfl) (Ax_mk rfl rfl ?_)
      refine OpW.shift (Pu1 (Shift.done ?_))
      refine OpW_call rfl Try.call20 rfl rfl (c_M_0z bp0 (Draw_Codes.mk p0.list x660 ((Draw_Codes.mk p0.list i640 i641).value)) vp0_list 2 x771 x772 hx773 _ _ hs662) ?_
      rintro _ _ _ - ⟨rfl, rfl, rfl⟩
      refine ⟨(Inc.cons (.tail _ (.tail _ (.head _))) (Inc.cons (.tail _ (.tail _ (.tail _ (.head _)))) (Inc.cons (.tail _ (.tail _ (.tail _ (.tail _ (.head _))))) (Inc.cons (.tail _ (.tail _ (.tail _ (.tail _ (.tail _ (.head _)))))) (Inc.cons (.tail _ (.tail _ (.tail _ (.tail _ (.tail _ (.tail _ (.head _))))))) Inc.nil))))), ?_⟩
      refine Awq 2 rfl (by kernel_rfl) rfl rfl rfl (Qt_cmp rfl rfl rfl) ?_
      refine Aw_one 5 (by kernel_rfl) (Ax_mk rfl rfl ?_)
      have hs788 := (hp1_capacities).mono hK650
      have hs789 := (hp1_starts).mono hK650
      refine OpW_call rfl Try.call36 rfl rfl (c_M_8z bp0 (Draw_Codes.mk p0.list x772 ((Draw_Codes.mk p0.list x660 ((Draw_Codes.mk p0.list i640 i641).value)).value)) vp0_list p1 vp1_capacities vp1_starts x774 x775 x776 hx777 _ _ hs662 hs788 hs789) ?_
      rintro _ _ _ - ⟨rfl, rfl, rfl⟩
      refine ⟨(Inc.cons (.tail _ (.tail _ (.head _))) (Inc.cons (.tail _ (.tail _ (.tail _ (.head _)))) (Inc.cons (.tail _ (.tail _ (.tail _ (.tail _ (.head _))))) (Inc.cons (.tail _ (.tail _ (.tail _ (.tail _ (.tail _ (.head _)))))) (Inc.cons (.tail _ (.tail _ (.tail _ (.tail _ (.tail _ (.tail _ (.head _))))))) Inc.nil))))), ?_⟩
      refine Awq 6 rfl (by kernel_rfl) rfl rfl rfl (Qt_build (cs := (Case.cells (Case.mk (dcd (x771 = 1)) x774 0))) rfl rfl rfl rfl rfl rfl) ?_
      refine Aw_one 8 (by kernel_rfl) (Ax_mk rfl rfl ?_)
      refine OpW_store (vs := (Case.cells (Case.mk (dcd (x771 = 1)) x774 0))) (all' := (Case.cells (Case.mk (dcd (x771 = 1)) x774 0))) rfl rfl rfl rfl rfl (.there .here) rfl rfl rfl ⟨(Inc.cons (.tail _ (.tail _ (.head _))) (Inc.cons (.tail _ (.tail _ (.tail _ (.head _)))) (Inc.cons (.tail _ (.tail _ (.tail _ (.tail _ (.head _))))) (Inc.cons (.tail _ (.tail _ (.tail _ (.tail _ (.tail _ (.head _)))))) (Inc.cons (.tail _ (.tail _ (.tail _ (.tail _ (.tail _ (.tail _ (.head _))))))) Inc.nil))))), ?_⟩
      refine Aw_done (by kernel_rfl) ?_
      refine Pu6 ?_
      refine Pu6 ?_
      refine Pu6 ?_
      refine Pu6 ?_
      refine Pu6 ?_
      refine Pu6 ?_
      refine Pu6 ?_
      refine Shift.done ?_
      exact ⟨_, by exact ⟨rfl, rfl, rfl, rfl, rfl, rfl, rfl, trivial⟩, b787, x775, x776, (dcd (x771 = 1)), x774, rfl, rfl, rfl, H⟩
    rintro _ _ _ - ⟨b766, i767, i768, t769, i770, rfl, rfl, rfl, H⟩
    unfold M_167z at H
    refine Cw_join (fun env' K' G' => ∃ (i794 : Int) (i795 : Int) (i796 : Int), [(0, (.pointer (some ((⟨bp0, 0, none⟩ : Addr).add 0)))), (2, (.int .i64 p2)), (4, (.pointer (some ((⟨b241, 0, none⟩ : Addr).add 0)))), (6, (.pointer (some ((⟨b242, 0, none⟩ : Addr).add 0)))), (7, (.pointer (some ((⟨b243, 0, none⟩ : Addr).add 0)))), (8, (.int .i64 i639)), (9, (.pointer (some ((⟨b766, 0, none⟩ : Addr).add 0))))] = env' ∧ K649 = K' ∧ (.blk bp0 77 (Draw_Codes.cells (Draw_Codes.mk p0.list i794 i795) vp0_list)) :: (.blk b766 45 (Case.cells (Case.mk t769 i770 i796))) :: (.blk b243 41 (Op.cells (Op.mk 4 0 0 0 0 l643 l646) v642 v645)) :: (.blk b242 41 (Op.cells (Op.mk 0 0 0 0 0 [] []) nilS nilS)) :: (.blk b241 29 (Config.cells p1 vp1_capacities vp1_starts)) :: (.tok 45 3 [(sv v642)]) :: (.tok 3 1 [(sv v645)]) :: G = G' ∧ M_74z p2 i639 p0 t769 i770 l643 l646 p1 k652 i794 i795 i796 = some (y0, z0_at_, z0_value)) ?_ ?_
    ·skip
     refine Cw_seq ?_
     refine Cw_region ?_
     refine Ow_q rfl rfl rfl (Qt_fieldAddr (m := 0) rfl rfl rfl rfl rfl) ?_
     refine Ow_q rfl rfl rfl (Qt_load1 (v := (.bool t769)) rfl rfl rfl (Rdc.blk (.tail _ (.head _)) rfl)) ?_
     refine Ow_nil ?_
     refine Cw_cond rfl ?_ ?_
     ·intro h797
      have H := ift h797 H
      refine Cw_region ?_
      refine Ow_q rfl rfl rfl (Qt_move rfl) ?_
      obtain ⟨x798, x799, hx800, H⟩ := bnd2 H
      refine Ow_cons rfl (OpW_call rfl Try.call37 rfl rfl (c_M_117z bp0 (Draw_Codes.mk p0.list i767 i768) vp0_list x798 x799 hx800 _ _ hs662) ?_)
      rintro _ _ _ - ⟨rfl, rfl, rfl⟩
      refine Ow_q rfl rfl rfl (Qt_fieldAddr (m := 2) rfl rfl rfl rfl rfl) ?_
      refine Ow_cons rfl (OpW_store (vs := [(.int .u64 x798)]) (all' := (Case.cells (Case.mk t769 i770 x798))) rfl rfl rfl rfl rfl (.there .here) rfl rfl rfl ?_)
      refine Ow_nil ?_
      refine Pu6 ?_
      refine Pu6 ?_
      refine Pu6 ?_
      refine Pu6 ?_
      refine Pu6 ?_
      refine Pu6 ?_
      refine Pu6 ?_
      refine Shift.done ?_
      exact ⟨_, by exact ⟨rfl, rfl, rfl, rfl, rfl, rfl, rfl, trivial⟩, ((Draw_Codes.mk p0.list i767 i768).at_), x799, x798, rfl, rfl, rfl, H⟩
     ·intro h797
      have H := iff_ (btf h797) H
      refine Cw_skip ?_
      refine Pu6 ?_
      refine Pu6 ?_
      refine Pu6 ?_
      refine Pu6 ?_
      refine Pu6 ?_
      refine Pu6 ?_
      refine Pu6 ?_
      refine Shift.done ?_
      exact ⟨_, by exact ⟨rfl, rfl, rfl, rfl, rfl, rfl, rfl, trivial⟩, i767, i768, 0, rfl, rfl, rfl, H⟩
    rintro _ _ _ - ⟨i794, i795, i796, rfl, rfl, rfl, H⟩
    unfold M_74z at H
    refine Cw_seq ?_
    refine Cw_region ?_
    refine Ow_q rfl rfl rfl (Qt_fieldAddr (m := 5) rfl rfl rfl rfl rfl) ?_
    refine Ow_q rfl rfl rfl (Qt_load1 (v := (sv v642)) rfl rfl rfl (Rdc.blk (.tail _ (.tail _ (.head _))) rfl)) ?_
    refine Ow_q rfl rfl rfl (Qt_loadA (m := 3) (cs := (Case.cells (Case.mk t769 i770 i796))) rfl rfl rfl rfl ⟨rfl, Rdc.blk (.tail _ (.head _)) rfl⟩) ?_
    have hR802 : RowR TyCase K649 [(Case.cells (Case.mk t769 i770 i796))] [(Case.mk t769 i770 i796)] := RowR.cons rfl (RowR.nil)
    refine Ow_cons rfl (O_lit (T := TyCase) (rows := [(Case.cells (Case.mk t769 i770 i796))]) (l := [(Case.mk t769 i770 i796)]) rfl rfl rfl hR802 rfl rfl rfl rfl rfl rfl rfl rfl (fun v801 => ?_))
    obtain ⟨x803, hx804, H⟩ := bnd H
    refine Ow_cons rfl (O_appTok (T := TyCase) (bytes := 24) (q := 0) rfl rfl rfl hs644 (.tail _ (.tail _ (.tail _ (.tail _ (.tail _ (.tail _ (.head _))))))) rfl (SrcT.row (.head _) hR802 rfl) hx804 rfl rfl rfl rfl rfl rfl rfl rfl (fun v805 K806 hK807 hs808 => ⟨_, (.there (.there (.there (.there (.there (.there .here)))))), ?_⟩))
    refine Ow.shift (Re0 (Shift.done ?_))
    refine Ow_q rfl rfl rfl (Qt_fieldAddr (m := 5) rfl rfl rfl rfl rfl) ?_
    refine Ow_cons rfl (OpW_store (vs := [(sv v805)]) (all' := (Op.cells (Op.mk 4 0 0 0 0 x803 l646) v805 v645)) rfl rfl rfl rfl rfl (.there (.there .here)) rfl rfl rfl ?_)
    refine Ow_nil ?_
    obtain ⟨x809, x810, hx811, H⟩ := bnd2 H
    obtain ⟨x815, hx816, H⟩ := bnd H
    refine Cw_region_any [.blk b766 45 (Case.cells (Case.mk t769 i770 i796)), .blk b242 41 (Op.cells (Op.mk 0 0 0 0 0 [] []) nilS nilS), .blk b241 29 (Config.cells p1 vp1_capacities vp1_starts), .tok 45 3 [(sv v805)]] rfl (Inc.cons (.tail _ (.head _)) (Inc.cons (.tail _ (.tail _ (.tail _ (.head _)))) (Inc.cons (.tail _ (.tail _ (.tail _ (.tail _ (.head _))))) (Inc.cons (.tail _ (.tail _ (.tail _ (.tail _ (.tail _ (.head _)))))) Inc.nil)))) ?_
    refine Awq 0 rfl (by kernel_rfl) rfl rfl rfl (Qt_fieldAddr (m := 6) rfl rfl rfl rfl rfl) ?_
    refine Awq 2 rfl (by kernel_rfl) rfl rfl rfl (Qt_move rfl) ?_
    refine Awq 3 rfl (by kernel_rfl) rfl rfl rfl (Qt_move rfl) ?_
    refine Awq 4 rfl (by kernel_rfl) rfl rfl rfl (Qt_arith (e := wI (i639 + 1)) rfl rfl rfl rfl) ?_
    refine Aw_two 1 5 (by kernel_rfl) ?_ ?_
    ·skip
     refine id (Ax_mk rfl rfl (OpW_of_Qt rfl rfl (Qt_load1 (v := (sv v645)) rfl rfl rfl (Rdc.blk (.tail _ (.tail _ (.head _))) rfl)) ⟨(Inc.cons (.tail _ (.head _)) (Inc.cons (.tail _ (.tail _ (.tail _ (.head _)))) (Inc.cons (.tail _ (.tail _ (.tail _ (.tail _ (.head _))))) (Inc.cons (.tail _ (.tail _ (.tail _ (.tail _ (.tail _ (.head _)))))) Inc.nil)))), ?_⟩))
     refine Aw_one 5 (by kernel_rfl) (Ax_mk rfl rfl ?_)
     have hs822 := (hs662).mono hK807
     refine OpW_call rfl Try.call20 rfl rfl (c_M_0z bp0 (Draw_Codes.mk p0.list i794 i795) vp0_list (wI (i639 + 1)) x809 x810 hx811 _ _ hs822) ?_
     rintro _ _ _ - ⟨rfl, rfl, rfl⟩
     refine ⟨(Inc.cons (.tail _ (.head _)) (Inc.cons (.tail _ (.tail _ (.tail _ (.head _)))) (Inc.cons (.tail _ (.tail _ (.tail _ (.tail _ (.head _))))) (Inc.cons (.tail _ (.tail _ (.tail _ (.tail _ (.tail _ (.head _)))))) Inc.nil)))), ?_⟩
     refine Aw_one 6 (by kernel_rfl) (Ax_mk rfl rfl ?_)
     have hR824 : RowR Ty.i64 K806 [[(.int .i64 x809)]] [x809] := RowR.cons rfl (RowR.nil)
     refine O_lit (T := Ty.i64) (rows := [[(.int .i64 x809)]]) (l := [x809]) rfl rfl rfl hR824 rfl rfl rfl rfl rfl rfl rfl rfl (fun v823 => ⟨(Inc.cons (.tail _ (.tail _ (.head _))) (Inc.cons (.tail _ (.tail _ (.tail _ (.tail _ (.head _))))) (Inc.cons (.tail _ (.tail _ (.tail _ (.tail _ (.tail _ (.head _)))))) (Inc.cons (.tail _ (.tail _ (.tail _ (.tail _ (.tail _ (.tail _ (.head _))))))) Inc.nil)))), ?_⟩)
     refine Aw_one 7 (by kernel_rfl) (Ax_mk rfl rfl ?_)
     have hs829 := (hs647).mono hK807
     refine O_appTok (T := Ty.i64) (bytes := 8) (q := 0) rfl rfl rfl hs829 (.tail _ (.tail _ (.tail _ (.tail _ (.tail _ (.tail _ (.tail _ (.head _)))))))) rfl (SrcT.row (.head _) hR824 rfl) hx816 rfl rfl rfl rfl rfl rfl rfl rfl (fun v825 K826 hK827 hs828 => ⟨_, (.there (.there (.there (.there (.there (.there (.there .here))))))), ⟨(Inc.cons (.tail _ (.tail _ (.head _))) (Inc.cons (.tail _ (.tail _ (.tail _ (.tail _ (.head _))))) (Inc.cons (.tail _ (.tail _ (.tail _ (.tail _ (.tail _ (.head _)))))) (Inc.cons (.tail _ (.tail _ (.tail _ (.tail _ (.tail _ (.tail _ (.head _))))))) Inc.nil)))), ?_⟩⟩)
     refine Aw.shift (Re0 (Shift.done ⟨(Inc.cons (.tail _ (.head _)) (Inc.cons (.tail _ (.tail _ (.tail _ (.head _)))) (Inc.cons (.tail _ (.tail _ (.tail _ (.tail _ (.head _))))) (Inc.cons (.tail _ (.tail _ (.tail _ (.tail _ (.tail _ (.head _)))))) Inc.nil)))), ?_⟩))
     refine Awq 8 rfl (by kernel_rfl) rfl rfl rfl (Qt_fieldAddr (m := 6) rfl rfl rfl rfl rfl) ?_
     refine Aw_one 9 (by kernel_rfl) (Ax_mk rfl rfl ?_)
     refine OpW_store (vs := [(sv v825)]) (all' := (Op.cells (Op.mk 4 0 0 0 0 x803 x815) v805 v825)) rfl rfl rfl rfl rfl (.there (.there .here)) rfl rfl rfl ⟨(Inc.cons (.tail _ (.head _)) (Inc.cons (.tail _ (.tail _ (.tail _ (.head _)))) (Inc.cons (.tail _ (.tail _ (.tail _ (.tail _ (.head _))))) (Inc.cons (.tail _ (.tail _ (.tail _ (.tail _ (.tail _ (.head _)))))) Inc.nil)))), ?_⟩
     refine Aw_done (by kernel_rfl) ?_
     refine Pu6 ?_
     refine Pu6 ?_
     refine Pu6 ?_
     refine Pu6 ?_
     refine Pu6 ?_
     refine Pu5 ?_
     refine Re6 ?_
     have hs830 := (hs808).mono hK827
     refine Shift.done ?_
     exact ⟨_, by exact ⟨rfl, rfl, rfl, rfl, rfl, rfl, trivial⟩, x810, ((Draw_Codes.mk p0.list i794 i795).value), v805, x803, v825, x815, rfl, rfl, H, hs830, hs828⟩
    ·skip
     refine id (Ax_mk rfl rfl ?_)
     have hs831 := (hs662).mono hK807
     refine OpW_call rfl Try.call20 rfl rfl (c_M_0z bp0 (Draw_Codes.mk p0.list i794 i795) vp0_list (wI (i639 + 1)) x809 x810 hx811 _ _ hs831) ?_
     rintro _ _ _ - ⟨rfl, rfl, rfl⟩
     refine ⟨(Inc.cons (.tail _ (.head _)) (Inc.cons (.tail _ (.tail _ (.tail _ (.head _)))) (Inc.cons (.tail _ (.tail _ (.tail _ (.tail _ (.head _))))) (Inc.cons (.tail _ (.tail _ (.tail _ (.tail _ (.tail _ (.head _)))))) Inc.nil)))), ?_⟩
     refine Aw_two 1 6 (by kernel_rfl) ?_ ?_
     ·skip
      refine id (Ax_mk rfl rfl (OpW_of_Qt rfl rfl (Qt_load1 (v := (sv v645)) rfl rfl rfl (Rdc.blk (.tail _ (.tail _ (.head _))) rfl)) ⟨(Inc.cons (.tail _ (.head _)) (Inc.cons (.tail _ (.tail _ (.tail _ (.head _)))) (Inc.cons (.tail _ (.tail _ (.tail _ (.tail _ (.head _))))) (Inc.cons (.tail _ (.tail _ (.tail _ (.tail _ (.tail _ (.head _)))))) Inc.nil)))), ?_⟩))
      refine Aw_one 6 (by kernel_rfl) (Ax_mk rfl rfl ?_)
      have hR833 : RowR Ty.i64 K806 [[(.int .i64 x809)]] [x809] := RowR.cons rfl (RowR.nil)
      refine O_lit (T := Ty.i64) (rows := [[(.int .i64 x809)]]) (l := [x809]) rfl rfl rfl hR833 rfl rfl rfl rfl rfl rfl rfl rfl (fun v832 => ⟨(Inc.cons (.tail _ (.tail _ (.head _))) (Inc.cons (.tail _ (.tail _ (.tail _ (.tail _ (.head _))))) (Inc.cons (.tail _ (.tail _ (.tail _ (.tail _ (.tail _ (.head _)))))) (Inc.cons (.tail _ (.tail _ (.tail _ (.tail _ (.tail _ (.tail _ (.head _))))))) Inc.nil)))), ?_⟩)
      refine Aw_one 7 (by kernel_rfl) (Ax_mk rfl rfl ?_)
      have hs838 := (hs647).mono hK807
      refine O_appTok (T := Ty.i64) (bytes := 8) (q := 0) rfl rfl rfl hs838 (.tail _ (.tail _ (.tail _ (.tail _ (.tail _ (.tail _ (.tail _ (.head _)))))))) rfl (SrcT.row (.head _) hR833 rfl) hx816 rfl rfl rfl rfl rfl rfl rfl rfl (fun v834 K835 hK836 hs837 => ⟨_, (.there (.there (.there (.there (.there (.there (.there .here))))))), ⟨(Inc.cons (.tail _ (.tail _ (.head _))) (Inc.cons (.tail _ (.tail _ (.tail _ (.tail _ (.head _))))) (Inc.cons (.tail _ (.tail _ (.tail _ (.tail _ (.tail _ (.head _)))))) (Inc.cons (.tail _ (.tail _ (.tail _ (.tail _ (.tail _ (.tail _ (.head _))))))) Inc.nil)))), ?_⟩⟩)
      refine Aw.shift (Re0 (Shift.done ⟨(Inc.cons (.tail _ (.head _)) (Inc.cons (.tail _ (.tail _ (.tail _ (.head _)))) (Inc.cons (.tail _ (.tail _ (.tail _ (.tail _ (.head _))))) (Inc.cons (.tail _ (.tail _ (.tail _ (.tail _ (.tail _ (.head _)))))) Inc.nil)))), ?_⟩))
      refine Awq 8 rfl (by kernel_rfl) rfl rfl rfl (Qt_fieldAddr (m := 6) rfl rfl rfl rfl rfl) ?_
      refine Aw_one 9 (by kernel_rfl) (Ax_mk rfl rfl ?_)
      refine OpW_store (vs := [(sv v834)]) (all' := (Op.cells (Op.mk 4 0 0 0 0 x803 x815) v805 v834)) rfl rfl rfl rfl rfl (.there (.there .here)) rfl rfl rfl ⟨(Inc.cons (.tail _ (.head _)) (Inc.cons (.tail _ (.tail _ (.tail _ (.head _)))) (Inc.cons (.tail _ (.tail _ (.tail _ (.tail _ (.head _))))) (Inc.cons (.tail _ (.tail _ (.tail _ (.tail _ (.tail _ (.head _)))))) Inc.nil)))), ?_⟩
      refine Aw_done (by kernel_rfl) ?_
      refine Pu6 ?_
      refine Pu6 ?_
      refine Pu6 ?_
      refine Pu6 ?_
      refine Pu6 ?_
      refine Pu5 ?_
      refine Re6 ?_
      have hs839 := (hs808).mono hK836
      refine Shift.done ?_
      exact ⟨_, by exact ⟨rfl, rfl, rfl, rfl, rfl, rfl, trivial⟩, x810, ((Draw_Codes.mk p0.list i794 i795).value), v805, x803, v834, x815, rfl, rfl, H, hs839, hs837⟩
     ·skip
      refine id (Ax_mk rfl rfl ?_)
      have hR841 : RowR Ty.i64 K806 [[(.int .i64 x809)]] [x809] := RowR.cons rfl (RowR.nil)
      refine O_lit (T := Ty.i64) (rows := [[(.int .i64 x809)]]) (l := [x809]) rfl rfl rfl hR841 rfl rfl rfl rfl rfl rfl rfl rfl (fun v840 => ⟨(Inc.cons (.tail _ (.tail _ (.head _))) (Inc.cons (.tail _ (.tail _ (.tail _ (.tail _ (.head _))))) (Inc.cons (.tail _ (.tail _ (.tail _ (.tail _ (.tail _ (.head _)))))) (Inc.cons (.tail _ (.tail _ (.tail _ (.tail _ (.tail _ (.tail _ (.head _))))))) Inc.nil)))), ?_⟩)
      refine Aw_one 1 (by kernel_rfl) (Ax_mk rfl rfl (OpW_of_Qt rfl rfl (Qt_load1 (v := (sv v645)) rfl rfl rfl (Rdc.blk (.tail _ (.tail _ (.tail _ (.head _)))) rfl)) ⟨(Inc.cons (.tail _ (.tail _ (.head _))) (Inc.cons (.tail _ (.tail _ (.tail _ (.tail _ (.head _))))) (Inc.cons (.tail _ (.tail _ (.tail _ (.tail _ (.tail _ (.head _)))))) (Inc.cons (.tail _ (.tail _ (.tail _ (.tail _ (.tail _ (.tail _ (.head _))))))) Inc.nil)))), ?_⟩))
      refine Aw_one 7 (by kernel_rfl) (Ax_mk rfl rfl ?_)
      have hs846 := (hs647).mono hK807
      refine O_appTok (T := Ty.i64) (bytes := 8) (q := 0) rfl rfl rfl hs846 (.tail _ (.tail _ (.tail _ (.tail _ (.tail _ (.tail _ (.tail _ (.head _)))))))) rfl (SrcT.row (.head _) hR841 rfl) hx816 rfl rfl rfl rfl rfl rfl rfl rfl (fun v842 K843 hK844 hs845 => ⟨_, (.there (.there (.there (.there (.there (.there (.there .here))))))), ⟨(Inc.cons (.tail _ (.tail _ (.head _))) (Inc.cons (.tail _ (.tail _ (.tail _ (.tail _ (.head _))))) (Inc.cons (.tail _ (.tail _ (.tail _ (.tail _ (.tail _ (.head _)))))) (Inc.cons (.tail _ (.tail _ (.tail _ (.tail _ (.tail _ (.tail _ (.head _))))))) Inc.nil)))), ?_⟩⟩)
      refine Aw.shift (Re0 (Shift.done ⟨(Inc.cons (.tail _ (.head _)) (Inc.cons (.tail _ (.tail _ (.tail _ (.head _)))) (Inc.cons (.tail _ (.tail _ (.tail _ (.tail _ (.head _))))) (Inc.cons (.tail _ (.tail _ (.tail _ (.tail _ (.tail _ (.head _)))))) Inc.nil)))), ?_⟩))
      refine Awq 8 rfl (by kernel_rfl) rfl rfl rfl (Qt_fieldAddr (m := 6) rfl rfl rfl rfl rfl) ?_
      refine Aw_one 9 (by kernel_rfl) (Ax_mk rfl rfl ?_)
      refine OpW_store (vs := [(sv v842)]) (all' := (Op.cells (Op.mk 4 0 0 0 0 x803 x815) v805 v842)) rfl rfl rfl rfl rfl (.there (.there .here)) rfl rfl rfl ⟨(Inc.cons (.tail _ (.head _)) (Inc.cons (.tail _ (.tail _ (.tail _ (.head _)))) (Inc.cons (.tail _ (.tail _ (.tail _ (.tail _ (.head _))))) (Inc.cons (.tail _ (.tail _ (.tail _ (.tail _ (.tail _ (.head _)))))) Inc.nil)))), ?_⟩
      refine Aw_done (by kernel_rfl) ?_
      refine Pu6 ?_
      refine Pu6 ?_
      refine Pu6 ?_
      refine Pu6 ?_
      refine Pu6 ?_
      refine Pu5 ?_
      refine Re6 ?_
      have hs847 := (hs808).mono hK844
      refine Shift.done ?_
      exact ⟨_, by exact ⟨rfl, rfl, rfl, rfl, rfl, rfl, trivial⟩, x810, ((Draw_Codes.mk p0.list i794 i795).value), v805, x803, v842, x815, rfl, rfl, H, hs847, hs845⟩
   rintro _ K848 _ hK849 ⟨i739, i740, v741, l742, v744, l745, rfl, rfl, H, hs743, hs746⟩
   unfold M_166z at H
   refine Cw_region ?_
   refine Ow_q rfl rfl rfl (Qt_move rfl) ?_
   refine Ow_q rfl rfl rfl (Qt_arith (e := wI (i639 + 1)) rfl rfl rfl rfl) ?_
   refine Ow_q rfl rfl rfl (Qt_assign rfl) ?_
   refine Ow_nil ?_
   refine Pu5 ?_
   refine Pu5 ?_
   refine Pu5 ?_
   refine Pu5 ?_
   refine Pu5 ?_
   refine Pu5 ?_
   refine Shift.done ?_
   exact ⟨_, by exact ⟨rfl, rfl, rfl, rfl, rfl, rfl, trivial⟩, _, Nat.lt_succ_self _, (wI (i639 + 1)), i739, i740, v741, l742, v744, l745, rfl, rfl, (hkk653 ▸ H), hs743, hs746⟩
  ·intro h663
   have h663 := dcd_f (h663)
   have H := iff_ h663 H
   refine Cw_exit ?_
   refine Pu5 ?_
   refine Pu5 ?_
   refine Pu4 ?_
   refine Pu4 ?_
   refine Pu4 ?_
   refine Re5 ?_
   refine Shift.done ?_
   exact ⟨_, by exact ⟨rfl, rfl, rfl, trivial⟩, x660, ((Draw_Codes.mk p0.list i640 i641).value), v642, l643, v645, l646, rfl, rfl, H, hs644, hs647⟩
 rintro _ K850 _ hK851 ⟨i442, i443, v444, l445, v447, l448, rfl, rfl, H, hs446, hs449⟩
 unfold M_165z at H
 refine Cw_seq ?_
 refine Cw_region ?_
 refine Ow_q rfl rfl rfl (Qt_move rfl) ?_
 refine Ow_q rfl rfl rfl (Qt_loadA (m := 7) (cs := (Op.cells (Op.mk 4 0 0 0 0 l445 l448) v444 v447)) rfl rfl rfl rfl ⟨rfl, Rdc.blk (.tail _ (.head _)) rfl⟩) ?_
 obtain ⟨x852, x853, x854, hx855, H⟩ := bnd3 H
 have hs856 := (hp0_list).mono hK851
 refine Ow_cons rfl (OpW_call rfl Try.call38 rfl rfl (c_M_37z bp0 (Draw_Codes.mk p0.list i442 i443) vp0_list (Op.mk 4 0 0 0 0 l445 l448) v444 v447 x852 x853 x854 hx855 _ _ hs856 hs446 hs449) ?_)
 rintro _ _ _ - ⟨v857, v858, rfl, rfl, rfl, hs859, hs860⟩
 refine Ow_cons rfl (OpW_store (vs := (Op.cells x852 v857 v858)) (all' := (Op.cells x852 v857 v858)) rfl rfl rfl rfl rfl (.there (.there .here)) rfl rfl rfl ?_)
 refine Ow_nil ?_
 refine Cw_ret ?_
 obtain ⟨ey0, ez0_at_, ez0_value⟩ := inj3 H
 subst y0 z0_at_ z0_value
 refine ⟨(by first | exact .inl rfl | exact .inr rfl), [(.agg (Op.cells x852 v857 v858).toArray)], ⟨(.agg (Op.cells x852 v857 v858).toArray), _, rfl, ⟨_, 7, (Op.cells x852 v857 v858), rfl, rfl, rfl, rfl, ⟨rfl, Rdc.blk (.tail _ (.tail _ (.head _))) rfl⟩, rfl⟩, rfl⟩, ?_⟩
 refine Re1 ?_
 refine Re1 ?_
 refine Re1 ?_
 refine Re1 ?_
 refine Shift.done ?_
 exact ⟨v857, v858, rfl, rfl, hs859, hs860⟩

set_option maxHeartbeats 1000000 in
theorem c_M_75z (bp0 : Nat) (p0 : Draw_Codes) (vp0_list : SV) (p1 : Config) (vp1_capacities : SV) (vp1_starts : SV) (y0 : Op) (z0_at_ : Int) (z0_value : Int) (H : M_75z p0 p1 = some (y0, z0_at_, z0_value)) (K : Kp) (G : List Ent) (hp0_list : Slr Ty.u8 K (sv vp0_list) p0.list) (hp1_capacities : Slr Ty.i64 K (sv vp1_capacities) p1.capacities) (hp1_starts : Slr Ty.u64 K (sv vp1_starts) p1.starts) :
  Fc Try.prog 21 #[(.pointer (some ((⟨bp0, 0, none⟩ : Addr).add 0))), (.agg (Config.cells p1 vp1_capacities vp1_starts).toArray)] K ((.blk bp0 77 (Draw_Codes.cells p0 vp0_list)) :: G) (fun v K' G' => ∃ (wy0_cases : SV) (wy0_draws : SV), v = (.agg (Op.cells y0 wy0_cases wy0_draws).toArray) ∧ (.blk bp0 77 (Draw_Codes.cells (Draw_Codes.mk p0.list z0_at_ z0_value) vp0_list)) :: G = G' ∧ Slr TyCase K' (sv wy0_cases) y0.cases ∧ Slr Ty.i64 K' (sv wy0_draws) y0.draws) := by
 refine Fc_body Try.func21 rfl Try.ntmps21 Try.results21 rfl ?_
 unfold M_75z at H
 refine Cw_seq ?_
 refine Cw_region ?_
 refine Ow_cons rfl (OpW_box (cs := (Config.cells p1 vp1_capacities vp1_starts)) rfl rfl rfl (fun b60 => ?_))
 refine Ow_cons rfl (OpW_alloc (cs := (Op.cells (Op.mk 0 0 0 0 0 [] []) nilS nilS)) rfl rfl rfl rfl (fun b61 => ?_))
 refine Ow_nil ?_
 refine Cw_seq ?_
 refine Cw_seq ?_
 refine Cw_region ?_
 refine Ow_q rfl rfl rfl (Qt_move rfl) ?_
 obtain ⟨x115, x116, hx117, H⟩ := bnd2 H
 refine Ow.shift (Pu2 (Shift.done ?_))
 refine Ow_cons rfl (OpW_call rfl Try.call20 rfl rfl (c_M_0z bp0 p0 vp0_list 20 x115 x116 hx117 _ _ hp0_list) ?_)
 rintro _ _ _ - ⟨rfl, rfl, rfl⟩
 refine Ow_q rfl rfl rfl (Qt_assign rfl) ?_
 refine Ow_nil ?_
 refine Cw_block ?_
 refine Cw_seq ?_
 refine Cw_region ?_
 refine Ow_q rfl rfl rfl (Qt_move rfl) ?_
 refine Ow_q rfl rfl rfl (Qt_cmp rfl rfl rfl) ?_
 refine Ow_q rfl rfl rfl (Qt_assign rfl) ?_
 refine Ow_nil ?_
 refine Cw_cond rfl ?_ ?_
 ·intro h118
  have h118 := dcd_t (h118)
  have H := ift h118 H
  refine Cw_seq ?_
  refine Cw_region ?_
  refine Ow_q rfl rfl rfl (Qt_move rfl) ?_
  refine Ow_q rfl rfl rfl (Qt_move rfl) ?_
  refine Ow_q rfl rfl rfl (Qt_loadA (m := 3) (cs := (Config.cells p1 vp1_capacities vp1_starts)) rfl rfl rfl rfl ⟨rfl, Rdc.blk (.tail _ (.tail _ (.head _))) rfl⟩) ?_
  obtain ⟨x119, x120, x121, hx122, H⟩ := bnd3 H
  refine Ow_cons rfl (OpW_call rfl Try.call36 rfl rfl (c_M_8z bp0 (Draw_Codes.mk p0.list x116 p0.value) vp0_list p1 vp1_capacities vp1_starts x119 x120 x121 hx122 _ _ hp0_list hp1_capacities hp1_starts) ?_)
  rintro _ _ _ - ⟨rfl, rfl, rfl⟩
  refine Ow_q rfl rfl rfl (Qt_move rfl) ?_
  obtain ⟨x123, x124, hx125, H⟩ := bnd2 H
  refine Ow_cons rfl (OpW_call rfl Try.call37 rfl rfl (c_M_117z bp0 (Draw_Codes.mk p0.list x120 x121) vp0_list x123 x124 hx125 _ _ hp0_list) ?_)
  rintro _ _ _ - ⟨rfl, rfl, rfl⟩
  refine Ow_q rfl rfl rfl (Qt_build (cs := (Op.cells (Op.mk 1 0 x119 x123 0 [] []) nilS nilS)) rfl rfl rfl rfl rfl rfl) ?_
  obtain ⟨x126, x127, x128, hx129, H⟩ := bnd3 H
  refine Ow_cons rfl (OpW_call rfl Try.call38 rfl rfl (c_M_37z bp0 (Draw_Codes.mk p0.list ((Draw_Codes.mk p0.list x120 x121).at_) x124) vp0_list (Op.mk 1 0 x119 x123 0 [] []) nilS nilS x126 x127 x128 hx129 _ _ hp0_list (Slr.nil TyCase _) (Slr.nil Ty.i64 _)) ?_)
  rintro _ _ _ - ⟨v130, v131, rfl, rfl, rfl, hs132, hs133⟩
  refine Ow_cons rfl (OpW_store (vs := (Op.cells x126 v130 v131)) (all' := (Op.cells x126 v130 v131)) rfl rfl rfl rfl rfl (.there .here) rfl rfl rfl ?_)
  refine Ow_nil ?_
  refine Cw_ret ?_
  obtain ⟨ey0, ez0_at_, ez0_value⟩ := inj3 H
  subst y0 z0_at_ z0_value
  refine ⟨(by first | exact .inl rfl | exact .inr rfl), [(.agg (Op.cells x126 v130 v131).toArray)], ⟨(.agg (Op.cells x126 v130 v131).toArray), _, rfl, ⟨_, 7, (Op.cells x126 v130 v131), rfl, rfl, rfl, rfl, ⟨rfl, Rdc.blk (.tail _ (.head _)) rfl⟩, rfl⟩, rfl⟩, ?_⟩
  refine Re1 ?_
  refine Re1 ?_
  refine Shift.done ?_
  exact ⟨v130, v131, rfl, rfl, hs132, hs133⟩
 ·intro h118
  have h118 := dcd_f (h118)
  have H := iff_ h118 H
  refine Cw_seq ?_
  refine Cw_region ?_
  refine Ow_q rfl rfl rfl (Qt_move rfl) ?_
  refine Ow_q rfl rfl rfl (Qt_cmp rfl rfl rfl) ?_
  refine Ow_q rfl rfl rfl (Qt_assign rfl) ?_
  refine Ow_nil ?_
  refine Cw_cond rfl ?_ ?_
  ·intro h134
   have h134 := dcd_t (h134)
   have H := ift h134 H
   refine Cw_seq ?_
   refine Cw_region ?_
   refine Ow_q rfl rfl rfl (Qt_move rfl) ?_
   refine Ow_q rfl rfl rfl (Qt_move rfl) ?_
   refine Ow_q rfl rfl rfl (Qt_loadA (m := 3) (cs := (Config.cells p1 vp1_capacities vp1_starts)) rfl rfl rfl rfl ⟨rfl, Rdc.blk (.tail _ (.tail _ (.head _))) rfl⟩) ?_
   obtain ⟨x135, x136, x137, hx138, H⟩ := bnd3 H
   refine Ow_cons rfl (OpW_call rfl Try.call36 rfl rfl (c_M_8z bp0 (Draw_Codes.mk p0.list x116 p0.value) vp0_list p1 vp1_capacities vp1_starts x135 x136 x137 hx138 _ _ hp0_list hp1_capacities hp1_starts) ?_)
   rintro _ _ _ - ⟨rfl, rfl, rfl⟩
   refine Ow_q rfl rfl rfl (Qt_build (cs := (Op.cells (Op.mk 2 0 x135 0 0 [] []) nilS nilS)) rfl rfl rfl rfl rfl rfl) ?_
   obtain ⟨x139, x140, x141, hx142, H⟩ := bnd3 H
   refine Ow_cons rfl (OpW_call rfl Try.call38 rfl rfl (c_M_37z bp0 (Draw_Codes.mk p0.list x136 x137) vp0_list (Op.mk 2 0 x135 0 0 [] []) nilS nilS x139 x140 x141 hx142 _ _ hp0_list (Slr.nil TyCase _) (Slr.nil Ty.i64 _)) ?_)
   rintro _ _ _ - ⟨v143, v144, rfl, rfl, rfl, hs145, hs146⟩
   refine Ow_cons rfl (OpW_store (vs := (Op.cells x139 v143 v144)) (all' := (Op.cells x139 v143 v144)) rfl rfl rfl rfl rfl (.there .here) rfl rfl rfl ?_)
   refine Ow_nil ?_
   refine Cw_ret ?_
   obtain ⟨ey0, ez0_at_, ez0_value⟩ := inj3 H
   subst y0 z0_at_ z0_value
   refine ⟨(by first | exact .inl rfl | exact .inr rfl), [(.agg (Op.cells x139 v143 v144).toArray)], ⟨(.agg (Op.cells x139 v143 v144).toArray), _, rfl, ⟨_, 7, (Op.cells x139 v143 v144), rfl, rfl, rfl, rfl, ⟨rfl, Rdc.blk (.tail _ (.head _)) rfl⟩, rfl⟩, rfl⟩, ?_⟩
   refine Re1 ?_
   refine Re1 ?_
   refine Shift.done ?_
   exact ⟨v143, v144, rfl, rfl, hs145, hs146⟩
  ·intro h134
   have h134 := dcd_f (h134)
   have H := iff_ h134 H
   refine Cw_seq ?_
   refine Cw_region ?_
   refine Ow_q rfl rfl rfl (Qt_move rfl) ?_
   refine Ow_q rfl rfl rfl (Qt_cmp rfl rfl rfl) ?_
   refine Ow_q rfl rfl rfl (Qt_assign rfl) ?_
   refine Ow_nil ?_
   refine Cw_cond rfl ?_ ?_
   ·intro h147
    have h147 := dcd_t (h147)
    have H := ift h147 H
    refine Cw_seq ?_
    refine Cw_region ?_
    refine Ow_q rfl rfl rfl (Qt_move rfl) ?_
    refine Ow_q rfl rfl rfl (Qt_loadA (m := 3) (cs := (Config.cells p1 vp1_capacities vp1_starts)) rfl rfl rfl rfl ⟨rfl, Rdc.blk (.tail _ (.tail _ (.head _))) rfl⟩) ?_
    obtain ⟨x148, x149, x150, hx151, H⟩ := bnd3 H
    refine Ow_cons rfl (OpW_call rfl Try.call15 rfl rfl (c_M_118z bp0 (Draw_Codes.mk p0.list x116 p0.value) vp0_list p1 vp1_capacities vp1_starts 4 x148 x149 x150 hx151 _ _ hp0_list hp1_capacities hp1_starts) ?_)
    rintro _ K154 _ hK155 ⟨v152, v153, rfl, rfl, hs156, hs157⟩
    refine Ow_cons rfl (OpW_store (vs := (Op.cells x148 v152 v153)) (all' := (Op.cells x148 v152 v153)) rfl rfl rfl rfl rfl (.there .here) rfl rfl rfl ?_)
    refine Ow_nil ?_
    refine Cw_ret ?_
    obtain ⟨ey0, ez0_at_, ez0_value⟩ := inj3 H
    subst y0 z0_at_ z0_value
    refine ⟨(by first | exact .inl rfl | exact .inr rfl), [(.agg (Op.cells x148 v152 v153).toArray)], ⟨(.agg (Op.cells x148 v152 v153).toArray), _, rfl, ⟨_, 7, (Op.cells x148 v152 v153), rfl, rfl, rfl, rfl, ⟨rfl, Rdc.blk (.tail _ (.head _)) rfl⟩, rfl⟩, rfl⟩, ?_⟩
    refine Re1 ?_
    refine Re1 ?_
    refine Shift.done ?_
    exact ⟨v152, v153, rfl, rfl, hs156, hs157⟩
   ·intro h147
    have h147 := dcd_f (h147)
    have H := iff_ h147 H
    refine Cw_seq ?_
    refine Cw_region ?_
    refine Ow_q rfl rfl rfl (Qt_move rfl) ?_
    refine Ow_q rfl rfl rfl (Qt_cmp rfl rfl rfl) ?_
    refine Ow_q rfl rfl rfl (Qt_assign rfl) ?_
    refine Ow_nil ?_
    refine Cw_cond rfl ?_ ?_
    ·intro h158
     have h158 := dcd_t (h158)
     have H := ift h158 H
     refine Cw_seq ?_
     refine Cw_region ?_
     refine Ow_q rfl rfl rfl (Qt_move rfl) ?_
     refine Ow_q rfl rfl rfl (Qt_loadA (m := 3) (cs := (Config.cells p1 vp1_capacities vp1_starts)) rfl rfl rfl rfl ⟨rfl, Rdc.blk (.tail _ (.tail _ (.head _))) rfl⟩) ?_
     obtain ⟨x159, x160, x161, hx162, H⟩ := bnd3 H
     refine Ow_cons rfl (OpW_call rfl Try.call36 rfl rfl (c_M_8z bp0 (Draw_Codes.mk p0.list x116 p0.value) vp0_list p1 vp1_capacities vp1_starts x159 x160 x161 hx162 _ _ hp0_list hp1_capacities hp1_starts) ?_)
     rintro _ _ _ - ⟨rfl, rfl, rfl⟩
     refine Ow_q rfl rfl rfl (Qt_build (cs := (Op.cells (Op.mk 3 0 x159 0 0 [] []) nilS nilS)) rfl rfl rfl rfl rfl rfl) ?_
     refine Ow_cons rfl (OpW_store (vs := (Op.cells (Op.mk 3 0 x159 0 0 [] []) nilS nilS)) (all' := (Op.cells (Op.mk 3 0 x159 0 0 [] []) nilS nilS)) rfl rfl rfl rfl rfl (.there .here) rfl rfl rfl ?_)
     refine Ow_nil ?_
     refine Cw_ret ?_
     obtain ⟨ey0, ez0_at_, ez0_value⟩ := inj3 H
     subst y0 z0_at_ z0_value
     refine ⟨(by first | exact .inl rfl | exact .inr rfl), [(.agg (Op.cells (Op.mk 3 0 x159 0 0 [] []) nilS nilS).toArray)], ⟨(.agg (Op.cells (Op.mk 3 0 x159 0 0 [] []) nilS nilS).toArray), _, rfl, ⟨_, 7, (Op.cells (Op.mk 3 0 x159 0 0 [] []) nilS nilS), rfl, rfl, rfl, rfl, ⟨rfl, Rdc.blk (.tail _ (.head _)) rfl⟩, rfl⟩, rfl⟩, ?_⟩
     refine Re1 ?_
     refine Re1 ?_
     refine Shift.done ?_
     exact ⟨nilS, nilS, rfl, rfl, (Slr.nil TyCase _), (Slr.nil Ty.i64 _)⟩
    ·intro h158
     have h158 := dcd_f (h158)
     have H := iff_ h158 H
     refine Cw_seq ?_
     refine Cw_region ?_
     refine Ow_q rfl rfl rfl (Qt_move rfl) ?_
     refine Ow_q rfl rfl rfl (Qt_cmp rfl rfl rfl) ?_
     refine Ow_q rfl rfl rfl (Qt_assign rfl) ?_
     refine Ow_nil ?_
     refine Cw_cond rfl ?_ ?_
     ·intro h163
      have h163 := dcd_t (h163)
      have H := ift h163 H
      refine Cw_seq ?_
      refine Cw_region ?_
      refine Ow_q rfl rfl rfl (Qt_move rfl) ?_
      refine Ow_q rfl rfl rfl (Qt_loadA (m := 3) (cs := (Config.cells p1 vp1_capacities vp1_starts)) rfl rfl rfl rfl ⟨rfl, Rdc.blk (.tail _ (.tail _ (.head _))) rfl⟩) ?_
      obtain ⟨x164, x165, x166, hx167, H⟩ := bnd3 H
      refine Ow_cons rfl (OpW_call rfl Try.call36 rfl rfl (c_M_8z bp0 (Draw_Codes.mk p0.list x116 p0.value) vp0_list p1 vp1_capacities vp1_starts x164 x165 x166 hx167 _ _ hp0_list hp1_capacities hp1_starts) ?_)
      rintro _ _ _ - ⟨rfl, rfl, rfl⟩
      refine Ow_q rfl rfl rfl (Qt_build (cs := (Op.cells (Op.mk 5 0 x164 0 0 [] []) nilS nilS)) rfl rfl rfl rfl rfl rfl) ?_
      refine Ow_cons rfl (OpW_store (vs := (Op.cells (Op.mk 5 0 x164 0 0 [] []) nilS nilS)) (all' := (Op.cells (Op.mk 5 0 x164 0 0 [] []) nilS nilS)) rfl rfl rfl rfl rfl (.there .here) rfl rfl rfl ?_)
      refine Ow_nil ?_
      refine Cw_ret ?_
      obtain ⟨ey0, ez0_at_, ez0_value⟩ := inj3 H
      subst y0 z0_at_ z0_value
      refine ⟨(by first | exact .inl rfl | exact .inr rfl), [(.agg (Op.cells (Op.mk 5 0 x164 0 0 [] []) nilS nilS).toArray)], ⟨(.agg (Op.cells (Op.mk 5 0 x164 0 0 [] []) nilS nilS).toArray), _, rfl, ⟨_, 7, (Op.cells (Op.mk 5 0 x164 0 0 [] []) nilS nilS), rfl, rfl, rfl, rfl, ⟨rfl, Rdc.blk (.tail _ (.head _)) rfl⟩, rfl⟩, rfl⟩, ?_⟩
      refine Re1 ?_
      refine Re1 ?_
      refine Shift.done ?_
      exact ⟨nilS, nilS, rfl, rfl, (Slr.nil TyCase _), (Slr.nil Ty.i64 _)⟩
     ·intro h163
      have h163 := dcd_f (h163)
      have H := iff_ h163 H
      refine Cw_skip ?_
      refine Cw_seq ?_
      refine Cw_region ?_
      refine Ow_q rfl rfl rfl (Qt_move rfl) ?_
      refine Ow_q rfl rfl rfl (Qt_loadA (m := 3) (cs := (Config.cells p1 vp1_capacities vp1_starts)) rfl rfl rfl rfl ⟨rfl, Rdc.blk (.tail _ (.tail _ (.head _))) rfl⟩) ?_
      obtain ⟨x168, x169, x170, hx171, H⟩ := bnd3 H
      refine Ow_cons rfl (OpW_call rfl Try.call36 rfl rfl (c_M_8z bp0 (Draw_Codes.mk p0.list x116 p0.value) vp0_list p1 vp1_capacities vp1_starts x168 x169 x170 hx171 _ _ hp0_list hp1_capacities hp1_starts) ?_)
      rintro _ _ _ - ⟨rfl, rfl, rfl⟩
      refine Ow_q rfl rfl rfl (Qt_build (cs := (Op.cells (Op.mk 6 0 x168 0 0 [] []) nilS nilS)) rfl rfl rfl rfl rfl rfl) ?_
      refine Ow_cons rfl (OpW_store (vs := (Op.cells (Op.mk 6 0 x168 0 0 [] []) nilS nilS)) (all' := (Op.cells (Op.mk 6 0 x168 0 0 [] []) nilS nilS)) rfl rfl rfl rfl rfl (.there .here) rfl rfl rfl ?_)
      refine Ow_nil ?_
      refine Cw_ret ?_
      obtain ⟨ey0, ez0_at_, ez0_value⟩ := inj3 H
      subst y0 z0_at_ z0_value
      refine ⟨(by first | exact .inl rfl | exact .inr rfl), [(.agg (Op.cells (Op.mk 6 0 x168 0 0 [] []) nilS nilS).toArray)], ⟨(.agg (Op.cells (Op.mk 6 0 x168 0 0 [] []) nilS nilS).toArray), _, rfl, ⟨_, 7, (Op.cells (Op.mk 6 0 x168 0 0 [] []) nilS nilS), rfl, rfl, rfl, rfl, ⟨rfl, Rdc.blk (.tail _ (.head _)) rfl⟩, rfl⟩, rfl⟩, ?_⟩
      refine Re1 ?_
      refine Re1 ?_
      refine Shift.done ?_
      exact ⟨nilS, nilS, rfl, rfl, (Slr.nil TyCase _), (Slr.nil Ty.i64 _)⟩


end Go.Hx

namespace Go.Hx
open Go Go.Proofs
set_option linter.unusedSimpArgs false
set_option linter.unusedVariables false
set_option maxRecDepth 10000
set_option maxHeartbeats 1000000 in
theorem c_M_114z  (y0 : Bool) (H : M_114z = some y0) (K : Kp) (G : List Ent)  :
  Fc Try.prog 9 #[] K (G) (fun v K' G' => v = (.bool y0) ∧ G = G') := by
 refine Fc_body Try.func9 rfl Try.ntmps9 Try.results9 rfl ?_
 unfold M_114z at H
 refine Cw_seq ?_
 refine Cw_region ?_
 refine Ow_q rfl rfl rfl (Qt_assign rfl) ?_
 refine Ow_nil ?_
 refine Cw_seq ?_
 refine Cw_region ?_
 have hR79 : RowR Ty.i64 K [[(.int .i64 0)]] [0] := RowR.cons rfl (RowR.nil)
 refine Ow_cons rfl (O_lit (T := Ty.i64) (rows := [[(.int .i64 0)]]) (l := [0]) rfl rfl rfl hR79 rfl rfl rfl rfl rfl rfl rfl rfl (fun v78 => ?_))
 have hR81 : RowR Ty.u64 K [[(.int .u64 0)]] [0] := RowR.cons rfl (RowR.nil)
 refine Ow_cons rfl (O_lit (T := Ty.u64) (rows := [[(.int .u64 0)]]) (l := [0]) rfl rfl rfl hR81 rfl rfl rfl rfl rfl rfl rfl rfl (fun v80 => ?_))
 refine Ow.shift (Shift.settle (T := Ty.i64) (.there .here) hR79 rfl (fun K82 hK83 hs84 => Shift.done ?_))
 have hs88 := (hR81).mono hK83
 refine Ow.shift (Shift.settle (T := Ty.u64) .here hs88 rfl (fun K85 hK86 hs87 => Shift.done ?_))
 refine Ow_q rfl rfl rfl (Qt_build (cs := (Config.cells (Config.mk [0] [0] 2) v78 v80)) rfl rfl rfl rfl rfl rfl) ?_
 obtain ⟨x89, hx90, H⟩ := bnd H
 have hs91 := (hs84).mono hK86
 refine Ow_cons rfl (OpW_call rfl Try.call27 rfl rfl (c_M_55z (Config.mk [0] [0] 2) v78 v80 x89 hx90 _ _ hs91 hs87) ?_)
 rintro _ K94 _ hK95 ⟨v92, v93, rfl, rfl, hs96, hs97⟩
 refine Ow_cons rfl (OpW_alloc (cs := (Desk.cells (Desk.mk [] [] 0) nilS nilS)) rfl rfl rfl rfl (fun b98 => ?_))
 refine Ow_cons rfl (OpW_store (vs := (Desk.cells x89 v92 v93)) (all' := (Desk.cells x89 v92 v93)) rfl rfl rfl rfl rfl .here rfl rfl rfl ?_)
 refine Ow_nil ?_
 refine Cw_seq ?_
 refine Cw_region ?_
 refine Ow_q rfl rfl rfl (Qt_loadA (m := 3) (cs := (Desk.cells x89 v92 v93)) rfl rfl rfl rfl ⟨rfl, Rdc.blk (.head _) rfl⟩) ?_
 refine Ow_q rfl rfl rfl (Qt_build (cs := (Op.cells (Op.mk 1 0 0 5 0 [] []) nilS nilS)) rfl rfl rfl rfl rfl rfl) ?_
 obtain ⟨x99, x100, x101, hx102, H⟩ := bnd3 H
 refine Ow_cons rfl (OpW_call rfl Try.call22 rfl rfl (c_M_desk_Do x89 v92 v93 0 (Op.mk 1 0 0 5 0 [] []) nilS nilS x99 x100 x101 hx102 _ _ hs96 hs97 (Slr.nil TyCase _) (Slr.nil Ty.i64 _)) ?_)
 rintro _ K109 _ hK110 ⟨v103, rs104, v105, rs106, v107, rs108, rfl, rfl, hs111, hs112, hs113⟩
 refine Ow_q rfl rfl rfl (Qt_move rfl) ?_
 refine Ow_q rfl rfl rfl (Qt_extract rfl rfl) ?_
 refine Ow_q rfl rfl rfl (Qt_extract rfl rfl) ?_
 refine Ow_q rfl rfl rfl (Qt_extract rfl rfl) ?_
 refine Ow_cons rfl (OpW_store (vs := (Desk.cells x99 v103 v105)) (all' := (Desk.cells x99 v103 v105)) rfl rfl rfl rfl rfl (.there (.there (.there .here))) rfl rfl rfl ?_)
 refine Ow_q rfl rfl rfl (Qt_assign rfl) ?_
 refine Ow_q rfl rfl rfl (Qt_assign rfl) ?_
 refine Ow_nil ?_
 refine Cw_seq ?_
 refine Cw_region ?_
 refine Ow_q rfl rfl rfl (Qt_loadA (m := 3) (cs := (Desk.cells x99 v103 v105)) rfl rfl rfl rfl ⟨rfl, Rdc.blk (.tail _ (.tail _ (.tail _ (.head _)))) rfl⟩) ?_
 refine Ow_q rfl rfl rfl (Qt_build (cs := (Op.cells (Op.mk 2 0 0 0 0 [] []) nilS nilS)) rfl rfl rfl rfl rfl rfl) ?_
 refine Ow.shift (Shift.settle (T := TyChan) .here hs111 rfl (fun K114 hK115 hs116 => Shift.done ?_))
 have hs120 := (hs112).mono hK115
 refine Ow.shift (Shift.settle (T := TyWaiter) (.there .here) hs120 rfl (fun K117 hK118 hs119 => Shift.done ?_))
 obtain ⟨x121, x122, x123, hx124, H⟩ := bnd3 H
 have hs125 := (hs116).mono hK118
 refine Ow_cons rfl (OpW_call rfl Try.call22 rfl rfl (c_M_desk_Do x99 v103 v105 1 (Op.mk 2 0 0 0 0 [] []) nilS nilS x121 x122 x123 hx124 _ _ hs125 hs119 (Slr.nil TyCase _) (Slr.nil Ty.i64 _)) ?_)
 rintro _ K132 _ hK133 ⟨v126, rs127, v128, rs129, v130, rs131, rfl, rfl, hs134, hs135, hs136⟩
 refine Ow_q rfl rfl rfl (Qt_move rfl) ?_
 refine Ow_q rfl rfl rfl (Qt_extract rfl rfl) ?_
 refine Ow_q rfl rfl rfl (Qt_extract rfl rfl) ?_
 refine Ow_q rfl rfl rfl (Qt_extract rfl rfl) ?_
 refine Ow_cons rfl (OpW_alloc (cs := (Desk.cells (Desk.mk [] [] 0) nilS nilS)) rfl rfl rfl rfl (fun b137 => ?_))
 refine Ow_cons rfl (OpW_store (vs := (Desk.cells x121 v126 v128)) (all' := (Desk.cells x121 v126 v128)) rfl rfl rfl rfl rfl .here rfl rfl rfl ?_)
 refine Ow_q rfl rfl rfl (Qt_assign rfl) ?_
 refine Ow_q rfl rfl rfl (Qt_assign rfl) ?_
 refine Ow_nil ?_
 refine Cw_join (fun env' K' G' => ∃ (t154 : Bool), [(0, (.bool t154))] = env' ∧ K132 = K' ∧ G = G' ∧ M_10z t154 = some y0) ?_ ?_
 ·skip
  refine Cw_region ?_
  refine Ow_q rfl rfl rfl (Qt_move rfl) ?_
  refine Ow_q rfl rfl rfl (Qt_move rfl) ?_
  refine Ow_caseG rfl rfl rfl ?_ ?_
  ·intro h155
   have H := ift h155 H
   refine Ow_qw rfl rfl rfl rfl rfl rfl (Qt_move rfl) ?_
   have hs156 := (((hs113).mono hK115).mono hK118).mono hK133
   refine Ow_qw rfl rfl rfl rfl rfl rfl (Q_lenR (T := TyDone) (.tail _ (.tail _ (.tail _ (.tail _ (.tail _ (.tail _ (.head _))))))) hs156 rfl rfl rfl) ?_
   refine Ow_qw rfl rfl rfl rfl rfl rfl (Qt_cmp rfl rfl rfl) ?_
   refine Ow_q rfl rfl rfl (Qt_pick_t rfl rfl) ?_
   refine Ow_q rfl rfl rfl (Qt_move rfl) ?_
   refine Ow_caseG rfl rfl rfl ?_ ?_
   ·intro h157
    have h157 := dcd_t (h157)
    have H := ift h157 H
    refine Ow_qw rfl rfl rfl rfl rfl rfl (Qt_move rfl) ?_
    refine Ow_qw rfl rfl rfl rfl rfl rfl (Qt_not rfl) ?_
    refine Ow_q rfl rfl rfl (Qt_pick_t rfl rfl) ?_
    refine Ow_q rfl rfl rfl (Qt_move rfl) ?_
    refine Ow_caseG rfl rfl rfl ?_ ?_
    ·intro h158
     have h158 := nt_t (h158)
     have H := iff_ (btf h158) H
     refine Ow_qw rfl rfl rfl rfl rfl rfl (Qt_move rfl) ?_
     refine Ow_qw rfl rfl rfl rfl rfl rfl (Q_lenR (T := TyDone) (.tail _ (.tail _ (.tail _ (.head _)))) hs136 rfl rfl rfl) ?_
     refine Ow_qw rfl rfl rfl rfl rfl rfl (Qt_cmp rfl rfl rfl) ?_
     refine Ow_q rfl rfl rfl (Qt_pick_t rfl rfl) ?_
     refine Ow_q rfl rfl rfl (Qt_move rfl) ?_
     refine Ow_caseG rfl rfl rfl ?_ ?_
     ·intro h159
      have h159 := dcd_t (h159)
      have H := ift h159 H
      refine Ow_qw rfl rfl rfl rfl rfl rfl (Qt_move rfl) ?_
      obtain ⟨x160, hx161, H⟩ := bnd H
      obtain ⟨r162, hq163, hr164⟩ := RowR.at hs136 hx161
      obtain rfl := hr164
      refine Ow_qw rfl rfl rfl rfl rfl rfl (Q_ixR (T := TyDone) (.tail _ (.tail _ (.tail _ (.head _)))) hs136 hq163 (getI_ix hx161).1 rfl rfl rfl rfl rfl) ?_
      refine Ow_qw rfl rfl rfl rfl rfl rfl (Qt_fieldAddr (m := 1) rfl rfl rfl rfl rfl) ?_
      refine Ow_qw rfl rfl rfl rfl rfl rfl (Qt_fieldAddr (m := 1) rfl rfl rfl rfl rfl) ?_
      refine Ow_qw rfl rfl rfl rfl rfl rfl (Qt_load1 (v := (.int .i64 x160.result.kind)) rfl rfl rfl (Rd_row (T := TyDone) (.tail _ (.tail _ (.tail _ (.head _)))) hs136 hq163 rfl rfl)) ?_
      refine Ow_qw rfl rfl rfl rfl rfl rfl (Qt_cmp rfl rfl rfl) ?_
      refine Ow_q rfl rfl rfl (Qt_pick_t rfl rfl) ?_
      refine Ow_q rfl rfl rfl (Qt_move rfl) ?_
      refine Ow_caseG rfl rfl rfl ?_ ?_
      ·intro h165
       have h165 := dcd_t (h165)
       have H := ift h165 H
       refine Ow_qw rfl rfl rfl rfl rfl rfl (Qt_move rfl) ?_
       obtain ⟨x166, hx167, H⟩ := bnd H
       obtain ⟨r168, hq169, hr170⟩ := RowR.at hs136 hx167
       obtain rfl := hr170
       refine Ow_qw rfl rfl rfl rfl rfl rfl (Q_ixR (T := TyDone) (.tail _ (.tail _ (.tail _ (.head _)))) hs136 hq169 (getI_ix hx167).1 rfl rfl rfl rfl rfl) ?_
       refine Ow_qw rfl rfl rfl rfl rfl rfl (Qt_fieldAddr (m := 1) rfl rfl rfl rfl rfl) ?_
       refine Ow_qw rfl rfl rfl rfl rfl rfl (Qt_fieldAddr (m := 3) rfl rfl rfl rfl rfl) ?_
       refine Ow_qw rfl rfl rfl rfl rfl rfl (Qt_load1 (v := (.int .u64 x166.result.value)) rfl rfl rfl (Rd_row (T := TyDone) (.tail _ (.tail _ (.tail _ (.head _)))) hs136 hq169 rfl rfl)) ?_
       refine Ow_qw rfl rfl rfl rfl rfl rfl (Qt_cmp rfl rfl rfl) ?_
       refine Ow_q rfl rfl rfl (Qt_pick_t rfl rfl) ?_
       refine Ow_q rfl rfl rfl (Qt_assign rfl) ?_
       refine Ow_nil ?_
       refine Re0 ?_
       refine Re0 ?_
       refine Re0 ?_
       refine Re0 ?_
       refine Re0 ?_
       refine Re0 ?_
       refine Re0 ?_
       refine Re0 ?_
       refine Re0 ?_
       refine Re0 ?_
       refine Re0 ?_
       refine Shift.done ?_
       exact ⟨_, by exact ⟨rfl, trivial⟩, (dcd (x166.result.value = 5)), rfl, rfl, rfl, H⟩
      ·intro h165
       have h165 := dcd_f (h165)
       have H := iff_ h165 H
       refine Ow_pass rfl rfl rfl rfl rfl rfl rfl ?_
       refine Ow_pass rfl rfl rfl rfl rfl rfl rfl ?_
       refine Ow_pass rfl rfl rfl rfl rfl rfl rfl ?_
       refine Ow_pass rfl rfl rfl rfl rfl rfl rfl ?_
       refine Ow_pass rfl rfl rfl rfl rfl rfl rfl ?_
       refine Ow_pass rfl rfl rfl rfl rfl rfl rfl ?_
       refine Ow_q rfl rfl rfl (Qt_pick_f rfl rfl) ?_
       refine Ow_q rfl rfl rfl (Qt_assign rfl) ?_
       refine Ow_nil ?_
       refine Re0 ?_
       refine Re0 ?_
       refine Re0 ?_
       refine Re0 ?_
       refine Re0 ?_
       refine Re0 ?_
       refine Re0 ?_
       refine Re0 ?_
       refine Re0 ?_
       refine Re0 ?_
       refine Re0 ?_
       refine Shift.done ?_
       exact ⟨_, by exact ⟨rfl, trivial⟩, false, rfl, rfl, rfl, H⟩
     ·intro h159
      have h159 := dcd_f (h159)
      have H := iff_ h159 H
      refine Ow_pass rfl rfl rfl rfl rfl rfl rfl ?_
      refine Ow_pass rfl rfl rfl rfl rfl rfl rfl ?_
      refine Ow_pass rfl rfl rfl rfl rfl rfl rfl ?_
      refine Ow_pass rfl rfl rfl rfl rfl rfl rfl ?_
      refine Ow_pass rfl rfl rfl rfl rfl rfl rfl ?_
      refine Ow_pass rfl rfl rfl rfl rfl rfl rfl ?_
      refine Ow_q rfl rfl rfl (Qt_pick_f rfl rfl) ?_
      refine Ow_q rfl rfl rfl (Qt_move rfl) ?_
      refine Ow_pass rfl rfl rfl rfl rfl rfl rfl ?_
      refine Ow_pass rfl rfl rfl rfl rfl rfl rfl ?_
      refine Ow_pass rfl rfl rfl rfl rfl rfl rfl ?_
      refine Ow_pass rfl rfl rfl rfl rfl rfl rfl ?_
      refine Ow_pass rfl rfl rfl rfl rfl rfl rfl ?_
      refine Ow_pass rfl rfl rfl rfl rfl rfl rfl ?_
      refine Ow_q rfl rfl rfl (Qt_pick_f rfl rfl) ?_
      refine Ow_q rfl rfl rfl (Qt_assign rfl) ?_
      refine Ow_nil ?_
      refine Re0 ?_
      refine Re0 ?_
      refine Re0 ?_
      refine Re0 ?_
      refine Re0 ?_
      refine Re0 ?_
      refine Re0 ?_
      refine Re0 ?_
      refine Re0 ?_
      refine Re0 ?_
      refine Re0 ?_
      refine Shift.done ?_
      exact ⟨_, by exact ⟨rfl, trivial⟩, false, rfl, rfl, rfl, H⟩
    ·intro h158
     have h158 := nt_f (h158)
     have H := ift h158 H
     refine Ow_pass rfl rfl rfl rfl rfl rfl rfl ?_
     refine Ow_pass rfl rfl rfl rfl rfl rfl rfl ?_
     refine Ow_pass rfl rfl rfl rfl rfl rfl rfl ?_
     refine Ow_q rfl rfl rfl (Qt_pick_f rfl rfl) ?_
     refine Ow_q rfl rfl rfl (Qt_move rfl) ?_
     refine Ow_pass rfl rfl rfl rfl rfl rfl rfl ?_
     refine Ow_pass rfl rfl rfl rfl rfl rfl rfl ?_
     refine Ow_pass rfl rfl rfl rfl rfl rfl rfl ?_
     refine Ow_pass rfl rfl rfl rfl rfl rfl rfl ?_
     refine Ow_pass rfl rfl rfl rfl rfl rfl rfl ?_
     refine Ow_pass rfl rfl rfl rfl rfl rfl rfl ?_
     refine Ow_q rfl rfl rfl (Qt_pick_f rfl rfl) ?_
     refine Ow_q rfl rfl rfl (Qt_move rfl) ?_
     refine Ow_pass rfl rfl rfl rfl rfl rfl rfl ?_
     refine Ow_pass rfl rfl rfl rfl rfl rfl rfl ?_
     refine Ow_pass rfl rfl rfl rfl rfl rfl rfl ?_
     refine Ow_pass rfl rfl rfl rfl rfl rfl rfl ?_
     refine Ow_pass rfl rfl rfl rfl rfl rfl rfl ?_
     refine Ow_pass rfl rfl rfl rfl rfl rfl rfl ?_
     refine Ow_q rfl rfl rfl (Qt_pick_f rfl rfl) ?_
     refine Ow_q rfl rfl rfl (Qt_assign rfl) ?_
     refine Ow_nil ?_
     refine Re0 ?_
     refine Re0 ?_
     refine Re0 ?_
     refine Re0 ?_
     refine Re0 ?_
     refine Re0 ?_
     refine Re0 ?_
     refine Re0 ?_
     refine Re0 ?_
     refine Re0 ?_
     refine Re0 ?_
     refine Shift.done ?_
     exact ⟨_, by exact ⟨rfl, trivial⟩, false, rfl, rfl, rfl, H⟩
   ·intro h157
    have h157 := dcd_f (h157)
    have H := iff_ h157 H
    refine Ow_pass rfl rfl rfl rfl rfl rfl rfl ?_
    refine Ow_pass rfl rfl rfl rfl rfl rfl rfl ?_
    refine Ow_q rfl rfl rfl (Qt_pick_f rfl rfl) ?_
    refine Ow_q rfl rfl rfl (Qt_move rfl) ?_
    refine Ow_pass rfl rfl rfl rfl rfl rfl rfl ?_
    refine Ow_pass rfl rfl rfl rfl rfl rfl rfl ?_
    refine Ow_pass rfl rfl rfl rfl rfl rfl rfl ?_
    refine Ow_q rfl rfl rfl (Qt_pick_f rfl rfl) ?_
    refine Ow_q rfl rfl rfl (Qt_move rfl) ?_
    refine Ow_pass rfl rfl rfl rfl rfl rfl rfl ?_
    refine Ow_pass rfl rfl rfl rfl rfl rfl rfl ?_
    refine Ow_pass rfl rfl rfl rfl rfl rfl rfl ?_
    refine Ow_pass rfl rfl rfl rfl rfl rfl rfl ?_
    refine Ow_pass rfl rfl rfl rfl rfl rfl rfl ?_
    refine Ow_pass rfl rfl rfl rfl rfl rfl rfl ?_
    refine Ow_q rfl rfl rfl (Qt_pick_f rfl rfl) ?_
    refine Ow_q rfl rfl rfl (Qt_move rfl) ?_
    refine Ow_pass rfl rfl rfl rfl rfl rfl rfl ?_
    refine Ow_pass rfl rfl rfl rfl rfl rfl rfl ?_
    refine Ow_pass rfl rfl rfl rfl rfl rfl rfl ?_
    refine Ow_pass rfl rfl rfl rfl rfl rfl rfl ?_
    refine Ow_pass rfl rfl rfl rfl rfl rfl rfl ?_
    refine Ow_pass rfl rfl rfl rfl rfl rfl rfl ?_
    refine Ow_q rfl rfl rfl (Qt_pick_f rfl rfl) ?_
    refine Ow_q rfl rfl rfl (Qt_assign rfl) ?_
    refine Ow_nil ?_
    refine Re0 ?_
    refine Re0 ?_
    refine Re0 ?_
    refine Re0 ?_
    refine Re0 ?_
    refine Re0 ?_
    refine Re0 ?_
    refine Re0 ?_
    refine Re0 ?_
    refine Re0 ?_
    refine Re0 ?_
    refine Shift.done ?_
    exact ⟨_, by exact ⟨rfl, trivial⟩, false, rfl, rfl, rfl, H⟩
  ·intro h155
   have H := iff_ (btf h155) H
   refine Ow_pass rfl rfl rfl rfl rfl rfl rfl ?_
   refine Ow_pass rfl rfl rfl rfl rfl rfl rfl ?_
   refine Ow_pass rfl rfl rfl rfl rfl rfl rfl ?_
   refine Ow_q rfl rfl rfl (Qt_pick_f rfl rfl) ?_
   refine Ow_q rfl rfl rfl (Qt_move rfl) ?_
   refine Ow_pass rfl rfl rfl rfl rfl rfl rfl ?_
   refine Ow_pass rfl rfl rfl rfl rfl rfl rfl ?_
   refine Ow_q rfl rfl rfl (Qt_pick_f rfl rfl) ?_
   refine Ow_q rfl rfl rfl (Qt_move rfl) ?_
   refine Ow_pass rfl rfl rfl rfl rfl rfl rfl ?_
   refine Ow_pass rfl rfl rfl rfl rfl rfl rfl ?_
   refine Ow_pass rfl rfl rfl rfl rfl rfl rfl ?_
   refine Ow_q rfl rfl rfl (Qt_pick_f rfl rfl) ?_
   refine Ow_q rfl rfl rfl (Qt_move rfl) ?_
   refine Ow_pass rfl rfl rfl rfl rfl rfl rfl ?_
   refine Ow_pass rfl rfl rfl rfl rfl rfl rfl ?_
   refine Ow_pass rfl rfl rfl rfl rfl rfl rfl ?_
   refine Ow_pass rfl rfl rfl rfl rfl rfl rfl ?_
   refine Ow_pass rfl rfl rfl rfl rfl rfl rfl ?_
   refine Ow_pass rfl rfl rfl rfl rfl rfl rfl ?_
   refine Ow_q rfl rfl rfl (Qt_pick_f rfl rfl) ?_
   refine Ow_q rfl rfl rfl (Qt_move rfl) ?_
   refine Ow_pass rfl rfl rfl rfl rfl rfl rfl ?_
   refine Ow_pass rfl rfl rfl rfl rfl rfl rfl ?_
   refine Ow_pass rfl rfl rfl rfl rfl rfl rfl ?_
   refine Ow_pass rfl rfl rfl rfl rfl rfl rfl ?_
   refine Ow_pass rfl rfl rfl rfl rfl rfl rfl ?_
   refine Ow_pass rfl rfl rfl rfl rfl rfl rfl ?_
   refine Ow_q rfl rfl rfl (Qt_pick_f rfl rfl) ?_
   refine Ow_q rfl rfl rfl (Qt_assign rfl) ?_
   refine Ow_nil ?_
   refine Re0 ?_
   refine Re0 ?_
   refine Re0 ?_
   refine Re0 ?_
   refine Re0 ?_
   refine Re0 ?_
   refine Re0 ?_
   refine Re0 ?_
   refine Re0 ?_
   refine Re0 ?_
   refine Re0 ?_
   refine Shift.done ?_
   exact ⟨_, by exact ⟨rfl, trivial⟩, false, rfl, rfl, rfl, H⟩
 rintro _ _ _ - ⟨t154, rfl, rfl, rfl, H⟩
 unfold M_10z at H
 refine Cw_ret ?_
 obtain ey0 := inj1 H
 subst y0
 refine ⟨(by first | exact .inl rfl | exact .inr rfl), [(.bool t154)], ⟨(.bool t154), _, rfl, rfl, rfl⟩, ?_⟩
 refine Shift.done ?_
 exact ⟨rfl, rfl⟩

set_option maxHeartbeats 1000000 in
theorem c_M_38z (p0 : Desk) (vp0_chans : SV) (vp0_waiting : SV) (p1 : Int) (y0 : Bool) (H : M_38z p0 p1 = some y0) (K : Kp) (G : List Ent) (hp0_chans : Slr TyChan K (sv vp0_chans) p0.chans) (hp0_waiting : Slr TyWaiter K (sv vp0_waiting) p0.waiting) :
  Fc Try.prog 14 #[(.agg (Desk.cells p0 vp0_chans vp0_waiting).toArray), (.int .i64 p1)] K (G) (fun v K' G' => v = (.bool y0) ∧ G = G') := by
 refine Fc_body Try.func14 rfl Try.ntmps14 Try.results14 rfl ?_
 unfold M_38z at H
 refine Cw_seq ?_
 refine Cw_region ?_
 refine Ow_cons rfl (OpW_box (cs := (Desk.cells p0 vp0_chans vp0_waiting)) rfl rfl rfl (fun b34 => ?_))
 refine Ow_q rfl rfl rfl (Qt_assign rfl) ?_
 refine Ow_nil ?_
 refine Cw_join (fun env' K' G' => [] = env' ∧ G = G' ∧ M_169z = some y0) ?_ ?_
 ·skip
  refine Cw_seq ?_
  refine Cw_region ?_
  refine Ow_q rfl rfl rfl (Qt_fieldAddr (m := 1) rfl rfl rfl rfl rfl) ?_
  refine Ow_q rfl rfl rfl (Qt_load1 (v := (sv vp0_waiting)) rfl rfl rfl (Rdc.blk (.head _) rfl)) ?_
  refine Ow_q rfl rfl rfl (Q_len (T := TyWaiter) hp0_waiting rfl rfl) ?_
  refine Ow_q rfl rfl rfl (Qt_move rfl) ?_
  refine Ow_nil ?_
  refine Cw_block ?_
  refine Cw_loopM (fun n95 env' K' G' => ∃ (i94 : Int), [(1, (.int .i64 p1)), (2, (.pointer (some ((⟨b34, 0, none⟩ : Addr).add 0)))), (8, (.int .i64 (p0.waiting.length : Int))), (9, (.int .i64 i94))] = env' ∧ K = K' ∧ (.blk b34 34 (Desk.cells p0 vp0_chans vp0_waiting)) :: G = G' ∧ lp1 (M_119z p1 p0) n95 i94 = some y0) BIG ?_ ?_
  ·skip
   refine Shift.done ?_
   exact ⟨_, by exact ⟨rfl, rfl, rfl, rfl, trivial⟩, 0, rfl, rfl, rfl, H⟩
  rintro n95 _ _ _ - ⟨i94, rfl, rfl, rfl, H⟩
  obtain ⟨m96, k97, rfl, hkk98, H⟩ := lps1 H
  unfold M_119z at H
  refine Cw_seq ?_
  refine Cw_region ?_
  refine Ow_q rfl rfl rfl (Qt_cmp rfl rfl rfl) ?_
  refine Ow_nil ?_
  refine Cw_seq ?_
  refine Cw_cond rfl ?_ ?_
  ·intro h100
   have h100 := dcd_t (h100)
   have H := ift h100 H
   refine Cw_skip ?_
   refine Cw_seq ?_
   refine Cw_block ?_
   refine Cw_seq ?_
   refine Cw_region ?_
   refine Ow_q rfl rfl rfl (Qt_move rfl) ?_
   refine Ow_q rfl rfl rfl (Qt_assign rfl) ?_
   refine Ow_nil ?_
   refine Cw_seq ?_
   refine Cw_region ?_
   refine Ow_q rfl rfl rfl (Qt_fieldAddr (m := 1) rfl rfl rfl rfl rfl) ?_
   refine Ow_q rfl rfl rfl (Qt_load1 (v := (sv vp0_waiting)) rfl rfl rfl (Rdc.blk (.head _) rfl)) ?_
   refine Ow_q rfl rfl rfl (Qt_move rfl) ?_
   obtain ⟨x111, hx112, H⟩ := bnd H
   obtain ⟨r113, hr114, hk115⟩ := Slr.at hp0_waiting hx112
   obtain ⟨v116, v117, rfl, hs118, hs119⟩ := hr114
   refine Ow_q rfl rfl rfl (Q_ix (T := TyWaiter) hp0_waiting hx112 rfl rfl rfl rfl rfl) ?_
   refine Ow_q rfl rfl rfl (Qt_fieldAddr (m := 0) rfl rfl rfl rfl rfl) ?_
   refine Ow_q rfl rfl rfl (Qt_load1 (v := (.int .i64 x111.thread)) rfl rfl rfl (Rdc.k hk115 rfl)) ?_
   refine Ow_q rfl rfl rfl (Qt_move rfl) ?_
   refine Ow_q rfl rfl rfl (Qt_cmp rfl rfl rfl) ?_
   refine Ow_nil ?_
   refine Cw_cond rfl ?_ ?_
   ·intro h120
    have h120 := dcd_t (h120)
    have H := ift h120 H
    refine Cw_seq ?_
    refine Cw_region ?_
    refine Ow_q rfl rfl rfl (Qt_assign rfl) ?_
    refine Ow_nil ?_
    refine Cw_ret ?_
    obtain ey0 := inj1 H
    subst y0
    refine ⟨(by first | exact .inl rfl | exact .inr rfl), [(.bool true)], ⟨(.bool true), _, rfl, rfl, rfl⟩, ?_⟩
    refine Re0 ?_
    refine Shift.done ?_
    exact ⟨rfl, rfl⟩
   ·intro h120
    have h120 := dcd_f (h120)
    have H := iff_ h120 H
    refine Cw_skip ?_
    refine Cw_region ?_
    refine Ow_q rfl rfl rfl (Qt_arith (e := wI (i94 + 1)) rfl rfl rfl rfl) ?_
    refine Ow_q rfl rfl rfl (Qt_move rfl) ?_
    refine Ow_nil ?_
    refine Shift.done ?_
    exact ⟨_, by exact ⟨rfl, rfl, rfl, rfl, trivial⟩, _, Nat.lt_succ_self _, (wI (i94 + 1)), rfl, rfl, rfl, (hkk98 ▸ H)⟩
  ·intro h100
   have h100 := dcd_f (h100)
   have H := iff_ h100 H
   refine Cw_exit ?_
   refine Re0 ?_
   refine Shift.done ?_
   exact ⟨[], trivial, rfl, rfl, H⟩
 rintro _ K121 _ hK122 ⟨rfl, rfl, H⟩
 unfold M_169z at H
 refine Cw_seq ?_
 refine Cw_region ?_
 refine Ow_q rfl rfl rfl (Qt_assign rfl) ?_
 refine Ow_nil ?_
 refine Cw_ret ?_
 obtain ey0 := inj1 H
 subst y0
 refine ⟨(by first | exact .inl rfl | exact .inr rfl), [(.bool false)], ⟨(.bool false), _, rfl, rfl, rfl⟩, ?_⟩
 refine Shift.done ?_
 exact ⟨rfl, rfl⟩



end Go.Hx

namespace Go.Hx
open Go Go.Proofs
set_option linter.unusedSimpArgs false
set_option linter.unusedVariables false
set_option maxRecDepth 10000
set_option maxHeartbeats 1000000 in
theorem c_M_5z (p0 : List Chan) (vp0 : SV) (p1 : Int) (y0 : Bool) (H : M_5z p0 p1 = some y0) (K : Kp) (G : List Ent) (hp0 : Slr TyChan K (sv vp0) p0) :
  Fc Try.prog 71 #[(sv vp0), (.int .i64 p1)] K (G) (fun v K' G' => v = (.bool y0) ∧ K = K' ∧ G = G') := by
 refine Fc_body Try.func71 rfl Try.ntmps71 Try.results71 rfl ?_
 unfold M_5z at H
 refine Cw_seq ?_
 refine Cw_region ?_
 refine Ow_q rfl rfl rfl (Qt_assign rfl) ?_
 refine Ow_nil ?_
 refine Cw_seq ?_
 refine Cw_region ?_
 refine Ow_q rfl rfl rfl (Qt_move rfl) ?_
 refine Ow_q rfl rfl rfl (Qt_cmp rfl rfl rfl) ?_
 refine Ow_q rfl rfl rfl (Qt_move rfl) ?_
 refine Ow_caseG rfl rfl rfl ?_ ?_
 ·intro h3
  have h3 := dcd_t (h3)
  have H := ift h3 H
  refine Ow_qw rfl rfl rfl rfl rfl rfl (Qt_move rfl) ?_
  refine Ow_qw rfl rfl rfl rfl rfl rfl (Qt_move rfl) ?_
  refine Ow_qw rfl rfl rfl rfl rfl rfl (Q_len (T := TyChan) hp0 rfl rfl) ?_
  refine Ow_qw rfl rfl rfl rfl rfl rfl (Qt_cmp rfl rfl rfl) ?_
  refine Ow_q rfl rfl rfl (Qt_pick_t rfl rfl) ?_
  refine Ow_q rfl rfl rfl (Qt_assign rfl) ?_
  refine Ow_nil ?_
  refine Cw_ret ?_
  obtain ey0 := inj1 H
  subst y0
  refine ⟨(by first | exact .inl rfl | exact .inr rfl), [(.bool (dcd (p1 < (p0.length : Int))))], ⟨(.bool (dcd (p1 < (p0.length : Int)))), _, rfl, rfl, rfl⟩, ?_⟩
  refine Shift.done ?_
  exact ⟨rfl, rfl, rfl⟩
 ·intro h3
  have h3 := dcd_f (h3)
  have H := iff_ h3 H
  refine Ow_pass rfl rfl rfl rfl rfl rfl rfl ?_
  refine Ow_pass rfl rfl rfl rfl rfl rfl rfl ?_
  refine Ow_pass rfl rfl rfl rfl rfl rfl rfl ?_
  refine Ow_pass rfl rfl rfl rfl rfl rfl rfl ?_
  refine Ow_q rfl rfl rfl (Qt_pick_f rfl rfl) ?_
  refine Ow_q rfl rfl rfl (Qt_assign rfl) ?_
  refine Ow_nil ?_
  refine Cw_ret ?_
  obtain ey0 := inj1 H
  subst y0
  refine ⟨(by first | exact .inl rfl | exact .inr rfl), [(.bool false)], ⟨(.bool false), _, rfl, rfl, rfl⟩, ?_⟩
  refine Shift.done ?_
  exact ⟨rfl, rfl, rfl⟩

set_option maxHeartbeats 1000000 in
theorem c_M_24z (p0 : List Chan) (vp0 : SV) (p1 : Case) (y0 : Bool) (H : M_24z p0 p1 = some y0) (K : Kp) (G : List Ent) (hp0 : Slr TyChan K (sv vp0) p0) :
  Fc Try.prog 41 #[(sv vp0), (.agg (Case.cells p1).toArray)] K (G) (fun v K' G' => v = (.bool y0) ∧ K = K' ∧ G = G') := by
 refine Fc_body Try.func41 rfl Try.ntmps41 Try.results41 rfl ?_
 unfold M_24z at H
 refine Cw_seq ?_
 refine Cw_region ?_
 refine Ow_cons rfl (OpW_box (cs := (Case.cells p1)) rfl rfl rfl (fun b16 => ?_))
 refine Ow_q rfl rfl rfl (Qt_assign rfl) ?_
 refine Ow_nil ?_
 refine Cw_seq ?_
 refine Cw_seq ?_
 refine Cw_region ?_
 refine Ow_q rfl rfl rfl (Qt_move rfl) ?_
 refine Ow_q rfl rfl rfl (Qt_fieldAddr (m := 1) rfl rfl rfl rfl rfl) ?_
 refine Ow_q rfl rfl rfl (Qt_load1 (v := (.int .i64 p1.channel)) rfl rfl rfl (Rdc.blk (.head _) rfl)) ?_
 obtain ⟨x20, hx21, H⟩ := bnd H
 refine Ow_cons rfl (OpW_call rfl Try.call71 rfl rfl (c_M_5z p0 vp0 p1.channel x20 hx21 _ _ hp0) ?_)
 rintro _ _ _ - ⟨rfl, rfl, rfl⟩
 refine Ow_q rfl rfl rfl (Qt_not rfl) ?_
 refine Ow_nil ?_
 refine Cw_cond rfl ?_ ?_
 ·intro h22
  have h22 := nt_t (h22)
  have H := iff_ (btf h22) H
  refine Cw_seq ?_
  refine Cw_region ?_
  refine Ow_q rfl rfl rfl (Qt_assign rfl) ?_
  refine Ow_nil ?_
  refine Cw_ret ?_
  obtain ey0 := inj1 H
  subst y0
  refine ⟨(by first | exact .inl rfl | exact .inr rfl), [(.bool false)], ⟨(.bool false), _, rfl, rfl, rfl⟩, ?_⟩
  refine Re0 ?_
  refine Shift.done ?_
  exact ⟨rfl, rfl, rfl⟩
 ·intro h22
  have h22 := nt_f (h22)
  have H := ift h22 H
  refine Cw_skip ?_
  refine Cw_seq ?_
  refine Cw_region ?_
  refine Ow_q rfl rfl rfl (Qt_move rfl) ?_
  refine Ow_q rfl rfl rfl (Qt_fieldAddr (m := 1) rfl rfl rfl rfl rfl) ?_
  refine Ow_q rfl rfl rfl (Qt_load1 (v := (.int .i64 p1.channel)) rfl rfl rfl (Rdc.blk (.head _) rfl)) ?_
  obtain ⟨x23, hx24, H⟩ := bnd H
  obtain ⟨r25, hr26, hk27⟩ := Slr.at hp0 hx24
  obtain ⟨v28, rfl, hs29⟩ := hr26
  refine Ow_q rfl rfl rfl (Q_ix (T := TyChan) hp0 hx24 rfl rfl rfl rfl rfl) ?_
  refine Ow_q rfl rfl rfl (Qt_loadA (m := 3) (cs := (Chan.cells x23 v28)) rfl rfl rfl rfl ⟨rfl, Rdc.k hk27 rfl⟩) ?_
  refine Ow_cons rfl (OpW_alloc (cs := (Chan.cells (Chan.mk 0 [] false) nilS)) rfl rfl rfl rfl (fun b30 => ?_))
  refine Ow_cons rfl (OpW_store (vs := (Chan.cells x23 v28)) (all' := (Chan.cells x23 v28)) rfl rfl rfl rfl rfl .here rfl rfl rfl ?_)
  refine Ow_nil ?_
  refine Cw_seq ?_
  refine Cw_seq ?_
  refine Cw_region ?_
  refine Ow_q rfl rfl rfl (Qt_fieldAddr (m := 0) rfl rfl rfl rfl rfl) ?_
  refine Ow_q rfl rfl rfl (Qt_load1 (v := (.bool p1.send)) rfl rfl rfl (Rdc.blk (.tail _ (.head _)) rfl)) ?_
  refine Ow_nil ?_
  refine Cw_cond rfl ?_ ?_
  ·intro h33
   have H := ift h33 H
   refine Cw_seq ?_
   refine Cw_region ?_
   refine Ow_q rfl rfl rfl (Qt_fieldAddr (m := 2) rfl rfl rfl rfl rfl) ?_
   refine Ow_q rfl rfl rfl (Qt_load1 (v := (.bool x23.closed)) rfl rfl rfl (Rdc.blk (.head _) rfl)) ?_
   refine Ow_q rfl rfl rfl (Qt_move rfl) ?_
   refine Ow_caseG rfl rfl rfl ?_ ?_
   ·intro h35
    have H := ift h35 H
    refine Ow_pass rfl rfl rfl rfl rfl rfl rfl ?_
    refine Ow_pass rfl rfl rfl rfl rfl rfl rfl ?_
    refine Ow_pass rfl rfl rfl rfl rfl rfl rfl ?_
    refine Ow_pass rfl rfl rfl rfl rfl rfl rfl ?_
    refine Ow_pass rfl rfl rfl rfl rfl rfl rfl ?_
    refine Ow_pass rfl rfl rfl rfl rfl rfl rfl ?_
    refine Ow_q rfl rfl rfl (Qt_pick_t rfl rfl) ?_
    refine Ow_q rfl rfl rfl (Qt_assign rfl) ?_
    refine Ow_nil ?_
    refine Cw_ret ?_
    obtain ey0 := inj1 H
    subst y0
    refine ⟨(by first | exact .inl rfl | exact .inr rfl), [(.bool true)], ⟨(.bool true), _, rfl, rfl, rfl⟩, ?_⟩
    refine Re0 ?_
    refine Re0 ?_
    refine Shift.done ?_
    exact ⟨rfl, rfl, rfl⟩
   ·intro h35
    have H := iff_ (btf h35) H
    refine Ow_qw rfl rfl rfl rfl rfl rfl (Qt_fieldAddr (m := 1) rfl rfl rfl rfl rfl) ?_
    refine Ow_qw rfl rfl rfl rfl rfl rfl (Qt_load1 (v := (sv v28)) rfl rfl rfl (Rdc.blk (.head _) rfl)) ?_
    refine Ow_qw rfl rfl rfl rfl rfl rfl (Q_len (T := Ty.u64) hs29 rfl rfl) ?_
    refine Ow_qw rfl rfl rfl rfl rfl rfl (Qt_fieldAddr (m := 0) rfl rfl rfl rfl rfl) ?_
    refine Ow_qw rfl rfl rfl rfl rfl rfl (Qt_load1 (v := (.int .i64 x23.capacity)) rfl rfl rfl (Rdc.blk (.head _) rfl)) ?_
    refine Ow_qw rfl rfl rfl rfl rfl rfl (Qt_cmp rfl rfl rfl) ?_
    refine Ow_q rfl rfl rfl (Qt_pick_f rfl rfl) ?_
    refine Ow_q rfl rfl rfl (Qt_assign rfl) ?_
    refine Ow_nil ?_
    refine Cw_ret ?_
    obtain ey0 := inj1 H
    subst y0
    refine ⟨(by first | exact .inl rfl | exact .inr rfl), [(.bool (dcd ((x23.buffer.length : Int) < x23.capacity)))], ⟨(.bool (dcd ((x23.buffer.length : Int) < x23.capacity))), _, rfl, rfl, rfl⟩, ?_⟩
    refine Re0 ?_
    refine Re0 ?_
    refine Shift.done ?_
    exact ⟨rfl, rfl, rfl⟩
  ·intro h33
   have H := iff_ (btf h33) H
   refine Cw_skip ?_
   refine Cw_seq ?_
   refine Cw_region ?_
   refine Ow_q rfl rfl rfl (Qt_fieldAddr (m := 2) rfl rfl rfl rfl rfl) ?_
   refine Ow_q rfl rfl rfl (Qt_load1 (v := (.bool x23.closed)) rfl rfl rfl (Rdc.blk (.head _) rfl)) ?_
   refine Ow_q rfl rfl rfl (Qt_move rfl) ?_
   refine Ow_caseG rfl rfl rfl ?_ ?_
   ·intro h37
    have H := ift h37 H
    refine Ow_pass rfl rfl rfl rfl rfl rfl rfl ?_
    refine Ow_pass rfl rfl rfl rfl rfl rfl rfl ?_
    refine Ow_pass rfl rfl rfl rfl rfl rfl rfl ?_
    refine Ow_pass rfl rfl rfl rfl rfl rfl rfl ?_
    refine Ow_q rfl rfl rfl (Qt_pick_t rfl rfl) ?_
    refine Ow_q rfl rfl rfl (Qt_assign rfl) ?_
    refine Ow_nil ?_
    refine Cw_ret ?_
    obtain ey0 := inj1 H
    subst y0
    refine ⟨(by first | exact .inl rfl | exact .inr rfl), [(.bool true)], ⟨(.bool true), _, rfl, rfl, rfl⟩, ?_⟩
    refine Re0 ?_
    refine Re0 ?_
    refine Shift.done ?_
    exact ⟨rfl, rfl, rfl⟩
   ·intro h37
    have H := iff_ (btf h37) H
    refine Ow_qw rfl rfl rfl rfl rfl rfl (Qt_fieldAddr (m := 1) rfl rfl rfl rfl rfl) ?_
    refine Ow_qw rfl rfl rfl rfl rfl rfl (Qt_load1 (v := (sv v28)) rfl rfl rfl (Rdc.blk (.head _) rfl)) ?_
    refine Ow_qw rfl rfl rfl rfl rfl rfl (Q_len (T := Ty.u64) hs29 rfl rfl) ?_
    refine Ow_qw rfl rfl rfl rfl rfl rfl (Qt_cmp rfl rfl rfl) ?_
    refine Ow_q rfl rfl rfl (Qt_pick_f rfl rfl) ?_
    refine Ow_q rfl rfl rfl (Qt_assign rfl) ?_
    refine Ow_nil ?_
    refine Cw_ret ?_
    obtain ey0 := inj1 H
    subst y0
    refine ⟨(by first | exact .inl rfl | exact .inr rfl), [(.bool (dcd ((x23.buffer.length : Int) > 0)))], ⟨(.bool (dcd ((x23.buffer.length : Int) > 0))), _, rfl, rfl, rfl⟩, ?_⟩
    refine Re0 ?_
    refine Re0 ?_
    refine Shift.done ?_
    exact ⟨rfl, rfl, rfl⟩



end Go.Hx

namespace Go.Hx
open Go Go.Proofs
set_option linter.unusedSimpArgs false
set_option linter.unusedVariables false
set_option maxRecDepth 10000
set_option maxHeartbeats 1000000 in
theorem c_M_11z (p0 : Op) (vp0_cases : SV) (vp0_draws : SV) (y0 : Case) (y1 : Bool) (H : M_11z p0 = some (y0, y1)) (K : Kp) (G : List Ent) (hp0_cases : Slr TyCase K (sv vp0_cases) p0.cases) (hp0_draws : Slr Ty.i64 K (sv vp0_draws) p0.draws) :
  Fc Try.prog 86 #[(.agg (Op.cells p0 vp0_cases vp0_draws).toArray)] K (G) (fun v K' G' => v = (.tuple #[(.agg (Case.cells y0).toArray), (.bool y1)]) ∧ K = K' ∧ G = G') := by
 refine Fc_body Try.func86 rfl Try.ntmps86 Try.results86 rfl ?_
 unfold M_11z at H
 refine Cw_seq ?_
 refine Cw_region ?_
 refine Ow_cons rfl (OpW_box (cs := (Op.cells p0 vp0_cases vp0_draws)) rfl rfl rfl (fun b13 => ?_))
 refine Ow_cons rfl (OpW_alloc (cs := (Case.cells (Case.mk false 0 0))) rfl rfl rfl rfl (fun b14 => ?_))
 refine Ow_q rfl rfl rfl (Qt_assign rfl) ?_
 refine Ow_nil ?_
 refine Cw_seq ?_
 refine Cw_join (fun env' K' G' => ∃ (t26 : Bool) (i27 : Int) (i28 : Int) (i29 : Int) (i30 : Int) (i31 : Int) (i32 : Int) (i33 : Int), [(1, (.pointer (some ((⟨b13, 0, none⟩ : Addr).add 0)))), (2, (.pointer (some ((⟨b14, 0, none⟩ : Addr).add 0)))), (11, (.bool t26))] = env' ∧ K = K' ∧ (.blk b14 45 (Case.cells (Case.mk false i27 i28))) :: (.blk b13 41 (Op.cells (Op.mk i29 i30 i31 i32 i33 p0.cases p0.draws) vp0_cases vp0_draws)) :: G = G' ∧ M_39z p0 t26 i27 i28 i29 i30 i31 i32 i33 = some (y0, y1)) ?_ ?_
 ·skip
  refine Cw_region ?_
  refine Ow_q rfl rfl rfl (Qt_fieldAddr (m := 0) rfl rfl rfl rfl rfl) ?_
  refine Ow_q rfl rfl rfl (Qt_load1 (v := (.int .i64 p0.kind)) rfl rfl rfl (Rdc.blk (.tail _ (.head _)) rfl)) ?_
  refine Ow_q rfl rfl rfl (Qt_cmp rfl rfl rfl) ?_
  refine Ow_q rfl rfl rfl (Qt_move rfl) ?_
  refine Ow_caseG rfl rfl rfl ?_ ?_
  ·intro h34
   have h34 := dcd_f (nt_t (h34))
   have H := iff_ h34 H
   refine Ow_qw rfl rfl rfl rfl rfl rfl (Qt_fieldAddr (m := 0) rfl rfl rfl rfl rfl) ?_
   refine Ow_qw rfl rfl rfl rfl rfl rfl (Qt_load1 (v := (.int .i64 p0.kind)) rfl rfl rfl (Rdc.blk (.tail _ (.head _)) rfl)) ?_
   refine Ow_qw rfl rfl rfl rfl rfl rfl (Qt_cmp rfl rfl rfl) ?_
   refine Ow_q rfl rfl rfl (Qt_pick_t rfl rfl) ?_
   refine Ow_nil ?_
   refine Pu1 ?_
   refine Pu1 ?_
   refine Shift.done ?_
   exact ⟨_, by exact ⟨rfl, rfl, rfl, trivial⟩, (!(dcd (p0.kind = 2))), 0, 0, p0.kind, p0.mode, p0.channel, p0.value, p0.deadline, rfl, rfl, rfl, H⟩
  ·intro h34
   have h34 := dcd_t (nt_f (h34))
   have H := ift h34 H
   refine Ow_pass rfl rfl rfl rfl rfl rfl rfl ?_
   refine Ow_pass rfl rfl rfl rfl rfl rfl rfl ?_
   refine Ow_pass rfl rfl rfl rfl rfl rfl rfl ?_
   refine Ow_q rfl rfl rfl (Qt_pick_f rfl rfl) ?_
   refine Ow_nil ?_
   refine Pu1 ?_
   refine Pu1 ?_
   refine Shift.done ?_
   exact ⟨_, by exact ⟨rfl, rfl, rfl, trivial⟩, false, 0, 0, p0.kind, p0.mode, p0.channel, p0.value, p0.deadline, rfl, rfl, rfl, H⟩
 rintro _ _ _ - ⟨t26, i27, i28, i29, i30, i31, i32, i33, rfl, rfl, rfl, H⟩
 unfold M_39z at H
 refine Cw_cond rfl ?_ ?_
 ·intro h35
  have H := ift h35 H
  refine Cw_seq ?_
  refine Cw_region ?_
  refine Ow_q rfl rfl rfl (Qt_build (cs := (Case.cells (Case.mk false 0 0))) rfl rfl rfl rfl rfl rfl) ?_
  refine Ow_cons rfl (OpW_store (vs := (Case.cells (Case.mk false 0 0))) (all' := (Case.cells (Case.mk false 0 0))) rfl rfl rfl rfl rfl .here rfl rfl rfl ?_)
  refine Ow_q rfl rfl rfl (Qt_assign rfl) ?_
  refine Ow_nil ?_
  refine Cw_ret ?_
  obtain ⟨ey0, ey1⟩ := inj2 H
  subst y0 y1
  refine ⟨(by first | exact .inl rfl | exact .inr rfl), [(.agg (Case.cells (Case.mk false 0 0)).toArray), (.bool false)], ⟨(.agg (Case.cells (Case.mk false 0 0)).toArray), _, rfl, ⟨_, 3, (Case.cells (Case.mk false 0 0)), rfl, rfl, rfl, rfl, ⟨rfl, Rdc.blk (.head _) rfl⟩, rfl⟩, ⟨(.bool false), _, rfl, rfl, rfl⟩⟩, ?_⟩
  refine Re0 ?_
  refine Re0 ?_
  refine Shift.done ?_
  exact ⟨rfl, rfl, rfl⟩
 ·intro h35
  have H := iff_ (btf h35) H
  refine Cw_skip ?_
  refine Cw_seq ?_
  refine Cw_region ?_
  refine Ow_q rfl rfl rfl (Qt_fieldAddr (m := 0) rfl rfl rfl rfl rfl) ?_
  refine Ow_q rfl rfl rfl (Qt_load1 (v := (.int .i64 i29)) rfl rfl rfl (Rdc.blk (.tail _ (.head _)) rfl)) ?_
  refine Ow_q rfl rfl rfl (Qt_cmp rfl rfl rfl) ?_
  refine Ow_q rfl rfl rfl (Qt_fieldAddr (m := 2) rfl rfl rfl rfl rfl) ?_
  refine Ow_q rfl rfl rfl (Qt_load1 (v := (.int .i64 i31)) rfl rfl rfl (Rdc.blk (.tail _ (.head _)) rfl)) ?_
  refine Ow_q rfl rfl rfl (Qt_fieldAddr (m := 3) rfl rfl rfl rfl rfl) ?_
  refine Ow_q rfl rfl rfl (Qt_load1 (v := (.int .u64 i32)) rfl rfl rfl (Rdc.blk (.tail _ (.head _)) rfl)) ?_
  refine Ow_q rfl rfl rfl (Qt_build (cs := (Case.cells (Case.mk (dcd (i29 = 1)) i31 i32))) rfl rfl rfl rfl rfl rfl) ?_
  refine Ow_cons rfl (OpW_store (vs := (Case.cells (Case.mk (dcd (i29 = 1)) i31 i32))) (all' := (Case.cells (Case.mk (dcd (i29 = 1)) i31 i32))) rfl rfl rfl rfl rfl .here rfl rfl rfl ?_)
  refine Ow_q rfl rfl rfl (Qt_assign rfl) ?_
  refine Ow_nil ?_
  refine Cw_ret ?_
  obtain ⟨ey0, ey1⟩ := inj2 H
  subst y0 y1
  refine ⟨(by first | exact .inl rfl | exact .inr rfl), [(.agg (Case.cells (Case.mk (dcd (i29 = 1)) i31 i32)).toArray), (.bool true)], ⟨(.agg (Case.cells (Case.mk (dcd (i29 = 1)) i31 i32)).toArray), _, rfl, ⟨_, 3, (Case.cells (Case.mk (dcd (i29 = 1)) i31 i32)), rfl, rfl, rfl, rfl, ⟨rfl, Rdc.blk (.head _) rfl⟩, rfl⟩, ⟨(.bool true), _, rfl, rfl, rfl⟩⟩, ?_⟩
  refine Re0 ?_
  refine Re0 ?_
  refine Shift.done ?_
  exact ⟨rfl, rfl, rfl⟩

set_option maxHeartbeats 1000000 in
theorem c_M_2z (p0 : Op) (vp0_cases : SV) (vp0_draws : SV) (y0 : List Case) (H : M_2z p0 = some y0) (K : Kp) (G : List Ent) (hp0_cases : Slr TyCase K (sv vp0_cases) p0.cases) (hp0_draws : Slr Ty.i64 K (sv vp0_draws) p0.draws) :
  Fc Try.prog 63 #[(.agg (Op.cells p0 vp0_cases vp0_draws).toArray)] K (G) (fun v K' G' => ∃ (wy0 : SV), v = (sv wy0) ∧ G = G' ∧ Slr TyCase K' (sv wy0) y0) := by
 refine Fc_body Try.func63 rfl Try.ntmps63 Try.results63 rfl ?_
 unfold M_2z at H
 refine Cw_seq ?_
 refine Cw_region ?_
 refine Ow_cons rfl (OpW_box (cs := (Op.cells p0 vp0_cases vp0_draws)) rfl rfl rfl (fun b10 => ?_))
 refine Ow_q rfl rfl rfl (Qt_assign rfl) ?_
 refine Ow_nil ?_
 refine Cw_seq ?_
 refine Cw_seq ?_
 refine Cw_region ?_
 refine Ow_q rfl rfl rfl (Qt_fieldAddr (m := 0) rfl rfl rfl rfl rfl) ?_
 refine Ow_q rfl rfl rfl (Qt_load1 (v := (.int .i64 p0.kind)) rfl rfl rfl (Rdc.blk (.head _) rfl)) ?_
 refine Ow_q rfl rfl rfl (Qt_cmp rfl rfl rfl) ?_
 refine Ow_nil ?_
 refine Cw_cond rfl ?_ ?_
 ·intro h12
  have h12 := dcd_t (h12)
  have H := ift h12 H
  refine Cw_seq ?_
  refine Cw_region ?_
  refine Ow_q rfl rfl rfl (Qt_fieldAddr (m := 5) rfl rfl rfl rfl rfl) ?_
  refine Ow_q rfl rfl rfl (Qt_load1 (v := (sv vp0_cases)) rfl rfl rfl (Rdc.blk (.head _) rfl)) ?_
  refine Ow_q rfl rfl rfl (Qt_assign rfl) ?_
  refine Ow_nil ?_
  refine Cw_ret ?_
  obtain ey0 := inj1 H
  subst y0
  refine ⟨(by first | exact .inl rfl | exact .inr rfl), [(sv vp0_cases)], ⟨(sv vp0_cases), _, rfl, rfl, rfl⟩, ?_⟩
  refine Re0 ?_
  refine Shift.done ?_
  exact ⟨vp0_cases, rfl, rfl, hp0_cases⟩
 ·intro h12
  have h12 := dcd_f (h12)
  have H := iff_ h12 H
  refine Cw_skip ?_
  refine Cw_seq ?_
  refine Cw_seq ?_
  refine Cw_region ?_
  refine Ow_q rfl rfl rfl (Qt_loadA (m := 7) (cs := (Op.cells p0 vp0_cases vp0_draws)) rfl rfl rfl rfl ⟨rfl, Rdc.blk (.head _) rfl⟩) ?_
  obtain ⟨x20, x21, hx22, H⟩ := bnd2 H
  refine Ow_cons rfl (OpW_call rfl Try.call86 rfl rfl (c_M_11z p0 vp0_cases vp0_draws x20 x21 hx22 _ _ hp0_cases hp0_draws) ?_)
  rintro _ _ _ - ⟨rfl, rfl, rfl⟩
  refine Ow_q rfl rfl rfl (Qt_move rfl) ?_
  refine Ow_q rfl rfl rfl (Qt_extract rfl rfl) ?_
  refine Ow_q rfl rfl rfl (Qt_extract rfl rfl) ?_
  refine Ow_cons rfl (OpW_alloc (cs := (Case.cells (Case.mk false 0 0))) rfl rfl rfl rfl (fun b23 => ?_))
  refine Ow_cons rfl (OpW_store (vs := (Case.cells x20)) (all' := (Case.cells x20)) rfl rfl rfl rfl rfl .here rfl rfl rfl ?_)
  refine Ow_q rfl rfl rfl (Qt_assign rfl) ?_
  refine Ow_nil ?_
  refine Cw_seq ?_
  refine Cw_region ?_
  refine Ow_q rfl rfl rfl (Qt_move rfl) ?_
  refine Ow_nil ?_
  refine Cw_cond rfl ?_ ?_
  ·intro h24
   have H := ift h24 H
   refine Cw_seq ?_
   refine Cw_region ?_
   refine Ow_q rfl rfl rfl (Qt_loadA (m := 3) (cs := (Case.cells x20)) rfl rfl rfl rfl ⟨rfl, Rdc.blk (.head _) rfl⟩) ?_
   have hR26 : RowR TyCase K [(Case.cells x20)] [x20] := RowR.cons rfl (RowR.nil)
   refine Ow_cons rfl (O_lit (T := TyCase) (rows := [(Case.cells x20)]) (l := [x20]) rfl rfl rfl hR26 rfl rfl rfl rfl rfl rfl rfl rfl (fun v25 => ?_))
   refine Ow_q rfl rfl rfl (Qt_assign rfl) ?_
   refine Ow_nil ?_
   refine Cw_ret ?_
   obtain ey0 := inj1 H
   subst y0
   refine ⟨(by first | exact .inl rfl | exact .inr rfl), [(sv v25)], ⟨(sv v25), _, rfl, rfl, rfl⟩, ?_⟩
   refine Shift.settle (T := TyCase) .here hR26 rfl ?_
   intro K27 hK28 hs29
   refine Re0 ?_
   refine Re0 ?_
   refine Re0 ?_
   refine Shift.done ?_
   exact ⟨v25, rfl, rfl, hs29⟩
  ·intro h24
   have H := iff_ (btf h24) H
   refine Cw_skip ?_
   refine Cw_seq ?_
   refine Cw_region ?_
   refine Ow_q rfl rfl rfl (Qt_assign rfl) ?_
   refine Ow_nil ?_
   refine Cw_ret ?_
   obtain ey0 := inj1 H
   subst y0
   refine ⟨(by first | exact .inl rfl | exact .inr rfl), [(sv nilS)], ⟨(sv nilS), _, rfl, rfl, rfl⟩, ?_⟩
   refine Re0 ?_
   refine Re0 ?_
   refine Shift.done ?_
   exact ⟨nilS, rfl, rfl, (Slr.nil TyCase _)⟩



end Go.Hx

namespace Go.Hx
open Go Go.Proofs
set_option linter.unusedSimpArgs false
set_option linter.unusedVariables false
set_option maxRecDepth 10000
set_option maxHeartbeats 1000000 in
theorem c_M_12z (p0 : Op) (vp0_cases : SV) (vp0_draws : SV) (p1 : Result) (y0 : Case) (y1 : Bool) (H : M_12z p0 p1 = some (y0, y1)) (K : Kp) (G : List Ent) (hp0_cases : Slr TyCase K (sv vp0_cases) p0.cases) (hp0_draws : Slr Ty.i64 K (sv vp0_draws) p0.draws) :
  Fc Try.prog 92 #[(.agg (Op.cells p0 vp0_cases vp0_draws).toArray), (.agg (Result.cells p1).toArray)] K (G) (fun v K' G' => v = (.tuple #[(.agg (Case.cells y0).toArray), (.bool y1)]) ∧ K = K' ∧ G = G') := by
 refine Fc_body Try.func92 rfl Try.ntmps92 Try.results92 rfl ?_
 unfold M_12z at H
 refine Cw_seq ?_
 refine Cw_region ?_
 refine Ow_cons rfl (OpW_box (cs := (Op.cells p0 vp0_cases vp0_draws)) rfl rfl rfl (fun b29 => ?_))
 refine Ow_cons rfl (OpW_box (cs := (Result.cells p1)) rfl rfl rfl (fun b30 => ?_))
 refine Ow_cons rfl (OpW_alloc (cs := (Case.cells (Case.mk false 0 0))) rfl rfl rfl rfl (fun b31 => ?_))
 refine Ow_q rfl rfl rfl (Qt_assign rfl) ?_
 refine Ow_nil ?_
 refine Cw_seq ?_
 refine Cw_seq ?_
 refine Cw_region ?_
 refine Ow_q rfl rfl rfl (Qt_fieldAddr (m := 0) rfl rfl rfl rfl rfl) ?_
 refine Ow_q rfl rfl rfl (Qt_load1 (v := (.int .i64 p0.kind)) rfl rfl rfl (Rdc.blk (.tail _ (.tail _ (.head _))) rfl)) ?_
 refine Ow_q rfl rfl rfl (Qt_cmp rfl rfl rfl) ?_
 refine Ow_nil ?_
 refine Cw_cond rfl ?_ ?_
 ·intro h52
  have h52 := dcd_t (h52)
  have H := ift h52 H
  refine Cw_seq ?_
  refine Cw_join (fun env' K' G' => ∃ (t68 : Bool), [(2, (.pointer (some ((⟨b29, 0, none⟩ : Addr).add 0)))), (3, (.pointer (some ((⟨b30, 0, none⟩ : Addr).add 0)))), (4, (.pointer (some ((⟨b31, 0, none⟩ : Addr).add 0)))), (21, (.bool t68))] = env' ∧ K = K' ∧ (.blk b31 45 (Case.cells (Case.mk false 0 0))) :: (.blk b30 73 (Result.cells p1)) :: (.blk b29 41 (Op.cells p0 vp0_cases vp0_draws)) :: G = G' ∧ M_133z p1 p0 t68 = some (y0, y1)) ?_ ?_
  ·skip
   refine Cw_region ?_
   refine Ow_q rfl rfl rfl (Qt_fieldAddr (m := 1) rfl rfl rfl rfl rfl) ?_
   refine Ow_q rfl rfl rfl (Qt_load1 (v := (.int .i64 p1.case_)) rfl rfl rfl (Rdc.blk (.tail _ (.head _)) rfl)) ?_
   refine Ow_q rfl rfl rfl (Qt_cmp rfl rfl rfl) ?_
   refine Ow_q rfl rfl rfl (Qt_move rfl) ?_
   refine Ow_caseG rfl rfl rfl ?_ ?_
   ·intro h69
    have h69 := dcd_t (h69)
    have H := ift h69 H
    refine Ow_pass rfl rfl rfl rfl rfl rfl rfl ?_
    refine Ow_pass rfl rfl rfl rfl rfl rfl rfl ?_
    refine Ow_pass rfl rfl rfl rfl rfl rfl rfl ?_
    refine Ow_pass rfl rfl rfl rfl rfl rfl rfl ?_
    refine Ow_pass rfl rfl rfl rfl rfl rfl rfl ?_
    refine Ow_pass rfl rfl rfl rfl rfl rfl rfl ?_
    refine Ow_q rfl rfl rfl (Qt_pick_t rfl rfl) ?_
    refine Ow_nil ?_
    refine Pu2 ?_
    refine Pu2 ?_
    refine Pu2 ?_
    refine Shift.done ?_
    exact ⟨_, by exact ⟨rfl, rfl, rfl, rfl, trivial⟩, true, rfl, rfl, rfl, H⟩
   ·intro h69
    have h69 := dcd_f (h69)
    have H := iff_ h69 H
    refine Ow_qw rfl rfl rfl rfl rfl rfl (Qt_fieldAddr (m := 1) rfl rfl rfl rfl rfl) ?_
    refine Ow_qw rfl rfl rfl rfl rfl rfl (Qt_load1 (v := (.int .i64 p1.case_)) rfl rfl rfl (Rdc.blk (.tail _ (.head _)) rfl)) ?_
    refine Ow_qw rfl rfl rfl rfl rfl rfl (Qt_fieldAddr (m := 5) rfl rfl rfl rfl rfl) ?_
    refine Ow_qw rfl rfl rfl rfl rfl rfl (Qt_load1 (v := (sv vp0_cases)) rfl rfl rfl (Rdc.blk (.tail _ (.tail _ (.head _))) rfl)) ?_
    refine Ow_qw rfl rfl rfl rfl rfl rfl (Q_len (T := TyCase) hp0_cases rfl rfl) ?_
    refine Ow_qw rfl rfl rfl rfl rfl rfl (Qt_cmp rfl rfl rfl) ?_
    refine Ow_q rfl rfl rfl (Qt_pick_f rfl rfl) ?_
    refine Ow_nil ?_
    refine Pu2 ?_
    refine Pu2 ?_
    refine Pu2 ?_
    refine Shift.done ?_
    exact ⟨_, by exact ⟨rfl, rfl, rfl, rfl, trivial⟩, (dcd (p1.case_ ≥ (p0.cases.length : Int))), rfl, rfl, rfl, H⟩
  rintro _ _ _ - ⟨t68, rfl, rfl, rfl, H⟩
  unfold M_133z at H
  refine Cw_cond rfl ?_ ?_
  ·intro h70
   have H := ift h70 H
   refine Cw_seq ?_
   refine Cw_region ?_
   refine Ow_q rfl rfl rfl (Qt_build (cs := (Case.cells (Case.mk false 0 0))) rfl rfl rfl rfl rfl rfl) ?_
   refine Ow_cons rfl (OpW_store (vs := (Case.cells (Case.mk false 0 0))) (all' := (Case.cells (Case.mk false 0 0))) rfl rfl rfl rfl rfl .here rfl rfl rfl ?_)
   refine Ow_q rfl rfl rfl (Qt_assign rfl) ?_
   refine Ow_nil ?_
   refine Cw_ret ?_
   obtain ⟨ey0, ey1⟩ := inj2 H
   subst y0 y1
   refine ⟨(by first | exact .inl rfl | exact .inr rfl), [(.agg (Case.cells (Case.mk false 0 0)).toArray), (.bool false)], ⟨(.agg (Case.cells (Case.mk false 0 0)).toArray), _, rfl, ⟨_, 3, (Case.cells (Case.mk false 0 0)), rfl, rfl, rfl, rfl, ⟨rfl, Rdc.blk (.head _) rfl⟩, rfl⟩, ⟨(.bool false), _, rfl, rfl, rfl⟩⟩, ?_⟩
   refine Re0 ?_
   refine Re0 ?_
   refine Re0 ?_
   refine Shift.done ?_
   exact ⟨rfl, rfl, rfl⟩
  ·intro h70
   have H := iff_ (btf h70) H
   refine Cw_skip ?_
   refine Cw_seq ?_
   refine Cw_region ?_
   refine Ow_q rfl rfl rfl (Qt_fieldAddr (m := 5) rfl rfl rfl rfl rfl) ?_
   refine Ow_q rfl rfl rfl (Qt_load1 (v := (sv vp0_cases)) rfl rfl rfl (Rdc.blk (.tail _ (.tail _ (.head _))) rfl)) ?_
   refine Ow_q rfl rfl rfl (Qt_fieldAddr (m := 1) rfl rfl rfl rfl rfl) ?_
   refine Ow_q rfl rfl rfl (Qt_load1 (v := (.int .i64 p1.case_)) rfl rfl rfl (Rdc.blk (.tail _ (.head _)) rfl)) ?_
   obtain ⟨x71, hx72, H⟩ := bnd H
   obtain ⟨r73, hr74, hk75⟩ := Slr.at hp0_cases hx72
   obtain rfl := hr74
   refine Ow_q rfl rfl rfl (Q_ix (T := TyCase) hp0_cases hx72 rfl rfl rfl rfl rfl) ?_
   refine Ow_q rfl rfl rfl (Qt_loadA (m := 3) (cs := (Case.cells x71)) rfl rfl rfl rfl ⟨rfl, Rdc.k hk75 rfl⟩) ?_
   refine Ow_cons rfl (OpW_store (vs := (Case.cells x71)) (all' := (Case.cells x71)) rfl rfl rfl rfl rfl .here rfl rfl rfl ?_)
   refine Ow_q rfl rfl rfl (Qt_assign rfl) ?_
   refine Ow_nil ?_
   refine Cw_ret ?_
   obtain ⟨ey0, ey1⟩ := inj2 H
   subst y0 y1
   refine ⟨(by first | exact .inl rfl | exact .inr rfl), [(.agg (Case.cells x71).toArray), (.bool true)], ⟨(.agg (Case.cells x71).toArray), _, rfl, ⟨_, 3, (Case.cells x71), rfl, rfl, rfl, rfl, ⟨rfl, Rdc.blk (.head _) rfl⟩, rfl⟩, ⟨(.bool true), _, rfl, rfl, rfl⟩⟩, ?_⟩
   refine Re0 ?_
   refine Re0 ?_
   refine Re0 ?_
   refine Shift.done ?_
   exact ⟨rfl, rfl, rfl⟩
 ·intro h52
  have h52 := dcd_f (h52)
  have H := iff_ h52 H
  refine Cw_skip ?_
  refine Cw_seq ?_
  refine Cw_region ?_
  refine Ow_q rfl rfl rfl (Qt_loadA (m := 7) (cs := (Op.cells p0 vp0_cases vp0_draws)) rfl rfl rfl rfl ⟨rfl, Rdc.blk (.tail _ (.tail _ (.head _))) rfl⟩) ?_
  obtain ⟨x76, x77, hx78, H⟩ := bnd2 H
  refine Ow_cons rfl (OpW_call rfl Try.call86 rfl rfl (c_M_11z p0 vp0_cases vp0_draws x76 x77 hx78 _ _ hp0_cases hp0_draws) ?_)
  rintro _ _ _ - ⟨rfl, rfl, rfl⟩
  refine Ow_q rfl rfl rfl (Qt_move rfl) ?_
  refine Ow_q rfl rfl rfl (Qt_extract rfl rfl) ?_
  refine Ow_q rfl rfl rfl (Qt_extract rfl rfl) ?_
  refine Ow_cons rfl (OpW_alloc (cs := (Case.cells (Case.mk false 0 0))) rfl rfl rfl rfl (fun b79 => ?_))
  refine Ow_cons rfl (OpW_store (vs := (Case.cells x76)) (all' := (Case.cells x76)) rfl rfl rfl rfl rfl .here rfl rfl rfl ?_)
  refine Ow_q rfl rfl rfl (Qt_assign rfl) ?_
  refine Ow_nil ?_
  refine Cw_seq ?_
  rcases bool_ct x77 with hb_ | hb_ <;> revert hb_
  ·intro h81
   have H := ift h81 H
   refine Cw_region_any [.blk b79 45 (Case.cells x76), .blk b30 73 (Result.cells p1), .blk b29 41 (Op.cells p0 vp0_cases vp0_draws)] rfl (Inc.cons (.head _) (Inc.cons (.tail _ (.tail _ (.head _))) (Inc.cons (.tail _ (.tail _ (.tail _ (.head _)))) Inc.nil))) ?_
   refine Awq 0 rfl (by kernel_rfl) rfl rfl rfl (Qt_loadA (m := 3) (cs := (Case.cells x76)) rfl rfl rfl rfl ⟨rfl, Rdc.blk (.head _) rfl⟩) ?_
   refine Awq 1 rfl (by kernel_rfl) rfl rfl rfl (Qt_move rfl) ?_
   refine Awq 2 rfl (by kernel_rfl) rfl rfl rfl (Qt_move rfl) ?_
   refine Aw.known (d := 36) rfl (h81) ?_
   refine Aw_qw 3 rfl (by kernel_rfl) (by kernel_rfl) (by kernel_rfl) rfl rfl rfl rfl rfl rfl (Qt_fieldAddr (m := 1) rfl rfl rfl rfl rfl) ?_
   refine Aw_qw 4 rfl (by kernel_rfl) (by kernel_rfl) (by kernel_rfl) rfl rfl rfl rfl rfl rfl (Qt_load1 (v := (.int .i64 p1.case_)) rfl rfl rfl (Rdc.blk (.tail _ (.head _)) rfl)) ?_
   refine Aw_qw 5 rfl (by kernel_rfl) (by kernel_rfl) (by kernel_rfl) rfl rfl rfl rfl rfl rfl (Qt_cmp rfl rfl rfl) ?_
   refine Awq 6 rfl (by kernel_rfl) rfl rfl rfl (Qt_pick_t rfl rfl) ?_
   refine Aw_one 7 (by kernel_rfl) (Ax_mk rfl rfl ?_)
   refine OpW_store (vs := (Case.cells x76)) (all' := (Case.cells x76)) rfl rfl rfl rfl rfl (.there .here) rfl rfl rfl ⟨(Inc.cons (.head _) (Inc.cons (.tail _ (.tail _ (.head _))) (Inc.cons (.tail _ (.tail _ (.tail _ (.head _)))) Inc.nil))), ?_⟩
   refine Awq 8 rfl (by kernel_rfl) rfl rfl rfl (Qt_assign rfl) ?_
   refine Aw_done (by kernel_rfl) ?_
   refine Cw_ret ?_
   obtain ⟨ey0, ey1⟩ := inj2 H
   subst y0 y1
   refine ⟨(by first | exact .inl rfl | exact .inr rfl), [(.agg (Case.cells x76).toArray), (.bool (dcd (p1.case_ = (-1))))], ⟨(.agg (Case.cells x76).toArray), _, rfl, ⟨_, 3, (Case.cells x76), rfl, rfl, rfl, rfl, ⟨rfl, Rdc.blk (.tail _ (.head _)) rfl⟩, rfl⟩, ⟨(.bool (dcd (p1.case_ = (-1)))), _, rfl, rfl, rfl⟩⟩, ?_⟩
   refine Re0 ?_
   refine Re0 ?_
   refine Re0 ?_
   refine Re0 ?_
   refine Shift.done ?_
   exact ⟨rfl, rfl, rfl⟩
  ·intro h81
   have H := iff_ (btf h81) H
   refine Cw_region_any [.blk b79 45 (Case.cells x76), .blk b30 73 (Result.cells p1), .blk b29 41 (Op.cells p0 vp0_cases vp0_draws)] rfl (Inc.cons (.head _) (Inc.cons (.tail _ (.tail _ (.head _))) (Inc.cons (.tail _ (.tail _ (.tail _ (.head _)))) Inc.nil))) ?_
   refine Awq 0 rfl (by kernel_rfl) rfl rfl rfl (Qt_loadA (m := 3) (cs := (Case.cells x76)) rfl rfl rfl rfl ⟨rfl, Rdc.blk (.head _) rfl⟩) ?_
   refine Awq 1 rfl (by kernel_rfl) rfl rfl rfl (Qt_move rfl) ?_
   refine Awq 2 rfl (by kernel_rfl) rfl rfl rfl (Qt_move rfl) ?_
   refine Aw.known (d := 36) rfl (h81) ?_
   refine Aw_pass 3 rfl (by kernel_rfl) (by kernel_rfl) (by kernel_rfl) rfl rfl rfl rfl rfl rfl rfl ?_
   refine Aw_pass 4 rfl (by kernel_rfl) (by kernel_rfl) (by kernel_rfl) rfl rfl rfl rfl rfl rfl rfl ?_
   refine Aw_pass 5 rfl (by kernel_rfl) (by kernel_rfl) (by kernel_rfl) rfl rfl rfl rfl rfl rfl rfl ?_
   refine Awq 6 rfl (by kernel_rfl) rfl rfl rfl (Qt_pick_f rfl rfl) ?_
   refine Aw_one 7 (by kernel_rfl) (Ax_mk rfl rfl ?_)
   refine OpW_store (vs := (Case.cells x76)) (all' := (Case.cells x76)) rfl rfl rfl rfl rfl (.there .here) rfl rfl rfl ⟨(Inc.cons (.head _) (Inc.cons (.tail _ (.tail _ (.head _))) (Inc.cons (.tail _ (.tail _ (.tail _ (.head _)))) Inc.nil))), ?_⟩
   refine Awq 8 rfl (by kernel_rfl) rfl rfl rfl (Qt_assign rfl) ?_
   refine Aw_done (by kernel_rfl) ?_
   refine Cw_ret ?_
   obtain ⟨ey0, ey1⟩ := inj2 H
   subst y0 y1
   refine ⟨(by first | exact .inl rfl | exact .inr rfl), [(.agg (Case.cells x76).toArray), (.bool false)], ⟨(.agg (Case.cells x76).toArray), _, rfl, ⟨_, 3, (Case.cells x76), rfl, rfl, rfl, rfl, ⟨rfl, Rdc.blk (.tail _ (.head _)) rfl⟩, rfl⟩, ⟨(.bool false), _, rfl, rfl, rfl⟩⟩, ?_⟩
   refine Re0 ?_
   refine Re0 ?_
   refine Re0 ?_
   refine Re0 ?_
   refine Shift.done ?_
   exact ⟨rfl, rfl, rfl⟩

set_option maxHeartbeats 1000000 in
theorem c_M_1z (p0 : Result) (p1 : Bool) (p2 : Bool) (y0 : Bool) (H : M_1z p0 p1 p2 = some y0) (K : Kp) (G : List Ent)  :
  Fc Try.prog 94 #[(.agg (Result.cells p0).toArray), (.bool p1), (.bool p2)] K (G) (fun v K' G' => v = (.bool y0) ∧ K = K' ∧ G = G') := by
 refine Fc_body Try.func94 rfl Try.ntmps94 Try.results94 rfl ?_
 unfold M_1z at H
 refine Cw_seq ?_
 refine Cw_region ?_
 refine Ow_cons rfl (OpW_box (cs := (Result.cells p0)) rfl rfl rfl (fun b8 => ?_))
 refine Ow_q rfl rfl rfl (Qt_assign rfl) ?_
 refine Ow_nil ?_
 refine Cw_join (fun env' K' G' => ∃ (t14 : Bool), [(6, (.bool t14))] = env' ∧ K = K' ∧ G = G' ∧ M_13z t14 = some y0) ?_ ?_
 ·skip
  refine Cw_region ?_
  refine Ow_q rfl rfl rfl (Qt_move rfl) ?_
  refine Ow_q rfl rfl rfl (Qt_move rfl) ?_
  refine Ow_caseG rfl rfl rfl ?_ ?_
  ·intro h15
   have H := ift h15 H
   refine Ow_pass rfl rfl rfl rfl rfl rfl rfl ?_
   refine Ow_pass rfl rfl rfl rfl rfl rfl rfl ?_
   refine Ow_pass rfl rfl rfl rfl rfl rfl rfl ?_
   refine Ow_pass rfl rfl rfl rfl rfl rfl rfl ?_
   refine Ow_passU rfl rfl rfl rfl rfl ?_
   refine Ow_passU rfl rfl rfl rfl rfl ?_
   refine Ow_passU rfl rfl rfl rfl rfl ?_
   refine Ow_pass rfl rfl rfl rfl rfl rfl rfl ?_
   refine Ow_q rfl rfl rfl (Qt_pick_t rfl rfl) ?_
   refine Ow_q rfl rfl rfl (Qt_move rfl) ?_
   refine Ow_qw rfl rfl rfl rfl rfl rfl (Qt_move rfl) ?_
   refine Ow_qw rfl rfl rfl rfl rfl rfl (Qt_move rfl) ?_
   refine Ow_caseG rfl rfl rfl ?_ ?_
   ·intro h16
    have H := ift h16 H
    refine Ow_pass rfl rfl rfl rfl rfl rfl rfl ?_
    refine Ow_pass rfl rfl rfl rfl rfl rfl rfl ?_
    refine Ow_pass rfl rfl rfl rfl rfl rfl rfl ?_
    refine Ow_qw rfl rfl rfl rfl rfl rfl (Qt_pick_t rfl rfl) ?_
    refine Ow_q rfl rfl rfl (Qt_pick_t rfl rfl) ?_
    refine Ow_q rfl rfl rfl (Qt_assign rfl) ?_
    refine Ow_nil ?_
    refine Re0 ?_
    refine Shift.done ?_
    exact ⟨_, by exact ⟨rfl, trivial⟩, true, rfl, rfl, rfl, H⟩
   ·intro h16
    have H := iff_ (btf h16) H
    refine Ow_qw rfl rfl rfl rfl rfl rfl (Qt_fieldAddr (m := 4) rfl rfl rfl rfl rfl) ?_
    refine Ow_qw rfl rfl rfl rfl rfl rfl (Qt_load1 (v := (.int .i64 p0.number)) rfl rfl rfl (Rdc.blk (.head _) rfl)) ?_
    refine Ow_qw rfl rfl rfl rfl rfl rfl (Qt_cmp rfl rfl rfl) ?_
    refine Ow_qw rfl rfl rfl rfl rfl rfl (Qt_pick_f rfl rfl) ?_
    refine Ow_q rfl rfl rfl (Qt_pick_t rfl rfl) ?_
    refine Ow_q rfl rfl rfl (Qt_assign rfl) ?_
    refine Ow_nil ?_
    refine Re0 ?_
    refine Shift.done ?_
    exact ⟨_, by exact ⟨rfl, trivial⟩, (dcd (p0.number = 0)), rfl, rfl, rfl, H⟩
  ·intro h15
   have H := iff_ (btf h15) H
   refine Ow_qw rfl rfl rfl rfl rfl rfl (Qt_fieldAddr (m := 2) rfl rfl rfl rfl rfl) ?_
   refine Ow_qw rfl rfl rfl rfl rfl rfl (Qt_load1 (v := (.int .u64 p0.value)) rfl rfl rfl (Rdc.blk (.head _) rfl)) ?_
   refine Ow_qw rfl rfl rfl rfl rfl rfl (Qt_cmp rfl rfl rfl) ?_
   refine Ow_qw rfl rfl rfl rfl rfl rfl (Qt_move rfl) ?_
   refine Ow_caseG rfl rfl rfl ?_ ?_
   ·intro h17
    have h17 := dcd_t (h17)
    have H := ift h17 H
    refine Ow_qw rfl rfl rfl rfl rfl rfl (Qt_fieldAddr (m := 3) rfl rfl rfl rfl rfl) ?_
    refine Ow_qw rfl rfl rfl rfl rfl rfl (Qt_load1 (v := (.bool p0.ok)) rfl rfl rfl (Rdc.blk (.head _) rfl)) ?_
    refine Ow_qw rfl rfl rfl rfl rfl rfl (Qt_not rfl) ?_
    refine Ow_qw rfl rfl rfl rfl rfl rfl (Qt_pick_t rfl rfl) ?_
    refine Ow_q rfl rfl rfl (Qt_pick_f rfl rfl) ?_
    refine Ow_q rfl rfl rfl (Qt_move rfl) ?_
    refine Ow_caseG rfl rfl rfl ?_ ?_
    ·intro h18
     have h18 := nt_t (h18)
     have H := iff_ (btf h18) H
     refine Ow_qw rfl rfl rfl rfl rfl rfl (Qt_move rfl) ?_
     refine Ow_qw rfl rfl rfl rfl rfl rfl (Qt_move rfl) ?_
     refine Ow_caseG rfl rfl rfl ?_ ?_
     ·intro h19
      have H := ift h19 H
      refine Ow_pass rfl rfl rfl rfl rfl rfl rfl ?_
      refine Ow_pass rfl rfl rfl rfl rfl rfl rfl ?_
      refine Ow_pass rfl rfl rfl rfl rfl rfl rfl ?_
      refine Ow_qw rfl rfl rfl rfl rfl rfl (Qt_pick_t rfl rfl) ?_
      refine Ow_q rfl rfl rfl (Qt_pick_t rfl rfl) ?_
      refine Ow_q rfl rfl rfl (Qt_assign rfl) ?_
      refine Ow_nil ?_
      refine Re0 ?_
      refine Shift.done ?_
      exact ⟨_, by exact ⟨rfl, trivial⟩, true, rfl, rfl, rfl, H⟩
     ·intro h19
      have H := iff_ (btf h19) H
      refine Ow_qw rfl rfl rfl rfl rfl rfl (Qt_fieldAddr (m := 4) rfl rfl rfl rfl rfl) ?_
      refine Ow_qw rfl rfl rfl rfl rfl rfl (Qt_load1 (v := (.int .i64 p0.number)) rfl rfl rfl (Rdc.blk (.head _) rfl)) ?_
      refine Ow_qw rfl rfl rfl rfl rfl rfl (Qt_cmp rfl rfl rfl) ?_
      refine Ow_qw rfl rfl rfl rfl rfl rfl (Qt_pick_f rfl rfl) ?_
      refine Ow_q rfl rfl rfl (Qt_pick_t rfl rfl) ?_
      refine Ow_q rfl rfl rfl (Qt_assign rfl) ?_
      refine Ow_nil ?_
      refine Re0 ?_
      refine Shift.done ?_
      exact ⟨_, by exact ⟨rfl, trivial⟩, (dcd (p0.number = 0)), rfl, rfl, rfl, H⟩
    ·intro h18
     have h18 := nt_f (h18)
     have H := ift h18 H
     refine Ow_pass rfl rfl rfl rfl rfl rfl rfl ?_
     refine Ow_pass rfl rfl rfl rfl rfl rfl rfl ?_
     refine Ow_passU rfl rfl rfl rfl rfl ?_
     refine Ow_passU rfl rfl rfl rfl rfl ?_
     refine Ow_passU rfl rfl rfl rfl rfl ?_
     refine Ow_pass rfl rfl rfl rfl rfl rfl rfl ?_
     refine Ow_q rfl rfl rfl (Qt_pick_f rfl rfl) ?_
     refine Ow_q rfl rfl rfl (Qt_assign rfl) ?_
     refine Ow_nil ?_
     refine Re0 ?_
     refine Shift.done ?_
     exact ⟨_, by exact ⟨rfl, trivial⟩, false, rfl, rfl, rfl, H⟩
   ·intro h17
    have h17 := dcd_f (h17)
    have H := iff_ h17 H
    refine Ow_pass rfl rfl rfl rfl rfl rfl rfl ?_
    refine Ow_pass rfl rfl rfl rfl rfl rfl rfl ?_
    refine Ow_pass rfl rfl rfl rfl rfl rfl rfl ?_
    refine Ow_qw rfl rfl rfl rfl rfl rfl (Qt_pick_f rfl rfl) ?_
    refine Ow_q rfl rfl rfl (Qt_pick_f rfl rfl) ?_
    refine Ow_q rfl rfl rfl (Qt_move rfl) ?_
    refine Ow_pass rfl rfl rfl rfl rfl rfl rfl ?_
    refine Ow_pass rfl rfl rfl rfl rfl rfl rfl ?_
    refine Ow_passU rfl rfl rfl rfl rfl ?_
    refine Ow_passU rfl rfl rfl rfl rfl ?_
    refine Ow_passU rfl rfl rfl rfl rfl ?_
    refine Ow_pass rfl rfl rfl rfl rfl rfl rfl ?_
    refine Ow_q rfl rfl rfl (Qt_pick_f rfl rfl) ?_
    refine Ow_q rfl rfl rfl (Qt_assign rfl) ?_
    refine Ow_nil ?_
    refine Re0 ?_
    refine Shift.done ?_
    exact ⟨_, by exact ⟨rfl, trivial⟩, false, rfl, rfl, rfl, H⟩
 rintro _ _ _ - ⟨t14, rfl, rfl, rfl, H⟩
 unfold M_13z at H
 refine Cw_ret ?_
 obtain ey0 := inj1 H
 subst y0
 refine ⟨(by first | exact .inl rfl | exact .inr rfl), [(.bool t14)], ⟨(.bool t14), _, rfl, rfl, rfl⟩, ?_⟩
 refine Shift.done ?_
 exact ⟨rfl, rfl, rfl⟩

set_option maxHeartbeats 1000000 in
theorem c_M_42z (p0 : List Chan) (vp0 : SV) (p1 : Int) (p2 : Chan) (vp2_buffer : SV) (y0 : List Chan) (H : M_42z p0 p1 p2 = some y0) (K : Kp) (G : List Ent) (hp0 : Slr TyChan K (sv vp0) p0) (hp2_buffer : Slr Ty.u64 K (sv vp2_buffer) p2.buffer) :
  Fc Try.prog 95 #[(sv vp0), (.int .i64 p1), (.agg (Chan.cells p2 vp2_buffer).toArray)] K (G) (fun v K' G' => ∃ (wy0 : SV) (rswy0 : List (List Value)), v = (sv wy0) ∧ K = K' ∧ (.row (sv wy0) 71 3 rswy0.flatten) :: G = G' ∧ RowR TyChan K' rswy0 y0) := by
 refine Fc_body Try.func95 rfl Try.ntmps95 Try.results95 rfl ?_
 unfold M_42z at H
 refine Cw_seq ?_
 refine Cw_region ?_
 refine Ow_cons rfl (OpW_box (cs := (Chan.cells p2 vp2_buffer)) rfl rfl rfl (fun b17 => ?_))
 refine Ow_q rfl rfl rfl (Qt_assign rfl) ?_
 refine Ow_nil ?_
 refine Cw_seq ?_
 refine Cw_region ?_
 refine Ow_q rfl rfl rfl (Qt_move rfl) ?_
 have hR18 : RowR TyChan K [] [] := RowR.nil
 refine Ow.shift (Shift.nilRow 71 3 (Shift.done ?_))
 obtain ⟨x19, hx20, H⟩ := bnd H
 refine Ow_cons rfl (O_appRow (T := TyChan) (bytes := 40) rfl rfl rfl (.head _) hR18 (SrcT.sl hp0) hx20 rfl rfl rfl rfl rfl rfl rfl rfl (fun v21 rs22 hR23 => ⟨_, .here, ?_⟩))
 refine Ow_q rfl rfl rfl (Qt_assign rfl) ?_
 refine Ow_nil ?_
 refine Cw_seq ?_
 refine Cw_region ?_
 refine Ow_q rfl rfl rfl (Qt_move rfl) ?_
 refine Ow_q rfl rfl rfl (Qt_move rfl) ?_
 refine Ow_q rfl rfl rfl (Qt_loadA (m := 3) (cs := (Chan.cells p2 vp2_buffer)) rfl rfl rfl rfl ⟨rfl, Rdc.blk (.tail _ (.head _)) rfl⟩) ?_
 obtain ⟨x24, hx25, H⟩ := bnd H
 obtain ⟨r26, hq27, hr28⟩ := RowR.at hR23 hx25
 obtain ⟨v29, rfl, hs30⟩ := hr28
 refine Ow_q rfl rfl rfl (Q_ixR (T := TyChan) (.head _) hR23 hq27 (getI_ix hx25).1 rfl rfl rfl rfl rfl) ?_
 refine Ow_cons rfl (O_storeR (T := TyChan) (vs := (Chan.cells p2 vp2_buffer)) (r' := (Chan.cells p2 vp2_buffer)) (l' := (setI x19 p1 p2)) rfl rfl rfl rfl rfl .here hR23 hq27 rfl rfl rfl (RowR.set p1 hR23 ⟨vp2_buffer, rfl, hp2_buffer⟩) (fun hR31 => ?_))
 have hE32 := set_at hq27 (v := (Chan.cells p2 vp2_buffer))
 refine Ow_nil ?_
 refine Cw_seq ?_
 refine Cw_region ?_
 refine Ow_q rfl rfl rfl (Qt_move rfl) ?_
 refine Ow_q rfl rfl rfl (Qt_assign rfl) ?_
 refine Ow_nil ?_
 refine Cw_ret ?_
 obtain ey0 := inj1 H
 subst y0
 refine ⟨(by first | exact .inl rfl | exact .inr rfl), [(sv v21)], ⟨(sv v21), _, rfl, rfl, rfl⟩, ?_⟩
 refine Re1 ?_
 refine Shift.done ?_
 exact ⟨v21, (rs22.set p1.toNat (Chan.cells p2 vp2_buffer)), rfl, rfl, rfl, hR31⟩

set_option maxHeartbeats 1000000 in
theorem c_M_47z (p0 : List Chan) (vp0 : SV) (p1 : Case) (p2 : Result) (y0 : List Chan) (y1 : Bool) (H : M_47z p0 p1 p2 = some (y0, y1)) (K : Kp) (G : List Ent) (hp0 : Slr TyChan K (sv vp0) p0) :
  Fc Try.prog 93 #[(sv vp0), (.agg (Case.cells p1).toArray), (.agg (Result.cells p2).toArray)] K (G) (fun v K' G' => ∃ (wy0 : SV), v = (.tuple #[(sv wy0), (.bool y1)]) ∧ G = G' ∧ Slr TyChan K' (sv wy0) y0) := by
 refine Fc_body Try.func93 rfl Try.ntmps93 Try.results93 rfl ?_
 unfold M_47z at H
 refine Cw_seq ?_
 refine Cw_region ?_
 refine Ow_cons rfl (OpW_box (cs := (Case.cells p1)) rfl rfl rfl (fun b141 => ?_))
 refine Ow_cons rfl (OpW_box (cs := (Result.cells p2)) rfl rfl rfl (fun b142 => ?_))
 refine Ow_q rfl rfl rfl (Qt_assign rfl) ?_
 refine Ow_q rfl rfl rfl (Qt_assign rfl) ?_
 refine Ow_nil ?_
 refine Cw_seq ?_
 refine Cw_seq ?_
 refine Cw_region ?_
 refine Ow_q rfl rfl rfl (Qt_move rfl) ?_
 refine Ow_q rfl rfl rfl (Qt_fieldAddr (m := 1) rfl rfl rfl rfl rfl) ?_
 refine Ow_q rfl rfl rfl (Qt_load1 (v := (.int .i64 p1.channel)) rfl rfl rfl (Rdc.blk (.tail _ (.head _)) rfl)) ?_
 obtain ⟨x146, hx147, H⟩ := bnd H
 refine Ow_cons rfl (OpW_call rfl Try.call71 rfl rfl (c_M_5z p0 vp0 p1.channel x146 hx147 _ _ hp0) ?_)
 rintro _ _ _ - ⟨rfl, rfl, rfl⟩
 refine Ow_q rfl rfl rfl (Qt_not rfl) ?_
 refine Ow_nil ?_
 refine Cw_cond rfl ?_ ?_
 ·intro h148
  have h148 := nt_t (h148)
  have H := iff_ (btf h148) H
  refine Cw_seq ?_
  refine Cw_region ?_
  refine Ow_q rfl rfl rfl (Qt_assign rfl) ?_
  refine Ow_q rfl rfl rfl (Qt_assign rfl) ?_
  refine Ow_nil ?_
  refine Cw_ret ?_
  obtain ⟨ey0, ey1⟩ := inj2 H
  subst y0 y1
  refine ⟨(by first | exact .inl rfl | exact .inr rfl), [(sv nilS), (.bool false)], ⟨(sv nilS), _, rfl, rfl, ⟨(.bool false), _, rfl, rfl, rfl⟩⟩, ?_⟩
  refine Re0 ?_
  refine Re0 ?_
  refine Shift.done ?_
  exact ⟨nilS, rfl, rfl, (Slr.nil TyChan _)⟩
 ·intro h148
  have h148 := nt_f (h148)
  have H := ift h148 H
  refine Cw_skip ?_
  refine Cw_seq ?_
  refine Cw_region ?_
  refine Ow_q rfl rfl rfl (Qt_move rfl) ?_
  refine Ow_q rfl rfl rfl (Qt_fieldAddr (m := 1) rfl rfl rfl rfl rfl) ?_
  refine Ow_q rfl rfl rfl (Qt_load1 (v := (.int .i64 p1.channel)) rfl rfl rfl (Rdc.blk (.tail _ (.head _)) rfl)) ?_
  obtain ⟨x149, hx150, H⟩ := bnd H
  obtain ⟨r151, hr152, hk153⟩ := Slr.at hp0 hx150
  obtain ⟨v154, rfl, hs155⟩ := hr152
  refine Ow_q rfl rfl rfl (Q_ix (T := TyChan) hp0 hx150 rfl rfl rfl rfl rfl) ?_
  refine Ow_q rfl rfl rfl (Qt_loadA (m := 3) (cs := (Chan.cells x149 v154)) rfl rfl rfl rfl ⟨rfl, Rdc.k hk153 rfl⟩) ?_
  refine Ow_cons rfl (OpW_alloc (cs := (Chan.cells (Chan.mk 0 [] false) nilS)) rfl rfl rfl rfl (fun b156 => ?_))
  refine Ow_cons rfl (OpW_store (vs := (Chan.cells x149 v154)) (all' := (Chan.cells x149 v154)) rfl rfl rfl rfl rfl .here rfl rfl rfl ?_)
  refine Ow_nil ?_
  refine Cw_seq ?_
  refine Cw_block ?_
  refine Cw_join (fun env' K' G' => ∃ (t265 : Bool), [(0, (sv vp0)), (4, (.pointer (some ((⟨b141, 0, none⟩ : Addr).add 0)))), (5, (.pointer (some ((⟨b142, 0, none⟩ : Addr).add 0)))), (8, (.pointer (some ((⟨b156, 0, none⟩ : Addr).add 0)))), (19, (.bool t265))] = env' ∧ K = K' ∧ (.blk b156 71 (Chan.cells x149 v154)) :: (.blk b142 73 (Result.cells p2)) :: (.blk b141 45 (Case.cells p1)) :: G = G' ∧ M_46z p0 x149 p2 p1 t265 = some (y0, y1)) ?_ ?_
  ·skip
   refine Cw_region ?_
   refine Ow_q rfl rfl rfl (Qt_fieldAddr (m := 0) rfl rfl rfl rfl rfl) ?_
   refine Ow_q rfl rfl rfl (Qt_load1 (v := (.int .i64 p2.kind)) rfl rfl rfl (Rdc.blk (.tail _ (.head _)) rfl)) ?_
   refine Ow_q rfl rfl rfl (Qt_cmp rfl rfl rfl) ?_
   refine Ow_q rfl rfl rfl (Qt_move rfl) ?_
   refine Ow_caseG rfl rfl rfl ?_ ?_
   ·intro h266
    have h266 := dcd_t (h266)
    have H := ift h266 H
    refine Ow_qw rfl rfl rfl rfl rfl rfl (Qt_fieldAddr (m := 0) rfl rfl rfl rfl rfl) ?_
    refine Ow_qw rfl rfl rfl rfl rfl rfl (Qt_load1 (v := (.bool p1.send)) rfl rfl rfl (Rdc.blk (.tail _ (.tail _ (.head _))) rfl)) ?_
    refine Ow_q rfl rfl rfl (Qt_pick_t rfl rfl) ?_
    refine Ow_q rfl rfl rfl (Qt_assign rfl) ?_
    refine Ow_nil ?_
    refine Pu2 ?_
    refine Pu2 ?_
    refine Pu2 ?_
    refine Shift.done ?_
    exact ⟨_, by exact ⟨rfl, rfl, rfl, rfl, rfl, trivial⟩, p1.send, rfl, rfl, rfl, H⟩
   ·intro h266
    have h266 := dcd_f (h266)
    have H := iff_ h266 H
    refine Ow_pass rfl rfl rfl rfl rfl rfl rfl ?_
    refine Ow_pass rfl rfl rfl rfl rfl rfl rfl ?_
    refine Ow_q rfl rfl rfl (Qt_pick_f rfl rfl) ?_
    refine Ow_q rfl rfl rfl (Qt_assign rfl) ?_
    refine Ow_nil ?_
    refine Pu2 ?_
    refine Pu2 ?_
    refine Pu2 ?_
    refine Shift.done ?_
    exact ⟨_, by exact ⟨rfl, rfl, rfl, rfl, rfl, trivial⟩, false, rfl, rfl, rfl, H⟩
  rintro _ _ _ - ⟨t265, rfl, rfl, rfl, H⟩
  unfold M_46z at H
  refine Cw_cond rfl ?_ ?_
  ·intro h267
   have H := ift h267 H
   refine Cw_seq ?_
   refine Cw_join (fun env' K' G' => ∃ (t278 : Bool), [(0, (sv vp0)), (4, (.pointer (some ((⟨b141, 0, none⟩ : Addr).add 0)))), (8, (.pointer (some ((⟨b156, 0, none⟩ : Addr).add 0)))), (41, (.bool t278))] = env' ∧ K = K' ∧ (.blk b156 71 (Chan.cells x149 v154)) :: (.blk b141 45 (Case.cells p1)) :: G = G' ∧ M_80z p0 x149 p1 t278 = some (y0, y1)) ?_ ?_
   ·skip
    refine Cw_region ?_
    refine Ow_q rfl rfl rfl (Qt_loadA (m := 5) (cs := (Result.cells p2)) rfl rfl rfl rfl ⟨rfl, Rdc.blk (.tail _ (.head _)) rfl⟩) ?_
    obtain ⟨x279, hx280, H⟩ := bnd H
    refine Ow_cons rfl (OpW_call rfl Try.call94 rfl rfl (c_M_1z p2 false false x279 hx280 _ _ ) ?_)
    rintro _ _ _ - ⟨rfl, rfl, rfl⟩
    refine Ow_q rfl rfl rfl (Qt_not rfl) ?_
    refine Ow_q rfl rfl rfl (Qt_move rfl) ?_
    refine Ow_caseG rfl rfl rfl ?_ ?_
    ·intro h281
     have h281 := nt_t (h281)
     have H := iff_ (btf h281) H
     refine Ow_pass rfl rfl rfl rfl rfl rfl rfl ?_
     refine Ow_pass rfl rfl rfl rfl rfl rfl rfl ?_
     refine Ow_q rfl rfl rfl (Qt_pick_t rfl rfl) ?_
     refine Ow_q rfl rfl rfl (Qt_move rfl) ?_
     refine Ow_pass rfl rfl rfl rfl rfl rfl rfl ?_
     refine Ow_pass rfl rfl rfl rfl rfl rfl rfl ?_
     refine Ow_pass rfl rfl rfl rfl rfl rfl rfl ?_
     refine Ow_pass rfl rfl rfl rfl rfl rfl rfl ?_
     refine Ow_pass rfl rfl rfl rfl rfl rfl rfl ?_
     refine Ow_pass rfl rfl rfl rfl rfl rfl rfl ?_
     refine Ow_q rfl rfl rfl (Qt_pick_t rfl rfl) ?_
     refine Ow_nil ?_
     refine Pu2 ?_
     refine Pu1 ?_
     refine Re2 ?_
     refine Shift.done ?_
     exact ⟨_, by exact ⟨rfl, rfl, rfl, rfl, trivial⟩, true, rfl, rfl, rfl, H⟩
    ·intro h281
     have h281 := nt_f (h281)
     have H := ift h281 H
     refine Ow_qw rfl rfl rfl rfl rfl rfl (Qt_fieldAddr (m := 2) rfl rfl rfl rfl rfl) ?_
     refine Ow_qw rfl rfl rfl rfl rfl rfl (Qt_load1 (v := (.bool x149.closed)) rfl rfl rfl (Rdc.blk (.head _) rfl)) ?_
     refine Ow_q rfl rfl rfl (Qt_pick_f rfl rfl) ?_
     refine Ow_q rfl rfl rfl (Qt_move rfl) ?_
     refine Ow_caseG rfl rfl rfl ?_ ?_
     ·intro h282
      have H := ift h282 H
      refine Ow_pass rfl rfl rfl rfl rfl rfl rfl ?_
      refine Ow_pass rfl rfl rfl rfl rfl rfl rfl ?_
      refine Ow_pass rfl rfl rfl rfl rfl rfl rfl ?_
      refine Ow_pass rfl rfl rfl rfl rfl rfl rfl ?_
      refine Ow_pass rfl rfl rfl rfl rfl rfl rfl ?_
      refine Ow_pass rfl rfl rfl rfl rfl rfl rfl ?_
      refine Ow_q rfl rfl rfl (Qt_pick_t rfl rfl) ?_
      refine Ow_nil ?_
      refine Pu2 ?_
      refine Pu1 ?_
      refine Re2 ?_
      refine Shift.done ?_
      exact ⟨_, by exact ⟨rfl, rfl, rfl, rfl, trivial⟩, true, rfl, rfl, rfl, H⟩
     ·intro h282
      have H := iff_ (btf h282) H
      refine Ow_qw rfl rfl rfl rfl rfl rfl (Qt_fieldAddr (m := 1) rfl rfl rfl rfl rfl) ?_
      refine Ow_qw rfl rfl rfl rfl rfl rfl (Qt_load1 (v := (sv v154)) rfl rfl rfl (Rdc.blk (.head _) rfl)) ?_
      refine Ow_qw rfl rfl rfl rfl rfl rfl (Q_len (T := Ty.u64) hs155 rfl rfl) ?_
      refine Ow_qw rfl rfl rfl rfl rfl rfl (Qt_fieldAddr (m := 0) rfl rfl rfl rfl rfl) ?_
      refine Ow_qw rfl rfl rfl rfl rfl rfl (Qt_load1 (v := (.int .i64 x149.capacity)) rfl rfl rfl (Rdc.blk (.head _) rfl)) ?_
      refine Ow_qw rfl rfl rfl rfl rfl rfl (Qt_cmp rfl rfl rfl) ?_
      refine Ow_q rfl rfl rfl (Qt_pick_f rfl rfl) ?_
      refine Ow_nil ?_
      refine Pu2 ?_
      refine Pu1 ?_
      refine Re2 ?_
      refine Shift.done ?_
      exact ⟨_, by exact ⟨rfl, rfl, rfl, rfl, trivial⟩, (dcd ((x149.buffer.length : Int) ≥ x149.capacity)), rfl, rfl, rfl, H⟩
   rintro _ _ _ - ⟨t278, rfl, rfl, rfl, H⟩
   unfold M_80z at H
   refine Cw_cond rfl ?_ ?_
   ·intro h283
    have H := ift h283 H
    refine Cw_seq ?_
    refine Cw_region ?_
    refine Ow_q rfl rfl rfl (Qt_assign rfl) ?_
    refine Ow_q rfl rfl rfl (Qt_assign rfl) ?_
    refine Ow_nil ?_
    refine Cw_ret ?_
    obtain ⟨ey0, ey1⟩ := inj2 H
    subst y0 y1
    refine ⟨(by first | exact .inl rfl | exact .inr rfl), [(sv nilS), (.bool false)], ⟨(sv nilS), _, rfl, rfl, ⟨(.bool false), _, rfl, rfl, rfl⟩⟩, ?_⟩
    refine Re0 ?_
    refine Re0 ?_
    refine Shift.done ?_
    exact ⟨nilS, rfl, rfl, (Slr.nil TyChan _)⟩
   ·intro h283
    have H := iff_ (btf h283) H
    refine Cw_skip ?_
    refine Cw_join (fun env' K' G' => ∃ (v330 : SV) (l331 : List Int), [(0, (sv vp0)), (4, (.pointer (some ((⟨b141, 0, none⟩ : Addr).add 0)))), (8, (.pointer (some ((⟨b156, 0, none⟩ : Addr).add 0))))] = env' ∧ (.blk b156 71 (Chan.cells (Chan.mk x149.capacity l331 x149.closed) v330)) :: (.blk b141 45 (Case.cells p1)) :: (.tok 38 1 [(sv v330)]) :: G = G' ∧ M_184z p0 x149 p1 l331 = some (y0, y1) ∧ Slr Ty.u64 K' (sv v330) l331) ?_ ?_
    ·skip
     obtain ⟨x333, hx334, H⟩ := bnd H
     obtain ⟨x341, hx342, H⟩ := bnd H
     refine Cw_region_any [.blk b141 45 (Case.cells p1)] rfl (Inc.cons (.tail _ (.head _)) Inc.nil) ?_
     refine Awq 0 rfl (by kernel_rfl) rfl rfl rfl (Qt_fieldAddr (m := 1) rfl rfl rfl rfl rfl) ?_
     refine Awq 3 rfl (by kernel_rfl) rfl rfl rfl (Qt_fieldAddr (m := 2) rfl rfl rfl rfl rfl) ?_
     refine Awq 4 rfl (by kernel_rfl) rfl rfl rfl (Qt_load1 (v := (.int .u64 p1.value)) rfl rfl rfl (Rdc.blk (.head _) rfl)) ?_
     refine Aw_two 1 5 (by kernel_rfl) ?_ ?_
     ·skip
      refine id (Ax_mk rfl rfl (OpW_of_Qt rfl rfl (Qt_load1 (v := (sv v154)) rfl rfl rfl (Rdc.blk (.head _) rfl)) ⟨(Inc.cons (.tail _ (.head _)) Inc.nil), ?_⟩))
      refine Aw_two 2 5 (by kernel_rfl) ?_ ?_
      ·skip
       refine id (Ax_mk rfl rfl ?_)
       refine OpW.shift (Shift.nilTok1 38 1 (Shift.done ?_))
       refine O_appTok (T := Ty.u64) (bytes := 8) (q := 0) rfl rfl rfl (Slr.nil Ty.u64 _) (.head _) rfl (SrcT.sl hs155) hx334 rfl rfl rfl rfl rfl rfl rfl rfl (fun v347 K348 hK349 hs350 => ⟨_, .here, ⟨(Inc.cons (.tail _ (.tail _ (.head _))) Inc.nil), ?_⟩⟩)
       refine Aw_one 5 (by kernel_rfl) (Ax_mk rfl rfl ?_)
       have hR352 : RowR Ty.u64 K348 [[(.int .u64 p1.value)]] [p1.value] := RowR.cons rfl (RowR.nil)
       refine O_lit (T := Ty.u64) (rows := [[(.int .u64 p1.value)]]) (l := [p1.value]) rfl rfl rfl hR352 rfl rfl rfl rfl rfl rfl rfl rfl (fun v351 => ⟨(Inc.cons (.tail _ (.tail _ (.tail _ (.head _)))) Inc.nil), ?_⟩)
       refine Aw_one 6 (by kernel_rfl) (Ax_mk rfl rfl ?_)
       refine O_appTok (T := Ty.u64) (bytes := 8) (q := 0) rfl rfl rfl hs350 (.tail _ (.head _)) rfl (SrcT.row (.head _) hR352 rfl) hx342 rfl rfl rfl rfl rfl rfl rfl rfl (fun v353 K354 hK355 hs356 => ⟨_, (.there .here), ⟨(Inc.cons (.tail _ (.tail _ (.tail _ (.head _)))) Inc.nil), ?_⟩⟩)
       refine Aw.shift (Re0 (Shift.done ⟨(Inc.cons (.tail _ (.tail _ (.head _))) Inc.nil), ?_⟩))
       refine Awq 7 rfl (by kernel_rfl) rfl rfl rfl (Qt_fieldAddr (m := 1) rfl rfl rfl rfl rfl) ?_
       refine Aw_one 8 (by kernel_rfl) (Ax_mk rfl rfl ?_)
       refine OpW_store (vs := [(sv v353)]) (all' := (Chan.cells (Chan.mk x149.capacity x341 x149.closed) v353)) rfl rfl rfl rfl rfl (.there .here) rfl rfl rfl ⟨(Inc.cons (.tail _ (.tail _ (.head _))) Inc.nil), ?_⟩
       refine Aw_done (by kernel_rfl) ?_
       refine Pu2 ?_
       refine Pu2 ?_
       refine Shift.done ?_
       exact ⟨_, by exact ⟨rfl, rfl, rfl, trivial⟩, v353, x341, rfl, rfl, H, hs356⟩
      ·skip
       refine id (Ax_mk rfl rfl ?_)
       have hR358 : RowR Ty.u64 K [[(.int .u64 p1.value)]] [p1.value] := RowR.cons rfl (RowR.nil)
       refine O_lit (T := Ty.u64) (rows := [[(.int .u64 p1.value)]]) (l := [p1.value]) rfl rfl rfl hR358 rfl rfl rfl rfl rfl rfl rfl rfl (fun v357 => ⟨(Inc.cons (.tail _ (.tail _ (.head _))) Inc.nil), ?_⟩)
       refine Aw_one 2 (by kernel_rfl) (Ax_mk rfl rfl ?_)
       refine OpW.shift (Shift.nilTok1 38 1 (Shift.done ?_))
       refine O_appTok (T := Ty.u64) (bytes := 8) (q := 0) rfl rfl rfl (Slr.nil Ty.u64 _) (.head _) rfl (SrcT.sl hs155) hx334 rfl rfl rfl rfl rfl rfl rfl rfl (fun v359 K360 hK361 hs362 => ⟨_, .here, ⟨(Inc.cons (.tail _ (.tail _ (.tail _ (.head _)))) Inc.nil), ?_⟩⟩)
       refine Aw_one 6 (by kernel_rfl) (Ax_mk rfl rfl ?_)
       have hs363 := (hR358).mono hK361
       refine O_appTok (T := Ty.u64) (bytes := 8) (q := 0) rfl rfl rfl hs362 (.head _) rfl (SrcT.row (.tail _ (.head _)) hs363 rfl) hx342 rfl rfl rfl rfl rfl rfl rfl rfl (fun v364 K365 hK366 hs367 => ⟨_, .here, ⟨(Inc.cons (.tail _ (.tail _ (.tail _ (.head _)))) Inc.nil), ?_⟩⟩)
       refine Aw.shift (Re1 (Shift.done ⟨(Inc.cons (.tail _ (.tail _ (.head _))) Inc.nil), ?_⟩))
       refine Awq 7 rfl (by kernel_rfl) rfl rfl rfl (Qt_fieldAddr (m := 1) rfl rfl rfl rfl rfl) ?_
       refine Aw_one 8 (by kernel_rfl) (Ax_mk rfl rfl ?_)
       refine OpW_store (vs := [(sv v364)]) (all' := (Chan.cells (Chan.mk x149.capacity x341 x149.closed) v364)) rfl rfl rfl rfl rfl (.there .here) rfl rfl rfl ⟨(Inc.cons (.tail _ (.tail _ (.head _))) Inc.nil), ?_⟩
       refine Aw_done (by kernel_rfl) ?_
       refine Pu2 ?_
       refine Pu2 ?_
       refine Shift.done ?_
       exact ⟨_, by exact ⟨rfl, rfl, rfl, trivial⟩, v364, x341, rfl, rfl, H, hs367⟩
     ·skip
      refine id (Ax_mk rfl rfl ?_)
      have hR369 : RowR Ty.u64 K [[(.int .u64 p1.value)]] [p1.value] := RowR.cons rfl (RowR.nil)
      refine O_lit (T := Ty.u64) (rows := [[(.int .u64 p1.value)]]) (l := [p1.value]) rfl rfl rfl hR369 rfl rfl rfl rfl rfl rfl rfl rfl (fun v368 => ⟨(Inc.cons (.tail _ (.tail _ (.head _))) Inc.nil), ?_⟩)
      refine Aw_one 1 (by kernel_rfl) (Ax_mk rfl rfl (OpW_of_Qt rfl rfl (Qt_load1 (v := (sv v154)) rfl rfl rfl (Rdc.blk (.tail _ (.head _)) rfl)) ⟨(Inc.cons (.tail _ (.tail _ (.head _))) Inc.nil), ?_⟩))
      refine Aw_one 2 (by kernel_rfl) (Ax_mk rfl rfl ?_)
      refine OpW.shift (Shift.nilTok1 38 1 (Shift.done ?_))
      refine O_appTok (T := Ty.u64) (bytes := 8) (q := 0) rfl rfl rfl (Slr.nil Ty.u64 _) (.head _) rfl (SrcT.sl hs155) hx334 rfl rfl rfl rfl rfl rfl rfl rfl (fun v370 K371 hK372 hs373 => ⟨_, .here, ⟨(Inc.cons (.tail _ (.tail _ (.tail _ (.head _)))) Inc.nil), ?_⟩⟩)
      refine Aw_one 6 (by kernel_rfl) (Ax_mk rfl rfl ?_)
      have hs374 := (hR369).mono hK372
      refine O_appTok (T := Ty.u64) (bytes := 8) (q := 0) rfl rfl rfl hs373 (.head _) rfl (SrcT.row (.tail _ (.head _)) hs374 rfl) hx342 rfl rfl rfl rfl rfl rfl rfl rfl (fun v375 K376 hK377 hs378 => ⟨_, .here, ⟨(Inc.cons (.tail _ (.tail _ (.tail _ (.head _)))) Inc.nil), ?_⟩⟩)
      refine Aw.shift (Re1 (Shift.done ⟨(Inc.cons (.tail _ (.tail _ (.head _))) Inc.nil), ?_⟩))
      refine Awq 7 rfl (by kernel_rfl) rfl rfl rfl (Qt_fieldAddr (m := 1) rfl rfl rfl rfl rfl) ?_
      refine Aw_one 8 (by kernel_rfl) (Ax_mk rfl rfl ?_)
      refine OpW_store (vs := [(sv v375)]) (all' := (Chan.cells (Chan.mk x149.capacity x341 x149.closed) v375)) rfl rfl rfl rfl rfl (.there .here) rfl rfl rfl ⟨(Inc.cons (.tail _ (.tail _ (.head _))) Inc.nil), ?_⟩
      refine Aw_done (by kernel_rfl) ?_
      refine Pu2 ?_
      refine Pu2 ?_
      refine Shift.done ?_
      exact ⟨_, by exact ⟨rfl, rfl, rfl, trivial⟩, v375, x341, rfl, rfl, H, hs378⟩
    rintro _ K379 _ hK380 ⟨v330, l331, rfl, rfl, H, hs332⟩
    unfold M_184z at H
    refine Cw_seq ?_
    refine Cw_region ?_
    refine Ow_q rfl rfl rfl (Qt_move rfl) ?_
    refine Ow_q rfl rfl rfl (Qt_fieldAddr (m := 1) rfl rfl rfl rfl rfl) ?_
    refine Ow_q rfl rfl rfl (Qt_load1 (v := (.int .i64 p1.channel)) rfl rfl rfl (Rdc.blk (.tail _ (.head _)) rfl)) ?_
    refine Ow_q rfl rfl rfl (Qt_loadA (m := 3) (cs := (Chan.cells (Chan.mk x149.capacity l331 x149.closed) v330)) rfl rfl rfl rfl ⟨rfl, Rdc.blk (.head _) rfl⟩) ?_
    obtain ⟨x381, hx382, H⟩ := bnd H
    have hs383 := (hp0).mono hK380
    refine Ow_cons rfl (OpW_call rfl Try.call95 rfl rfl (c_M_42z p0 vp0 p1.channel (Chan.mk x149.capacity l331 x149.closed) v330 x381 hx382 _ _ hs383 hs332) ?_)
    rintro _ _ _ - ⟨v384, rs385, rfl, rfl, rfl, hs386⟩
    refine Ow_q rfl rfl rfl (Qt_assign rfl) ?_
    refine Ow_q rfl rfl rfl (Qt_assign rfl) ?_
    refine Ow_nil ?_
    refine Cw_ret ?_
    obtain ⟨ey0, ey1⟩ := inj2 H
    subst y0 y1
    refine ⟨(by first | exact .inl rfl | exact .inr rfl), [(sv v384), (.bool true)], ⟨(sv v384), _, rfl, rfl, ⟨(.bool true), _, rfl, rfl, rfl⟩⟩, ?_⟩
    refine Shift.settle (T := TyChan) .here hs386 rfl ?_
    intro K387 hK388 hs389
    refine Re0 ?_
    refine Re0 ?_
    refine Re0 ?_
    refine Re0 ?_
    refine Shift.done ?_
    exact ⟨v384, rfl, rfl, hs389⟩
  ·intro h267
   have H := iff_ (btf h267) H
   refine Cw_join (fun env' K' G' => ∃ (t391 : Bool), [(0, (sv vp0)), (4, (.pointer (some ((⟨b141, 0, none⟩ : Addr).add 0)))), (5, (.pointer (some ((⟨b142, 0, none⟩ : Addr).add 0)))), (8, (.pointer (some ((⟨b156, 0, none⟩ : Addr).add 0)))), (55, (.bool t391))] = env' ∧ K = K' ∧ (.blk b156 71 (Chan.cells x149 v154)) :: (.blk b142 73 (Result.cells p2)) :: (.blk b141 45 (Case.cells p1)) :: G = G' ∧ M_45z p0 x149 p2 p1 t391 = some (y0, y1)) ?_ ?_
   ·skip
    refine Cw_region ?_
    refine Ow_q rfl rfl rfl (Qt_fieldAddr (m := 0) rfl rfl rfl rfl rfl) ?_
    refine Ow_q rfl rfl rfl (Qt_load1 (v := (.int .i64 p2.kind)) rfl rfl rfl (Rdc.blk (.tail _ (.head _)) rfl)) ?_
    refine Ow_q rfl rfl rfl (Qt_cmp rfl rfl rfl) ?_
    refine Ow_q rfl rfl rfl (Qt_move rfl) ?_
    refine Ow_caseG rfl rfl rfl ?_ ?_
    ·intro h392
     have h392 := dcd_t (h392)
     have H := ift h392 H
     refine Ow_qw rfl rfl rfl rfl rfl rfl (Qt_fieldAddr (m := 0) rfl rfl rfl rfl rfl) ?_
     refine Ow_qw rfl rfl rfl rfl rfl rfl (Qt_load1 (v := (.bool p1.send)) rfl rfl rfl (Rdc.blk (.tail _ (.tail _ (.head _))) rfl)) ?_
     refine Ow_q rfl rfl rfl (Qt_pick_t rfl rfl) ?_
     refine Ow_q rfl rfl rfl (Qt_assign rfl) ?_
     refine Ow_nil ?_
     refine Pu2 ?_
     refine Pu2 ?_
     refine Pu2 ?_
     refine Shift.done ?_
     exact ⟨_, by exact ⟨rfl, rfl, rfl, rfl, rfl, trivial⟩, p1.send, rfl, rfl, rfl, H⟩
    ·intro h392
     have h392 := dcd_f (h392)
     have H := iff_ h392 H
     refine Ow_pass rfl rfl rfl rfl rfl rfl rfl ?_
     refine Ow_pass rfl rfl rfl rfl rfl rfl rfl ?_
     refine Ow_q rfl rfl rfl (Qt_pick_f rfl rfl) ?_
     refine Ow_q rfl rfl rfl (Qt_assign rfl) ?_
     refine Ow_nil ?_
     refine Pu2 ?_
     refine Pu2 ?_
     refine Pu2 ?_
     refine Shift.done ?_
     exact ⟨_, by exact ⟨rfl, rfl, rfl, rfl, rfl, trivial⟩, false, rfl, rfl, rfl, H⟩
   rintro _ _ _ - ⟨t391, rfl, rfl, rfl, H⟩
   unfold M_45z at H
   refine Cw_cond rfl ?_ ?_
   ·intro h393
    have H := ift h393 H
    refine Cw_seq ?_
    obtain ⟨x397, hx398, H⟩ := bnd H
    rcases bool_ct x397 with hb_ | hb_ <;> revert hb_
    ·intro h399
     have H := ift h399 H
     refine Cw_region_any [.blk b156 71 (Chan.cells x149 v154), .blk b142 73 (Result.cells p2), .blk b141 45 (Case.cells p1)] rfl (Inc.cons (.head _) (Inc.cons (.tail _ (.head _)) (Inc.cons (.tail _ (.tail _ (.head _))) Inc.nil))) ?_
     refine Awq 0 rfl (by kernel_rfl) rfl rfl rfl (Qt_move rfl) ?_
     refine Awq 1 rfl (by kernel_rfl) rfl rfl rfl (Qt_loadA (m := 5) (cs := (Result.cells p2)) rfl rfl rfl rfl ⟨rfl, Rdc.blk (.tail _ (.head _)) rfl⟩) ?_
     refine Aw_one 2 (by kernel_rfl) (Ax_mk rfl rfl ?_)
     refine OpW_call rfl Try.call94 rfl rfl (c_M_1z p2 false false x397 hx398 _ _ ) ?_
     rintro _ _ _ - ⟨rfl, rfl, rfl⟩
     refine ⟨(Inc.cons (.head _) (Inc.cons (.tail _ (.head _)) (Inc.cons (.tail _ (.tail _ (.head _))) Inc.nil))), ?_⟩
     refine Awq 3 rfl (by kernel_rfl) rfl rfl rfl (Qt_move rfl) ?_
     refine Aw.known (d := 66) rfl (h399) ?_
     refine Aw_qw 4 rfl (by kernel_rfl) (by kernel_rfl) (by kernel_rfl) rfl rfl rfl rfl rfl rfl (Qt_fieldAddr (m := 2) rfl rfl rfl rfl rfl) ?_
     refine Aw_qw 5 rfl (by kernel_rfl) (by kernel_rfl) (by kernel_rfl) rfl rfl rfl rfl rfl rfl (Qt_load1 (v := (.bool x149.closed)) rfl rfl rfl (Rdc.blk (.head _) rfl)) ?_
     refine Awq 6 rfl (by kernel_rfl) rfl rfl rfl (Qt_pick_t rfl rfl) ?_
     refine Awq 7 rfl (by kernel_rfl) rfl rfl rfl (Qt_assign rfl) ?_
     refine Awq 8 rfl (by kernel_rfl) rfl rfl rfl (Qt_assign rfl) ?_
     refine Aw_done (by kernel_rfl) ?_
     refine Cw_ret ?_
     obtain ⟨ey0, ey1⟩ := inj2 H
     subst y0 y1
     refine ⟨(by first | exact .inl rfl | exact .inr rfl), [(sv vp0), (.bool x149.closed)], ⟨(sv vp0), _, rfl, rfl, ⟨(.bool x149.closed), _, rfl, rfl, rfl⟩⟩, ?_⟩
     refine Re0 ?_
     refine Re0 ?_
     refine Re0 ?_
     refine Shift.done ?_
     exact ⟨vp0, rfl, rfl, hp0⟩
    ·intro h399
     have H := iff_ (btf h399) H
     refine Cw_region_any [.blk b156 71 (Chan.cells x149 v154), .blk b142 73 (Result.cells p2), .blk b141 45 (Case.cells p1)] rfl (Inc.cons (.head _) (Inc.cons (.tail _ (.head _)) (Inc.cons (.tail _ (.tail _ (.head _))) Inc.nil))) ?_
     refine Awq 0 rfl (by kernel_rfl) rfl rfl rfl (Qt_move rfl) ?_
     refine Awq 1 rfl (by kernel_rfl) rfl rfl rfl (Qt_loadA (m := 5) (cs := (Result.cells p2)) rfl rfl rfl rfl ⟨rfl, Rdc.blk (.tail _ (.head _)) rfl⟩) ?_
     refine Aw_one 2 (by kernel_rfl) (Ax_mk rfl rfl ?_)
     refine OpW_call rfl Try.call94 rfl rfl (c_M_1z p2 false false x397 hx398 _ _ ) ?_
     rintro _ _ _ - ⟨rfl, rfl, rfl⟩
     refine ⟨(Inc.cons (.head _) (Inc.cons (.tail _ (.head _)) (Inc.cons (.tail _ (.tail _ (.head _))) Inc.nil))), ?_⟩
     refine Awq 3 rfl (by kernel_rfl) rfl rfl rfl (Qt_move rfl) ?_
     refine Aw.known (d := 66) rfl (h399) ?_
     refine Aw_pass 4 rfl (by kernel_rfl) (by kernel_rfl) (by kernel_rfl) rfl rfl rfl rfl rfl rfl rfl ?_
     refine Aw_pass 5 rfl (by kernel_rfl) (by kernel_rfl) (by kernel_rfl) rfl rfl rfl rfl rfl rfl rfl ?_
     refine Awq 6 rfl (by kernel_rfl) rfl rfl rfl (Qt_pick_f rfl rfl) ?_
     refine Awq 7 rfl (by kernel_rfl) rfl rfl rfl (Qt_assign rfl) ?_
     refine Awq 8 rfl (by kernel_rfl) rfl rfl rfl (Qt_assign rfl) ?_
     refine Aw_done (by kernel_rfl) ?_
     refine Cw_ret ?_
     obtain ⟨ey0, ey1⟩ := inj2 H
     subst y0 y1
     refine ⟨(by first | exact .inl rfl | exact .inr rfl), [(sv vp0), (.bool false)], ⟨(sv vp0), _, rfl, rfl, ⟨(.bool false), _, rfl, rfl, rfl⟩⟩, ?_⟩
     refine Re0 ?_
     refine Re0 ?_
     refine Re0 ?_
     refine Shift.done ?_
     exact ⟨vp0, rfl, rfl, hp0⟩
   ·intro h393
    have H := iff_ (btf h393) H
    refine Cw_join (fun env' K' G' => ∃ (t402 : Bool), [(0, (sv vp0)), (4, (.pointer (some ((⟨b141, 0, none⟩ : Addr).add 0)))), (5, (.pointer (some ((⟨b142, 0, none⟩ : Addr).add 0)))), (8, (.pointer (some ((⟨b156, 0, none⟩ : Addr).add 0)))), (70, (.bool t402))] = env' ∧ K = K' ∧ (.blk b156 71 (Chan.cells x149 v154)) :: (.blk b142 73 (Result.cells p2)) :: (.blk b141 45 (Case.cells p1)) :: G = G' ∧ M_26z p0 x149 p2 p1 t402 = some (y0, y1)) ?_ ?_
    ·skip
     refine Cw_region ?_
     refine Ow_q rfl rfl rfl (Qt_fieldAddr (m := 0) rfl rfl rfl rfl rfl) ?_
     refine Ow_q rfl rfl rfl (Qt_load1 (v := (.int .i64 p2.kind)) rfl rfl rfl (Rdc.blk (.tail _ (.head _)) rfl)) ?_
     refine Ow_q rfl rfl rfl (Qt_cmp rfl rfl rfl) ?_
     refine Ow_q rfl rfl rfl (Qt_move rfl) ?_
     refine Ow_caseG rfl rfl rfl ?_ ?_
     ·intro h403
      have h403 := dcd_t (h403)
      have H := ift h403 H
      refine Ow_qw rfl rfl rfl rfl rfl rfl (Qt_fieldAddr (m := 0) rfl rfl rfl rfl rfl) ?_
      refine Ow_qw rfl rfl rfl rfl rfl rfl (Qt_load1 (v := (.bool p1.send)) rfl rfl rfl (Rdc.blk (.tail _ (.tail _ (.head _))) rfl)) ?_
      refine Ow_qw rfl rfl rfl rfl rfl rfl (Qt_not rfl) ?_
      refine Ow_q rfl rfl rfl (Qt_pick_t rfl rfl) ?_
      refine Ow_q rfl rfl rfl (Qt_move rfl) ?_
      refine Ow_caseG rfl rfl rfl ?_ ?_
      ·intro h404
       have h404 := nt_t (h404)
       have H := iff_ (btf h404) H
       refine Ow_qw rfl rfl rfl rfl rfl rfl (Qt_fieldAddr (m := 3) rfl rfl rfl rfl rfl) ?_
       refine Ow_qw rfl rfl rfl rfl rfl rfl (Qt_load1 (v := (.bool p2.ok)) rfl rfl rfl (Rdc.blk (.tail _ (.head _)) rfl)) ?_
       refine Ow_q rfl rfl rfl (Qt_pick_t rfl rfl) ?_
       refine Ow_q rfl rfl rfl (Qt_assign rfl) ?_
       refine Ow_nil ?_
       refine Pu2 ?_
       refine Pu2 ?_
       refine Pu2 ?_
       refine Shift.done ?_
       exact ⟨_, by exact ⟨rfl, rfl, rfl, rfl, rfl, trivial⟩, p2.ok, rfl, rfl, rfl, H⟩
      ·intro h404
       have h404 := nt_f (h404)
       have H := ift h404 H
       refine Ow_pass rfl rfl rfl rfl rfl rfl rfl ?_
       refine Ow_pass rfl rfl rfl rfl rfl rfl rfl ?_
       refine Ow_q rfl rfl rfl (Qt_pick_f rfl rfl) ?_
       refine Ow_q rfl rfl rfl (Qt_assign rfl) ?_
       refine Ow_nil ?_
       refine Pu2 ?_
       refine Pu2 ?_
       refine Pu2 ?_
       refine Shift.done ?_
       exact ⟨_, by exact ⟨rfl, rfl, rfl, rfl, rfl, trivial⟩, false, rfl, rfl, rfl, H⟩
     ·intro h403
      have h403 := dcd_f (h403)
      have H := iff_ h403 H
      refine Ow_pass rfl rfl rfl rfl rfl rfl rfl ?_
      refine Ow_pass rfl rfl rfl rfl rfl rfl rfl ?_
      refine Ow_pass rfl rfl rfl rfl rfl rfl rfl ?_
      refine Ow_q rfl rfl rfl (Qt_pick_f rfl rfl) ?_
      refine Ow_q rfl rfl rfl (Qt_move rfl) ?_
      refine Ow_pass rfl rfl rfl rfl rfl rfl rfl ?_
      refine Ow_pass rfl rfl rfl rfl rfl rfl rfl ?_
      refine Ow_q rfl rfl rfl (Qt_pick_f rfl rfl) ?_
      refine Ow_q rfl rfl rfl (Qt_assign rfl) ?_
      refine Ow_nil ?_
      refine Pu2 ?_
      refine Pu2 ?_
      refine Pu2 ?_
      refine Shift.done ?_
      exact ⟨_, by exact ⟨rfl, rfl, rfl, rfl, rfl, trivial⟩, false, rfl, rfl, rfl, H⟩
    rintro _ _ _ - ⟨t402, rfl, rfl, rfl, H⟩
    unfold M_26z at H
    refine Cw_cond rfl ?_ ?_
    ·intro h405
     have H := ift h405 H
     refine Cw_seq ?_
     refine Cw_join (fun env' K' G' => ∃ (t432 : Bool), [(0, (sv vp0)), (4, (.pointer (some ((⟨b141, 0, none⟩ : Addr).add 0)))), (8, (.pointer (some ((⟨b156, 0, none⟩ : Addr).add 0)))), (100, (.bool t432))] = env' ∧ K = K' ∧ (.blk b156 71 (Chan.cells x149 v154)) :: (.blk b141 45 (Case.cells p1)) :: G = G' ∧ M_81z p0 x149 p1 t432 = some (y0, y1)) ?_ ?_
     ·skip
      obtain ⟨x433, hx434, H⟩ := bnd H
      rcases bool_ct (!(x433)) with hb_ | hb_ <;> revert hb_
      ·intro h435
       have h435 := nt_t (h435)
       have H := iff_ (btf h435) H
       refine Cw_region_any [.blk b156 71 (Chan.cells x149 v154), .blk b142 73 (Result.cells p2), .blk b141 45 (Case.cells p1)] rfl (Inc.cons (.head _) (Inc.cons (.tail _ (.head _)) (Inc.cons (.tail _ (.tail _ (.head _))) Inc.nil))) ?_
       refine Awq 0 rfl (by kernel_rfl) rfl rfl rfl (Qt_loadA (m := 5) (cs := (Result.cells p2)) rfl rfl rfl rfl ⟨rfl, Rdc.blk (.tail _ (.head _)) rfl⟩) ?_
       refine Aw_one 1 (by kernel_rfl) (Ax_mk rfl rfl ?_)
       refine OpW_call rfl Try.call94 rfl rfl (c_M_1z p2 true false x433 hx434 _ _ ) ?_
       rintro _ _ _ - ⟨rfl, rfl, rfl⟩
       refine ⟨(Inc.cons (.head _) (Inc.cons (.tail _ (.head _)) (Inc.cons (.tail _ (.tail _ (.head _))) Inc.nil))), ?_⟩
       refine Awq 2 rfl (by kernel_rfl) rfl rfl rfl (Qt_not rfl) ?_
       refine Awq 3 rfl (by kernel_rfl) rfl rfl rfl (Qt_move rfl) ?_
       refine Aw.known (d := 86) rfl (nt_mt (h435)) ?_
       refine Aw_pass 4 rfl (by kernel_rfl) (by kernel_rfl) (by kernel_rfl) rfl rfl rfl rfl rfl rfl rfl ?_
       refine Aw_pass 5 rfl (by kernel_rfl) (by kernel_rfl) (by kernel_rfl) rfl rfl rfl rfl rfl rfl rfl ?_
       refine Aw_pass 6 rfl (by kernel_rfl) (by kernel_rfl) (by kernel_rfl) rfl rfl rfl rfl rfl rfl rfl ?_
       refine Aw_pass 7 rfl (by kernel_rfl) (by kernel_rfl) (by kernel_rfl) rfl rfl rfl rfl rfl rfl rfl ?_
       refine Awq 8 rfl (by kernel_rfl) rfl rfl rfl (Qt_pick_t rfl rfl) ?_
       refine Awq 9 rfl (by kernel_rfl) rfl rfl rfl (Qt_move rfl) ?_
       refine Aw_pass 10 rfl (by kernel_rfl) (by kernel_rfl) (by kernel_rfl) rfl rfl rfl rfl rfl rfl rfl ?_
       refine Aw_pass 11 rfl (by kernel_rfl) (by kernel_rfl) (by kernel_rfl) rfl rfl rfl rfl rfl rfl rfl ?_
       refine Aw_pass 12 rfl (by kernel_rfl) (by kernel_rfl) (by kernel_rfl) rfl rfl rfl rfl rfl rfl rfl ?_
       refine Aw_pass 13 rfl (by kernel_rfl) (by kernel_rfl) (by kernel_rfl) rfl rfl rfl rfl rfl rfl rfl ?_
       refine Aw_pass 14 rfl (by kernel_rfl) (by kernel_rfl) (by kernel_rfl) rfl rfl rfl rfl rfl rfl rfl ?_
       refine Aw_pass 15 rfl (by kernel_rfl) (by kernel_rfl) (by kernel_rfl) rfl rfl rfl rfl rfl rfl rfl ?_
       refine Aw_pass 16 rfl (by kernel_rfl) (by kernel_rfl) (by kernel_rfl) rfl rfl rfl rfl rfl rfl rfl ?_
       refine Awq 17 rfl (by kernel_rfl) rfl rfl rfl (Qt_pick_t rfl rfl) ?_
       refine Aw_done (by kernel_rfl) ?_
       refine Pu2 ?_
       refine Pu1 ?_
       refine Re2 ?_
       refine Shift.done ?_
       exact ⟨_, by exact ⟨rfl, rfl, rfl, rfl, trivial⟩, true, rfl, rfl, rfl, H⟩
      ·intro h435
       have h435 := nt_f (h435)
       have H := ift h435 H
       rcases bool_ct (dcd ((x149.buffer.length : Int) = 0)) with hb_ | hb_ <;> revert hb_
       ·intro h436
        have h436 := dcd_t (h436)
        have H := ift h436 H
        refine Cw_region_any [.blk b156 71 (Chan.cells x149 v154), .blk b142 73 (Result.cells p2), .blk b141 45 (Case.cells p1)] rfl (Inc.cons (.head _) (Inc.cons (.tail _ (.head _)) (Inc.cons (.tail _ (.tail _ (.head _))) Inc.nil))) ?_
        refine Awq 0 rfl (by kernel_rfl) rfl rfl rfl (Qt_loadA (m := 5) (cs := (Result.cells p2)) rfl rfl rfl rfl ⟨rfl, Rdc.blk (.tail _ (.head _)) rfl⟩) ?_
        refine Aw_one 1 (by kernel_rfl) (Ax_mk rfl rfl ?_)
        refine OpW_call rfl Try.call94 rfl rfl (c_M_1z p2 true false x433 hx434 _ _ ) ?_
        rintro _ _ _ - ⟨rfl, rfl, rfl⟩
        refine ⟨(Inc.cons (.head _) (Inc.cons (.tail _ (.head _)) (Inc.cons (.tail _ (.tail _ (.head _))) Inc.nil))), ?_⟩
        refine Awq 2 rfl (by kernel_rfl) rfl rfl rfl (Qt_not rfl) ?_
        refine Awq 3 rfl (by kernel_rfl) rfl rfl rfl (Qt_move rfl) ?_
        refine Aw.known (d := 86) rfl (nt_mf (h435)) ?_
        refine Aw_qw 4 rfl (by kernel_rfl) (by kernel_rfl) (by kernel_rfl) rfl rfl rfl rfl rfl rfl (Qt_fieldAddr (m := 1) rfl rfl rfl rfl rfl) ?_
        refine Aw_qw 5 rfl (by kernel_rfl) (by kernel_rfl) (by kernel_rfl) rfl rfl rfl rfl rfl rfl (Qt_load1 (v := (sv v154)) rfl rfl rfl (Rdc.blk (.head _) rfl)) ?_
        refine Aw_qw 6 rfl (by kernel_rfl) (by kernel_rfl) (by kernel_rfl) rfl rfl rfl rfl rfl rfl (Q_len (T := Ty.u64) hs155 rfl rfl) ?_
        refine Aw_qw 7 rfl (by kernel_rfl) (by kernel_rfl) (by kernel_rfl) rfl rfl rfl rfl rfl rfl (Qt_cmp rfl rfl rfl) ?_
        refine Awq 8 rfl (by kernel_rfl) rfl rfl rfl (Qt_pick_f rfl rfl) ?_
        refine Awq 9 rfl (by kernel_rfl) rfl rfl rfl (Qt_move rfl) ?_
        refine Aw.known (d := 92) rfl (dcd_pos h436) ?_
        refine Aw_pass 10 rfl (by kernel_rfl) (by kernel_rfl) (by kernel_rfl) rfl rfl rfl rfl rfl rfl rfl ?_
        refine Aw_pass 11 rfl (by kernel_rfl) (by kernel_rfl) (by kernel_rfl) rfl rfl rfl rfl rfl rfl rfl ?_
        refine Aw_pass 12 rfl (by kernel_rfl) (by kernel_rfl) (by kernel_rfl) rfl rfl rfl rfl rfl rfl rfl ?_
        refine Aw_pass 13 rfl (by kernel_rfl) (by kernel_rfl) (by kernel_rfl) rfl rfl rfl rfl rfl rfl rfl ?_
        refine Aw_pass 14 rfl (by kernel_rfl) (by kernel_rfl) (by kernel_rfl) rfl rfl rfl rfl rfl rfl rfl ?_
        refine Aw_pass 15 rfl (by kernel_rfl) (by kernel_rfl) (by kernel_rfl) rfl rfl rfl rfl rfl rfl rfl ?_
        refine Aw_pass 16 rfl (by kernel_rfl) (by kernel_rfl) (by kernel_rfl) rfl rfl rfl rfl rfl rfl rfl ?_
        refine Awq 17 rfl (by kernel_rfl) rfl rfl rfl (Qt_pick_t rfl rfl) ?_
        refine Aw_done (by kernel_rfl) ?_
        refine Pu2 ?_
        refine Pu1 ?_
        refine Re2 ?_
        refine Shift.done ?_
        exact ⟨_, by exact ⟨rfl, rfl, rfl, rfl, trivial⟩, true, rfl, rfl, rfl, H⟩
       ·intro h436
        have h436 := dcd_f (h436)
        have H := iff_ h436 H
        obtain ⟨x437, hx438, H⟩ := bnd H
        refine Cw_region_any [.blk b156 71 (Chan.cells x149 v154), .blk b142 73 (Result.cells p2), .blk b141 45 (Case.cells p1)] rfl (Inc.cons (.head _) (Inc.cons (.tail _ (.head _)) (Inc.cons (.tail _ (.tail _ (.head _))) Inc.nil))) ?_
        refine Awq 0 rfl (by kernel_rfl) rfl rfl rfl (Qt_loadA (m := 5) (cs := (Result.cells p2)) rfl rfl rfl rfl ⟨rfl, Rdc.blk (.tail _ (.head _)) rfl⟩) ?_
        refine Aw_one 1 (by kernel_rfl) (Ax_mk rfl rfl ?_)
        refine OpW_call rfl Try.call94 rfl rfl (c_M_1z p2 true false x433 hx434 _ _ ) ?_
        rintro _ _ _ - ⟨rfl, rfl, rfl⟩
        refine ⟨(Inc.cons (.head _) (Inc.cons (.tail _ (.head _)) (Inc.cons (.tail _ (.tail _ (.head _))) Inc.nil))), ?_⟩
        refine Awq 2 rfl (by kernel_rfl) rfl rfl rfl (Qt_not rfl) ?_
        refine Awq 3 rfl (by kernel_rfl) rfl rfl rfl (Qt_move rfl) ?_
        refine Aw.known (d := 86) rfl (nt_mf (h435)) ?_
        refine Aw_qw 4 rfl (by kernel_rfl) (by kernel_rfl) (by kernel_rfl) rfl rfl rfl rfl rfl rfl (Qt_fieldAddr (m := 1) rfl rfl rfl rfl rfl) ?_
        refine Aw_qw 5 rfl (by kernel_rfl) (by kernel_rfl) (by kernel_rfl) rfl rfl rfl rfl rfl rfl (Qt_load1 (v := (sv v154)) rfl rfl rfl (Rdc.blk (.head _) rfl)) ?_
        refine Aw_qw 6 rfl (by kernel_rfl) (by kernel_rfl) (by kernel_rfl) rfl rfl rfl rfl rfl rfl (Q_len (T := Ty.u64) hs155 rfl rfl) ?_
        refine Aw_qw 7 rfl (by kernel_rfl) (by kernel_rfl) (by kernel_rfl) rfl rfl rfl rfl rfl rfl (Qt_cmp rfl rfl rfl) ?_
        refine Awq 8 rfl (by kernel_rfl) rfl rfl rfl (Qt_pick_f rfl rfl) ?_
        refine Awq 9 rfl (by kernel_rfl) rfl rfl rfl (Qt_move rfl) ?_
        refine Aw.known (d := 92) rfl (dcd_neg h436) ?_
        refine Aw_qw 10 rfl (by kernel_rfl) (by kernel_rfl) (by kernel_rfl) rfl rfl rfl rfl rfl rfl (Qt_fieldAddr (m := 1) rfl rfl rfl rfl rfl) ?_
        refine Aw_qw 11 rfl (by kernel_rfl) (by kernel_rfl) (by kernel_rfl) rfl rfl rfl rfl rfl rfl (Qt_load1 (v := (sv v154)) rfl rfl rfl (Rdc.blk (.head _) rfl)) ?_
        obtain ⟨r442, hr443, hk444⟩ := Slr.at hs155 hx438
        obtain rfl := hr443
        refine Aw_qw 12 rfl (by kernel_rfl) (by kernel_rfl) (by kernel_rfl) rfl rfl rfl rfl rfl rfl (Q_ix (T := Ty.u64) hs155 hx438 rfl rfl rfl rfl rfl) ?_
        refine Aw_qw 13 rfl (by kernel_rfl) (by kernel_rfl) (by kernel_rfl) rfl rfl rfl rfl rfl rfl (Qt_load1 (v := (.int .u64 x437)) rfl rfl rfl (Rdc.k hk444 rfl)) ?_
        refine Aw_qw 14 rfl (by kernel_rfl) (by kernel_rfl) (by kernel_rfl) rfl rfl rfl rfl rfl rfl (Qt_fieldAddr (m := 2) rfl rfl rfl rfl rfl) ?_
        refine Aw_qw 15 rfl (by kernel_rfl) (by kernel_rfl) (by kernel_rfl) rfl rfl rfl rfl rfl rfl (Qt_load1 (v := (.int .u64 p2.value)) rfl rfl rfl (Rdc.blk (.tail _ (.head _)) rfl)) ?_
        refine Aw_qw 16 rfl (by kernel_rfl) (by kernel_rfl) (by kernel_rfl) rfl rfl rfl rfl rfl rfl (Qt_cmp rfl rfl rfl) ?_
        refine Awq 17 rfl (by kernel_rfl) rfl rfl rfl (Qt_pick_f rfl rfl) ?_
        refine Aw_done (by kernel_rfl) ?_
        refine Pu2 ?_
        refine Pu1 ?_
        refine Re2 ?_
        refine Shift.done ?_
        exact ⟨_, by exact ⟨rfl, rfl, rfl, rfl, trivial⟩, (!(dcd (x437 = p2.value))), rfl, rfl, rfl, H⟩
     rintro _ _ _ - ⟨t432, rfl, rfl, rfl, H⟩
     unfold M_81z at H
     refine Cw_cond rfl ?_ ?_
     ·intro h445
      have H := ift h445 H
      refine Cw_seq ?_
      refine Cw_region ?_
      refine Ow_q rfl rfl rfl (Qt_assign rfl) ?_
      refine Ow_q rfl rfl rfl (Qt_assign rfl) ?_
      refine Ow_nil ?_
      refine Cw_ret ?_
      obtain ⟨ey0, ey1⟩ := inj2 H
      subst y0 y1
      refine ⟨(by first | exact .inl rfl | exact .inr rfl), [(sv nilS), (.bool false)], ⟨(sv nilS), _, rfl, rfl, ⟨(.bool false), _, rfl, rfl, rfl⟩⟩, ?_⟩
      refine Re0 ?_
      refine Re0 ?_
      refine Shift.done ?_
      exact ⟨nilS, rfl, rfl, (Slr.nil TyChan _)⟩
     ·intro h445
      have H := iff_ (btf h445) H
      refine Cw_skip ?_
      refine Cw_seq ?_
      refine Cw_region ?_
      refine Ow_q rfl rfl rfl (Qt_fieldAddr (m := 1) rfl rfl rfl rfl rfl) ?_
      refine Ow_q rfl rfl rfl (Qt_load1 (v := (sv v154)) rfl rfl rfl (Rdc.blk (.head _) rfl)) ?_
      obtain ⟨x446, hx447, H⟩ := bnd H
      have hs448 := Slr.cutL hs155 hx447
      refine Ow_q rfl rfl rfl (Q_cutL (T := Ty.u64) hs155 hx447 rfl rfl rfl rfl rfl) ?_
      refine Ow_q rfl rfl rfl (Qt_fieldAddr (m := 1) rfl rfl rfl rfl rfl) ?_
      refine Ow_cons rfl (OpW_store (vs := [(sv (cutS v154 1 ((1 : Int).toNat) x149.buffer.length))]) (all' := (Chan.cells (Chan.mk x149.capacity x446 x149.closed) (cutS v154 1 ((1 : Int).toNat) x149.buffer.length))) rfl rfl rfl rfl rfl .here rfl rfl rfl ?_)
      refine Ow_nil ?_
      refine Cw_seq ?_
      refine Cw_region ?_
      refine Ow_q rfl rfl rfl (Qt_move rfl) ?_
      refine Ow_q rfl rfl rfl (Qt_fieldAddr (m := 1) rfl rfl rfl rfl rfl) ?_
      refine Ow_q rfl rfl rfl (Qt_load1 (v := (.int .i64 p1.channel)) rfl rfl rfl (Rdc.blk (.tail _ (.head _)) rfl)) ?_
      refine Ow_q rfl rfl rfl (Qt_loadA (m := 3) (cs := (Chan.cells (Chan.mk x149.capacity x446 x149.closed) (cutS v154 1 ((1 : Int).toNat) x149.buffer.length))) rfl rfl rfl rfl ⟨rfl, Rdc.blk (.head _) rfl⟩) ?_
      obtain ⟨x449, hx450, H⟩ := bnd H
      refine Ow_cons rfl (OpW_call rfl Try.call95 rfl rfl (c_M_42z p0 vp0 p1.channel (Chan.mk x149.capacity x446 x149.closed) (cutS v154 1 ((1 : Int).toNat) x149.buffer.length) x449 hx450 _ _ hp0 hs448) ?_)
      rintro _ _ _ - ⟨v451, rs452, rfl, rfl, rfl, hs453⟩
      refine Ow_q rfl rfl rfl (Qt_assign rfl) ?_
      refine Ow_q rfl rfl rfl (Qt_assign rfl) ?_
      refine Ow_nil ?_
      refine Cw_ret ?_
      obtain ⟨ey0, ey1⟩ := inj2 H
      subst y0 y1
      refine ⟨(by first | exact .inl rfl | exact .inr rfl), [(sv v451), (.bool true)], ⟨(sv v451), _, rfl, rfl, ⟨(.bool true), _, rfl, rfl, rfl⟩⟩, ?_⟩
      refine Shift.settle (T := TyChan) .here hs453 rfl ?_
      intro K454 hK455 hs456
      refine Re0 ?_
      refine Re0 ?_
      refine Re0 ?_
      refine Shift.done ?_
      exact ⟨v451, rfl, rfl, hs456⟩
    ·intro h405
     have H := iff_ (btf h405) H
     refine Cw_join (fun env' K' G' => ∃ (t458 : Bool), [(0, (sv vp0)), (5, (.pointer (some ((⟨b142, 0, none⟩ : Addr).add 0)))), (8, (.pointer (some ((⟨b156, 0, none⟩ : Addr).add 0)))), (110, (.bool t458))] = env' ∧ K = K' ∧ (.blk b156 71 (Chan.cells x149 v154)) :: (.blk b142 73 (Result.cells p2)) :: G = G' ∧ M_44z p0 x149 p2 t458 = some (y0, y1)) ?_ ?_
     ·skip
      refine Cw_region ?_
      refine Ow_q rfl rfl rfl (Qt_fieldAddr (m := 0) rfl rfl rfl rfl rfl) ?_
      refine Ow_q rfl rfl rfl (Qt_load1 (v := (.int .i64 p2.kind)) rfl rfl rfl (Rdc.blk (.tail _ (.head _)) rfl)) ?_
      refine Ow_q rfl rfl rfl (Qt_cmp rfl rfl rfl) ?_
      refine Ow_q rfl rfl rfl (Qt_move rfl) ?_
      refine Ow_caseG rfl rfl rfl ?_ ?_
      ·intro h459
       have h459 := dcd_t (h459)
       have H := ift h459 H
       refine Ow_qw rfl rfl rfl rfl rfl rfl (Qt_fieldAddr (m := 0) rfl rfl rfl rfl rfl) ?_
       refine Ow_qw rfl rfl rfl rfl rfl rfl (Qt_load1 (v := (.bool p1.send)) rfl rfl rfl (Rdc.blk (.tail _ (.tail _ (.head _))) rfl)) ?_
       refine Ow_qw rfl rfl rfl rfl rfl rfl (Qt_not rfl) ?_
       refine Ow_q rfl rfl rfl (Qt_pick_t rfl rfl) ?_
       refine Ow_q rfl rfl rfl (Qt_assign rfl) ?_
       refine Ow_nil ?_
       refine Pu1 ?_
       refine Pu1 ?_
       refine Re2 ?_
       refine Shift.done ?_
       exact ⟨_, by exact ⟨rfl, rfl, rfl, rfl, trivial⟩, (!(p1.send)), rfl, rfl, rfl, H⟩
      ·intro h459
       have h459 := dcd_f (h459)
       have H := iff_ h459 H
       refine Ow_pass rfl rfl rfl rfl rfl rfl rfl ?_
       refine Ow_pass rfl rfl rfl rfl rfl rfl rfl ?_
       refine Ow_pass rfl rfl rfl rfl rfl rfl rfl ?_
       refine Ow_q rfl rfl rfl (Qt_pick_f rfl rfl) ?_
       refine Ow_q rfl rfl rfl (Qt_assign rfl) ?_
       refine Ow_nil ?_
       refine Pu1 ?_
       refine Pu1 ?_
       refine Re2 ?_
       refine Shift.done ?_
       exact ⟨_, by exact ⟨rfl, rfl, rfl, rfl, trivial⟩, false, rfl, rfl, rfl, H⟩
     rintro _ _ _ - ⟨t458, rfl, rfl, rfl, H⟩
     unfold M_44z at H
     refine Cw_cond rfl ?_ ?_
     ·intro h460
      have H := ift h460 H
      refine Cw_join (fun env' K' G' => ∃ (t466 : Bool), [(6, (sv vp0)), (7, (.bool t466))] = env' ∧ K = K' ∧ G = G' ∧ M_43z p0 t466 = some (y0, y1)) ?_ ?_
      ·skip
       obtain ⟨x467, hx468, H⟩ := bnd H
       rcases bool_ct x467 with hb_ | hb_ <;> revert hb_
       ·intro h469
        have H := ift h469 H
        rcases bool_ct (dcd (p2.value = 0)) with hb_ | hb_ <;> revert hb_
        ·intro h470
         have h470 := dcd_t (h470)
         have H := ift h470 H
         rcases bool_ct x149.closed with hb_ | hb_ <;> revert hb_
         ·intro h471
          have H := ift h471 H
          refine Cw_region_any [.blk b156 71 (Chan.cells x149 v154), .blk b142 73 (Result.cells p2)] rfl (Inc.cons (.head _) (Inc.cons (.tail _ (.head _)) Inc.nil)) ?_
          refine Awq 0 rfl (by kernel_rfl) rfl rfl rfl (Qt_move rfl) ?_
          refine Awq 1 rfl (by kernel_rfl) rfl rfl rfl (Qt_loadA (m := 5) (cs := (Result.cells p2)) rfl rfl rfl rfl ⟨rfl, Rdc.blk (.tail _ (.head _)) rfl⟩) ?_
          refine Aw_one 2 (by kernel_rfl) (Ax_mk rfl rfl ?_)
          refine OpW_call rfl Try.call94 rfl rfl (c_M_1z p2 true false x467 hx468 _ _ ) ?_
          rintro _ _ _ - ⟨rfl, rfl, rfl⟩
          refine ⟨(Inc.cons (.head _) (Inc.cons (.tail _ (.head _)) Inc.nil)), ?_⟩
          refine Awq 3 rfl (by kernel_rfl) rfl rfl rfl (Qt_move rfl) ?_
          refine Aw.known (d := 122) rfl (h469) ?_
          refine Aw_qw 4 rfl (by kernel_rfl) (by kernel_rfl) (by kernel_rfl) rfl rfl rfl rfl rfl rfl (Qt_fieldAddr (m := 2) rfl rfl rfl rfl rfl) ?_
          refine Aw_qw 5 rfl (by kernel_rfl) (by kernel_rfl) (by kernel_rfl) rfl rfl rfl rfl rfl rfl (Qt_load1 (v := (.int .u64 p2.value)) rfl rfl rfl (Rdc.blk (.tail _ (.head _)) rfl)) ?_
          refine Aw_qw 6 rfl (by kernel_rfl) (by kernel_rfl) (by kernel_rfl) rfl rfl rfl rfl rfl rfl (Qt_cmp rfl rfl rfl) ?_
          refine Awq 7 rfl (by kernel_rfl) rfl rfl rfl (Qt_pick_t rfl rfl) ?_
          refine Awq 8 rfl (by kernel_rfl) rfl rfl rfl (Qt_move rfl) ?_
          refine Aw.known (d := 127) rfl (dcd_pos h470) ?_
          refine Aw_qw 9 rfl (by kernel_rfl) (by kernel_rfl) (by kernel_rfl) rfl rfl rfl rfl rfl rfl (Qt_fieldAddr (m := 2) rfl rfl rfl rfl rfl) ?_
          refine Aw_qw 10 rfl (by kernel_rfl) (by kernel_rfl) (by kernel_rfl) rfl rfl rfl rfl rfl rfl (Qt_load1 (v := (.bool x149.closed)) rfl rfl rfl (Rdc.blk (.head _) rfl)) ?_
          refine Awq 11 rfl (by kernel_rfl) rfl rfl rfl (Qt_pick_t rfl rfl) ?_
          refine Awq 12 rfl (by kernel_rfl) rfl rfl rfl (Qt_move rfl) ?_
          refine Aw.known (d := 131) rfl (h471) ?_
          refine Aw_qw 13 rfl (by kernel_rfl) (by kernel_rfl) (by kernel_rfl) rfl rfl rfl rfl rfl rfl (Qt_fieldAddr (m := 1) rfl rfl rfl rfl rfl) ?_
          refine Aw_qw 14 rfl (by kernel_rfl) (by kernel_rfl) (by kernel_rfl) rfl rfl rfl rfl rfl rfl (Qt_load1 (v := (sv v154)) rfl rfl rfl (Rdc.blk (.head _) rfl)) ?_
          refine Aw_qw 15 rfl (by kernel_rfl) (by kernel_rfl) (by kernel_rfl) rfl rfl rfl rfl rfl rfl (Q_len (T := Ty.u64) hs155 rfl rfl) ?_
          refine Aw_qw 16 rfl (by kernel_rfl) (by kernel_rfl) (by kernel_rfl) rfl rfl rfl rfl rfl rfl (Qt_cmp rfl rfl rfl) ?_
          refine Awq 17 rfl (by kernel_rfl) rfl rfl rfl (Qt_pick_t rfl rfl) ?_
          refine Awq 18 rfl (by kernel_rfl) rfl rfl rfl (Qt_assign rfl) ?_
          refine Awq 19 rfl (by kernel_rfl) rfl rfl rfl (Qt_assign rfl) ?_
          refine Aw_done (by kernel_rfl) ?_
          refine Re0 ?_
          refine Re0 ?_
          refine Shift.done ?_
          exact ⟨_, by exact ⟨rfl, rfl, trivial⟩, (dcd ((x149.buffer.length : Int) = 0)), rfl, rfl, rfl, H⟩
         ·intro h471
          have H := iff_ (btf h471) H
          refine Cw_region_any [.blk b156 71 (Chan.cells x149 v154), .blk b142 73 (Result.cells p2)] rfl (Inc.cons (.head _) (Inc.cons (.tail _ (.head _)) Inc.nil)) ?_
          refine Awq 0 rfl (by kernel_rfl) rfl rfl rfl (Qt_move rfl) ?_
          refine Awq 1 rfl (by kernel_rfl) rfl rfl rfl (Qt_loadA (m := 5) (cs := (Result.cells p2)) rfl rfl rfl rfl ⟨rfl, Rdc.blk (.tail _ (.head _)) rfl⟩) ?_
          refine Aw_one 2 (by kernel_rfl) (Ax_mk rfl rfl ?_)
          refine OpW_call rfl Try.call94 rfl rfl (c_M_1z p2 true false x467 hx468 _ _ ) ?_
          rintro _ _ _ - ⟨rfl, rfl, rfl⟩
          refine ⟨(Inc.cons (.head _) (Inc.cons (.tail _ (.head _)) Inc.nil)), ?_⟩
          refine Awq 3 rfl (by kernel_rfl) rfl rfl rfl (Qt_move rfl) ?_
          refine Aw.known (d := 122) rfl (h469) ?_
          refine Aw_qw 4 rfl (by kernel_rfl) (by kernel_rfl) (by kernel_rfl) rfl rfl rfl rfl rfl rfl (Qt_fieldAddr (m := 2) rfl rfl rfl rfl rfl) ?_
          refine Aw_qw 5 rfl (by kernel_rfl) (by kernel_rfl) (by kernel_rfl) rfl rfl rfl rfl rfl rfl (Qt_load1 (v := (.int .u64 p2.value)) rfl rfl rfl (Rdc.blk (.tail _ (.head _)) rfl)) ?_
          refine Aw_qw 6 rfl (by kernel_rfl) (by kernel_rfl) (by kernel_rfl) rfl rfl rfl rfl rfl rfl (Qt_cmp rfl rfl rfl) ?_
          refine Awq 7 rfl (by kernel_rfl) rfl rfl rfl (Qt_pick_t rfl rfl) ?_
          refine Awq 8 rfl (by kernel_rfl) rfl rfl rfl (Qt_move rfl) ?_
          refine Aw.known (d := 127) rfl (dcd_pos h470) ?_
          refine Aw_qw 9 rfl (by kernel_rfl) (by kernel_rfl) (by kernel_rfl) rfl rfl rfl rfl rfl rfl (Qt_fieldAddr (m := 2) rfl rfl rfl rfl rfl) ?_
          refine Aw_qw 10 rfl (by kernel_rfl) (by kernel_rfl) (by kernel_rfl) rfl rfl rfl rfl rfl rfl (Qt_load1 (v := (.bool x149.closed)) rfl rfl rfl (Rdc.blk (.head _) rfl)) ?_
          refine Awq 11 rfl (by kernel_rfl) rfl rfl rfl (Qt_pick_t rfl rfl) ?_
          refine Awq 12 rfl (by kernel_rfl) rfl rfl rfl (Qt_move rfl) ?_
          refine Aw.known (d := 131) rfl (h471) ?_
          refine Aw_pass 13 rfl (by kernel_rfl) (by kernel_rfl) (by kernel_rfl) rfl rfl rfl rfl rfl rfl rfl ?_
          refine Aw_pass 14 rfl (by kernel_rfl) (by kernel_rfl) (by kernel_rfl) rfl rfl rfl rfl rfl rfl rfl ?_
          refine Aw_pass 15 rfl (by kernel_rfl) (by kernel_rfl) (by kernel_rfl) rfl rfl rfl rfl rfl rfl rfl ?_
          refine Aw_pass 16 rfl (by kernel_rfl) (by kernel_rfl) (by kernel_rfl) rfl rfl rfl rfl rfl rfl rfl ?_
          refine Awq 17 rfl (by kernel_rfl) rfl rfl rfl (Qt_pick_f rfl rfl) ?_
          refine Awq 18 rfl (by kernel_rfl) rfl rfl rfl (Qt_assign rfl) ?_
          refine Awq 19 rfl (by kernel_rfl) rfl rfl rfl (Qt_assign rfl) ?_
          refine Aw_done (by kernel_rfl) ?_
          refine Re0 ?_
          refine Re0 ?_
          refine Shift.done ?_
          exact ⟨_, by exact ⟨rfl, rfl, trivial⟩, false, rfl, rfl, rfl, H⟩
        ·intro h470
         have h470 := dcd_f (h470)
         have H := iff_ h470 H
         refine Cw_region_any [.blk b156 71 (Chan.cells x149 v154), .blk b142 73 (Result.cells p2)] rfl (Inc.cons (.head _) (Inc.cons (.tail _ (.head _)) Inc.nil)) ?_
         refine Awq 0 rfl (by kernel_rfl) rfl rfl rfl (Qt_move rfl) ?_
         refine Awq 1 rfl (by kernel_rfl) rfl rfl rfl (Qt_loadA (m := 5) (cs := (Result.cells p2)) rfl rfl rfl rfl ⟨rfl, Rdc.blk (.tail _ (.head _)) rfl⟩) ?_
         refine Aw_one 2 (by kernel_rfl) (Ax_mk rfl rfl ?_)
         refine OpW_call rfl Try.call94 rfl rfl (c_M_1z p2 true false x467 hx468 _ _ ) ?_
         rintro _ _ _ - ⟨rfl, rfl, rfl⟩
         refine ⟨(Inc.cons (.head _) (Inc.cons (.tail _ (.head _)) Inc.nil)), ?_⟩
         refine Awq 3 rfl (by kernel_rfl) rfl rfl rfl (Qt_move rfl) ?_
         refine Aw.known (d := 122) rfl (h469) ?_
         refine Aw_qw 4 rfl (by kernel_rfl) (by kernel_rfl) (by kernel_rfl) rfl rfl rfl rfl rfl rfl (Qt_fieldAddr (m := 2) rfl rfl rfl rfl rfl) ?_
         refine Aw_qw 5 rfl (by kernel_rfl) (by kernel_rfl) (by kernel_rfl) rfl rfl rfl rfl rfl rfl (Qt_load1 (v := (.int .u64 p2.value)) rfl rfl rfl (Rdc.blk (.tail _ (.head _)) rfl)) ?_
         refine Aw_qw 6 rfl (by kernel_rfl) (by kernel_rfl) (by kernel_rfl) rfl rfl rfl rfl rfl rfl (Qt_cmp rfl rfl rfl) ?_
         refine Awq 7 rfl (by kernel_rfl) rfl rfl rfl (Qt_pick_t rfl rfl) ?_
         refine Awq 8 rfl (by kernel_rfl) rfl rfl rfl (Qt_move rfl) ?_
         refine Aw.known (d := 127) rfl (dcd_neg h470) ?_
         refine Aw_pass 9 rfl (by kernel_rfl) (by kernel_rfl) (by kernel_rfl) rfl rfl rfl rfl rfl rfl rfl ?_
         refine Aw_pass 10 rfl (by kernel_rfl) (by kernel_rfl) (by kernel_rfl) rfl rfl rfl rfl rfl rfl rfl ?_
         refine Awq 11 rfl (by kernel_rfl) rfl rfl rfl (Qt_pick_f rfl rfl) ?_
         refine Awq 12 rfl (by kernel_rfl) rfl rfl rfl (Qt_move rfl) ?_
         refine Aw_pass 13 rfl (by kernel_rfl) (by kernel_rfl) (by kernel_rfl) rfl rfl rfl rfl rfl rfl rfl ?_
         refine Aw_pass 14 rfl (by kernel_rfl) (by kernel_rfl) (by kernel_rfl) rfl rfl rfl rfl rfl rfl rfl ?_
         refine Aw_pass 15 rfl (by kernel_rfl) (by kernel_rfl) (by kernel_rfl) rfl rfl rfl rfl rfl rfl rfl ?_
         refine Aw_pass 16 rfl (by kernel_rfl) (by kernel_rfl) (by kernel_rfl) rfl rfl rfl rfl rfl rfl rfl ?_
         refine Awq 17 rfl (by kernel_rfl) rfl rfl rfl (Qt_pick_f rfl rfl) ?_
         refine Awq 18 rfl (by kernel_rfl) rfl rfl rfl (Qt_assign rfl) ?_
         refine Awq 19 rfl (by kernel_rfl) rfl rfl rfl (Qt_assign rfl) ?_
         refine Aw_done (by kernel_rfl) ?_
         refine Re0 ?_
         refine Re0 ?_
         refine Shift.done ?_
         exact ⟨_, by exact ⟨rfl, rfl, trivial⟩, false, rfl, rfl, rfl, H⟩
       ·intro h469
        have H := iff_ (btf h469) H
        refine Cw_region_any [.blk b156 71 (Chan.cells x149 v154), .blk b142 73 (Result.cells p2)] rfl (Inc.cons (.head _) (Inc.cons (.tail _ (.head _)) Inc.nil)) ?_
        refine Awq 0 rfl (by kernel_rfl) rfl rfl rfl (Qt_move rfl) ?_
        refine Awq 1 rfl (by kernel_rfl) rfl rfl rfl (Qt_loadA (m := 5) (cs := (Result.cells p2)) rfl rfl rfl rfl ⟨rfl, Rdc.blk (.tail _ (.head _)) rfl⟩) ?_
        refine Aw_one 2 (by kernel_rfl) (Ax_mk rfl rfl ?_)
        refine OpW_call rfl Try.call94 rfl rfl (c_M_1z p2 true false x467 hx468 _ _ ) ?_
        rintro _ _ _ - ⟨rfl, rfl, rfl⟩
        refine ⟨(Inc.cons (.head _) (Inc.cons (.tail _ (.head _)) Inc.nil)), ?_⟩
        refine Awq 3 rfl (by kernel_rfl) rfl rfl rfl (Qt_move rfl) ?_
        refine Aw.known (d := 122) rfl (h469) ?_
        refine Aw_pass 4 rfl (by kernel_rfl) (by kernel_rfl) (by kernel_rfl) rfl rfl rfl rfl rfl rfl rfl ?_
        refine Aw_pass 5 rfl (by kernel_rfl) (by kernel_rfl) (by kernel_rfl) rfl rfl rfl rfl rfl rfl rfl ?_
        refine Aw_pass 6 rfl (by kernel_rfl) (by kernel_rfl) (by kernel_rfl) rfl rfl rfl rfl rfl rfl rfl ?_
        refine Awq 7 rfl (by kernel_rfl) rfl rfl rfl (Qt_pick_f rfl rfl) ?_
        refine Awq 8 rfl (by kernel_rfl) rfl rfl rfl (Qt_move rfl) ?_
        refine Aw_pass 9 rfl (by kernel_rfl) (by kernel_rfl) (by kernel_rfl) rfl rfl rfl rfl rfl rfl rfl ?_
        refine Aw_pass 10 rfl (by kernel_rfl) (by kernel_rfl) (by kernel_rfl) rfl rfl rfl rfl rfl rfl rfl ?_
        refine Awq 11 rfl (by kernel_rfl) rfl rfl rfl (Qt_pick_f rfl rfl) ?_
        refine Awq 12 rfl (by kernel_rfl) rfl rfl rfl (Qt_move rfl) ?_
        refine Aw_pass 13 rfl (by kernel_rfl) (by kernel_rfl) (by kernel_rfl) rfl rfl rfl rfl rfl rfl rfl ?_
        refine Aw_pass 14 rfl (by kernel_rfl) (by kernel_rfl) (by kernel_rfl) rfl rfl rfl rfl rfl rfl rfl ?_
        refine Aw_pass 15 rfl (by kernel_rfl) (by kernel_rfl) (by kernel_rfl) rfl rfl rfl rfl rfl rfl rfl ?_
        refine Aw_pass 16 rfl (by kernel_rfl) (by kernel_rfl) (by kernel_rfl) rfl rfl rfl rfl rfl rfl rfl ?_
        refine Awq 17 rfl (by kernel_rfl) rfl rfl rfl (Qt_pick_f rfl rfl) ?_
        refine Awq 18 rfl (by kernel_rfl) rfl rfl rfl (Qt_assign rfl) ?_
        refine Awq 19 rfl (by kernel_rfl) rfl rfl rfl (Qt_assign rfl) ?_
        refine Aw_done (by kernel_rfl) ?_
        refine Re0 ?_
        refine Re0 ?_
        refine Shift.done ?_
        exact ⟨_, by exact ⟨rfl, rfl, trivial⟩, false, rfl, rfl, rfl, H⟩
      rintro _ _ _ - ⟨t466, rfl, rfl, rfl, H⟩
      unfold M_43z at H
      refine Cw_ret ?_
      obtain ⟨ey0, ey1⟩ := inj2 H
      subst y0 y1
      refine ⟨(by first | exact .inl rfl | exact .inr rfl), [(sv vp0), (.bool t466)], ⟨(sv vp0), _, rfl, rfl, ⟨(.bool t466), _, rfl, rfl, rfl⟩⟩, ?_⟩
      refine Shift.done ?_
      exact ⟨vp0, rfl, rfl, hp0⟩
     ·intro h460
      have H := iff_ (btf h460) H
      refine Cw_skip ?_
      refine Cw_seq ?_
      refine Cw_region ?_
      refine Ow_q rfl rfl rfl (Qt_assign rfl) ?_
      refine Ow_q rfl rfl rfl (Qt_assign rfl) ?_
      refine Ow_nil ?_
      refine Cw_ret ?_
      obtain ⟨ey0, ey1⟩ := inj2 H
      subst y0 y1
      refine ⟨(by first | exact .inl rfl | exact .inr rfl), [(sv nilS), (.bool false)], ⟨(sv nilS), _, rfl, rfl, ⟨(.bool false), _, rfl, rfl, rfl⟩⟩, ?_⟩
      refine Re0 ?_
      refine Re0 ?_
      refine Shift.done ?_
      exact ⟨nilS, rfl, rfl, (Slr.nil TyChan _)⟩

set_option maxHeartbeats 1000000 in
theorem c_M_134z (p0 : List Chan) (vp0 : SV) (p1 : Op) (vp1_cases : SV) (vp1_draws : SV) (y0 : Bool) (H : M_134z p0 p1 = some y0) (K : Kp) (G : List Ent) (hp0 : Slr TyChan K (sv vp0) p0) (hp1_cases : Slr TyCase K (sv vp1_cases) p1.cases) (hp1_draws : Slr Ty.i64 K (sv vp1_draws) p1.draws) :
  Fc Try.prog 96 #[(sv vp0), (.agg (Op.cells p1 vp1_cases vp1_draws).toArray)] K (G) (fun v K' G' => v = (.bool y0) ∧ G = G') := by
 refine Fc_body Try.func96 rfl Try.ntmps96 Try.results96 rfl ?_
 unfold M_134z at H
 refine Cw_seq ?_
 refine Cw_region ?_
 refine Ow_cons rfl (OpW_box (cs := (Op.cells p1 vp1_cases vp1_draws)) rfl rfl rfl (fun b38 => ?_))
 refine Ow_q rfl rfl rfl (Qt_assign rfl) ?_
 refine Ow_nil ?_
 refine Cw_seq ?_
 refine Cw_region ?_
 refine Ow_q rfl rfl rfl (Qt_loadA (m := 7) (cs := (Op.cells p1 vp1_cases vp1_draws)) rfl rfl rfl rfl ⟨rfl, Rdc.blk (.head _) rfl⟩) ?_
 obtain ⟨x39, hx40, H⟩ := bnd H
 refine Ow_cons rfl (OpW_call rfl Try.call63 rfl rfl (c_M_2z p1 vp1_cases vp1_draws x39 hx40 _ _ hp1_cases hp1_draws) ?_)
 rintro _ K42 _ hK43 ⟨v41, rfl, rfl, hs44⟩
 refine Ow_q rfl rfl rfl (Qt_assign rfl) ?_
 refine Ow_nil ?_
 refine Cw_join (fun env' K' G' => [] = env' ∧ G = G' ∧ M_185z = some y0) ?_ ?_
 ·skip
  refine Cw_seq ?_
  refine Cw_region ?_
  refine Ow_q rfl rfl rfl (Qt_assign rfl) ?_
  refine Ow_nil ?_
  refine Cw_block ?_
  refine Cw_loopM (fun n101 env' K' G' => ∃ (i100 : Int), [(0, (sv vp0)), (5, (sv v41)), (6, (.int .i64 i100))] = env' ∧ K42 = K' ∧ G = G' ∧ lp1 (M_186z p0 x39) n101 i100 = some y0) BIG ?_ ?_
  ·skip
   refine Re0 ?_
   refine Shift.done ?_
   exact ⟨_, by exact ⟨rfl, rfl, rfl, trivial⟩, 0, rfl, rfl, rfl, H⟩
  rintro n101 _ _ _ - ⟨i100, rfl, rfl, rfl, H⟩
  obtain ⟨m102, k103, rfl, hkk104, H⟩ := lps1 H
  unfold M_186z at H
  refine Cw_seq ?_
  refine Cw_seq ?_
  refine Cw_region ?_
  refine Ow_q rfl rfl rfl (Qt_move rfl) ?_
  refine Ow_q rfl rfl rfl (Qt_move rfl) ?_
  refine Ow_q rfl rfl rfl (Q_len (T := TyCase) hs44 rfl rfl) ?_
  refine Ow_q rfl rfl rfl (Qt_cmp rfl rfl rfl) ?_
  refine Ow_nil ?_
  refine Cw_cond rfl ?_ ?_
  ·intro h106
   have h106 := dcd_t (h106)
   have H := ift h106 H
   refine Cw_skip ?_
   refine Cw_seq ?_
   refine Cw_block ?_
   refine Cw_seq ?_
   refine Cw_region ?_
   refine Ow_q rfl rfl rfl (Qt_move rfl) ?_
   refine Ow_q rfl rfl rfl (Qt_move rfl) ?_
   refine Ow_q rfl rfl rfl (Qt_move rfl) ?_
   obtain ⟨x116, hx117, H⟩ := bnd H
   obtain ⟨r118, hr119, hk120⟩ := Slr.at hs44 hx117
   obtain rfl := hr119
   refine Ow_q rfl rfl rfl (Q_ix (T := TyCase) hs44 hx117 rfl rfl rfl rfl rfl) ?_
   refine Ow_q rfl rfl rfl (Qt_loadA (m := 3) (cs := (Case.cells x116)) rfl rfl rfl rfl ⟨rfl, Rdc.k hk120 rfl⟩) ?_
   obtain ⟨x121, hx122, H⟩ := bnd H
   have hs123 := (hp0).mono hK43
   refine Ow_cons rfl (OpW_call rfl Try.call41 rfl rfl (c_M_24z p0 vp0 x116 x121 hx122 _ _ hs123) ?_)
   rintro _ _ _ - ⟨rfl, rfl, rfl⟩
   refine Ow_nil ?_
   refine Cw_cond rfl ?_ ?_
   ·intro h124
    have H := ift h124 H
    refine Cw_seq ?_
    refine Cw_region ?_
    refine Ow_q rfl rfl rfl (Qt_assign rfl) ?_
    refine Ow_nil ?_
    refine Cw_ret ?_
    obtain ey0 := inj1 H
    subst y0
    refine ⟨(by first | exact .inl rfl | exact .inr rfl), [(.bool false)], ⟨(.bool false), _, rfl, rfl, rfl⟩, ?_⟩
    refine Shift.done ?_
    exact ⟨rfl, rfl⟩
   ·intro h124
    have H := iff_ (btf h124) H
    refine Cw_skip ?_
    refine Cw_region ?_
    refine Ow_q rfl rfl rfl (Qt_move rfl) ?_
    refine Ow_q rfl rfl rfl (Qt_arith (e := wI (i100 + 1)) rfl rfl rfl rfl) ?_
    refine Ow_q rfl rfl rfl (Qt_assign rfl) ?_
    refine Ow_nil ?_
    refine Shift.done ?_
    exact ⟨_, by exact ⟨rfl, rfl, rfl, trivial⟩, _, Nat.lt_succ_self _, (wI (i100 + 1)), rfl, rfl, rfl, (hkk104 ▸ H)⟩
  ·intro h106
   have h106 := dcd_f (h106)
   have H := iff_ h106 H
   refine Cw_exit ?_
   refine Shift.done ?_
   exact ⟨[], trivial, rfl, rfl, H⟩
 rintro _ K125 _ hK126 ⟨rfl, rfl, H⟩
 unfold M_185z at H
 refine Cw_seq ?_
 refine Cw_region ?_
 refine Ow_q rfl rfl rfl (Qt_assign rfl) ?_
 refine Ow_nil ?_
 refine Cw_ret ?_
 obtain ey0 := inj1 H
 subst y0
 refine ⟨(by first | exact .inl rfl | exact .inr rfl), [(.bool true)], ⟨(.bool true), _, rfl, rfl, rfl⟩, ?_⟩
 refine Shift.done ?_
 exact ⟨rfl, rfl⟩



end Go.Hx
