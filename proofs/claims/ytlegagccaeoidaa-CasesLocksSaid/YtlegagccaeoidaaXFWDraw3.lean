/- Printed by program. -/
import Derived.Test.YtlegagccaeoidaaXFM
import Derived.Test.YtlegagccaeoidaaXFWDraw
namespace Go.Hx
open Go Go.Proofs
set_option linter.unusedSimpArgs false
set_option linter.unusedVariables false
set_option maxRecDepth 10000
set_option maxHeartbeats 1000000 in
theorem c_M_draw_Codes_Wide (bp0 : Nat) (p0 : Draw_Codes) (vp0_list : SV) (y0 : Config) (z0_at_ : Int) (z0_value : Int) (H : M_draw_Codes_Wide p0 = some (y0, z0_at_, z0_value)) (K : Kp) (G : List Ent) (hp0_list : Slr Ty.u8 K (sv vp0_list) p0.list) :
    Fc Try.prog 15 #[(.pointer (some ((⟨bp0, 0, none⟩ : Addr).add 0)))] K ((.blk bp0 60 (Draw_Codes.cells p0 vp0_list)) :: G) (fun v K' G' => ∃ (wy0_capacities : SV) (wy0_starts : SV), v = (.agg (Config.cells y0 wy0_capacities wy0_starts).toArray) ∧ (.blk bp0 60 (Draw_Codes.cells (Draw_Codes.mk p0.list z0_at_ z0_value) vp0_list)) :: (.tok 3 1 [(sv wy0_capacities)]) :: (.tok 22 1 [(sv wy0_starts)]) :: G = G' ∧ Slr Ty.i64 K' (sv wy0_capacities) y0.capacities ∧ Slr Ty.u64 K' (sv wy0_starts) y0.starts) := by
  refine Fc_body Try.func15 rfl Try.ntmps15 Try.results15 rfl ?_
  unfold M_draw_Codes_Wide at H
  refine Cw_seq ?_
  refine Cw_region ?_
  refine Ow_cons rfl (OpW_alloc (cs := (Config.cells (Config.mk [] [] 0) nilS nilS)) rfl rfl rfl rfl (fun b226 => ?_))
  refine Ow_nil ?_
  refine Cw_seq ?_
  refine Cw_region ?_
  refine Ow_cons rfl (OpW_alloc (cs := (Config.cells (Config.mk [] [] 0) nilS nilS)) rfl rfl rfl rfl (fun b227 => ?_))
  refine Ow_nil ?_
  refine Cw_join (fun env' K' G' => ∃ (i437 : Int) (i438 : Int) (v439 : SV) (l440 : List Int) (v442 : SV) (l443 : List Int), [(0, (.pointer (some ((⟨bp0, 0, none⟩ : Addr).add 0)))), (2, (.pointer (some ((⟨b226, 0, none⟩ : Addr).add 0)))), (3, (.pointer (some ((⟨b227, 0, none⟩ : Addr).add 0))))] = env' ∧ (.blk bp0 60 (Draw_Codes.cells (Draw_Codes.mk p0.list i437 i438) vp0_list)) :: (.blk b227 34 (Config.cells (Config.mk l440 l443 0) v439 v442)) :: (.blk b226 34 (Config.cells (Config.mk [] [] 0) nilS nilS)) :: (.tok 3 1 [(sv v439)]) :: (.tok 22 1 [(sv v442)]) :: G = G' ∧ M_draw_Codes_Wide_J1 p0 i437 i438 l440 l443 = some (y0, z0_at_, z0_value) ∧ Slr Ty.i64 K' (sv v439) l440 ∧ Slr Ty.u64 K' (sv v442) l443) ?_ ?_
  · skip
    refine Cw_seq ?_
    refine Cw_region ?_
    refine Ow_q rfl rfl rfl (Qt_assign rfl) ?_
    refine Ow_nil ?_
    refine Cw_block ?_
    refine Cw_loopM (fun n654 env' K' G' => ∃ (i645 : Int) (i646 : Int) (i647 : Int) (v648 : SV) (l649 : List Int) (v651 : SV) (l652 : List Int), [(0, (.pointer (some ((⟨bp0, 0, none⟩ : Addr).add 0)))), (2, (.pointer (some ((⟨b226, 0, none⟩ : Addr).add 0)))), (3, (.pointer (some ((⟨b227, 0, none⟩ : Addr).add 0)))), (4, (.int .i64 i645))] = env' ∧ (.blk bp0 60 (Draw_Codes.cells (Draw_Codes.mk p0.list i646 i647) vp0_list)) :: (.blk b227 34 (Config.cells (Config.mk l649 l652 0) v648 v651)) :: (.blk b226 34 (Config.cells (Config.mk [] [] 0) nilS nilS)) :: (.tok 3 1 [(sv v648)]) :: (.tok 22 1 [(sv v651)]) :: G = G' ∧ lp5 (M_draw_Codes_Wide_L1 p0) n654 i645 i646 i647 l649 l652 = some (y0, z0_at_, z0_value) ∧ Slr Ty.i64 K' (sv v648) l649 ∧ Slr Ty.u64 K' (sv v651) l652) BIG ?_ ?_
    · skip
      refine Shift.nilTok1 3 1 ?_
      refine Shift.nilTok1 22 1 ?_
      refine Shift.pull (.there .here) ?_
      refine Shift.pull (.there (.there (.there .here))) ?_
      refine Shift.pull (.there (.there (.there .here))) ?_
      refine Shift.pull (.there (.there (.there (.there .here)))) ?_
      refine Shift.done ?_
      exact ⟨[(0, (.pointer (some ((⟨bp0, 0, none⟩ : Addr).add 0)))), (2, (.pointer (some ((⟨b226, 0, none⟩ : Addr).add 0)))), (3, (.pointer (some ((⟨b227, 0, none⟩ : Addr).add 0)))), (4, (.int .i64 0))], ⟨rfl, rfl, rfl, rfl, trivial⟩, 0, p0.at_, p0.value, nilS, ([] : List Int), nilS, ([] : List Int), rfl, rfl, H, (Slr.nil Ty.i64 _), (Slr.nil Ty.u64 _)⟩
    rintro n654 _ K655 _ hK656 ⟨i645, i646, i647, v648, l649, v651, l652, rfl, rfl, H, hs650, hs653⟩
    obtain ⟨m657, k658, rfl, hkk659, H⟩ := lps5 H
    unfold M_draw_Codes_Wide_L1 at H
    refine Cw_seq ?_
    refine Cw_seq ?_
    refine Cw_region ?_
    refine Ow_q rfl rfl rfl (Qt_move rfl) ?_
    refine Ow_q rfl rfl rfl (Qt_move rfl) ?_
    obtain ⟨x665, x666, hx667, H⟩ := bnd2 H
    have hs668 := (hp0_list).mono hK656
    refine Ow_cons rfl (OpW_call rfl Try.call29 rfl rfl (c_M_draw_Codes_Next bp0 (Draw_Codes.mk p0.list i646 i647) vp0_list 9 x665 x666 hx667 _ _ hs668) ?_)
    rintro _ _ _ - ⟨rfl, rfl, rfl⟩
    refine Ow_q rfl rfl rfl (Qt_cmp rfl rfl rfl) ?_
    refine Ow_nil ?_
    refine Cw_cond rfl ?_ ?_
    · intro h669
      have h669 := dcd_t (h669)
      have H := ift h669 H
      refine Cw_skip ?_
      refine Cw_join (fun env' K' G' => ∃ (i751 : Int) (i752 : Int) (v753 : SV) (l754 : List Int) (v756 : SV) (l757 : List Int), [(0, (.pointer (some ((⟨bp0, 0, none⟩ : Addr).add 0)))), (2, (.pointer (some ((⟨b226, 0, none⟩ : Addr).add 0)))), (3, (.pointer (some ((⟨b227, 0, none⟩ : Addr).add 0)))), (4, (.int .i64 i645))] = env' ∧ (.blk bp0 60 (Draw_Codes.cells (Draw_Codes.mk p0.list i751 i752) vp0_list)) :: (.blk b227 34 (Config.cells (Config.mk l754 l757 0) v753 v756)) :: (.blk b226 34 (Config.cells (Config.mk [] [] 0) nilS nilS)) :: (.tok 3 1 [(sv v753)]) :: (.tok 22 1 [(sv v756)]) :: G = G' ∧ M_draw_Codes_Wide_J2 i645 p0 k658 i751 i752 l754 l757 = some (y0, z0_at_, z0_value) ∧ Slr Ty.i64 K' (sv v753) l754 ∧ Slr Ty.u64 K' (sv v756) l757) ?_ ?_
      · skip
        refine Cw_block ?_
        refine Cw_join (fun env' K' G' => ∃ (i788 : Int) (v789 : SV) (l790 : List Int), [(0, (.pointer (some ((⟨bp0, 0, none⟩ : Addr).add 0)))), (2, (.pointer (some ((⟨b226, 0, none⟩ : Addr).add 0)))), (3, (.pointer (some ((⟨b227, 0, none⟩ : Addr).add 0)))), (4, (.int .i64 i645))] = env' ∧ (.blk bp0 60 (Draw_Codes.cells (Draw_Codes.mk p0.list i788 ((Draw_Codes.mk p0.list x666 ((Draw_Codes.mk p0.list i646 i647).value)).value)) vp0_list)) :: (.blk b227 34 (Config.cells (Config.mk l790 l652 0) v789 v651)) :: (.blk b226 34 (Config.cells (Config.mk [] [] 0) nilS nilS)) :: (.tok 3 1 [(sv v789)]) :: (.tok 22 1 [(sv v651)]) :: G = G' ∧ M_draw_Codes_Wide_J3 i645 p0 x666 i646 i647 l652 k658 i788 l790 = some (y0, z0_at_, z0_value) ∧ Slr Ty.i64 K' (sv v789) l790) ?_ ?_
        · skip
          obtain ⟨x792, x793, hx794, H⟩ := bnd2 H
          obtain ⟨x797, hx798, H⟩ := bnd H
          refine Cw_region_any [.blk b226 34 (Config.cells (Config.mk [] [] 0) nilS nilS), .tok 22 1 [(sv v651)]] rfl (Inc.cons (.tail _ (.tail _ (.head _))) (Inc.cons (.tail _ (.tail _ (.tail _ (.tail _ (.head _))))) Inc.nil)) ?_
          refine Aw_q 0 rfl (by kernel_rfl) (by kernel_rfl) (by kernel_rfl) rfl rfl rfl (Qt_fieldAddr (m := 0) rfl rfl rfl rfl rfl) ?_
          refine Aw_q 2 rfl (by kernel_rfl) (by kernel_rfl) (by kernel_rfl) rfl rfl rfl (Qt_move rfl) ?_
          refine Aw_two 1 3 (by kernel_rfl) ?_ ?_
          · skip
            refine id (Ax_mk rfl rfl (OpW_of_Qt rfl rfl (Qt_load1 (v := (sv v648)) rfl rfl rfl (Rdc.blk (.tail _ (.head _)) rfl)) ⟨(Inc.cons (.tail _ (.tail _ (.head _))) (Inc.cons (.tail _ (.tail _ (.tail _ (.tail _ (.head _))))) Inc.nil)), ?_⟩))
            refine Aw_one 3 (by kernel_rfl) (Ax_mk rfl rfl ?_)
            refine OpW_call rfl Try.call29 rfl rfl (c_M_draw_Codes_Next bp0 (Draw_Codes.mk p0.list x666 ((Draw_Codes.mk p0.list i646 i647).value)) vp0_list 17 x792 x793 hx794 _ _ hs668) ?_
            rintro _ _ _ - ⟨rfl, rfl, rfl⟩
            refine ⟨(Inc.cons (.tail _ (.tail _ (.head _))) (Inc.cons (.tail _ (.tail _ (.tail _ (.tail _ (.head _))))) Inc.nil)), ?_⟩
            refine Aw_one 4 (by kernel_rfl) (Ax_mk rfl rfl ?_)
            have hR804 : RowR Ty.i64 K655 [[(.int .i64 x792)]] [x792] := RowR.cons rfl (RowR.nil)
            refine O_lit (T := Ty.i64) (rows := [[(.int .i64 x792)]]) (l := [x792]) rfl rfl rfl hR804 rfl rfl rfl rfl rfl rfl rfl rfl (fun v803 => ⟨(Inc.cons (.tail _ (.tail _ (.tail _ (.head _)))) (Inc.cons (.tail _ (.tail _ (.tail _ (.tail _ (.tail _ (.head _)))))) Inc.nil)), ?_⟩)
            refine Aw_one 5 (by kernel_rfl) (Ax_mk rfl rfl ?_)
            refine O_appTok (T := Ty.i64) (bytes := 8) (q := 0) rfl rfl rfl hs650 (.tail _ (.tail _ (.tail _ (.tail _ (.head _))))) rfl (SrcT.row (.head _) hR804 rfl) hx798 rfl rfl rfl rfl rfl rfl rfl rfl (fun v805 K806 hK807 hs808 => ⟨_, (.there (.there (.there (.there .here)))), ⟨(Inc.cons (.tail _ (.tail _ (.tail _ (.head _)))) (Inc.cons (.tail _ (.tail _ (.tail _ (.tail _ (.tail _ (.head _)))))) Inc.nil)), ?_⟩⟩)
            refine Aw.shift (Shift.rem .here (Shift.done ⟨(Inc.cons (.tail _ (.tail _ (.head _))) (Inc.cons (.tail _ (.tail _ (.tail _ (.tail _ (.head _))))) Inc.nil)), ?_⟩))
            refine Aw_q 6 rfl (by kernel_rfl) (by kernel_rfl) (by kernel_rfl) rfl rfl rfl (Qt_fieldAddr (m := 0) rfl rfl rfl rfl rfl) ?_
            refine Aw_one 7 (by kernel_rfl) (Ax_mk rfl rfl ?_)
            refine OpW_store (vs := [(sv v805)]) (all' := (Config.cells (Config.mk x797 l652 0) v805 v651)) rfl rfl rfl rfl rfl (.there .here) rfl rfl rfl ⟨(Inc.cons (.tail _ (.tail _ (.head _))) (Inc.cons (.tail _ (.tail _ (.tail _ (.tail _ (.head _))))) Inc.nil)), ?_⟩
            refine Aw_done (by kernel_rfl) ?_
            refine Shift.pull (.there (.there (.there (.there .here)))) ?_
            refine Shift.pull (.there (.there (.there (.there .here)))) ?_
            refine Shift.pull (.there (.there (.there (.there .here)))) ?_
            refine Shift.pull (.there (.there (.there (.there .here)))) ?_
            refine Shift.pull (.there (.there (.there (.there .here)))) ?_
            refine Shift.done ?_
            exact ⟨[(0, (.pointer (some ((⟨bp0, 0, none⟩ : Addr).add 0)))), (2, (.pointer (some ((⟨b226, 0, none⟩ : Addr).add 0)))), (3, (.pointer (some ((⟨b227, 0, none⟩ : Addr).add 0)))), (4, (.int .i64 i645))], ⟨rfl, rfl, rfl, rfl, trivial⟩, x793, v805, x797, rfl, rfl, H, hs808⟩
          · skip
            refine id (Ax_mk rfl rfl ?_)
            refine OpW_call rfl Try.call29 rfl rfl (c_M_draw_Codes_Next bp0 (Draw_Codes.mk p0.list x666 ((Draw_Codes.mk p0.list i646 i647).value)) vp0_list 17 x792 x793 hx794 _ _ hs668) ?_
            rintro _ _ _ - ⟨rfl, rfl, rfl⟩
            refine ⟨(Inc.cons (.tail _ (.tail _ (.head _))) (Inc.cons (.tail _ (.tail _ (.tail _ (.tail _ (.head _))))) Inc.nil)), ?_⟩
            refine Aw_two 1 4 (by kernel_rfl) ?_ ?_
            · skip
              refine id (Ax_mk rfl rfl (OpW_of_Qt rfl rfl (Qt_load1 (v := (sv v648)) rfl rfl rfl (Rdc.blk (.tail _ (.head _)) rfl)) ⟨(Inc.cons (.tail _ (.tail _ (.head _))) (Inc.cons (.tail _ (.tail _ (.tail _ (.tail _ (.head _))))) Inc.nil)), ?_⟩))
              refine Aw_one 4 (by kernel_rfl) (Ax_mk rfl rfl ?_)
              have hR810 : RowR Ty.i64 K655 [[(.int .i64 x792)]] [x792] := RowR.cons rfl (RowR.nil)
              refine O_lit (T := Ty.i64) (rows := [[(.int .i64 x792)]]) (l := [x792]) rfl rfl rfl hR810 rfl rfl rfl rfl rfl rfl rfl rfl (fun v809 => ⟨(Inc.cons (.tail _ (.tail _ (.tail _ (.head _)))) (Inc.cons (.tail _ (.tail _ (.tail _ (.tail _ (.tail _ (.head _)))))) Inc.nil)), ?_⟩)
              refine Aw_one 5 (by kernel_rfl) (Ax_mk rfl rfl ?_)
              refine O_appTok (T := Ty.i64) (bytes := 8) (q := 0) rfl rfl rfl hs650 (.tail _ (.tail _ (.tail _ (.tail _ (.head _))))) rfl (SrcT.row (.head _) hR810 rfl) hx798 rfl rfl rfl rfl rfl rfl rfl rfl (fun v811 K812 hK813 hs814 => ⟨_, (.there (.there (.there (.there .here)))), ⟨(Inc.cons (.tail _ (.tail _ (.tail _ (.head _)))) (Inc.cons (.tail _ (.tail _ (.tail _ (.tail _ (.tail _ (.head _)))))) Inc.nil)), ?_⟩⟩)
              refine Aw.shift (Shift.rem .here (Shift.done ⟨(Inc.cons (.tail _ (.tail _ (.head _))) (Inc.cons (.tail _ (.tail _ (.tail _ (.tail _ (.head _))))) Inc.nil)), ?_⟩))
              refine Aw_q 6 rfl (by kernel_rfl) (by kernel_rfl) (by kernel_rfl) rfl rfl rfl (Qt_fieldAddr (m := 0) rfl rfl rfl rfl rfl) ?_
              refine Aw_one 7 (by kernel_rfl) (Ax_mk rfl rfl ?_)
              refine OpW_store (vs := [(sv v811)]) (all' := (Config.cells (Config.mk x797 l652 0) v811 v651)) rfl rfl rfl rfl rfl (.there .here) rfl rfl rfl ⟨(Inc.cons (.tail _ (.tail _ (.head _))) (Inc.cons (.tail _ (.tail _ (.tail _ (.tail _ (.head _))))) Inc.nil)), ?_⟩
              refine Aw_done (by kernel_rfl) ?_
              refine Shift.pull (.there (.there (.there (.there .here)))) ?_
              refine Shift.pull (.there (.there (.there (.there .here)))) ?_
              refine Shift.pull (.there (.there (.there (.there .here)))) ?_
              refine Shift.pull (.there (.there (.there (.there .here)))) ?_
              refine Shift.pull (.there (.there (.there (.there .here)))) ?_
              refine Shift.done ?_
              exact ⟨[(0, (.pointer (some ((⟨bp0, 0, none⟩ : Addr).add 0)))), (2, (.pointer (some ((⟨b226, 0, none⟩ : Addr).add 0)))), (3, (.pointer (some ((⟨b227, 0, none⟩ : Addr).add 0)))), (4, (.int .i64 i645))], ⟨rfl, rfl, rfl, rfl, trivial⟩, x793, v811, x797, rfl, rfl, H, hs814⟩
            · skip
              refine id (Ax_mk rfl rfl ?_)
              have hR816 : RowR Ty.i64 K655 [[(.int .i64 x792)]] [x792] := RowR.cons rfl (RowR.nil)
              refine O_lit (T := Ty.i64) (rows := [[(.int .i64 x792)]]) (l := [x792]) rfl rfl rfl hR816 rfl rfl rfl rfl rfl rfl rfl rfl (fun v815 => ⟨(Inc.cons (.tail _ (.tail _ (.tail _ (.head _)))) (Inc.cons (.tail _ (.tail _ (.tail _ (.tail _ (.tail _ (.head _)))))) Inc.nil)), ?_⟩)
              refine Aw_one 1 (by kernel_rfl) (Ax_mk rfl rfl (OpW_of_Qt rfl rfl (Qt_load1 (v := (sv v648)) rfl rfl rfl (Rdc.blk (.tail _ (.tail _ (.head _))) rfl)) ⟨(Inc.cons (.tail _ (.tail _ (.tail _ (.head _)))) (Inc.cons (.tail _ (.tail _ (.tail _ (.tail _ (.tail _ (.head _)))))) Inc.nil)), ?_⟩))
              refine Aw_one 5 (by kernel_rfl) (Ax_mk rfl rfl ?_)
              refine O_appTok (T := Ty.i64) (bytes := 8) (q := 0) rfl rfl rfl hs650 (.tail _ (.tail _ (.tail _ (.tail _ (.head _))))) rfl (SrcT.row (.head _) hR816 rfl) hx798 rfl rfl rfl rfl rfl rfl rfl rfl (fun v817 K818 hK819 hs820 => ⟨_, (.there (.there (.there (.there .here)))), ⟨(Inc.cons (.tail _ (.tail _ (.tail _ (.head _)))) (Inc.cons (.tail _ (.tail _ (.tail _ (.tail _ (.tail _ (.head _)))))) Inc.nil)), ?_⟩⟩)
              refine Aw.shift (Shift.rem .here (Shift.done ⟨(Inc.cons (.tail _ (.tail _ (.head _))) (Inc.cons (.tail _ (.tail _ (.tail _ (.tail _ (.head _))))) Inc.nil)), ?_⟩))
              refine Aw_q 6 rfl (by kernel_rfl) (by kernel_rfl) (by kernel_rfl) rfl rfl rfl (Qt_fieldAddr (m := 0) rfl rfl rfl rfl rfl) ?_
              refine Aw_one 7 (by kernel_rfl) (Ax_mk rfl rfl ?_)
              refine OpW_store (vs := [(sv v817)]) (all' := (Config.cells (Config.mk x797 l652 0) v817 v651)) rfl rfl rfl rfl rfl (.there .here) rfl rfl rfl ⟨(Inc.cons (.tail _ (.tail _ (.head _))) (Inc.cons (.tail _ (.tail _ (.tail _ (.tail _ (.head _))))) Inc.nil)), ?_⟩
              refine Aw_done (by kernel_rfl) ?_
              refine Shift.pull (.there (.there (.there (.there .here)))) ?_
              refine Shift.pull (.there (.there (.there (.there .here)))) ?_
              refine Shift.pull (.there (.there (.there (.there .here)))) ?_
              refine Shift.pull (.there (.there (.there (.there .here)))) ?_
              refine Shift.pull (.there (.there (.there (.there .here)))) ?_
              refine Shift.done ?_
              exact ⟨[(0, (.pointer (some ((⟨bp0, 0, none⟩ : Addr).add 0)))), (2, (.pointer (some ((⟨b226, 0, none⟩ : Addr).add 0)))), (3, (.pointer (some ((⟨b227, 0, none⟩ : Addr).add 0)))), (4, (.int .i64 i645))], ⟨rfl, rfl, rfl, rfl, trivial⟩, x793, v817, x797, rfl, rfl, H, hs820⟩
        rintro _ K821 _ hK822 ⟨i788, v789, l790, rfl, rfl, H, hs791⟩
        unfold M_draw_Codes_Wide_J3 at H
        obtain ⟨x823, x824, hx825, H⟩ := bnd2 H
        obtain ⟨x827, x828, hx829, H⟩ := bnd2 H
        obtain ⟨x832, hx833, H⟩ := bnd H
        refine Cw_region_any [.blk b226 34 (Config.cells (Config.mk [] [] 0) nilS nilS), .tok 3 1 [(sv v789)]] rfl (Inc.cons (.tail _ (.tail _ (.head _))) (Inc.cons (.tail _ (.tail _ (.tail _ (.head _)))) Inc.nil)) ?_
        refine Aw_q 0 rfl (by kernel_rfl) (by kernel_rfl) (by kernel_rfl) rfl rfl rfl (Qt_fieldAddr (m := 1) rfl rfl rfl rfl rfl) ?_
        refine Aw_q 2 rfl (by kernel_rfl) (by kernel_rfl) (by kernel_rfl) rfl rfl rfl (Qt_move rfl) ?_
        refine Aw_q 6 rfl (by kernel_rfl) (by kernel_rfl) (by kernel_rfl) rfl rfl rfl (Qt_move rfl) ?_
        refine Aw_two 1 3 (by kernel_rfl) ?_ ?_
        · skip
          refine id (Ax_mk rfl rfl (OpW_of_Qt rfl rfl (Qt_load1 (v := (sv v651)) rfl rfl rfl (Rdc.blk (.tail _ (.head _)) rfl)) ⟨(Inc.cons (.tail _ (.tail _ (.head _))) (Inc.cons (.tail _ (.tail _ (.tail _ (.head _)))) Inc.nil)), ?_⟩))
          refine Aw_one 3 (by kernel_rfl) (Ax_mk rfl rfl ?_)
          have hs839 := (hs668).mono hK822
          refine OpW_call rfl Try.call29 rfl rfl (c_M_draw_Codes_Next bp0 (Draw_Codes.mk p0.list i788 ((Draw_Codes.mk p0.list x666 ((Draw_Codes.mk p0.list i646 i647).value)).value)) vp0_list 256 x823 x824 hx825 _ _ hs839) ?_
          rintro _ _ _ - ⟨rfl, rfl, rfl⟩
          refine ⟨(Inc.cons (.tail _ (.tail _ (.head _))) (Inc.cons (.tail _ (.tail _ (.tail _ (.head _)))) Inc.nil)), ?_⟩
          refine Aw_q 4 rfl (by kernel_rfl) (by kernel_rfl) (by kernel_rfl) rfl rfl rfl (Qt_conv (c := wU x823) rfl rfl rfl rfl) ?_
          refine Aw_q 5 rfl (by kernel_rfl) (by kernel_rfl) (by kernel_rfl) rfl rfl rfl (Qt_shl (by decide) rfl rfl) ?_
          refine Aw_one 7 (by kernel_rfl) (Ax_mk rfl rfl ?_)
          refine OpW_call rfl Try.call29 rfl rfl (c_M_draw_Codes_Next bp0 (Draw_Codes.mk p0.list x824 ((Draw_Codes.mk p0.list i788 ((Draw_Codes.mk p0.list x666 ((Draw_Codes.mk p0.list i646 i647).value)).value)).value)) vp0_list 256 x827 x828 hx829 _ _ hs839) ?_
          rintro _ _ _ - ⟨rfl, rfl, rfl⟩
          refine ⟨(Inc.cons (.tail _ (.tail _ (.head _))) (Inc.cons (.tail _ (.tail _ (.tail _ (.head _)))) Inc.nil)), ?_⟩
          refine Aw_q 8 rfl (by kernel_rfl) (by kernel_rfl) (by kernel_rfl) rfl rfl rfl (Qt_conv (c := wU x827) rfl rfl rfl rfl) ?_
          refine Aw_q 9 rfl (by kernel_rfl) (by kernel_rfl) (by kernel_rfl) rfl rfl rfl (Qt_arith (e := wU ((shlW .u64 (wU x823) 55) + (wU x827))) rfl rfl rfl rfl) ?_
          refine Aw_q 10 rfl (by kernel_rfl) (by kernel_rfl) (by kernel_rfl) rfl rfl rfl (Qt_rem rfl rfl (by decide)) ?_
          refine Aw_one 11 (by kernel_rfl) (Ax_mk rfl rfl ?_)
          have hR841 : RowR Ty.u64 K821 [[(.int .u64 (Int.tmod (wU ((shlW .u64 (wU x823) 55) + (wU x827))) 9223372036854775808))]] [(Int.tmod (wU ((shlW .u64 (wU x823) 55) + (wU x827))) 9223372036854775808)] := RowR.cons rfl (RowR.nil)
          refine O_lit (T := Ty.u64) (rows := [[(.int .u64 (Int.tmod (wU ((shlW .u64 (wU x823) 55) + (wU x827))) 9223372036854775808))]]) (l := [(Int.tmod (wU ((shlW .u64 (wU x823) 55) + (wU x827))) 9223372036854775808)]) rfl rfl rfl hR841 rfl rfl rfl rfl rfl rfl rfl rfl (fun v840 => ⟨(Inc.cons (.tail _ (.tail _ (.tail _ (.head _)))) (Inc.cons (.tail _ (.tail _ (.tail _ (.tail _ (.head _))))) Inc.nil)), ?_⟩)
          refine Aw_one 12 (by kernel_rfl) (Ax_mk rfl rfl ?_)
          have hs846 := (hs653).mono hK822
          refine O_appTok (T := Ty.u64) (bytes := 8) (q := 0) rfl rfl rfl hs846 (.tail _ (.tail _ (.tail _ (.tail _ (.tail _ (.head _)))))) rfl (SrcT.row (.head _) hR841 rfl) hx833 rfl rfl rfl rfl rfl rfl rfl rfl (fun v842 K843 hK844 hs845 => ⟨_, (.there (.there (.there (.there (.there .here))))), ⟨(Inc.cons (.tail _ (.tail _ (.tail _ (.head _)))) (Inc.cons (.tail _ (.tail _ (.tail _ (.tail _ (.head _))))) Inc.nil)), ?_⟩⟩)
          refine Aw.shift (Shift.rem .here (Shift.done ⟨(Inc.cons (.tail _ (.tail _ (.head _))) (Inc.cons (.tail _ (.tail _ (.tail _ (.head _)))) Inc.nil)), ?_⟩))
          refine Aw_q 13 rfl (by kernel_rfl) (by kernel_rfl) (by kernel_rfl) rfl rfl rfl (Qt_fieldAddr (m := 1) rfl rfl rfl rfl rfl) ?_
          refine Aw_one 14 (by kernel_rfl) (Ax_mk rfl rfl ?_)
          refine OpW_store (vs := [(sv v842)]) (all' := (Config.cells (Config.mk l790 x832 0) v789 v842)) rfl rfl rfl rfl rfl (.there .here) rfl rfl rfl ⟨(Inc.cons (.tail _ (.tail _ (.head _))) (Inc.cons (.tail _ (.tail _ (.tail _ (.head _)))) Inc.nil)), ?_⟩
          refine Aw_done (by kernel_rfl) ?_
          refine Shift.pull (.there (.there (.there (.there .here)))) ?_
          refine Shift.pull (.there (.there (.there (.there .here)))) ?_
          refine Shift.pull (.there (.there (.there (.there .here)))) ?_
          refine Shift.pull (.there (.there (.there (.there .here)))) ?_
          refine Shift.pull (.there (.there (.there (.there .here)))) ?_
          have hs847 := (hs791).mono hK844
          refine Shift.done ?_
          exact ⟨[(0, (.pointer (some ((⟨bp0, 0, none⟩ : Addr).add 0)))), (2, (.pointer (some ((⟨b226, 0, none⟩ : Addr).add 0)))), (3, (.pointer (some ((⟨b227, 0, none⟩ : Addr).add 0)))), (4, (.int .i64 i645))], ⟨rfl, rfl, rfl, rfl, trivial⟩, x828, ((Draw_Codes.mk p0.list x824 ((Draw_Codes.mk p0.list i788 ((Draw_Codes.mk p0.list x666 ((Draw_Codes.mk p0.list i646 i647).value)).value)).value)).value), v789, l790, v842, x832, rfl, rfl, H, hs847, hs845⟩
        · skip
          refine id (Ax_mk rfl rfl ?_)
          have hs848 := (hs668).mono hK822
          refine OpW_call rfl Try.call29 rfl rfl (c_M_draw_Codes_Next bp0 (Draw_Codes.mk p0.list i788 ((Draw_Codes.mk p0.list x666 ((Draw_Codes.mk p0.list i646 i647).value)).value)) vp0_list 256 x823 x824 hx825 _ _ hs848) ?_
          rintro _ _ _ - ⟨rfl, rfl, rfl⟩
          refine ⟨(Inc.cons (.tail _ (.tail _ (.head _))) (Inc.cons (.tail _ (.tail _ (.tail _ (.head _)))) Inc.nil)), ?_⟩
          refine Aw_q 4 rfl (by kernel_rfl) (by kernel_rfl) (by kernel_rfl) rfl rfl rfl (Qt_conv (c := wU x823) rfl rfl rfl rfl) ?_
          refine Aw_q 5 rfl (by kernel_rfl) (by kernel_rfl) (by kernel_rfl) rfl rfl rfl (Qt_shl (by decide) rfl rfl) ?_
          refine Aw_two 1 7 (by kernel_rfl) ?_ ?_
          · skip
            refine id (Ax_mk rfl rfl (OpW_of_Qt rfl rfl (Qt_load1 (v := (sv v651)) rfl rfl rfl (Rdc.blk (.tail _ (.head _)) rfl)) ⟨(Inc.cons (.tail _ (.tail _ (.head _))) (Inc.cons (.tail _ (.tail _ (.tail _ (.head _)))) Inc.nil)), ?_⟩))
            refine Aw_one 7 (by kernel_rfl) (Ax_mk rfl rfl ?_)
            refine OpW_call rfl Try.call29 rfl rfl (c_M_draw_Codes_Next bp0 (Draw_Codes.mk p0.list x824 ((Draw_Codes.mk p0.list i788 ((Draw_Codes.mk p0.list x666 ((Draw_Codes.mk p0.list i646 i647).value)).value)).value)) vp0_list 256 x827 x828 hx829 _ _ hs848) ?_
            rintro _ _ _ - ⟨rfl, rfl, rfl⟩
            refine ⟨(Inc.cons (.tail _ (.tail _ (.head _))) (Inc.cons (.tail _ (.tail _ (.tail _ (.head _)))) Inc.nil)), ?_⟩
            refine Aw_q 8 rfl (by kernel_rfl) (by kernel_rfl) (by kernel_rfl) rfl rfl rfl (Qt_conv (c := wU x827) rfl rfl rfl rfl) ?_
            refine Aw_q 9 rfl (by kernel_rfl) (by kernel_rfl) (by kernel_rfl) rfl rfl rfl (Qt_arith (e := wU ((shlW .u64 (wU x823) 55) + (wU x827))) rfl rfl rfl rfl) ?_
            refine Aw_q 10 rfl (by kernel_rfl) (by kernel_rfl) (by kernel_rfl) rfl rfl rfl (Qt_rem rfl rfl (by decide)) ?_
            refine Aw_one 11 (by kernel_rfl) (Ax_mk rfl rfl ?_)
            have hR850 : RowR Ty.u64 K821 [[(.int .u64 (Int.tmod (wU ((shlW .u64 (wU x823) 55) + (wU x827))) 9223372036854775808))]] [(Int.tmod (wU ((shlW .u64 (wU x823) 55) + (wU x827))) 9223372036854775808)] := RowR.cons rfl (RowR.nil)
            refine O_lit (T := Ty.u64) (rows := [[(.int .u64 (Int.tmod (wU ((shlW .u64 (wU x823) 55) + (wU x827))) 9223372036854775808))]]) (l := [(Int.tmod (wU ((shlW .u64 (wU x823) 55) + (wU x827))) 9223372036854775808)]) rfl rfl rfl hR850 rfl rfl rfl rfl rfl rfl rfl rfl (fun v849 => ⟨(Inc.cons (.tail _ (.tail _ (.tail _ (.head _)))) (Inc.cons (.tail _ (.tail _ (.tail _ (.tail _ (.head _))))) Inc.nil)), ?_⟩)
            refine Aw_one 12 (by kernel_rfl) (Ax_mk rfl rfl ?_)
            have hs855 := (hs653).mono hK822
            refine O_appTok (T := Ty.u64) (bytes := 8) (q := 0) rfl rfl rfl hs855 (.tail _ (.tail _ (.tail _ (.tail _ (.tail _ (.head _)))))) rfl (SrcT.row (.head _) hR850 rfl) hx833 rfl rfl rfl rfl rfl rfl rfl rfl (fun v851 K852 hK853 hs854 => ⟨_, (.there (.there (.there (.there (.there .here))))), ⟨(Inc.cons (.tail _ (.tail _ (.tail _ (.head _)))) (Inc.cons (.tail _ (.tail _ (.tail _ (.tail _ (.head _))))) Inc.nil)), ?_⟩⟩)
            refine Aw.shift (Shift.rem .here (Shift.done ⟨(Inc.cons (.tail _ (.tail _ (.head _))) (Inc.cons (.tail _ (.tail _ (.tail _ (.head _)))) Inc.nil)), ?_⟩))
            refine Aw_q 13 rfl (by kernel_rfl) (by kernel_rfl) (by kernel_rfl) rfl rfl rfl (Qt_fieldAddr (m := 1) rfl rfl rfl rfl rfl) ?_
            refine Aw_one 14 (by kernel_rfl) (Ax_mk rfl rfl ?_)
            refine OpW_store (vs := [(sv v851)]) (all' := (Config.cells (Config.mk l790 x832 0) v789 v851)) rfl rfl rfl rfl rfl (.there .here) rfl rfl rfl ⟨(Inc.cons (.tail _ (.tail _ (.head _))) (Inc.cons (.tail _ (.tail _ (.tail _ (.head _)))) Inc.nil)), ?_⟩
            refine Aw_done (by kernel_rfl) ?_
            refine Shift.pull (.there (.there (.there (.there .here)))) ?_
            refine Shift.pull (.there (.there (.there (.there .here)))) ?_
            refine Shift.pull (.there (.there (.there (.there .here)))) ?_
            refine Shift.pull (.there (.there (.there (.there .here)))) ?_
            refine Shift.pull (.there (.there (.there (.there .here)))) ?_
            have hs856 := (hs791).mono hK853
            refine Shift.done ?_
            exact ⟨[(0, (.pointer (some ((⟨bp0, 0, none⟩ : Addr).add 0)))), (2, (.pointer (some ((⟨b226, 0, none⟩ : Addr).add 0)))), (3, (.pointer (some ((⟨b227, 0, none⟩ : Addr).add 0)))), (4, (.int .i64 i645))], ⟨rfl, rfl, rfl, rfl, trivial⟩, x828, ((Draw_Codes.mk p0.list x824 ((Draw_Codes.mk p0.list i788 ((Draw_Codes.mk p0.list x666 ((Draw_Codes.mk p0.list i646 i647).value)).value)).value)).value), v789, l790, v851, x832, rfl, rfl, H, hs856, hs854⟩
          · skip
            refine id (Ax_mk rfl rfl ?_)
            refine OpW_call rfl Try.call29 rfl rfl (c_M_draw_Codes_Next bp0 (Draw_Codes.mk p0.list x824 ((Draw_Codes.mk p0.list i788 ((Draw_Codes.mk p0.list x666 ((Draw_Codes.mk p0.list i646 i647).value)).value)).value)) vp0_list 256 x827 x828 hx829 _ _ hs848) ?_
            rintro _ _ _ - ⟨rfl, rfl, rfl⟩
            refine ⟨(Inc.cons (.tail _ (.tail _ (.head _))) (Inc.cons (.tail _ (.tail _ (.tail _ (.head _)))) Inc.nil)), ?_⟩
            refine Aw_q 8 rfl (by kernel_rfl) (by kernel_rfl) (by kernel_rfl) rfl rfl rfl (Qt_conv (c := wU x827) rfl rfl rfl rfl) ?_
            refine Aw_q 9 rfl (by kernel_rfl) (by kernel_rfl) (by kernel_rfl) rfl rfl rfl (Qt_arith (e := wU ((shlW .u64 (wU x823) 55) + (wU x827))) rfl rfl rfl rfl) ?_
            refine Aw_q 10 rfl (by kernel_rfl) (by kernel_rfl) (by kernel_rfl) rfl rfl rfl (Qt_rem rfl rfl (by decide)) ?_
            refine Aw_two 1 11 (by kernel_rfl) ?_ ?_
            · skip
              refine id (Ax_mk rfl rfl (OpW_of_Qt rfl rfl (Qt_load1 (v := (sv v651)) rfl rfl rfl (Rdc.blk (.tail _ (.head _)) rfl)) ⟨(Inc.cons (.tail _ (.tail _ (.head _))) (Inc.cons (.tail _ (.tail _ (.tail _ (.head _)))) Inc.nil)), ?_⟩))
              refine Aw_one 11 (by kernel_rfl) (Ax_mk rfl rfl ?_)
              have hR858 : RowR Ty.u64 K821 [[(.int .u64 (Int.tmod (wU ((shlW .u64 (wU x823) 55) + (wU x827))) 9223372036854775808))]] [(Int.tmod (wU ((shlW .u64 (wU x823) 55) + (wU x827))) 9223372036854775808)] := RowR.cons rfl (RowR.nil)
              refine O_lit (T := Ty.u64) (rows := [[(.int .u64 (Int.tmod (wU ((shlW .u64 (wU x823) 55) + (wU x827))) 9223372036854775808))]]) (l := [(Int.tmod (wU ((shlW .u64 (wU x823) 55) + (wU x827))) 9223372036854775808)]) rfl rfl rfl hR858 rfl rfl rfl rfl rfl rfl rfl rfl (fun v857 => ⟨(Inc.cons (.tail _ (.tail _ (.tail _ (.head _)))) (Inc.cons (.tail _ (.tail _ (.tail _ (.tail _ (.head _))))) Inc.nil)), ?_⟩)
              refine Aw_one 12 (by kernel_rfl) (Ax_mk rfl rfl ?_)
              have hs863 := (hs653).mono hK822
              refine O_appTok (T := Ty.u64) (bytes := 8) (q := 0) rfl rfl rfl hs863 (.tail _ (.tail _ (.tail _ (.tail _ (.tail _ (.head _)))))) rfl (SrcT.row (.head _) hR858 rfl) hx833 rfl rfl rfl rfl rfl rfl rfl rfl (fun v859 K860 hK861 hs862 => ⟨_, (.there (.there (.there (.there (.there .here))))), ⟨(Inc.cons (.tail _ (.tail _ (.tail _ (.head _)))) (Inc.cons (.tail _ (.tail _ (.tail _ (.tail _ (.head _))))) Inc.nil)), ?_⟩⟩)
              refine Aw.shift (Shift.rem .here (Shift.done ⟨(Inc.cons (.tail _ (.tail _ (.head _))) (Inc.cons (.tail _ (.tail _ (.tail _ (.head _)))) Inc.nil)), ?_⟩))
              refine Aw_q 13 rfl (by kernel_rfl) (by kernel_rfl) (by kernel_rfl) rfl rfl rfl (Qt_fieldAddr (m := 1) rfl rfl rfl rfl rfl) ?_
              refine Aw_one 14 (by kernel_rfl) (Ax_mk rfl rfl ?_)
              refine OpW_store (vs := [(sv v859)]) (all' := (Config.cells (Config.mk l790 x832 0) v789 v859)) rfl rfl rfl rfl rfl (.there .here) rfl rfl rfl ⟨(Inc.cons (.tail _ (.tail _ (.head _))) (Inc.cons (.tail _ (.tail _ (.tail _ (.head _)))) Inc.nil)), ?_⟩
              refine Aw_done (by kernel_rfl) ?_
              refine Shift.pull (.there (.there (.there (.there .here)))) ?_
              refine Shift.pull (.there (.there (.there (.there .here)))) ?_
              refine Shift.pull (.there (.there (.there (.there .here)))) ?_
              refine Shift.pull (.there (.there (.there (.there .here)))) ?_
              refine Shift.pull (.there (.there (.there (.there .here)))) ?_
              have hs864 := (hs791).mono hK861
              refine Shift.done ?_
              exact ⟨[(0, (.pointer (some ((⟨bp0, 0, none⟩ : Addr).add 0)))), (2, (.pointer (some ((⟨b226, 0, none⟩ : Addr).add 0)))), (3, (.pointer (some ((⟨b227, 0, none⟩ : Addr).add 0)))), (4, (.int .i64 i645))], ⟨rfl, rfl, rfl, rfl, trivial⟩, x828, ((Draw_Codes.mk p0.list x824 ((Draw_Codes.mk p0.list i788 ((Draw_Codes.mk p0.list x666 ((Draw_Codes.mk p0.list i646 i647).value)).value)).value)).value), v789, l790, v859, x832, rfl, rfl, H, hs864, hs862⟩
            · skip
              refine id (Ax_mk rfl rfl ?_)
              have hR866 : RowR Ty.u64 K821 [[(.int .u64 (Int.tmod (wU ((shlW .u64 (wU x823) 55) + (wU x827))) 9223372036854775808))]] [(Int.tmod (wU ((shlW .u64 (wU x823) 55) + (wU x827))) 9223372036854775808)] := RowR.cons rfl (RowR.nil)
              refine O_lit (T := Ty.u64) (rows := [[(.int .u64 (Int.tmod (wU ((shlW .u64 (wU x823) 55) + (wU x827))) 9223372036854775808))]]) (l := [(Int.tmod (wU ((shlW .u64 (wU x823) 55) + (wU x827))) 9223372036854775808)]) rfl rfl rfl hR866 rfl rfl rfl rfl rfl rfl rfl rfl (fun v865 => ⟨(Inc.cons (.tail _ (.tail _ (.tail _ (.head _)))) (Inc.cons (.tail _ (.tail _ (.tail _ (.tail _ (.head _))))) Inc.nil)), ?_⟩)
              refine Aw_one 1 (by kernel_rfl) (Ax_mk rfl rfl (OpW_of_Qt rfl rfl (Qt_load1 (v := (sv v651)) rfl rfl rfl (Rdc.blk (.tail _ (.tail _ (.head _))) rfl)) ⟨(Inc.cons (.tail _ (.tail _ (.tail _ (.head _)))) (Inc.cons (.tail _ (.tail _ (.tail _ (.tail _ (.head _))))) Inc.nil)), ?_⟩))
              refine Aw_one 12 (by kernel_rfl) (Ax_mk rfl rfl ?_)
              have hs871 := (hs653).mono hK822
              refine O_appTok (T := Ty.u64) (bytes := 8) (q := 0) rfl rfl rfl hs871 (.tail _ (.tail _ (.tail _ (.tail _ (.tail _ (.head _)))))) rfl (SrcT.row (.head _) hR866 rfl) hx833 rfl rfl rfl rfl rfl rfl rfl rfl (fun v867 K868 hK869 hs870 => ⟨_, (.there (.there (.there (.there (.there .here))))), ⟨(Inc.cons (.tail _ (.tail _ (.tail _ (.head _)))) (Inc.cons (.tail _ (.tail _ (.tail _ (.tail _ (.head _))))) Inc.nil)), ?_⟩⟩)
              refine Aw.shift (Shift.rem .here (Shift.done ⟨(Inc.cons (.tail _ (.tail _ (.head _))) (Inc.cons (.tail _ (.tail _ (.tail _ (.head _)))) Inc.nil)), ?_⟩))
              refine Aw_q 13 rfl (by kernel_rfl) (by kernel_rfl) (by kernel_rfl) rfl rfl rfl (Qt_fieldAddr (m := 1) rfl rfl rfl rfl rfl) ?_
              refine Aw_one 14 (by kernel_rfl) (Ax_mk rfl rfl ?_)
              refine OpW_store (vs := [(sv v867)]) (all' := (Config.cells (Config.mk l790 x832 0) v789 v867)) rfl rfl rfl rfl rfl (.there .here) rfl rfl rfl ⟨(Inc.cons (.tail _ (.tail _ (.head _))) (Inc.cons (.tail _ (.tail _ (.tail _ (.head _)))) Inc.nil)), ?_⟩
              refine Aw_done (by kernel_rfl) ?_
              refine Shift.pull (.there (.there (.there (.there .here)))) ?_
              refine Shift.pull (.there (.there (.there (.there .here)))) ?_
              refine Shift.pull (.there (.there (.there (.there .here)))) ?_
              refine Shift.pull (.there (.there (.there (.there .here)))) ?_
              refine Shift.pull (.there (.there (.there (.there .here)))) ?_
              have hs872 := (hs791).mono hK869
              refine Shift.done ?_
              exact ⟨[(0, (.pointer (some ((⟨bp0, 0, none⟩ : Addr).add 0)))), (2, (.pointer (some ((⟨b226, 0, none⟩ : Addr).add 0)))), (3, (.pointer (some ((⟨b227, 0, none⟩ : Addr).add 0)))), (4, (.int .i64 i645))], ⟨rfl, rfl, rfl, rfl, trivial⟩, x828, ((Draw_Codes.mk p0.list x824 ((Draw_Codes.mk p0.list i788 ((Draw_Codes.mk p0.list x666 ((Draw_Codes.mk p0.list i646 i647).value)).value)).value)).value), v789, l790, v867, x832, rfl, rfl, H, hs872, hs870⟩
      rintro _ K873 _ hK874 ⟨i751, i752, v753, l754, v756, l757, rfl, rfl, H, hs755, hs758⟩
      unfold M_draw_Codes_Wide_J2 at H
      refine Cw_region ?_
      refine Ow_q rfl rfl rfl (Qt_move rfl) ?_
      refine Ow_q rfl rfl rfl (Qt_arith (e := wI (i645 + 1)) rfl rfl rfl rfl) ?_
      refine Ow_q rfl rfl rfl (Qt_assign rfl) ?_
      refine Ow_nil ?_
      refine Shift.pull (.there (.there (.there (.there .here)))) ?_
      refine Shift.pull (.there (.there (.there (.there .here)))) ?_
      refine Shift.pull (.there (.there (.there (.there .here)))) ?_
      refine Shift.pull (.there (.there (.there (.there .here)))) ?_
      refine Shift.pull (.there (.there (.there (.there .here)))) ?_
      refine Shift.done ?_
      exact ⟨[(0, (.pointer (some ((⟨bp0, 0, none⟩ : Addr).add 0)))), (2, (.pointer (some ((⟨b226, 0, none⟩ : Addr).add 0)))), (3, (.pointer (some ((⟨b227, 0, none⟩ : Addr).add 0)))), (4, (.int .i64 (wI (i645 + 1))))], ⟨rfl, rfl, rfl, rfl, trivial⟩, _, Nat.lt_succ_self _, (wI (i645 + 1)), i751, i752, v753, l754, v756, l757, rfl, rfl, (hkk659 ▸ H), hs755, hs758⟩
    · intro h669
      have h669 := dcd_f (h669)
      have H := iff_ h669 H
      refine Cw_exit ?_
      refine Shift.pull (.there (.there (.there (.there .here)))) ?_
      refine Shift.pull (.there (.there (.there (.there .here)))) ?_
      refine Shift.pull (.there (.there (.there (.there .here)))) ?_
      refine Shift.pull (.there (.there (.there (.there .here)))) ?_
      refine Shift.pull (.there (.there (.there (.there .here)))) ?_
      refine Shift.done ?_
      exact ⟨[(0, (.pointer (some ((⟨bp0, 0, none⟩ : Addr).add 0)))), (2, (.pointer (some ((⟨b226, 0, none⟩ : Addr).add 0)))), (3, (.pointer (some ((⟨b227, 0, none⟩ : Addr).add 0))))], ⟨rfl, rfl, rfl, trivial⟩, x666, ((Draw_Codes.mk p0.list i646 i647).value), v648, l649, v651, l652, rfl, rfl, H, hs650, hs653⟩
  rintro _ K875 _ hK876 ⟨i437, i438, v439, l440, v442, l443, rfl, rfl, H, hs441, hs444⟩
  unfold M_draw_Codes_Wide_J1 at H
  refine Cw_seq ?_
  refine Cw_region ?_
  refine Ow_q rfl rfl rfl (Qt_move rfl) ?_
  obtain ⟨x877, x878, hx879, H⟩ := bnd2 H
  have hs880 := (hp0_list).mono hK876
  refine Ow_cons rfl (OpW_call rfl Try.call29 rfl rfl (c_M_draw_Codes_Next bp0 (Draw_Codes.mk p0.list i437 i438) vp0_list 8 x877 x878 hx879 _ _ hs880) ?_)
  rintro _ _ _ - ⟨rfl, rfl, rfl⟩
  refine Ow_q rfl rfl rfl (Qt_arith (e := wI (1 + x877)) rfl rfl rfl rfl) ?_
  refine Ow_q rfl rfl rfl (Qt_fieldAddr (m := 2) rfl rfl rfl rfl rfl) ?_
  refine Ow_cons rfl (OpW_store (vs := [(.int .i64 (wI (1 + x877)))]) (all' := (Config.cells (Config.mk l440 l443 (wI (1 + x877))) v439 v442)) rfl rfl rfl rfl rfl (.there .here) rfl rfl rfl ?_)
  refine Ow_nil ?_
  refine Cw_seq ?_
  refine Cw_region ?_
  refine Ow_q rfl rfl rfl (Qt_loadA (m := 3) (cs := (Config.cells (Config.mk l440 l443 (wI (1 + x877))) v439 v442)) rfl rfl rfl rfl ⟨rfl, Rdc.blk (.tail _ (.head _)) rfl⟩) ?_
  refine Ow_cons rfl (OpW_store (vs := (Config.cells (Config.mk l440 l443 (wI (1 + x877))) v439 v442)) (all' := (Config.cells (Config.mk l440 l443 (wI (1 + x877))) v439 v442)) rfl rfl rfl rfl rfl (.there (.there .here)) rfl rfl rfl ?_)
  refine Ow_nil ?_
  refine Cw_ret ?_
  obtain ⟨ey0, ez0_at_, ez0_value⟩ := inj3 H
  subst y0 z0_at_ z0_value
  refine ⟨(by first | exact .inl rfl | exact .inr rfl), [(.agg (Config.cells (Config.mk l440 l443 (wI (1 + x877))) v439 v442).toArray)], ⟨(.agg (Config.cells (Config.mk l440 l443 (wI (1 + x877))) v439 v442).toArray), _, rfl, ⟨_, 3, (Config.cells (Config.mk l440 l443 (wI (1 + x877))) v439 v442), rfl, rfl, rfl, rfl, ⟨rfl, Rdc.blk (.tail _ (.tail _ (.head _))) rfl⟩, rfl⟩, rfl⟩, ?_⟩
  refine Shift.pull (.there (.there (.there (.there .here)))) ?_
  refine Shift.pull (.there (.there (.there (.there .here)))) ?_
  refine Shift.pull (.there (.there .here)) ?_
  refine Shift.rem (.there (.there (.there .here))) ?_
  refine Shift.rem (.there (.there (.there .here))) ?_
  refine Shift.done ?_
  exact ⟨v439, v442, rfl, rfl, hs441, hs444⟩


end Go.Hx
