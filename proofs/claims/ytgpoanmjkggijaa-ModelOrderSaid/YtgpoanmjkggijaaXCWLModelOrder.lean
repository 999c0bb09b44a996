/- Printed by program. -/
import Derived.Test.YtgpoanmjkggijaaXCM
import Derived.Test.YtgpoanmjkggijaaXCWDraw
import Derived.Test.YtgpoanmjkggijaaXCWLaw14
import Derived.Test.YtgpoanmjkggijaaXCWModel2
import Derived.Test.YtgpoanmjkggijaaXCWModel3
namespace Go.Hx
open Go Go.Proofs
set_option linter.unusedSimpArgs false
set_option linter.unusedVariables false
set_option maxRecDepth 10000
set_option maxHeartbeats 1000000 in
theorem c_M_law14_ModelOrder (p0 : List Int) (vp0 : SV) (y0 : Bool) (H : M_law14_ModelOrder p0 = some y0) (K : Kp) (G : List Ent) (hp0 : Slr Ty.u8 K (sv vp0) p0) :
    Fc Try.prog 5 #[(sv vp0)] K (G) (fun v K' G' => v = (.bool y0) ∧ G = G') := by
  refine Fc_body Try.func5 rfl Try.ntmps5 Try.results5 rfl ?_
  unfold M_law14_ModelOrder at H
  refine Cw_seq ?_
  refine Cw_region ?_
  refine Ow_q rfl rfl rfl (Qt_assign rfl) ?_
  refine Ow_nil ?_
  refine Cw_seq ?_
  refine Cw_seq ?_
  refine Cw_region ?_
  obtain ⟨x761, hx762, H⟩ := bnd H
  refine Ow_cons rfl (OpW_call rfl Try.call13 rfl rfl (c_M_law14_awake  x761 hx762 _ _ ) ?_)
  rintro _ K763 _ hK764 ⟨rfl, rfl⟩
  refine Ow_q rfl rfl rfl (Qt_not rfl) ?_
  refine Ow_nil ?_
  refine Cw_cond rfl ?_ ?_
  · intro h765
    have h765 := nt_t (h765)
    have H := iff_ (btf h765) H
    refine Cw_seq ?_
    refine Cw_region ?_
    refine Ow_q rfl rfl rfl (Qt_assign rfl) ?_
    refine Ow_nil ?_
    refine Cw_ret ?_
    obtain ey0 := inj1 H
    subst y0
    refine ⟨(by first | exact .inl rfl | exact .inr rfl), [(.bool false)], ⟨(.bool false), _, rfl, rfl, rfl⟩, ?_⟩
    refine Shift.done ?_
    exact ⟨rfl, rfl⟩
  · intro h765
    have h765 := nt_f (h765)
    have H := ift h765 H
    refine Cw_skip ?_
    refine Cw_seq ?_
    refine Cw_region ?_
    refine Ow_q rfl rfl rfl (Qt_move rfl) ?_
    obtain ⟨x766, hx767, H⟩ := bnd H
    have hs768 := (hp0).mono hK764
    refine Ow_cons rfl (OpW_call rfl Try.call14 rfl rfl (c_M_draw_New p0 vp0 200 x766 hx767 _ _ hs768) ?_)
    rintro _ _ _ - ⟨b769, v770, rfl, rfl, rfl, hs771⟩
    refine Ow_q rfl rfl rfl (Qt_assign rfl) ?_
    refine Ow_nil ?_
    refine Cw_seq ?_
    refine Cw_region ?_
    refine Ow_q rfl rfl rfl (Qt_move rfl) ?_
    obtain ⟨x772, x773, x774, hx775, H⟩ := bnd3 H
    refine Ow_cons rfl (OpW_call rfl Try.call25 rfl rfl (c_M_draw_Codes_Config b769 x766 v770 x772 x773 x774 hx775 _ _ hs771) ?_)
    rintro _ K778 _ hK779 ⟨v776, v777, rfl, rfl, hs780, hs781⟩
    refine Ow_cons rfl (OpW_alloc (cs := (Config.cells (Config.mk [] [] 0) nilS nilS)) rfl rfl rfl rfl (fun b782 => ?_))
    refine Ow_cons rfl (OpW_store (vs := (Config.cells x772 v776 v777)) (all' := (Config.cells x772 v776 v777)) rfl rfl rfl rfl rfl .here rfl rfl rfl ?_)
    refine Ow_nil ?_
    refine Cw_seq ?_
    refine Cw_region ?_
    refine Ow_q rfl rfl rfl (Qt_loadA (m := 3) (cs := (Config.cells x772 v776 v777)) rfl rfl rfl rfl ⟨rfl, Rdc.blk (.head _) rfl⟩) ?_
    obtain ⟨x783, hx784, H⟩ := bnd H
    refine Ow_cons rfl (OpW_call rfl Try.call26 rfl rfl (c_M_model_New x772 v776 v777 x783 hx784 _ _ hs780 hs781) ?_)
    rintro _ K786 _ hK787 ⟨v785, rfl, rfl, hs788⟩
    refine Ow_q rfl rfl rfl (Qt_assign rfl) ?_
    refine Ow_nil ?_
    refine Cw_join (fun env' K' G' => ∃ (v823 : SV) (l824 : List (List Int)) (vs826 : List Value) (v827 : SV) (l828 : List (List Int)) (vs830 : List Value), [(3, (.pointer (some ((⟨b769, 0, none⟩ : Addr).add 0)))), (4, (.pointer (some ((⟨b782, 0, none⟩ : Addr).add 0)))), (5, (sv v785)), (6, (sv v823)), (7, (sv v827))] = env' ∧ K786 = K' ∧ (.blk b782 34 (Config.cells x772 v776 v777)) :: (.blk b769 85 (Draw_Codes.cells (Draw_Codes.mk x766.list x773 x774) v770)) :: (.row (sv v823) 32 1 (vs826.map one).flatten) :: (.tok 23 1 vs826) :: (.row (sv v827) 32 1 (vs830.map one).flatten) :: (.tok 23 1 vs830) :: (.tok 83 3 [(sv v785)]) :: (.tok 3 1 [(sv v776)]) :: (.tok 23 1 [(sv v777)]) :: G = G' ∧ M_law14_ModelOrder_J1 x783 x772 x766 x773 x774 l824 l828 = some y0 ∧ RowR (Ty.sl Ty.u64) K' (vs826.map one) l824 ∧ RowR (Ty.sl Ty.u64) K' (vs830.map one) l828) ?_ ?_
    · skip
      obtain ⟨x831, hx832, H⟩ := bnd H
      obtain ⟨x838, hx839, H⟩ := bnd H
      refine Cw_region_any [.tok 83 3 [(sv v785)], .blk b782 34 (Config.cells x772 v776 v777), .blk b769 85 (Draw_Codes.cells (Draw_Codes.mk x766.list x773 x774) v770), .tok 3 1 [(sv v776)], .tok 23 1 [(sv v777)]] rfl (Inc.cons (.head _) (Inc.cons (.tail _ (.head _)) (Inc.cons (.tail _ (.tail _ (.head _))) (Inc.cons (.tail _ (.tail _ (.tail _ (.head _)))) (Inc.cons (.tail _ (.tail _ (.tail _ (.tail _ (.head _))))) Inc.nil))))) ?_
      refine Aw_q 0 rfl (by kernel_rfl) (by kernel_rfl) (by kernel_rfl) rfl rfl rfl (Qt_move rfl) ?_
      refine Aw_q 1 rfl (by kernel_rfl) (by kernel_rfl) (by kernel_rfl) rfl rfl rfl (Q_len (T := TyChan) hs788 rfl rfl) ?_
      refine Aw_q 3 rfl (by kernel_rfl) (by kernel_rfl) (by kernel_rfl) rfl rfl rfl (Qt_move rfl) ?_
      refine Aw_q 4 rfl (by kernel_rfl) (by kernel_rfl) (by kernel_rfl) rfl rfl rfl (Q_len (T := TyChan) hs788 rfl rfl) ?_
      refine Aw_two 2 5 (by kernel_rfl) ?_ ?_
      · skip
        refine id (Ax_mk rfl rfl ?_)
        refine O_make (T := (Ty.sl Ty.u64)) (r := [(sv nilS)]) rfl rfl rfl hx832 rfl rfl rfl rfl rfl rfl rfl rfl rfl ⟨nilS, rfl, (Slr.nil Ty.u64 _)⟩ (fun v845 rs846 hR847 hz848 => ⟨(Inc.cons (.tail _ (.head _)) (Inc.cons (.tail _ (.tail _ (.head _))) (Inc.cons (.tail _ (.tail _ (.tail _ (.head _)))) (Inc.cons (.tail _ (.tail _ (.tail _ (.tail _ (.head _))))) (Inc.cons (.tail _ (.tail _ (.tail _ (.tail _ (.tail _ (.head _)))))) Inc.nil))))), ?_⟩)
        obtain ⟨vs849, hvsvs849, rfl⟩ : ∃ vs : List Value, vs = List.replicate (x783.length : Int).toNat (sv nilS) ∧ rs846 = vs.map one := ⟨_, rfl, by rw [hz848]; exact map_one_replicate.symm⟩
        refine Aw.shift (Shift.nilTokV hvsvs849 23 1  (Shift.done ⟨(Inc.cons (.tail _ (.tail _ (.head _))) (Inc.cons (.tail _ (.tail _ (.tail _ (.head _)))) (Inc.cons (.tail _ (.tail _ (.tail _ (.tail _ (.head _))))) (Inc.cons (.tail _ (.tail _ (.tail _ (.tail _ (.tail _ (.head _)))))) (Inc.cons (.tail _ (.tail _ (.tail _ (.tail _ (.tail _ (.tail _ (.head _))))))) Inc.nil))))), ?_⟩))
        refine Aw_q 6 rfl (by kernel_rfl) (by kernel_rfl) (by kernel_rfl) rfl rfl rfl (Qt_assign rfl) ?_
        refine Aw_one 5 (by kernel_rfl) (Ax_mk rfl rfl ?_)
        refine O_make (T := (Ty.sl Ty.u64)) (r := [(sv nilS)]) rfl rfl rfl hx839 rfl rfl rfl rfl rfl rfl rfl rfl rfl ⟨nilS, rfl, (Slr.nil Ty.u64 _)⟩ (fun v850 rs851 hR852 hz853 => ⟨(Inc.cons (.tail _ (.tail _ (.tail _ (.head _)))) (Inc.cons (.tail _ (.tail _ (.tail _ (.tail _ (.head _))))) (Inc.cons (.tail _ (.tail _ (.tail _ (.tail _ (.tail _ (.head _)))))) (Inc.cons (.tail _ (.tail _ (.tail _ (.tail _ (.tail _ (.tail _ (.head _))))))) (Inc.cons (.tail _ (.tail _ (.tail _ (.tail _ (.tail _ (.tail _ (.tail _ (.head _)))))))) Inc.nil))))), ?_⟩)
        obtain ⟨vs854, hvsvs854, rfl⟩ : ∃ vs : List Value, vs = List.replicate (x783.length : Int).toNat (sv nilS) ∧ rs851 = vs.map one := ⟨_, rfl, by rw [hz853]; exact map_one_replicate.symm⟩
        refine Aw.shift (Shift.nilTokV hvsvs854 23 1  (Shift.done ⟨(Inc.cons (.tail _ (.tail _ (.tail _ (.tail _ (.head _))))) (Inc.cons (.tail _ (.tail _ (.tail _ (.tail _ (.tail _ (.head _)))))) (Inc.cons (.tail _ (.tail _ (.tail _ (.tail _ (.tail _ (.tail _ (.head _))))))) (Inc.cons (.tail _ (.tail _ (.tail _ (.tail _ (.tail _ (.tail _ (.tail _ (.head _)))))))) (Inc.cons (.tail _ (.tail _ (.tail _ (.tail _ (.tail _ (.tail _ (.tail _ (.tail _ (.head _))))))))) Inc.nil))))), ?_⟩))
        refine Aw_q 7 rfl (by kernel_rfl) (by kernel_rfl) (by kernel_rfl) rfl rfl rfl (Qt_assign rfl) ?_
        refine Aw_done (by kernel_rfl) ?_
        refine Shift.pull (.there (.there (.there (.there (.there (.there (.there (.there .here)))))))) ?_
        refine Shift.pull (.there (.there (.there (.there (.there (.there (.there (.there .here)))))))) ?_
        refine Shift.pull (.there (.there (.there (.there (.there (.there .here)))))) ?_
        refine Shift.pull (.there (.there (.there .here))) ?_
        refine Shift.pull (.there (.there (.there (.there .here)))) ?_
        refine Shift.pull (.there (.there (.there (.there (.there .here))))) ?_
        refine Shift.pull (.there (.there (.there (.there (.there (.there .here)))))) ?_
        refine Shift.pull (.there (.there (.there (.there (.there (.there (.there (.there .here)))))))) ?_
        refine Shift.pull (.there (.there (.there (.there (.there (.there (.there (.there .here)))))))) ?_
        refine Shift.done ?_
        exact ⟨[(3, (.pointer (some ((⟨b769, 0, none⟩ : Addr).add 0)))), (4, (.pointer (some ((⟨b782, 0, none⟩ : Addr).add 0)))), (5, (sv v785)), (6, (sv v845)), (7, (sv v850))], ⟨rfl, rfl, rfl, rfl, rfl, trivial⟩, v845, x831, vs849, v850, x838, vs854, rfl, rfl, rfl, H, hR847, hR852⟩
      · skip
        refine id (Ax_mk rfl rfl ?_)
        refine O_make (T := (Ty.sl Ty.u64)) (r := [(sv nilS)]) rfl rfl rfl hx839 rfl rfl rfl rfl rfl rfl rfl rfl rfl ⟨nilS, rfl, (Slr.nil Ty.u64 _)⟩ (fun v855 rs856 hR857 hz858 => ⟨(Inc.cons (.tail _ (.head _)) (Inc.cons (.tail _ (.tail _ (.head _))) (Inc.cons (.tail _ (.tail _ (.tail _ (.head _)))) (Inc.cons (.tail _ (.tail _ (.tail _ (.tail _ (.head _))))) (Inc.cons (.tail _ (.tail _ (.tail _ (.tail _ (.tail _ (.head _)))))) Inc.nil))))), ?_⟩)
        obtain ⟨vs859, hvsvs859, rfl⟩ : ∃ vs : List Value, vs = List.replicate (x783.length : Int).toNat (sv nilS) ∧ rs856 = vs.map one := ⟨_, rfl, by rw [hz858]; exact map_one_replicate.symm⟩
        refine Aw.shift (Shift.nilTokV hvsvs859 23 1  (Shift.done ⟨(Inc.cons (.tail _ (.tail _ (.head _))) (Inc.cons (.tail _ (.tail _ (.tail _ (.head _)))) (Inc.cons (.tail _ (.tail _ (.tail _ (.tail _ (.head _))))) (Inc.cons (.tail _ (.tail _ (.tail _ (.tail _ (.tail _ (.head _)))))) (Inc.cons (.tail _ (.tail _ (.tail _ (.tail _ (.tail _ (.tail _ (.head _))))))) Inc.nil))))), ?_⟩))
        refine Aw_one 2 (by kernel_rfl) (Ax_mk rfl rfl ?_)
        refine O_make (T := (Ty.sl Ty.u64)) (r := [(sv nilS)]) rfl rfl rfl hx832 rfl rfl rfl rfl rfl rfl rfl rfl rfl ⟨nilS, rfl, (Slr.nil Ty.u64 _)⟩ (fun v860 rs861 hR862 hz863 => ⟨(Inc.cons (.tail _ (.tail _ (.tail _ (.head _)))) (Inc.cons (.tail _ (.tail _ (.tail _ (.tail _ (.head _))))) (Inc.cons (.tail _ (.tail _ (.tail _ (.tail _ (.tail _ (.head _)))))) (Inc.cons (.tail _ (.tail _ (.tail _ (.tail _ (.tail _ (.tail _ (.head _))))))) (Inc.cons (.tail _ (.tail _ (.tail _ (.tail _ (.tail _ (.tail _ (.tail _ (.head _)))))))) Inc.nil))))), ?_⟩)
        obtain ⟨vs864, hvsvs864, rfl⟩ : ∃ vs : List Value, vs = List.replicate (x783.length : Int).toNat (sv nilS) ∧ rs861 = vs.map one := ⟨_, rfl, by rw [hz863]; exact map_one_replicate.symm⟩
        refine Aw.shift (Shift.nilTokV hvsvs864 23 1  (Shift.done ⟨(Inc.cons (.tail _ (.tail _ (.tail _ (.tail _ (.head _))))) (Inc.cons (.tail _ (.tail _ (.tail _ (.tail _ (.tail _ (.head _)))))) (Inc.cons (.tail _ (.tail _ (.tail _ (.tail _ (.tail _ (.tail _ (.head _))))))) (Inc.cons (.tail _ (.tail _ (.tail _ (.tail _ (.tail _ (.tail _ (.tail _ (.head _)))))))) (Inc.cons (.tail _ (.tail _ (.tail _ (.tail _ (.tail _ (.tail _ (.tail _ (.tail _ (.head _))))))))) Inc.nil))))), ?_⟩))
        refine Aw_q 6 rfl (by kernel_rfl) (by kernel_rfl) (by kernel_rfl) rfl rfl rfl (Qt_assign rfl) ?_
        refine Aw_q 7 rfl (by kernel_rfl) (by kernel_rfl) (by kernel_rfl) rfl rfl rfl (Qt_assign rfl) ?_
        refine Aw_done (by kernel_rfl) ?_
        refine Shift.pull (.there (.there (.there (.there (.there (.there (.there (.there .here)))))))) ?_
        refine Shift.pull (.there (.there (.there (.there (.there (.there (.there (.there .here)))))))) ?_
        refine Shift.pull (.there (.there (.there (.there (.there (.there .here)))))) ?_
        refine Shift.pull (.there (.there (.there (.there (.there .here))))) ?_
        refine Shift.pull (.there (.there (.there (.there (.there (.there .here)))))) ?_
        refine Shift.pull (.there (.there (.there (.there (.there .here))))) ?_
        refine Shift.pull (.there (.there (.there (.there (.there (.there .here)))))) ?_
        refine Shift.pull (.there (.there (.there (.there (.there (.there (.there (.there .here)))))))) ?_
        refine Shift.pull (.there (.there (.there (.there (.there (.there (.there (.there .here)))))))) ?_
        refine Shift.done ?_
        exact ⟨[(3, (.pointer (some ((⟨b769, 0, none⟩ : Addr).add 0)))), (4, (.pointer (some ((⟨b782, 0, none⟩ : Addr).add 0)))), (5, (sv v785)), (6, (sv v860)), (7, (sv v855))], ⟨rfl, rfl, rfl, rfl, rfl, trivial⟩, v860, x831, vs864, v855, x838, vs859, rfl, rfl, rfl, H, hR862, hR857⟩
    rintro _ _ _ - ⟨v823, l824, vs826, v827, l828, vs830, rfl, rfl, rfl, H, hR825, hR829⟩
    unfold M_law14_ModelOrder_J1 at H
    refine Cw_seq ?_
    refine Cw_region ?_
    refine Ow_q rfl rfl rfl (Qt_move rfl) ?_
    refine Ow_q rfl rfl rfl (Q_len (T := TyChan) hs788 rfl rfl) ?_
    obtain ⟨x865, hx866, H⟩ := bnd H
    refine Ow_cons rfl (O_make (T := Ty.bool) (r := [(.bool false)]) rfl rfl rfl hx866 rfl rfl rfl rfl rfl rfl rfl rfl rfl rfl (fun v867 rs868 hR869 hz870 => ?_))
    refine Ow_q rfl rfl rfl (Qt_assign rfl) ?_
    refine Ow_nil ?_
    refine Cw_join (fun env' K' G' => [] = env' ∧ G = G' ∧ M_law14_ModelOrder_J2 = some y0) ?_ ?_
    · skip
      refine Cw_seq ?_
      refine Cw_region ?_
      refine Ow_q rfl rfl rfl (Qt_assign rfl) ?_
      refine Ow_nil ?_
      refine Cw_block ?_
      refine Cw_loopM (fun n2219 env' K' G' => ∃ (v2204 : SV) (l2205 : List Chan) (l2207 : List (List Int)) (vs2209 : List Value) (l2210 : List (List Int)) (vs2212 : List Value) (l2213 : List Bool) (rs2215 : List (List Value)) (i2216 : Int) (i2217 : Int) (i2218 : Int), [(3, (.pointer (some ((⟨b769, 0, none⟩ : Addr).add 0)))), (4, (.pointer (some ((⟨b782, 0, none⟩ : Addr).add 0)))), (5, (sv v2204)), (6, (sv v823)), (7, (sv v827)), (8, (sv v867)), (9, (.int .i64 i2216))] = env' ∧ (.blk b782 34 (Config.cells x772 v776 v777)) :: (.blk b769 85 (Draw_Codes.cells (Draw_Codes.mk x766.list i2217 i2218) v770)) :: (.row (sv v823) 32 1 (vs2209.map one).flatten) :: (.tok 23 1 vs2209) :: (.row (sv v827) 32 1 (vs2212.map one).flatten) :: (.tok 23 1 vs2212) :: (.row (sv v867) 4 1 rs2215.flatten) :: (.tok 3 1 [(sv v776)]) :: (.tok 23 1 [(sv v777)]) :: G = G' ∧ lp7 (M_law14_ModelOrder_L1 x772 x766) n2219 l2205 l2207 l2210 l2213 i2216 i2217 i2218 = some y0 ∧ Slr TyChan K' (sv v2204) l2205 ∧ RowR (Ty.sl Ty.u64) K' (vs2209.map one) l2207 ∧ RowR (Ty.sl Ty.u64) K' (vs2212.map one) l2210 ∧ RowR Ty.bool K' rs2215 l2213) BIG ?_ ?_
      · skip
        refine Shift.pull (.there (.there (.there (.there (.there (.there (.there (.there (.there .here))))))))) ?_
        refine Shift.pull (.there (.there (.there (.there (.there (.there (.there (.there (.there .here))))))))) ?_
        refine Shift.pull (.there (.there .here)) ?_
        refine Shift.pull (.there (.there (.there (.there (.there (.there (.there (.there .here)))))))) ?_
        refine Shift.pull (.there (.there (.there (.there (.there (.there (.there (.there .here)))))))) ?_
        refine Shift.pull (.there (.there (.there (.there (.there (.there (.there (.there .here)))))))) ?_
        refine Shift.pull (.there (.there (.there (.there (.there (.there (.there (.there .here)))))))) ?_
        refine Shift.pull (.there (.there (.there (.there (.there (.there (.there (.there .here)))))))) ?_
        refine Shift.pull (.there (.there (.there (.there (.there (.there (.there (.there .here)))))))) ?_
        refine Shift.rem (.there (.there (.there (.there (.there (.there (.there (.there (.there .here))))))))) ?_
        refine Shift.done ?_
        exact ⟨[(3, (.pointer (some ((⟨b769, 0, none⟩ : Addr).add 0)))), (4, (.pointer (some ((⟨b782, 0, none⟩ : Addr).add 0)))), (5, (sv v785)), (6, (sv v823)), (7, (sv v827)), (8, (sv v867)), (9, (.int .i64 0))], ⟨rfl, rfl, rfl, rfl, rfl, rfl, rfl, trivial⟩, v785, x783, l824, vs826, l828, vs830, x865, rs868, 0, x773, x774, rfl, rfl, H, hs788, hR825, hR829, hR869⟩
      rintro n2219 _ K2220 _ hK2221 ⟨v2204, l2205, l2207, vs2209, l2210, vs2212, l2213, rs2215, i2216, i2217, i2218, rfl, rfl, H, hs2206, hR2208, hR2211, hR2214⟩
      obtain ⟨m2222, k2223, rfl, hkk2224, H⟩ := lps7 H
      unfold M_law14_ModelOrder_L1 at H
      refine Cw_seq ?_
      refine Cw_seq ?_
      refine Cw_region ?_
      refine Ow_q rfl rfl rfl (Qt_move rfl) ?_
      refine Ow_q rfl rfl rfl (Qt_cmp rfl rfl rfl) ?_
      refine Ow_nil ?_
      refine Cw_cond rfl ?_ ?_
      · intro h2226
        have h2226 := dcd_t (h2226)
        have H := ift h2226 H
        refine Cw_skip ?_
        refine Cw_seq ?_
        refine Cw_block ?_
        refine Cw_seq ?_
        refine Cw_region ?_
        refine Ow_q rfl rfl rfl (Qt_move rfl) ?_
        refine Ow_q rfl rfl rfl (Qt_move rfl) ?_
        refine Ow_q rfl rfl rfl (Q_len (T := TyChan) hs2206 rfl rfl) ?_
        obtain ⟨x2544, x2545, hx2546, H⟩ := bnd2 H
        refine Ow.shift (Shift.pull (.there .here) (Shift.done ?_))
        have hs2547 := (((hs771).mono hK779).mono hK787).mono hK2221
        refine Ow_cons rfl (OpW_call rfl Try.call27 rfl rfl (c_M_draw_Codes_Next b769 (Draw_Codes.mk x766.list i2217 i2218) v770 (l2205.length : Int) x2544 x2545 hx2546 _ _ hs2547) ?_)
        rintro _ _ _ - ⟨rfl, rfl, rfl⟩
        refine Ow_q rfl rfl rfl (Qt_assign rfl) ?_
        refine Ow_nil ?_
        refine Cw_seq ?_
        refine Cw_region ?_
        refine Ow_q rfl rfl rfl (Qt_move rfl) ?_
        obtain ⟨x2548, x2549, hx2550, H⟩ := bnd2 H
        refine Ow_cons rfl (OpW_call rfl Try.call28 rfl rfl (c_M_draw_Codes_Value b769 (Draw_Codes.mk x766.list x2545 ((Draw_Codes.mk x766.list i2217 i2218).value)) v770 x2548 x2549 hx2550 _ _ hs2547) ?_)
        rintro _ _ _ - ⟨rfl, rfl, rfl⟩
        refine Ow_q rfl rfl rfl (Qt_assign rfl) ?_
        refine Ow_nil ?_
        refine Cw_seq ?_
        refine Cw_region ?_
        refine Ow_q rfl rfl rfl (Qt_move rfl) ?_
        refine Ow_q rfl rfl rfl (Qt_move rfl) ?_
        refine Ow_q rfl rfl rfl (Qt_build (cs := (Op.cells (Op.mk 1 0 x2544 x2548 0 [] []) nilS nilS)) rfl rfl rfl rfl rfl rfl) ?_
        refine Ow_q rfl rfl rfl (Qt_build (cs := (Result.cells (Result.mk 1 (-1) 0 false 0))) rfl rfl rfl rfl rfl rfl) ?_
        refine Ow_cons rfl (OpW_alloc (cs := (Op.cells (Op.mk 0 0 0 0 0 [] []) nilS nilS)) rfl rfl rfl rfl (fun b2551 => ?_))
        refine Ow_cons rfl (OpW_alloc (cs := (Result.cells (Result.mk 0 0 0 false 0))) rfl rfl rfl rfl (fun b2552 => ?_))
        refine Ow_cons rfl (OpW_store (vs := (Op.cells (Op.mk 1 0 x2544 x2548 0 [] []) nilS nilS)) (all' := (Op.cells (Op.mk 1 0 x2544 x2548 0 [] []) nilS nilS)) rfl rfl rfl rfl rfl (.there .here) rfl rfl rfl ?_)
        refine Ow_cons rfl (OpW_store (vs := (Result.cells (Result.mk 1 (-1) 0 false 0))) (all' := (Result.cells (Result.mk 1 (-1) 0 false 0))) rfl rfl rfl rfl rfl .here rfl rfl rfl ?_)
        refine Ow_nil ?_
        refine Cw_join (fun env' K' G' => ∃ (i2626 : Int) (i2627 : Int) (t2628 : Bool) (i2629 : Int) (i2630 : Int) (i2631 : Int), [(3, (.pointer (some ((⟨b769, 0, none⟩ : Addr).add 0)))), (4, (.pointer (some ((⟨b782, 0, none⟩ : Addr).add 0)))), (5, (sv v2204)), (6, (sv v823)), (7, (sv v827)), (8, (sv v867)), (9, (.int .i64 i2216)), (10, (.int .i64 x2544)), (11, (.int .u64 x2548)), (12, (.pointer (some ((⟨b2551, 0, none⟩ : Addr).add 0)))), (13, (.pointer (some ((⟨b2552, 0, none⟩ : Addr).add 0))))] = env' ∧ K2220 = K' ∧ (.blk b2552 25 (Result.cells (Result.mk i2626 (-1) i2627 t2628 0))) :: (.blk b2551 38 (Op.cells (Op.mk i2629 0 x2544 i2630 0 [] []) nilS nilS)) :: (.blk b782 34 (Config.cells x772 v776 v777)) :: (.blk b769 85 (Draw_Codes.cells (Draw_Codes.mk x766.list i2631 ((Draw_Codes.mk x766.list ((Draw_Codes.mk x766.list x2545 ((Draw_Codes.mk x766.list i2217 i2218).value)).at_) x2549).value)) v770)) :: (.row (sv v823) 32 1 (vs2209.map one).flatten) :: (.tok 23 1 vs2209) :: (.row (sv v827) 32 1 (vs2212.map one).flatten) :: (.tok 23 1 vs2212) :: (.row (sv v867) 4 1 rs2215.flatten) :: (.tok 3 1 [(sv v776)]) :: (.tok 23 1 [(sv v777)]) :: G = G' ∧ M_law14_ModelOrder_J3 l2205 l2207 l2210 l2213 i2216 x2544 x2548 x772 x766 x2545 i2217 i2218 x2549 k2223 i2626 i2627 t2628 i2629 i2630 i2631 = some y0) ?_ ?_
        · skip
          refine Cw_seq ?_
          refine Cw_region ?_
          refine Ow_q rfl rfl rfl (Qt_move rfl) ?_
          obtain ⟨x2632, x2633, hx2634, H⟩ := bnd2 H
          refine Ow.shift (Shift.pull (.there (.there .here)) (Shift.done ?_))
          refine Ow_cons rfl (OpW_call rfl Try.call27 rfl rfl (c_M_draw_Codes_Next b769 (Draw_Codes.mk x766.list ((Draw_Codes.mk x766.list x2545 ((Draw_Codes.mk x766.list i2217 i2218).value)).at_) x2549) v770 8 x2632 x2633 hx2634 _ _ hs2547) ?_)
          rintro _ _ _ - ⟨rfl, rfl, rfl⟩
          refine Ow_nil ?_
          refine Cw_block ?_
          refine Cw_join (fun env' K' G' => ∃ (t2637 : Bool), [(3, (.pointer (some ((⟨b769, 0, none⟩ : Addr).add 0)))), (4, (.pointer (some ((⟨b782, 0, none⟩ : Addr).add 0)))), (5, (sv v2204)), (6, (sv v823)), (7, (sv v827)), (8, (sv v867)), (9, (.int .i64 i2216)), (10, (.int .i64 x2544)), (11, (.int .u64 x2548)), (12, (.pointer (some ((⟨b2551, 0, none⟩ : Addr).add 0)))), (13, (.pointer (some ((⟨b2552, 0, none⟩ : Addr).add 0)))), (49, (.int .i64 x2632)), (50, (.bool t2637))] = env' ∧ K2220 = K' ∧ (.blk b2552 25 (Result.cells (Result.mk 1 (-1) 0 false 0))) :: (.blk b2551 38 (Op.cells (Op.mk 1 0 x2544 x2548 0 [] []) nilS nilS)) :: (.blk b782 34 (Config.cells x772 v776 v777)) :: (.blk b769 85 (Draw_Codes.cells (Draw_Codes.mk x766.list x2633 ((Draw_Codes.mk x766.list ((Draw_Codes.mk x766.list x2545 ((Draw_Codes.mk x766.list i2217 i2218).value)).at_) x2549).value)) v770)) :: (.row (sv v823) 32 1 (vs2209.map one).flatten) :: (.tok 23 1 vs2209) :: (.row (sv v827) 32 1 (vs2212.map one).flatten) :: (.tok 23 1 vs2212) :: (.row (sv v867) 4 1 rs2215.flatten) :: (.tok 3 1 [(sv v776)]) :: (.tok 23 1 [(sv v777)]) :: G = G' ∧ M_law14_ModelOrder_J4 l2205 l2207 l2210 l2213 i2216 x2544 x2548 x2632 x772 x766 x2633 x2545 i2217 i2218 x2549 k2223 t2637 = some y0) ?_ ?_
          · skip
            refine Cw_seq ?_
            refine Cw_region ?_
            refine Ow_q rfl rfl rfl (Qt_cmp rfl rfl rfl) ?_
            refine Ow_q rfl rfl rfl (Qt_assign rfl) ?_
            refine Ow_nil ?_
            refine Cw_cond rfl ?_ ?_
            · intro h2638
              have h2638 := dcd_t (h2638)
              have H := ift h2638 H
              refine Cw_skip ?_
              refine Shift.pull (.there (.there (.there (.there (.there (.there (.there (.there (.there (.there .here)))))))))) ?_
              refine Shift.pull (.there (.there (.there (.there (.there (.there (.there (.there (.there (.there .here)))))))))) ?_
              refine Shift.pull (.there (.there (.there (.there (.there (.there (.there (.there (.there (.there .here)))))))))) ?_
              refine Shift.pull (.there (.there (.there (.there (.there (.there (.there (.there (.there (.there .here)))))))))) ?_
              refine Shift.pull (.there (.there (.there (.there (.there (.there (.there (.there (.there (.there .here)))))))))) ?_
              refine Shift.pull (.there (.there (.there (.there (.there (.there (.there (.there (.there (.there .here)))))))))) ?_
              refine Shift.pull (.there (.there (.there (.there (.there (.there (.there (.there (.there (.there .here)))))))))) ?_
              refine Shift.pull (.there (.there (.there (.there (.there (.there (.there .here))))))) ?_
              refine Shift.pull (.there (.there (.there (.there (.there (.there (.there (.there (.there (.there .here)))))))))) ?_
              refine Shift.pull (.there (.there (.there (.there (.there (.there (.there (.there (.there (.there .here)))))))))) ?_
              refine Shift.pull (.there (.there (.there (.there (.there (.there (.there (.there (.there (.there .here)))))))))) ?_
              refine Shift.done ?_
              exact ⟨[(3, (.pointer (some ((⟨b769, 0, none⟩ : Addr).add 0)))), (4, (.pointer (some ((⟨b782, 0, none⟩ : Addr).add 0)))), (5, (sv v2204)), (6, (sv v823)), (7, (sv v827)), (8, (sv v867)), (9, (.int .i64 i2216)), (10, (.int .i64 x2544)), (11, (.int .u64 x2548)), (12, (.pointer (some ((⟨b2551, 0, none⟩ : Addr).add 0)))), (13, (.pointer (some ((⟨b2552, 0, none⟩ : Addr).add 0)))), (49, (.int .i64 x2632)), (50, (.bool (dcd (x2632 = 3))))], ⟨rfl, rfl, rfl, rfl, rfl, rfl, rfl, rfl, rfl, rfl, rfl, rfl, rfl, trivial⟩, (dcd (x2632 = 3)), rfl, rfl, rfl, H⟩
            · intro h2638
              have h2638 := dcd_f (h2638)
              have H := iff_ h2638 H
              refine Cw_seq ?_
              refine Cw_region ?_
              refine Ow_q rfl rfl rfl (Qt_cmp rfl rfl rfl) ?_
              refine Ow_q rfl rfl rfl (Qt_assign rfl) ?_
              refine Ow_nil ?_
              refine Cw_cond rfl ?_ ?_
              · intro h2639
                have h2639 := dcd_t (h2639)
                have H := ift h2639 H
                refine Cw_skip ?_
                refine Shift.pull (.there (.there (.there (.there (.there (.there (.there (.there (.there (.there .here)))))))))) ?_
                refine Shift.pull (.there (.there (.there (.there (.there (.there (.there (.there (.there (.there .here)))))))))) ?_
                refine Shift.pull (.there (.there (.there (.there (.there (.there (.there (.there (.there (.there .here)))))))))) ?_
                refine Shift.pull (.there (.there (.there (.there (.there (.there (.there (.there (.there (.there .here)))))))))) ?_
                refine Shift.pull (.there (.there (.there (.there (.there (.there (.there (.there (.there (.there .here)))))))))) ?_
                refine Shift.pull (.there (.there (.there (.there (.there (.there (.there (.there (.there (.there .here)))))))))) ?_
                refine Shift.pull (.there (.there (.there (.there (.there (.there (.there (.there (.there (.there .here)))))))))) ?_
                refine Shift.pull (.there (.there (.there (.there (.there (.there (.there .here))))))) ?_
                refine Shift.pull (.there (.there (.there (.there (.there (.there (.there (.there (.there (.there .here)))))))))) ?_
                refine Shift.pull (.there (.there (.there (.there (.there (.there (.there (.there (.there (.there .here)))))))))) ?_
                refine Shift.pull (.there (.there (.there (.there (.there (.there (.there (.there (.there (.there .here)))))))))) ?_
                refine Shift.done ?_
                exact ⟨[(3, (.pointer (some ((⟨b769, 0, none⟩ : Addr).add 0)))), (4, (.pointer (some ((⟨b782, 0, none⟩ : Addr).add 0)))), (5, (sv v2204)), (6, (sv v823)), (7, (sv v827)), (8, (sv v867)), (9, (.int .i64 i2216)), (10, (.int .i64 x2544)), (11, (.int .u64 x2548)), (12, (.pointer (some ((⟨b2551, 0, none⟩ : Addr).add 0)))), (13, (.pointer (some ((⟨b2552, 0, none⟩ : Addr).add 0)))), (49, (.int .i64 x2632)), (50, (.bool (dcd (x2632 = 4))))], ⟨rfl, rfl, rfl, rfl, rfl, rfl, rfl, rfl, rfl, rfl, rfl, rfl, rfl, trivial⟩, (dcd (x2632 = 4)), rfl, rfl, rfl, H⟩
              · intro h2639
                have h2639 := dcd_f (h2639)
                have H := iff_ h2639 H
                refine Cw_region ?_
                refine Ow_q rfl rfl rfl (Qt_cmp rfl rfl rfl) ?_
                refine Ow_q rfl rfl rfl (Qt_assign rfl) ?_
                refine Ow_nil ?_
                refine Shift.pull (.there (.there (.there (.there (.there (.there (.there (.there (.there (.there .here)))))))))) ?_
                refine Shift.pull (.there (.there (.there (.there (.there (.there (.there (.there (.there (.there .here)))))))))) ?_
                refine Shift.pull (.there (.there (.there (.there (.there (.there (.there (.there (.there (.there .here)))))))))) ?_
                refine Shift.pull (.there (.there (.there (.there (.there (.there (.there (.there (.there (.there .here)))))))))) ?_
                refine Shift.pull (.there (.there (.there (.there (.there (.there (.there (.there (.there (.there .here)))))))))) ?_
                refine Shift.pull (.there (.there (.there (.there (.there (.there (.there (.there (.there (.there .here)))))))))) ?_
                refine Shift.pull (.there (.there (.there (.there (.there (.there (.there (.there (.there (.there .here)))))))))) ?_
                refine Shift.pull (.there (.there (.there (.there (.there (.there (.there .here))))))) ?_
                refine Shift.pull (.there (.there (.there (.there (.there (.there (.there (.there (.there (.there .here)))))))))) ?_
                refine Shift.pull (.there (.there (.there (.there (.there (.there (.there (.there (.there (.there .here)))))))))) ?_
                refine Shift.pull (.there (.there (.there (.there (.there (.there (.there (.there (.there (.there .here)))))))))) ?_
                refine Shift.done ?_
                exact ⟨[(3, (.pointer (some ((⟨b769, 0, none⟩ : Addr).add 0)))), (4, (.pointer (some ((⟨b782, 0, none⟩ : Addr).add 0)))), (5, (sv v2204)), (6, (sv v823)), (7, (sv v827)), (8, (sv v867)), (9, (.int .i64 i2216)), (10, (.int .i64 x2544)), (11, (.int .u64 x2548)), (12, (.pointer (some ((⟨b2551, 0, none⟩ : Addr).add 0)))), (13, (.pointer (some ((⟨b2552, 0, none⟩ : Addr).add 0)))), (49, (.int .i64 x2632)), (50, (.bool (dcd (x2632 = 5))))], ⟨rfl, rfl, rfl, rfl, rfl, rfl, rfl, rfl, rfl, rfl, rfl, rfl, rfl, trivial⟩, (dcd (x2632 = 5)), rfl, rfl, rfl, H⟩
          rintro _ _ _ - ⟨t2637, rfl, rfl, rfl, H⟩
          unfold M_law14_ModelOrder_J4 at H
          refine Cw_cond rfl ?_ ?_
          · intro h2640
            have H := ift h2640 H
            refine Cw_seq ?_
            refine Cw_region ?_
            refine Ow_q rfl rfl rfl (Qt_move rfl) ?_
            refine Ow_q rfl rfl rfl (Qt_build (cs := (Op.cells (Op.mk 2 0 x2544 0 0 [] []) nilS nilS)) rfl rfl rfl rfl rfl rfl) ?_
            refine Ow_q rfl rfl rfl (Qt_build (cs := (Result.cells (Result.mk 2 (-1) 0 true 0))) rfl rfl rfl rfl rfl rfl) ?_
            refine Ow_cons rfl (OpW_store (vs := (Op.cells (Op.mk 2 0 x2544 0 0 [] []) nilS nilS)) (all' := (Op.cells (Op.mk 2 0 x2544 0 0 [] []) nilS nilS)) rfl rfl rfl rfl rfl (.there .here) rfl rfl rfl ?_)
            refine Ow_cons rfl (OpW_store (vs := (Result.cells (Result.mk 2 (-1) 0 true 0))) (all' := (Result.cells (Result.mk 2 (-1) 0 true 0))) rfl rfl rfl rfl rfl .here rfl rfl rfl ?_)
            refine Ow_nil ?_
            refine Cw_seq ?_
            obtain ⟨x2641, hx2642, H⟩ := bnd H
            obtain ⟨x2649, hx2650, H⟩ := bnd H
            refine Cw_region_any [.blk b2552 25 (Result.cells (Result.mk 2 (-1) 0 true 0)), .blk b2551 38 (Op.cells (Op.mk 2 0 x2544 0 0 [] []) nilS nilS), .blk b782 34 (Config.cells x772 v776 v777), .blk b769 85 (Draw_Codes.cells (Draw_Codes.mk x766.list x2633 ((Draw_Codes.mk x766.list ((Draw_Codes.mk x766.list x2545 ((Draw_Codes.mk x766.list i2217 i2218).value)).at_) x2549).value)) v770), .row (sv v823) 32 1 (vs2209.map one).flatten, .tok 23 1 vs2209, .row (sv v827) 32 1 (vs2212.map one).flatten, .tok 23 1 vs2212, .row (sv v867) 4 1 rs2215.flatten, .tok 3 1 [(sv v776)], .tok 23 1 [(sv v777)]] rfl (Inc.cons (.head _) (Inc.cons (.tail _ (.head _)) (Inc.cons (.tail _ (.tail _ (.head _))) (Inc.cons (.tail _ (.tail _ (.tail _ (.head _)))) (Inc.cons (.tail _ (.tail _ (.tail _ (.tail _ (.head _))))) (Inc.cons (.tail _ (.tail _ (.tail _ (.tail _ (.tail _ (.head _)))))) (Inc.cons (.tail _ (.tail _ (.tail _ (.tail _ (.tail _ (.tail _ (.head _))))))) (Inc.cons (.tail _ (.tail _ (.tail _ (.tail _ (.tail _ (.tail _ (.tail _ (.head _)))))))) (Inc.cons (.tail _ (.tail _ (.tail _ (.tail _ (.tail _ (.tail _ (.tail _ (.tail _ (.head _))))))))) (Inc.cons (.tail _ (.tail _ (.tail _ (.tail _ (.tail _ (.tail _ (.tail _ (.tail _ (.tail _ (.head _)))))))))) (Inc.cons (.tail _ (.tail _ (.tail _ (.tail _ (.tail _ (.tail _ (.tail _ (.tail _ (.tail _ (.tail _ (.head _))))))))))) Inc.nil))))))))))) ?_
            refine Aw_q 0 rfl (by kernel_rfl) (by kernel_rfl) (by kernel_rfl) rfl rfl rfl (Qt_move rfl) ?_
            refine Aw_q 1 rfl (by kernel_rfl) (by kernel_rfl) (by kernel_rfl) rfl rfl rfl (Qt_move rfl) ?_
            obtain ⟨r2657, hq2658, hr2659⟩ := RowR.at hR2208 hx2642
            obtain ⟨v2660, rfl, hs2661⟩ := hr2659
            have hv2662 := map_one_at hq2658
            refine Aw_q 2 rfl (by kernel_rfl) (by kernel_rfl) (by kernel_rfl) rfl rfl rfl (Q_ixR (T := (Ty.sl Ty.u64)) (.tail _ (.tail _ (.tail _ (.tail _ (.head _))))) hR2208 hq2658 (getI_ix hx2642).1 rfl rfl rfl rfl rfl) ?_
            refine Aw_q 3 rfl (by kernel_rfl) (by kernel_rfl) (by kernel_rfl) rfl rfl rfl (Qt_load1 (v := (sv v2660)) rfl rfl rfl (Rd_row (T := (Ty.sl Ty.u64)) (.tail _ (.tail _ (.tail _ (.tail _ (.head _))))) hR2208 hq2658 rfl rfl)) ?_
            refine Aw_q 4 rfl (by kernel_rfl) (by kernel_rfl) (by kernel_rfl) rfl rfl rfl (Q_len (T := Ty.u64) hs2661 rfl rfl) ?_
            refine Aw_q 5 rfl (by kernel_rfl) (by kernel_rfl) (by kernel_rfl) rfl rfl rfl (Qt_move rfl) ?_
            refine Aw_q 6 rfl (by kernel_rfl) (by kernel_rfl) (by kernel_rfl) rfl rfl rfl (Qt_move rfl) ?_
            obtain ⟨r2663, hq2664, hr2665⟩ := RowR.at hR2211 hx2650
            obtain ⟨v2666, rfl, hs2667⟩ := hr2665
            have hv2668 := map_one_at hq2664
            refine Aw_q 7 rfl (by kernel_rfl) (by kernel_rfl) (by kernel_rfl) rfl rfl rfl (Q_ixR (T := (Ty.sl Ty.u64)) (.tail _ (.tail _ (.tail _ (.tail _ (.tail _ (.tail _ (.head _))))))) hR2211 hq2664 (getI_ix hx2650).1 rfl rfl rfl rfl rfl) ?_
            refine Aw_q 8 rfl (by kernel_rfl) (by kernel_rfl) (by kernel_rfl) rfl rfl rfl (Qt_load1 (v := (sv v2666)) rfl rfl rfl (Rd_row (T := (Ty.sl Ty.u64)) (.tail _ (.tail _ (.tail _ (.tail _ (.tail _ (.tail _ (.head _))))))) hR2211 hq2664 rfl rfl)) ?_
            refine Aw_q 9 rfl (by kernel_rfl) (by kernel_rfl) (by kernel_rfl) rfl rfl rfl (Q_len (T := Ty.u64) hs2667 rfl rfl) ?_
            refine Aw_q 10 rfl (by kernel_rfl) (by kernel_rfl) (by kernel_rfl) rfl rfl rfl (Qt_cmp rfl rfl rfl) ?_
            refine Aw_done (by kernel_rfl) ?_
            refine Cw_cond rfl ?_ ?_
            · intro h2669
              have h2669 := dcd_t (h2669)
              have H := ift h2669 H
              obtain ⟨x2670, hx2671, H⟩ := bnd H
              obtain ⟨x2678, hx2679, H⟩ := bnd H
              obtain ⟨x2686, hx2687, H⟩ := bnd H
              refine Cw_region_any [.blk b2551 38 (Op.cells (Op.mk 2 0 x2544 0 0 [] []) nilS nilS), .blk b782 34 (Config.cells x772 v776 v777), .blk b769 85 (Draw_Codes.cells (Draw_Codes.mk x766.list x2633 ((Draw_Codes.mk x766.list ((Draw_Codes.mk x766.list x2545 ((Draw_Codes.mk x766.list i2217 i2218).value)).at_) x2549).value)) v770), .row (sv v823) 32 1 (vs2209.map one).flatten, .tok 23 1 vs2209, .row (sv v827) 32 1 (vs2212.map one).flatten, .tok 23 1 vs2212, .row (sv v867) 4 1 rs2215.flatten, .tok 3 1 [(sv v776)], .tok 23 1 [(sv v777)]] rfl (Inc.cons (.tail _ (.head _)) (Inc.cons (.tail _ (.tail _ (.head _))) (Inc.cons (.tail _ (.tail _ (.tail _ (.head _)))) (Inc.cons (.tail _ (.tail _ (.tail _ (.tail _ (.head _))))) (Inc.cons (.tail _ (.tail _ (.tail _ (.tail _ (.tail _ (.head _)))))) (Inc.cons (.tail _ (.tail _ (.tail _ (.tail _ (.tail _ (.tail _ (.head _))))))) (Inc.cons (.tail _ (.tail _ (.tail _ (.tail _ (.tail _ (.tail _ (.tail _ (.head _)))))))) (Inc.cons (.tail _ (.tail _ (.tail _ (.tail _ (.tail _ (.tail _ (.tail _ (.tail _ (.head _))))))))) (Inc.cons (.tail _ (.tail _ (.tail _ (.tail _ (.tail _ (.tail _ (.tail _ (.tail _ (.tail _ (.head _)))))))))) (Inc.cons (.tail _ (.tail _ (.tail _ (.tail _ (.tail _ (.tail _ (.tail _ (.tail _ (.tail _ (.tail _ (.head _))))))))))) Inc.nil)))))))))) ?_
              refine Aw_q 0 rfl (by kernel_rfl) (by kernel_rfl) (by kernel_rfl) rfl rfl rfl (Qt_move rfl) ?_
              refine Aw_q 1 rfl (by kernel_rfl) (by kernel_rfl) (by kernel_rfl) rfl rfl rfl (Qt_move rfl) ?_
              obtain ⟨r2691, hq2692, hr2693⟩ := RowR.at hR2208 hx2671
              obtain ⟨v2694, rfl, hs2695⟩ := hr2693
              have hv2696 := map_one_at hq2692
              refine Aw_q 2 rfl (by kernel_rfl) (by kernel_rfl) (by kernel_rfl) rfl rfl rfl (Q_ixR (T := (Ty.sl Ty.u64)) (.tail _ (.tail _ (.tail _ (.head _)))) hR2208 hq2692 (getI_ix hx2671).1 rfl rfl rfl rfl rfl) ?_
              refine Aw_q 3 rfl (by kernel_rfl) (by kernel_rfl) (by kernel_rfl) rfl rfl rfl (Qt_load1 (v := (sv v2694)) rfl rfl rfl (Rd_row (T := (Ty.sl Ty.u64)) (.tail _ (.tail _ (.tail _ (.head _)))) hR2208 hq2692 rfl rfl)) ?_
              refine Aw_q 4 rfl (by kernel_rfl) (by kernel_rfl) (by kernel_rfl) rfl rfl rfl (Qt_move rfl) ?_
              refine Aw_q 5 rfl (by kernel_rfl) (by kernel_rfl) (by kernel_rfl) rfl rfl rfl (Qt_move rfl) ?_
              obtain ⟨r2697, hq2698, hr2699⟩ := RowR.at hR2211 hx2679
              obtain ⟨v2700, rfl, hs2701⟩ := hr2699
              have hv2702 := map_one_at hq2698
              refine Aw_q 6 rfl (by kernel_rfl) (by kernel_rfl) (by kernel_rfl) rfl rfl rfl (Q_ixR (T := (Ty.sl Ty.u64)) (.tail _ (.tail _ (.tail _ (.tail _ (.tail _ (.head _)))))) hR2211 hq2698 (getI_ix hx2679).1 rfl rfl rfl rfl rfl) ?_
              refine Aw_q 7 rfl (by kernel_rfl) (by kernel_rfl) (by kernel_rfl) rfl rfl rfl (Qt_load1 (v := (sv v2700)) rfl rfl rfl (Rd_row (T := (Ty.sl Ty.u64)) (.tail _ (.tail _ (.tail _ (.tail _ (.tail _ (.head _)))))) hR2211 hq2698 rfl rfl)) ?_
              refine Aw_q 8 rfl (by kernel_rfl) (by kernel_rfl) (by kernel_rfl) rfl rfl rfl (Q_len (T := Ty.u64) hs2701 rfl rfl) ?_
              obtain ⟨r2703, hr2704, hk2705⟩ := Slr.at hs2695 hx2687
              obtain rfl := hr2704
              refine Aw_q 9 rfl (by kernel_rfl) (by kernel_rfl) (by kernel_rfl) rfl rfl rfl (Q_ix (T := Ty.u64) hs2695 hx2687 rfl rfl rfl rfl rfl) ?_
              refine Aw_q 10 rfl (by kernel_rfl) (by kernel_rfl) (by kernel_rfl) rfl rfl rfl (Qt_load1 (v := (.int .u64 x2686)) rfl rfl rfl (Rdc.k hk2705 rfl)) ?_
              refine Aw_q 11 rfl (by kernel_rfl) (by kernel_rfl) (by kernel_rfl) rfl rfl rfl (Qt_fieldAddr (m := 2) rfl rfl rfl rfl rfl) ?_
              refine Aw_one 12 (by kernel_rfl) (Ax_mk rfl rfl ?_)
              refine OpW_store (vs := [(.int .u64 x2686)]) (all' := (Result.cells (Result.mk 2 (-1) x2686 true 0))) rfl rfl rfl rfl rfl .here rfl rfl rfl ⟨(Inc.cons (.tail _ (.head _)) (Inc.cons (.tail _ (.tail _ (.head _))) (Inc.cons (.tail _ (.tail _ (.tail _ (.head _)))) (Inc.cons (.tail _ (.tail _ (.tail _ (.tail _ (.head _))))) (Inc.cons (.tail _ (.tail _ (.tail _ (.tail _ (.tail _ (.head _)))))) (Inc.cons (.tail _ (.tail _ (.tail _ (.tail _ (.tail _ (.tail _ (.head _))))))) (Inc.cons (.tail _ (.tail _ (.tail _ (.tail _ (.tail _ (.tail _ (.tail _ (.head _)))))))) (Inc.cons (.tail _ (.tail _ (.tail _ (.tail _ (.tail _ (.tail _ (.tail _ (.tail _ (.head _))))))))) (Inc.cons (.tail _ (.tail _ (.tail _ (.tail _ (.tail _ (.tail _ (.tail _ (.tail _ (.tail _ (.head _)))))))))) (Inc.cons (.tail _ (.tail _ (.tail _ (.tail _ (.tail _ (.tail _ (.tail _ (.tail _ (.tail _ (.tail _ (.head _))))))))))) Inc.nil)))))))))), ?_⟩
              refine Aw_done (by kernel_rfl) ?_
              refine Shift.pull (.there (.there (.there (.there (.there (.there (.there (.there (.there (.there .here)))))))))) ?_
              refine Shift.pull (.there (.there (.there (.there (.there (.there (.there (.there (.there (.there .here)))))))))) ?_
              refine Shift.pull (.there (.there (.there (.there (.there (.there (.there (.there (.there (.there .here)))))))))) ?_
              refine Shift.pull (.there (.there (.there (.there (.there (.there (.there (.there (.there (.there .here)))))))))) ?_
              refine Shift.pull (.there (.there (.there (.there (.there (.there (.there (.there (.there (.there .here)))))))))) ?_
              refine Shift.pull (.there (.there (.there (.there (.there (.there (.there (.there (.there (.there .here)))))))))) ?_
              refine Shift.pull (.there (.there (.there (.there (.there (.there (.there (.there (.there (.there .here)))))))))) ?_
              refine Shift.pull (.there (.there (.there (.there (.there (.there (.there (.there (.there (.there .here)))))))))) ?_
              refine Shift.pull (.there (.there (.there (.there (.there (.there (.there (.there (.there (.there .here)))))))))) ?_
              refine Shift.pull (.there (.there (.there (.there (.there (.there (.there (.there (.there (.there .here)))))))))) ?_
              refine Shift.pull (.there (.there (.there (.there (.there (.there (.there (.there (.there (.there .here)))))))))) ?_
              refine Shift.done ?_
              exact ⟨[(3, (.pointer (some ((⟨b769, 0, none⟩ : Addr).add 0)))), (4, (.pointer (some ((⟨b782, 0, none⟩ : Addr).add 0)))), (5, (sv v2204)), (6, (sv v823)), (7, (sv v827)), (8, (sv v867)), (9, (.int .i64 i2216)), (10, (.int .i64 x2544)), (11, (.int .u64 x2548)), (12, (.pointer (some ((⟨b2551, 0, none⟩ : Addr).add 0)))), (13, (.pointer (some ((⟨b2552, 0, none⟩ : Addr).add 0))))], ⟨rfl, rfl, rfl, rfl, rfl, rfl, rfl, rfl, rfl, rfl, rfl, trivial⟩, 2, x2686, true, 2, 0, x2633, rfl, rfl, rfl, H⟩
            · intro h2669
              have h2669 := dcd_f (h2669)
              have H := iff_ h2669 H
              refine Cw_skip ?_
              refine Shift.pull (.there (.there (.there (.there (.there (.there (.there (.there (.there (.there .here)))))))))) ?_
              refine Shift.pull (.there (.there (.there (.there (.there (.there (.there (.there (.there (.there .here)))))))))) ?_
              refine Shift.pull (.there (.there (.there (.there (.there (.there (.there (.there (.there (.there .here)))))))))) ?_
              refine Shift.pull (.there (.there (.there (.there (.there (.there (.there (.there (.there (.there .here)))))))))) ?_
              refine Shift.pull (.there (.there (.there (.there (.there (.there (.there (.there (.there (.there .here)))))))))) ?_
              refine Shift.pull (.there (.there (.there (.there (.there (.there (.there (.there (.there (.there .here)))))))))) ?_
              refine Shift.pull (.there (.there (.there (.there (.there (.there (.there (.there (.there (.there .here)))))))))) ?_
              refine Shift.pull (.there (.there (.there (.there (.there (.there (.there (.there (.there (.there .here)))))))))) ?_
              refine Shift.pull (.there (.there (.there (.there (.there (.there (.there (.there (.there (.there .here)))))))))) ?_
              refine Shift.pull (.there (.there (.there (.there (.there (.there (.there (.there (.there (.there .here)))))))))) ?_
              refine Shift.pull (.there (.there (.there (.there (.there (.there (.there (.there (.there (.there .here)))))))))) ?_
              refine Shift.done ?_
              exact ⟨[(3, (.pointer (some ((⟨b769, 0, none⟩ : Addr).add 0)))), (4, (.pointer (some ((⟨b782, 0, none⟩ : Addr).add 0)))), (5, (sv v2204)), (6, (sv v823)), (7, (sv v827)), (8, (sv v867)), (9, (.int .i64 i2216)), (10, (.int .i64 x2544)), (11, (.int .u64 x2548)), (12, (.pointer (some ((⟨b2551, 0, none⟩ : Addr).add 0)))), (13, (.pointer (some ((⟨b2552, 0, none⟩ : Addr).add 0))))], ⟨rfl, rfl, rfl, rfl, rfl, rfl, rfl, rfl, rfl, rfl, rfl, trivial⟩, 2, 0, true, 2, 0, x2633, rfl, rfl, rfl, H⟩
          · intro h2640
            have H := iff_ (btf h2640) H
            refine Cw_seq ?_
            refine Cw_region ?_
            refine Ow_q rfl rfl rfl (Qt_cmp rfl rfl rfl) ?_
            refine Ow_q rfl rfl rfl (Qt_assign rfl) ?_
            refine Ow_nil ?_
            refine Cw_cond rfl ?_ ?_
            · intro h2706
              have h2706 := dcd_t (h2706)
              have H := ift h2706 H
              refine Cw_region ?_
              refine Ow_q rfl rfl rfl (Qt_move rfl) ?_
              refine Ow_q rfl rfl rfl (Qt_build (cs := (Op.cells (Op.mk 3 0 x2544 0 0 [] []) nilS nilS)) rfl rfl rfl rfl rfl rfl) ?_
              refine Ow_q rfl rfl rfl (Qt_build (cs := (Result.cells (Result.mk 6 (-1) 0 false 0))) rfl rfl rfl rfl rfl rfl) ?_
              refine Ow_cons rfl (OpW_store (vs := (Op.cells (Op.mk 3 0 x2544 0 0 [] []) nilS nilS)) (all' := (Op.cells (Op.mk 3 0 x2544 0 0 [] []) nilS nilS)) rfl rfl rfl rfl rfl (.there .here) rfl rfl rfl ?_)
              refine Ow_cons rfl (OpW_store (vs := (Result.cells (Result.mk 6 (-1) 0 false 0))) (all' := (Result.cells (Result.mk 6 (-1) 0 false 0))) rfl rfl rfl rfl rfl .here rfl rfl rfl ?_)
              refine Ow_nil ?_
              refine Shift.pull (.there (.there (.there (.there (.there (.there (.there (.there (.there (.there .here)))))))))) ?_
              refine Shift.pull (.there (.there (.there (.there (.there (.there (.there (.there (.there (.there .here)))))))))) ?_
              refine Shift.pull (.there (.there (.there (.there (.there (.there (.there (.there (.there (.there .here)))))))))) ?_
              refine Shift.pull (.there (.there (.there (.there (.there (.there (.there (.there (.there (.there .here)))))))))) ?_
              refine Shift.pull (.there (.there (.there (.there (.there (.there (.there (.there (.there (.there .here)))))))))) ?_
              refine Shift.pull (.there (.there (.there (.there (.there (.there (.there (.there (.there (.there .here)))))))))) ?_
              refine Shift.pull (.there (.there (.there (.there (.there (.there (.there (.there (.there (.there .here)))))))))) ?_
              refine Shift.pull (.there (.there (.there (.there (.there (.there (.there (.there (.there (.there .here)))))))))) ?_
              refine Shift.pull (.there (.there (.there (.there (.there (.there (.there (.there (.there (.there .here)))))))))) ?_
              refine Shift.pull (.there (.there (.there (.there (.there (.there (.there (.there (.there (.there .here)))))))))) ?_
              refine Shift.pull (.there (.there (.there (.there (.there (.there (.there (.there (.there (.there .here)))))))))) ?_
              refine Shift.done ?_
              exact ⟨[(3, (.pointer (some ((⟨b769, 0, none⟩ : Addr).add 0)))), (4, (.pointer (some ((⟨b782, 0, none⟩ : Addr).add 0)))), (5, (sv v2204)), (6, (sv v823)), (7, (sv v827)), (8, (sv v867)), (9, (.int .i64 i2216)), (10, (.int .i64 x2544)), (11, (.int .u64 x2548)), (12, (.pointer (some ((⟨b2551, 0, none⟩ : Addr).add 0)))), (13, (.pointer (some ((⟨b2552, 0, none⟩ : Addr).add 0))))], ⟨rfl, rfl, rfl, rfl, rfl, rfl, rfl, rfl, rfl, rfl, rfl, trivial⟩, 6, 0, false, 3, 0, x2633, rfl, rfl, rfl, H⟩
            · intro h2706
              have h2706 := dcd_f (h2706)
              have H := iff_ h2706 H
              refine Cw_skip ?_
              refine Shift.pull (.there (.there (.there (.there (.there (.there (.there (.there (.there (.there .here)))))))))) ?_
              refine Shift.pull (.there (.there (.there (.there (.there (.there (.there (.there (.there (.there .here)))))))))) ?_
              refine Shift.pull (.there (.there (.there (.there (.there (.there (.there (.there (.there (.there .here)))))))))) ?_
              refine Shift.pull (.there (.there (.there (.there (.there (.there (.there (.there (.there (.there .here)))))))))) ?_
              refine Shift.pull (.there (.there (.there (.there (.there (.there (.there (.there (.there (.there .here)))))))))) ?_
              refine Shift.pull (.there (.there (.there (.there (.there (.there (.there (.there (.there (.there .here)))))))))) ?_
              refine Shift.pull (.there (.there (.there (.there (.there (.there (.there (.there (.there (.there .here)))))))))) ?_
              refine Shift.pull (.there (.there (.there (.there (.there (.there (.there (.there (.there (.there .here)))))))))) ?_
              refine Shift.pull (.there (.there (.there (.there (.there (.there (.there (.there (.there (.there .here)))))))))) ?_
              refine Shift.pull (.there (.there (.there (.there (.there (.there (.there (.there (.there (.there .here)))))))))) ?_
              refine Shift.pull (.there (.there (.there (.there (.there (.there (.there (.there (.there (.there .here)))))))))) ?_
              refine Shift.done ?_
              exact ⟨[(3, (.pointer (some ((⟨b769, 0, none⟩ : Addr).add 0)))), (4, (.pointer (some ((⟨b782, 0, none⟩ : Addr).add 0)))), (5, (sv v2204)), (6, (sv v823)), (7, (sv v827)), (8, (sv v867)), (9, (.int .i64 i2216)), (10, (.int .i64 x2544)), (11, (.int .u64 x2548)), (12, (.pointer (some ((⟨b2551, 0, none⟩ : Addr).add 0)))), (13, (.pointer (some ((⟨b2552, 0, none⟩ : Addr).add 0))))], ⟨rfl, rfl, rfl, rfl, rfl, rfl, rfl, rfl, rfl, rfl, rfl, trivial⟩, 1, 0, false, 1, x2548, x2633, rfl, rfl, rfl, H⟩
        rintro _ _ _ - ⟨i2626, i2627, t2628, i2629, i2630, i2631, rfl, rfl, rfl, H⟩
        unfold M_law14_ModelOrder_J3 at H
        refine Cw_seq ?_
        refine Cw_region ?_
        refine Ow_q rfl rfl rfl (Qt_move rfl) ?_
        refine Ow_q rfl rfl rfl (Qt_loadA (m := 7) (cs := (Op.cells (Op.mk i2629 0 x2544 i2630 0 [] []) nilS nilS)) rfl rfl rfl rfl ⟨rfl, Rdc.blk (.tail _ (.head _)) rfl⟩) ?_
        refine Ow_q rfl rfl rfl (Qt_loadA (m := 5) (cs := (Result.cells (Result.mk i2626 (-1) i2627 t2628 0))) rfl rfl rfl rfl ⟨rfl, Rdc.blk (.head _) rfl⟩) ?_
        obtain ⟨x2707, x2708, hx2709, H⟩ := bnd2 H
        refine Ow_cons rfl (OpW_call rfl Try.call19 rfl rfl (c_M_model_Apply l2205 v2204 (Op.mk i2629 0 x2544 i2630 0 [] []) nilS nilS (Result.mk i2626 (-1) i2627 t2628 0) x2707 x2708 hx2709 _ _ hs2206 (Slr.nil TyCase _) (Slr.nil Ty.i64 _)) ?_)
        rintro _ K2711 _ hK2712 ⟨v2710, rfl, rfl, hs2713⟩
        refine Ow_q rfl rfl rfl (Qt_move rfl) ?_
        refine Ow_q rfl rfl rfl (Qt_extract rfl rfl) ?_
        refine Ow_q rfl rfl rfl (Qt_extract rfl rfl) ?_
        refine Ow_q rfl rfl rfl (Qt_assign rfl) ?_
        refine Ow_q rfl rfl rfl (Qt_assign rfl) ?_
        refine Ow_nil ?_
        refine Cw_seq ?_
        obtain ⟨x2714, hx2715, H⟩ := bnd H
        obtain ⟨x2723, hx2724, H⟩ := bnd H
        obtain ⟨x2732, hx2733, H⟩ := bnd H
        refine Cw_region_any [.blk b2552 25 (Result.cells (Result.mk i2626 (-1) i2627 t2628 0)), .blk b2551 38 (Op.cells (Op.mk i2629 0 x2544 i2630 0 [] []) nilS nilS), .blk b782 34 (Config.cells x772 v776 v777), .blk b769 85 (Draw_Codes.cells (Draw_Codes.mk x766.list i2631 ((Draw_Codes.mk x766.list ((Draw_Codes.mk x766.list x2545 ((Draw_Codes.mk x766.list i2217 i2218).value)).at_) x2549).value)) v770), .row (sv v823) 32 1 (vs2209.map one).flatten, .tok 23 1 vs2209, .row (sv v827) 32 1 (vs2212.map one).flatten, .tok 23 1 vs2212, .row (sv v867) 4 1 rs2215.flatten, .tok 3 1 [(sv v776)], .tok 23 1 [(sv v777)]] rfl (Inc.cons (.head _) (Inc.cons (.tail _ (.head _)) (Inc.cons (.tail _ (.tail _ (.head _))) (Inc.cons (.tail _ (.tail _ (.tail _ (.head _)))) (Inc.cons (.tail _ (.tail _ (.tail _ (.tail _ (.head _))))) (Inc.cons (.tail _ (.tail _ (.tail _ (.tail _ (.tail _ (.head _)))))) (Inc.cons (.tail _ (.tail _ (.tail _ (.tail _ (.tail _ (.tail _ (.head _))))))) (Inc.cons (.tail _ (.tail _ (.tail _ (.tail _ (.tail _ (.tail _ (.tail _ (.head _)))))))) (Inc.cons (.tail _ (.tail _ (.tail _ (.tail _ (.tail _ (.tail _ (.tail _ (.tail _ (.head _))))))))) (Inc.cons (.tail _ (.tail _ (.tail _ (.tail _ (.tail _ (.tail _ (.tail _ (.tail _ (.tail _ (.head _)))))))))) (Inc.cons (.tail _ (.tail _ (.tail _ (.tail _ (.tail _ (.tail _ (.tail _ (.tail _ (.tail _ (.tail _ (.head _))))))))))) Inc.nil))))))))))) ?_
        refine Aw_q 0 rfl (by kernel_rfl) (by kernel_rfl) (by kernel_rfl) rfl rfl rfl (Qt_move rfl) ?_
        refine Aw_q 1 rfl (by kernel_rfl) (by kernel_rfl) (by kernel_rfl) rfl rfl rfl (Qt_move rfl) ?_
        have hs2738 := (hR2208).mono hK2712
        obtain ⟨r2739, hq2740, hr2741⟩ := RowR.at hs2738 hx2715
        obtain ⟨v2742, rfl, hs2743⟩ := hr2741
        have hv2744 := map_one_at hq2740
        refine Aw_q 2 rfl (by kernel_rfl) (by kernel_rfl) (by kernel_rfl) rfl rfl rfl (Q_ixR (T := (Ty.sl Ty.u64)) (.tail _ (.tail _ (.tail _ (.tail _ (.head _))))) hs2738 hq2740 (getI_ix hx2715).1 rfl rfl rfl rfl rfl) ?_
        refine Aw_q 3 rfl (by kernel_rfl) (by kernel_rfl) (by kernel_rfl) rfl rfl rfl (Qt_load1 (v := (sv v2742)) rfl rfl rfl (Rd_row (T := (Ty.sl Ty.u64)) (.tail _ (.tail _ (.tail _ (.tail _ (.head _))))) hs2738 hq2740 rfl rfl)) ?_
        refine Aw_q 4 rfl (by kernel_rfl) (by kernel_rfl) (by kernel_rfl) rfl rfl rfl (Q_len (T := Ty.u64) hs2743 rfl rfl) ?_
        refine Aw_q 5 rfl (by kernel_rfl) (by kernel_rfl) (by kernel_rfl) rfl rfl rfl (Qt_move rfl) ?_
        refine Aw_q 6 rfl (by kernel_rfl) (by kernel_rfl) (by kernel_rfl) rfl rfl rfl (Qt_move rfl) ?_
        have hs2745 := (hR2211).mono hK2712
        obtain ⟨r2746, hq2747, hr2748⟩ := RowR.at hs2745 hx2724
        obtain ⟨v2749, rfl, hs2750⟩ := hr2748
        have hv2751 := map_one_at hq2747
        refine Aw_q 7 rfl (by kernel_rfl) (by kernel_rfl) (by kernel_rfl) rfl rfl rfl (Q_ixR (T := (Ty.sl Ty.u64)) (.tail _ (.tail _ (.tail _ (.tail _ (.tail _ (.tail _ (.head _))))))) hs2745 hq2747 (getI_ix hx2724).1 rfl rfl rfl rfl rfl) ?_
        refine Aw_q 8 rfl (by kernel_rfl) (by kernel_rfl) (by kernel_rfl) rfl rfl rfl (Qt_load1 (v := (sv v2749)) rfl rfl rfl (Rd_row (T := (Ty.sl Ty.u64)) (.tail _ (.tail _ (.tail _ (.tail _ (.tail _ (.tail _ (.head _))))))) hs2745 hq2747 rfl rfl)) ?_
        refine Aw_q 9 rfl (by kernel_rfl) (by kernel_rfl) (by kernel_rfl) rfl rfl rfl (Q_len (T := Ty.u64) hs2750 rfl rfl) ?_
        refine Aw_q 10 rfl (by kernel_rfl) (by kernel_rfl) (by kernel_rfl) rfl rfl rfl (Qt_arith (e := wI ((x2714.length : Int) - (x2723.length : Int))) rfl rfl rfl rfl) ?_
        refine Aw_q 11 rfl (by kernel_rfl) (by kernel_rfl) (by kernel_rfl) rfl rfl rfl (Qt_fieldAddr (m := 0) rfl rfl rfl rfl rfl) ?_
        refine Aw_q 12 rfl (by kernel_rfl) (by kernel_rfl) (by kernel_rfl) rfl rfl rfl (Qt_load1 (v := (sv v776)) rfl rfl rfl (Rdc.blk (.tail _ (.tail _ (.head _))) rfl)) ?_
        refine Aw_q 13 rfl (by kernel_rfl) (by kernel_rfl) (by kernel_rfl) rfl rfl rfl (Qt_move rfl) ?_
        have hs2752 := (((hs780).mono hK787).mono hK2221).mono hK2712
        obtain ⟨r2753, hr2754, hk2755⟩ := Slr.at hs2752 hx2733
        obtain rfl := hr2754
        refine Aw_q 14 rfl (by kernel_rfl) (by kernel_rfl) (by kernel_rfl) rfl rfl rfl (Q_ix (T := Ty.i64) hs2752 hx2733 rfl rfl rfl rfl rfl) ?_
        refine Aw_q 15 rfl (by kernel_rfl) (by kernel_rfl) (by kernel_rfl) rfl rfl rfl (Qt_load1 (v := (.int .i64 x2732)) rfl rfl rfl (Rdc.k hk2755 rfl)) ?_
        refine Aw_q 16 rfl (by kernel_rfl) (by kernel_rfl) (by kernel_rfl) rfl rfl rfl (Qt_cmp rfl rfl rfl) ?_
        refine Aw_q 17 rfl (by kernel_rfl) (by kernel_rfl) (by kernel_rfl) rfl rfl rfl (Qt_assign rfl) ?_
        refine Aw_done (by kernel_rfl) ?_
        refine Cw_join (fun env' K' G' => ∃ (l2924 : List (List Int)) (vs2926 : List Value) (l2927 : List (List Int)) (vs2929 : List Value) (l2930 : List Bool) (rs2932 : List (List Value)), [(3, (.pointer (some ((⟨b769, 0, none⟩ : Addr).add 0)))), (4, (.pointer (some ((⟨b782, 0, none⟩ : Addr).add 0)))), (5, (sv v2204)), (6, (sv v823)), (7, (sv v827)), (8, (sv v867)), (9, (.int .i64 i2216)), (14, (sv v2710)), (15, (.bool x2708))] = env' ∧ (.blk b782 34 (Config.cells x772 v776 v777)) :: (.blk b769 85 (Draw_Codes.cells (Draw_Codes.mk x766.list i2631 ((Draw_Codes.mk x766.list ((Draw_Codes.mk x766.list x2545 ((Draw_Codes.mk x766.list i2217 i2218).value)).at_) x2549).value)) v770)) :: (.row (sv v823) 32 1 (vs2926.map one).flatten) :: (.tok 23 1 vs2926) :: (.row (sv v827) 32 1 (vs2929.map one).flatten) :: (.tok 23 1 vs2929) :: (.row (sv v867) 4 1 rs2932.flatten) :: (.tok 3 1 [(sv v776)]) :: (.tok 23 1 [(sv v777)]) :: G = G' ∧ M_law14_ModelOrder_J5 l2205 i2216 x2707 x2708 x772 x766 i2631 x2545 i2217 i2218 x2549 k2223 l2924 l2927 l2930 = some y0 ∧ RowR (Ty.sl Ty.u64) K' (vs2926.map one) l2924 ∧ RowR (Ty.sl Ty.u64) K' (vs2929.map one) l2927 ∧ RowR Ty.bool K' rs2932 l2930) ?_ ?_
        · skip
          refine Cw_seq ?_
          refine Cw_region ?_
          refine Ow_q rfl rfl rfl (Qt_fieldAddr (m := 0) rfl rfl rfl rfl rfl) ?_
          refine Ow_q rfl rfl rfl (Qt_load1 (v := (.int .i64 i2629)) rfl rfl rfl (Rdc.blk (.tail _ (.head _)) rfl)) ?_
          refine Ow_nil ?_
          refine Cw_block ?_
          refine Cw_seq ?_
          refine Cw_region ?_
          refine Ow_q rfl rfl rfl (Qt_cmp rfl rfl rfl) ?_
          refine Ow_q rfl rfl rfl (Qt_assign rfl) ?_
          refine Ow_nil ?_
          refine Cw_cond rfl ?_ ?_
          · intro h2933
            have h2933 := dcd_t (h2933)
            have H := ift h2933 H
            refine Cw_seq ?_
            refine Cw_join (fun env' K' G' => ∃ (t2950 : Bool), [(3, (.pointer (some ((⟨b769, 0, none⟩ : Addr).add 0)))), (4, (.pointer (some ((⟨b782, 0, none⟩ : Addr).add 0)))), (5, (sv v2204)), (6, (sv v823)), (7, (sv v827)), (8, (sv v867)), (9, (.int .i64 i2216)), (10, (.int .i64 x2544)), (11, (.int .u64 x2548)), (14, (sv v2710)), (15, (.bool x2708)), (122, (.bool t2950))] = env' ∧ K2711 = K' ∧ (.blk b782 34 (Config.cells x772 v776 v777)) :: (.blk b769 85 (Draw_Codes.cells (Draw_Codes.mk x766.list i2631 ((Draw_Codes.mk x766.list ((Draw_Codes.mk x766.list x2545 ((Draw_Codes.mk x766.list i2217 i2218).value)).at_) x2549).value)) v770)) :: (.row (sv v823) 32 1 (vs2209.map one).flatten) :: (.tok 23 1 vs2209) :: (.row (sv v827) 32 1 (vs2212.map one).flatten) :: (.tok 23 1 vs2212) :: (.row (sv v867) 4 1 rs2215.flatten) :: (.tok 3 1 [(sv v776)]) :: (.tok 23 1 [(sv v777)]) :: G = G' ∧ M_law14_ModelOrder_J6 l2205 l2207 l2210 l2213 i2216 x2544 x2548 x2707 x2708 x772 x766 i2631 x2545 i2217 i2218 x2549 k2223 t2950 = some y0) ?_ ?_
            · skip
              refine Cw_region ?_
              refine Ow_q rfl rfl rfl (Qt_move rfl) ?_
              refine Ow_q rfl rfl rfl (Qt_move rfl) ?_
              refine Ow_q rfl rfl rfl (Qt_move rfl) ?_
              refine Ow_caseG rfl rfl rfl ?_ ?_
              · intro h2951
                have h2951 := dcd_t (h2951)
                have H := ift h2951 H
                refine Ow_qw rfl rfl rfl rfl rfl rfl (Qt_move rfl) ?_
                refine Ow_qw rfl rfl rfl rfl rfl rfl (Qt_move rfl) ?_
                obtain ⟨x2952, hx2953, H⟩ := bnd H
                have hs2954 := (hR2214).mono hK2712
                obtain ⟨r2955, hq2956, hr2957⟩ := RowR.at hs2954 hx2953
                obtain rfl := hr2957
                refine Ow_qw rfl rfl rfl rfl rfl rfl (Q_ixR (T := Ty.bool) (.tail _ (.tail _ (.tail _ (.tail _ (.tail _ (.tail _ (.tail _ (.tail _ (.head _))))))))) hs2954 hq2956 (getI_ix hx2953).1 rfl rfl rfl rfl rfl) ?_
                refine Ow_qw rfl rfl rfl rfl rfl rfl (Qt_load1 (v := (.bool x2952)) rfl rfl rfl (Rd_row (T := Ty.bool) (.tail _ (.tail _ (.tail _ (.tail _ (.tail _ (.tail _ (.tail _ (.tail _ (.head _))))))))) hs2954 hq2956 rfl rfl)) ?_
                refine Ow_qw rfl rfl rfl rfl rfl rfl (Qt_not rfl) ?_
                refine Ow_q rfl rfl rfl (Qt_pick_t rfl rfl) ?_
                refine Ow_q rfl rfl rfl (Qt_neB rfl rfl rfl) ?_
                refine Ow_nil ?_
                refine Shift.pull (.there (.there (.there (.there (.there (.there (.there (.there (.there (.there .here)))))))))) ?_
                refine Shift.pull (.there (.there (.there (.there (.there (.there (.there (.there (.there (.there .here)))))))))) ?_
                refine Shift.pull (.there (.there (.there (.there (.there (.there (.there (.there (.there (.there .here)))))))))) ?_
                refine Shift.pull (.there (.there (.there (.there (.there (.there (.there (.there (.there (.there .here)))))))))) ?_
                refine Shift.pull (.there (.there (.there (.there (.there (.there (.there (.there (.there (.there .here)))))))))) ?_
                refine Shift.pull (.there (.there (.there (.there (.there (.there (.there (.there (.there (.there .here)))))))))) ?_
                refine Shift.pull (.there (.there (.there (.there (.there (.there (.there (.there (.there (.there .here)))))))))) ?_
                refine Shift.pull (.there (.there (.there (.there (.there (.there (.there (.there (.there (.there .here)))))))))) ?_
                refine Shift.pull (.there (.there (.there (.there (.there (.there (.there (.there (.there (.there .here)))))))))) ?_
                refine Shift.rem (.there (.there (.there (.there (.there (.there (.there (.there (.there .here))))))))) ?_
                refine Shift.rem (.there (.there (.there (.there (.there (.there (.there (.there (.there .here))))))))) ?_
                refine Shift.done ?_
                exact ⟨[(3, (.pointer (some ((⟨b769, 0, none⟩ : Addr).add 0)))), (4, (.pointer (some ((⟨b782, 0, none⟩ : Addr).add 0)))), (5, (sv v2204)), (6, (sv v823)), (7, (sv v827)), (8, (sv v867)), (9, (.int .i64 i2216)), (10, (.int .i64 x2544)), (11, (.int .u64 x2548)), (14, (sv v2710)), (15, (.bool x2708)), (122, (.bool (!((x2708 == (!(x2952)))))))], ⟨rfl, rfl, rfl, rfl, rfl, rfl, rfl, rfl, rfl, rfl, rfl, rfl, trivial⟩, (!((x2708 == (!(x2952))))), rfl, rfl, rfl, H⟩
              · intro h2951
                have h2951 := dcd_f (h2951)
                have H := iff_ h2951 H
                refine Ow_pass rfl rfl rfl rfl rfl rfl rfl ?_
                refine Ow_pass rfl rfl rfl rfl rfl rfl rfl ?_
                refine Ow_pass rfl rfl rfl rfl rfl rfl rfl ?_
                refine Ow_pass rfl rfl rfl rfl rfl rfl rfl ?_
                refine Ow_pass rfl rfl rfl rfl rfl rfl rfl ?_
                refine Ow_q rfl rfl rfl (Qt_pick_f rfl rfl) ?_
                refine Ow_q rfl rfl rfl (Qt_neB rfl rfl rfl) ?_
                refine Ow_nil ?_
                refine Shift.pull (.there (.there (.there (.there (.there (.there (.there (.there (.there (.there .here)))))))))) ?_
                refine Shift.pull (.there (.there (.there (.there (.there (.there (.there (.there (.there (.there .here)))))))))) ?_
                refine Shift.pull (.there (.there (.there (.there (.there (.there (.there (.there (.there (.there .here)))))))))) ?_
                refine Shift.pull (.there (.there (.there (.there (.there (.there (.there (.there (.there (.there .here)))))))))) ?_
                refine Shift.pull (.there (.there (.there (.there (.there (.there (.there (.there (.there (.there .here)))))))))) ?_
                refine Shift.pull (.there (.there (.there (.there (.there (.there (.there (.there (.there (.there .here)))))))))) ?_
                refine Shift.pull (.there (.there (.there (.there (.there (.there (.there (.there (.there (.there .here)))))))))) ?_
                refine Shift.pull (.there (.there (.there (.there (.there (.there (.there (.there (.there (.there .here)))))))))) ?_
                refine Shift.pull (.there (.there (.there (.there (.there (.there (.there (.there (.there (.there .here)))))))))) ?_
                refine Shift.rem (.there (.there (.there (.there (.there (.there (.there (.there (.there .here))))))))) ?_
                refine Shift.rem (.there (.there (.there (.there (.there (.there (.there (.there (.there .here))))))))) ?_
                refine Shift.done ?_
                exact ⟨[(3, (.pointer (some ((⟨b769, 0, none⟩ : Addr).add 0)))), (4, (.pointer (some ((⟨b782, 0, none⟩ : Addr).add 0)))), (5, (sv v2204)), (6, (sv v823)), (7, (sv v827)), (8, (sv v867)), (9, (.int .i64 i2216)), (10, (.int .i64 x2544)), (11, (.int .u64 x2548)), (14, (sv v2710)), (15, (.bool x2708)), (122, (.bool (!((x2708 == false)))))], ⟨rfl, rfl, rfl, rfl, rfl, rfl, rfl, rfl, rfl, rfl, rfl, rfl, trivial⟩, (!((x2708 == false))), rfl, rfl, rfl, H⟩
            rintro _ _ _ - ⟨t2950, rfl, rfl, rfl, H⟩
            unfold M_law14_ModelOrder_J6 at H
            refine Cw_cond rfl ?_ ?_
            · intro h2958
              have H := ift h2958 H
              refine Cw_seq ?_
              refine Cw_region ?_
              refine Ow_q rfl rfl rfl (Qt_assign rfl) ?_
              refine Ow_nil ?_
              refine Cw_ret ?_
              obtain ey0 := inj1 H
              subst y0
              refine ⟨(by first | exact .inl rfl | exact .inr rfl), [(.bool false)], ⟨(.bool false), _, rfl, rfl, rfl⟩, ?_⟩
              refine Shift.rem .here ?_
              refine Shift.rem .here ?_
              refine Shift.rem .here ?_
              refine Shift.rem .here ?_
              refine Shift.rem .here ?_
              refine Shift.rem .here ?_
              refine Shift.rem .here ?_
              refine Shift.rem .here ?_
              refine Shift.rem .here ?_
              refine Shift.done ?_
              exact ⟨rfl, rfl⟩
            · intro h2958
              have H := iff_ (btf h2958) H
              refine Cw_skip ?_
              refine Cw_seq ?_
              refine Cw_region ?_
              refine Ow_q rfl rfl rfl (Qt_move rfl) ?_
              refine Ow_nil ?_
              refine Cw_cond rfl ?_ ?_
              · intro h2959
                have H := ift h2959 H
                refine Cw_region ?_
                refine Ow_q rfl rfl rfl (Qt_move rfl) ?_
                refine Ow_q rfl rfl rfl (Qt_move rfl) ?_
                refine Ow_q rfl rfl rfl (Qt_move rfl) ?_
                refine Ow_q rfl rfl rfl (Qt_move rfl) ?_
                obtain ⟨x2960, hx2961, H⟩ := bnd H
                obtain ⟨r2962, hq2963, hr2964⟩ := RowR.at hs2738 hx2961
                obtain ⟨v2965, rfl, hs2966⟩ := hr2964
                have hv2967 := map_one_at hq2963
                refine Ow_q rfl rfl rfl (Q_ixR (T := (Ty.sl Ty.u64)) (.tail _ (.tail _ (.head _))) hs2738 hq2963 (getI_ix hx2961).1 rfl rfl rfl rfl rfl) ?_
                refine Ow_q rfl rfl rfl (Qt_load1 (v := (sv v2965)) rfl rfl rfl (Rd_row (T := (Ty.sl Ty.u64)) (.tail _ (.tail _ (.head _))) hs2738 hq2963 rfl rfl)) ?_
                refine Ow_q rfl rfl rfl (Qt_move rfl) ?_
                have hR2969 : RowR Ty.u64 K2711 [[(.int .u64 x2548)]] [x2548] := RowR.cons rfl (RowR.nil)
                refine Ow_cons rfl (O_lit (T := Ty.u64) (rows := [[(.int .u64 x2548)]]) (l := [x2548]) rfl rfl rfl hR2969 rfl rfl rfl rfl rfl rfl rfl rfl (fun v2968 => ?_))
                obtain ⟨x2970, hx2971, H⟩ := bnd H
                refine Ow_cons rfl (O_appTok (T := Ty.u64) (bytes := 8) (q := x2544.toNat) rfl rfl rfl hs2966 (.tail _ (.tail _ (.tail _ (.tail _ (.head _))))) hv2967 (SrcT.row (.head _) hR2969 rfl) hx2971 rfl rfl rfl rfl rfl rfl rfl rfl (fun v2972 K2973 hK2974 hs2975 => ⟨_, (.there (.there (.there (.there .here)))), ?_⟩))
                refine Ow.shift (Shift.rem .here (Shift.done ?_))
                obtain ⟨x2976, hx2977, H⟩ := bnd H
                have hs2978 := (hs2738).mono hK2974
                obtain ⟨r2979, hq2980, hr2981⟩ := RowR.at hs2978 hx2977
                obtain ⟨v2982, rfl, hs2983⟩ := hr2981
                have hv2984 := map_one_at hq2980
                refine Ow_q rfl rfl rfl (Q_ixR (T := (Ty.sl Ty.u64)) (.tail _ (.tail _ (.head _))) hs2978 hq2980 (getI_ix hx2977).1 rfl rfl rfl rfl rfl) ?_
                refine Ow_cons rfl (O_storeR (T := (Ty.sl Ty.u64)) (vs := [(sv v2972)]) (r' := [(sv v2972)]) (l' := (setI l2207 x2544 x2970)) rfl rfl rfl rfl rfl (.there (.there .here)) hs2978 hq2980 rfl rfl rfl (RowR.set x2544 hs2978 ⟨v2972, rfl, hs2975⟩) (fun hR2985 => ?_))
                have hse := set_map_one vs2209 x2544.toNat (sv v2972)
                rw [hse] at hR2985 ⊢
                clear hse
                have hE2986 := set_at_one hq2980 (v := (sv v2972))
                refine Ow_nil ?_
                refine Shift.pull (.there (.there (.there (.there (.there (.there (.there (.there .here)))))))) ?_
                refine Shift.pull (.there (.there (.there (.there (.there (.there (.there (.there .here)))))))) ?_
                refine Shift.pull (.there (.there (.there (.there (.there (.there (.there (.there .here)))))))) ?_
                refine Shift.pull (.there (.there (.there (.there (.there (.there (.there (.there .here)))))))) ?_
                refine Shift.pull (.there (.there (.there (.there (.there (.there (.there (.there .here)))))))) ?_
                refine Shift.pull (.there (.there (.there (.there (.there (.there (.there (.there .here)))))))) ?_
                refine Shift.pull (.there (.there (.there (.there (.there (.there (.there (.there .here)))))))) ?_
                refine Shift.pull (.there (.there (.there (.there (.there (.there (.there (.there .here)))))))) ?_
                refine Shift.pull (.there (.there (.there (.there (.there (.there (.there (.there .here)))))))) ?_
                have hs2987 := (hs2745).mono hK2974
                have hs2988 := ((hR2214).mono hK2712).mono hK2974
                refine Shift.done ?_
                exact ⟨[(3, (.pointer (some ((⟨b769, 0, none⟩ : Addr).add 0)))), (4, (.pointer (some ((⟨b782, 0, none⟩ : Addr).add 0)))), (5, (sv v2204)), (6, (sv v823)), (7, (sv v827)), (8, (sv v867)), (9, (.int .i64 i2216)), (14, (sv v2710)), (15, (.bool x2708))], ⟨rfl, rfl, rfl, rfl, rfl, rfl, rfl, rfl, rfl, trivial⟩, (setI l2207 x2544 x2970), (vs2209.set x2544.toNat (sv v2972)), l2210, vs2212, l2213, rs2215, rfl, rfl, H, hR2985, hs2987, hs2988⟩
              · intro h2959
                have H := iff_ (btf h2959) H
                refine Cw_skip ?_
                refine Shift.pull (.there (.there (.there (.there (.there (.there (.there (.there .here)))))))) ?_
                refine Shift.pull (.there (.there (.there (.there (.there (.there (.there (.there .here)))))))) ?_
                refine Shift.pull (.there (.there (.there (.there (.there (.there (.there (.there .here)))))))) ?_
                refine Shift.pull (.there (.there (.there (.there (.there (.there (.there (.there .here)))))))) ?_
                refine Shift.pull (.there (.there (.there (.there (.there (.there (.there (.there .here)))))))) ?_
                refine Shift.pull (.there (.there (.there (.there (.there (.there (.there (.there .here)))))))) ?_
                refine Shift.pull (.there (.there (.there (.there (.there (.there (.there (.there .here)))))))) ?_
                refine Shift.pull (.there (.there (.there (.there (.there (.there (.there (.there .here)))))))) ?_
                refine Shift.pull (.there (.there (.there (.there (.there (.there (.there (.there .here)))))))) ?_
                have hs2989 := (hR2214).mono hK2712
                refine Shift.done ?_
                exact ⟨[(3, (.pointer (some ((⟨b769, 0, none⟩ : Addr).add 0)))), (4, (.pointer (some ((⟨b782, 0, none⟩ : Addr).add 0)))), (5, (sv v2204)), (6, (sv v823)), (7, (sv v827)), (8, (sv v867)), (9, (.int .i64 i2216)), (14, (sv v2710)), (15, (.bool x2708))], ⟨rfl, rfl, rfl, rfl, rfl, rfl, rfl, rfl, rfl, trivial⟩, l2207, vs2209, l2210, vs2212, l2213, rs2215, rfl, rfl, H, hs2738, hs2745, hs2989⟩
          · intro h2933
            have h2933 := dcd_f (h2933)
            have H := iff_ h2933 H
            refine Cw_seq ?_
            refine Cw_region ?_
            refine Ow_q rfl rfl rfl (Qt_cmp rfl rfl rfl) ?_
            refine Ow_q rfl rfl rfl (Qt_assign rfl) ?_
            refine Ow_nil ?_
            refine Cw_cond rfl ?_ ?_
            · intro h2990
              have h2990 := dcd_t (h2990)
              have H := ift h2990 H
              refine Cw_seq ?_
              refine Cw_seq ?_
              obtain ⟨x3020, hx3021, H⟩ := bnd H
              obtain ⟨x3028, hx3029, H⟩ := bnd H
              refine Cw_region_any [.blk b2552 25 (Result.cells (Result.mk i2626 (-1) i2627 t2628 0)), .blk b2551 38 (Op.cells (Op.mk i2629 0 x2544 i2630 0 [] []) nilS nilS), .blk b782 34 (Config.cells x772 v776 v777), .blk b769 85 (Draw_Codes.cells (Draw_Codes.mk x766.list i2631 ((Draw_Codes.mk x766.list ((Draw_Codes.mk x766.list x2545 ((Draw_Codes.mk x766.list i2217 i2218).value)).at_) x2549).value)) v770), .row (sv v823) 32 1 (vs2209.map one).flatten, .tok 23 1 vs2209, .row (sv v827) 32 1 (vs2212.map one).flatten, .tok 23 1 vs2212, .row (sv v867) 4 1 rs2215.flatten, .tok 3 1 [(sv v776)], .tok 23 1 [(sv v777)]] rfl (Inc.cons (.head _) (Inc.cons (.tail _ (.head _)) (Inc.cons (.tail _ (.tail _ (.head _))) (Inc.cons (.tail _ (.tail _ (.tail _ (.head _)))) (Inc.cons (.tail _ (.tail _ (.tail _ (.tail _ (.head _))))) (Inc.cons (.tail _ (.tail _ (.tail _ (.tail _ (.tail _ (.head _)))))) (Inc.cons (.tail _ (.tail _ (.tail _ (.tail _ (.tail _ (.tail _ (.head _))))))) (Inc.cons (.tail _ (.tail _ (.tail _ (.tail _ (.tail _ (.tail _ (.tail _ (.head _)))))))) (Inc.cons (.tail _ (.tail _ (.tail _ (.tail _ (.tail _ (.tail _ (.tail _ (.tail _ (.head _))))))))) (Inc.cons (.tail _ (.tail _ (.tail _ (.tail _ (.tail _ (.tail _ (.tail _ (.tail _ (.tail _ (.head _)))))))))) (Inc.cons (.tail _ (.tail _ (.tail _ (.tail _ (.tail _ (.tail _ (.tail _ (.tail _ (.tail _ (.tail _ (.head _))))))))))) Inc.nil))))))))))) ?_
              refine Aw_q 0 rfl (by kernel_rfl) (by kernel_rfl) (by kernel_rfl) rfl rfl rfl (Qt_move rfl) ?_
              refine Aw_q 1 rfl (by kernel_rfl) (by kernel_rfl) (by kernel_rfl) rfl rfl rfl (Qt_move rfl) ?_
              refine Aw_q 2 rfl (by kernel_rfl) (by kernel_rfl) (by kernel_rfl) rfl rfl rfl (Qt_move rfl) ?_
              obtain ⟨r3036, hq3037, hr3038⟩ := RowR.at hs2738 hx3021
              obtain ⟨v3039, rfl, hs3040⟩ := hr3038
              have hv3041 := map_one_at hq3037
              refine Aw_q 3 rfl (by kernel_rfl) (by kernel_rfl) (by kernel_rfl) rfl rfl rfl (Q_ixR (T := (Ty.sl Ty.u64)) (.tail _ (.tail _ (.tail _ (.tail _ (.head _))))) hs2738 hq3037 (getI_ix hx3021).1 rfl rfl rfl rfl rfl) ?_
              refine Aw_q 4 rfl (by kernel_rfl) (by kernel_rfl) (by kernel_rfl) rfl rfl rfl (Qt_load1 (v := (sv v3039)) rfl rfl rfl (Rd_row (T := (Ty.sl Ty.u64)) (.tail _ (.tail _ (.tail _ (.tail _ (.head _))))) hs2738 hq3037 rfl rfl)) ?_
              refine Aw_q 5 rfl (by kernel_rfl) (by kernel_rfl) (by kernel_rfl) rfl rfl rfl (Q_len (T := Ty.u64) hs3040 rfl rfl) ?_
              refine Aw_q 6 rfl (by kernel_rfl) (by kernel_rfl) (by kernel_rfl) rfl rfl rfl (Qt_move rfl) ?_
              refine Aw_q 7 rfl (by kernel_rfl) (by kernel_rfl) (by kernel_rfl) rfl rfl rfl (Qt_move rfl) ?_
              obtain ⟨r3042, hq3043, hr3044⟩ := RowR.at hs2745 hx3029
              obtain ⟨v3045, rfl, hs3046⟩ := hr3044
              have hv3047 := map_one_at hq3043
              refine Aw_q 8 rfl (by kernel_rfl) (by kernel_rfl) (by kernel_rfl) rfl rfl rfl (Q_ixR (T := (Ty.sl Ty.u64)) (.tail _ (.tail _ (.tail _ (.tail _ (.tail _ (.tail _ (.head _))))))) hs2745 hq3043 (getI_ix hx3029).1 rfl rfl rfl rfl rfl) ?_
              refine Aw_q 9 rfl (by kernel_rfl) (by kernel_rfl) (by kernel_rfl) rfl rfl rfl (Qt_load1 (v := (sv v3045)) rfl rfl rfl (Rd_row (T := (Ty.sl Ty.u64)) (.tail _ (.tail _ (.tail _ (.tail _ (.tail _ (.tail _ (.head _))))))) hs2745 hq3043 rfl rfl)) ?_
              refine Aw_q 10 rfl (by kernel_rfl) (by kernel_rfl) (by kernel_rfl) rfl rfl rfl (Q_len (T := Ty.u64) hs3046 rfl rfl) ?_
              refine Aw_q 11 rfl (by kernel_rfl) (by kernel_rfl) (by kernel_rfl) rfl rfl rfl (Qt_cmp rfl rfl rfl) ?_
              refine Aw_q 12 rfl (by kernel_rfl) (by kernel_rfl) (by kernel_rfl) rfl rfl rfl (Qt_neB rfl rfl rfl) ?_
              refine Aw_done (by kernel_rfl) ?_
              refine Cw_cond rfl ?_ ?_
              · intro h3048
                have h3048 := nt_t (h3048)
                have H := iff_ (btf h3048) H
                refine Cw_seq ?_
                refine Cw_region ?_
                refine Ow_q rfl rfl rfl (Qt_assign rfl) ?_
                refine Ow_nil ?_
                refine Cw_ret ?_
                obtain ey0 := inj1 H
                subst y0
                refine ⟨(by first | exact .inl rfl | exact .inr rfl), [(.bool false)], ⟨(.bool false), _, rfl, rfl, rfl⟩, ?_⟩
                refine Shift.rem .here ?_
                refine Shift.rem .here ?_
                refine Shift.rem .here ?_
                refine Shift.rem .here ?_
                refine Shift.rem .here ?_
                refine Shift.rem .here ?_
                refine Shift.rem .here ?_
                refine Shift.rem .here ?_
                refine Shift.rem .here ?_
                refine Shift.rem .here ?_
                refine Shift.rem .here ?_
                refine Shift.done ?_
                exact ⟨rfl, rfl⟩
              · intro h3048
                have h3048 := nt_f (h3048)
                have H := ift h3048 H
                refine Cw_skip ?_
                refine Cw_seq ?_
                refine Cw_region ?_
                refine Ow_q rfl rfl rfl (Qt_move rfl) ?_
                refine Ow_nil ?_
                refine Cw_cond rfl ?_ ?_
                · intro h3049
                  have H := ift h3049 H
                  obtain ⟨x3050, hx3051, H⟩ := bnd H
                  obtain ⟨x3060, hx3061, H⟩ := bnd H
                  obtain ⟨x3066, hx3067, H⟩ := bnd H
                  refine Cw_region_any [.blk b2552 25 (Result.cells (Result.mk i2626 (-1) i2627 t2628 0)), .blk b2551 38 (Op.cells (Op.mk i2629 0 x2544 i2630 0 [] []) nilS nilS), .blk b782 34 (Config.cells x772 v776 v777), .blk b769 85 (Draw_Codes.cells (Draw_Codes.mk x766.list i2631 ((Draw_Codes.mk x766.list ((Draw_Codes.mk x766.list x2545 ((Draw_Codes.mk x766.list i2217 i2218).value)).at_) x2549).value)) v770), .row (sv v823) 32 1 (vs2209.map one).flatten, .tok 23 1 vs2209, .row (sv v867) 4 1 rs2215.flatten, .tok 3 1 [(sv v776)], .tok 23 1 [(sv v777)]] rfl (Inc.cons (.head _) (Inc.cons (.tail _ (.head _)) (Inc.cons (.tail _ (.tail _ (.head _))) (Inc.cons (.tail _ (.tail _ (.tail _ (.head _)))) (Inc.cons (.tail _ (.tail _ (.tail _ (.tail _ (.head _))))) (Inc.cons (.tail _ (.tail _ (.tail _ (.tail _ (.tail _ (.head _)))))) (Inc.cons (.tail _ (.tail _ (.tail _ (.tail _ (.tail _ (.tail _ (.tail _ (.tail _ (.head _))))))))) (Inc.cons (.tail _ (.tail _ (.tail _ (.tail _ (.tail _ (.tail _ (.tail _ (.tail _ (.tail _ (.head _)))))))))) (Inc.cons (.tail _ (.tail _ (.tail _ (.tail _ (.tail _ (.tail _ (.tail _ (.tail _ (.tail _ (.tail _ (.head _))))))))))) Inc.nil))))))))) ?_
                  refine Aw_q 0 rfl (by kernel_rfl) (by kernel_rfl) (by kernel_rfl) rfl rfl rfl (Qt_move rfl) ?_
                  refine Aw_q 1 rfl (by kernel_rfl) (by kernel_rfl) (by kernel_rfl) rfl rfl rfl (Qt_move rfl) ?_
                  refine Aw_q 2 rfl (by kernel_rfl) (by kernel_rfl) (by kernel_rfl) rfl rfl rfl (Qt_move rfl) ?_
                  refine Aw_q 3 rfl (by kernel_rfl) (by kernel_rfl) (by kernel_rfl) rfl rfl rfl (Qt_move rfl) ?_
                  refine Aw_q 6 rfl (by kernel_rfl) (by kernel_rfl) (by kernel_rfl) rfl rfl rfl (Qt_fieldAddr (m := 2) rfl rfl rfl rfl rfl) ?_
                  refine Aw_q 7 rfl (by kernel_rfl) (by kernel_rfl) (by kernel_rfl) rfl rfl rfl (Qt_load1 (v := (.int .u64 i2627)) rfl rfl rfl (Rdc.blk (.head _) rfl)) ?_
                  refine Aw_two 4 8 (by kernel_rfl) ?_ ?_
                  · skip
                    obtain ⟨r3077, hq3078, hr3079⟩ := RowR.at hs2745 hx3051
                    obtain ⟨v3080, rfl, hs3081⟩ := hr3079
                    have hv3082 := map_one_at hq3078
                    refine id (Ax_mk rfl rfl (OpW_of_Qt rfl rfl (Q_ixR (T := (Ty.sl Ty.u64)) (.tail _ (.tail _ (.tail _ (.tail _ (.tail _ (.tail _ (.head _))))))) hs2745 hq3078 (getI_ix hx3051).1 rfl rfl rfl rfl rfl) ⟨(Inc.cons (.head _) (Inc.cons (.tail _ (.head _)) (Inc.cons (.tail _ (.tail _ (.head _))) (Inc.cons (.tail _ (.tail _ (.tail _ (.head _)))) (Inc.cons (.tail _ (.tail _ (.tail _ (.tail _ (.head _))))) (Inc.cons (.tail _ (.tail _ (.tail _ (.tail _ (.tail _ (.head _)))))) (Inc.cons (.tail _ (.tail _ (.tail _ (.tail _ (.tail _ (.tail _ (.tail _ (.tail _ (.head _))))))))) (Inc.cons (.tail _ (.tail _ (.tail _ (.tail _ (.tail _ (.tail _ (.tail _ (.tail _ (.tail _ (.head _)))))))))) (Inc.cons (.tail _ (.tail _ (.tail _ (.tail _ (.tail _ (.tail _ (.tail _ (.tail _ (.tail _ (.tail _ (.head _))))))))))) Inc.nil))))))))), ?_⟩))
                    refine Aw_two 5 8 (by kernel_rfl) ?_ ?_
                    · skip
                      refine id (Ax_mk rfl rfl (OpW_of_Qt rfl rfl (Qt_load1 (v := (sv v3080)) rfl rfl rfl (Rd_row (T := (Ty.sl Ty.u64)) (.tail _ (.tail _ (.tail _ (.tail _ (.tail _ (.tail _ (.head _))))))) hs2745 hq3078 rfl rfl)) ⟨(Inc.cons (.head _) (Inc.cons (.tail _ (.head _)) (Inc.cons (.tail _ (.tail _ (.head _))) (Inc.cons (.tail _ (.tail _ (.tail _ (.head _)))) (Inc.cons (.tail _ (.tail _ (.tail _ (.tail _ (.head _))))) (Inc.cons (.tail _ (.tail _ (.tail _ (.tail _ (.tail _ (.head _)))))) (Inc.cons (.tail _ (.tail _ (.tail _ (.tail _ (.tail _ (.tail _ (.tail _ (.tail _ (.head _))))))))) (Inc.cons (.tail _ (.tail _ (.tail _ (.tail _ (.tail _ (.tail _ (.tail _ (.tail _ (.tail _ (.head _)))))))))) (Inc.cons (.tail _ (.tail _ (.tail _ (.tail _ (.tail _ (.tail _ (.tail _ (.tail _ (.tail _ (.tail _ (.head _))))))))))) Inc.nil))))))))), ?_⟩))
                      refine Aw_one 8 (by kernel_rfl) (Ax_mk rfl rfl ?_)
                      have hR3084 : RowR Ty.u64 K2711 [[(.int .u64 i2627)]] [i2627] := RowR.cons rfl (RowR.nil)
                      refine O_lit (T := Ty.u64) (rows := [[(.int .u64 i2627)]]) (l := [i2627]) rfl rfl rfl hR3084 rfl rfl rfl rfl rfl rfl rfl rfl (fun v3083 => ⟨(Inc.cons (.tail _ (.head _)) (Inc.cons (.tail _ (.tail _ (.head _))) (Inc.cons (.tail _ (.tail _ (.tail _ (.head _)))) (Inc.cons (.tail _ (.tail _ (.tail _ (.tail _ (.head _))))) (Inc.cons (.tail _ (.tail _ (.tail _ (.tail _ (.tail _ (.head _)))))) (Inc.cons (.tail _ (.tail _ (.tail _ (.tail _ (.tail _ (.tail _ (.head _))))))) (Inc.cons (.tail _ (.tail _ (.tail _ (.tail _ (.tail _ (.tail _ (.tail _ (.tail _ (.tail _ (.head _)))))))))) (Inc.cons (.tail _ (.tail _ (.tail _ (.tail _ (.tail _ (.tail _ (.tail _ (.tail _ (.tail _ (.tail _ (.head _))))))))))) (Inc.cons (.tail _ (.tail _ (.tail _ (.tail _ (.tail _ (.tail _ (.tail _ (.tail _ (.tail _ (.tail _ (.tail _ (.head _)))))))))))) Inc.nil))))))))), ?_⟩)
                      refine Aw_one 9 (by kernel_rfl) (Ax_mk rfl rfl ?_)
                      refine O_appTok (T := Ty.u64) (bytes := 8) (q := x2544.toNat) rfl rfl rfl hs3081 (.tail _ (.tail _ (.tail _ (.tail _ (.tail _ (.tail _ (.tail _ (.tail _ (.head _))))))))) hv3082 (SrcT.row (.head _) hR3084 rfl) hx3061 rfl rfl rfl rfl rfl rfl rfl rfl (fun v3085 K3086 hK3087 hs3088 => ⟨_, (.there (.there (.there (.there (.there (.there (.there (.there .here)))))))), ⟨(Inc.cons (.tail _ (.head _)) (Inc.cons (.tail _ (.tail _ (.head _))) (Inc.cons (.tail _ (.tail _ (.tail _ (.head _)))) (Inc.cons (.tail _ (.tail _ (.tail _ (.tail _ (.head _))))) (Inc.cons (.tail _ (.tail _ (.tail _ (.tail _ (.tail _ (.head _)))))) (Inc.cons (.tail _ (.tail _ (.tail _ (.tail _ (.tail _ (.tail _ (.head _))))))) (Inc.cons (.tail _ (.tail _ (.tail _ (.tail _ (.tail _ (.tail _ (.tail _ (.tail _ (.tail _ (.head _)))))))))) (Inc.cons (.tail _ (.tail _ (.tail _ (.tail _ (.tail _ (.tail _ (.tail _ (.tail _ (.tail _ (.tail _ (.head _))))))))))) (Inc.cons (.tail _ (.tail _ (.tail _ (.tail _ (.tail _ (.tail _ (.tail _ (.tail _ (.tail _ (.tail _ (.tail _ (.head _)))))))))))) Inc.nil))))))))), ?_⟩⟩)
                      refine Aw.shift (Shift.rem .here (Shift.done ⟨(Inc.cons (.head _) (Inc.cons (.tail _ (.head _)) (Inc.cons (.tail _ (.tail _ (.head _))) (Inc.cons (.tail _ (.tail _ (.tail _ (.head _)))) (Inc.cons (.tail _ (.tail _ (.tail _ (.tail _ (.head _))))) (Inc.cons (.tail _ (.tail _ (.tail _ (.tail _ (.tail _ (.head _)))))) (Inc.cons (.tail _ (.tail _ (.tail _ (.tail _ (.tail _ (.tail _ (.tail _ (.tail _ (.head _))))))))) (Inc.cons (.tail _ (.tail _ (.tail _ (.tail _ (.tail _ (.tail _ (.tail _ (.tail _ (.tail _ (.head _)))))))))) (Inc.cons (.tail _ (.tail _ (.tail _ (.tail _ (.tail _ (.tail _ (.tail _ (.tail _ (.tail _ (.tail _ (.head _))))))))))) Inc.nil))))))))), ?_⟩))
                      have hs3089 := (hs2745).mono hK3087
                      obtain ⟨r3090, hq3091, hr3092⟩ := RowR.at hs3089 hx3067
                      obtain ⟨v3093, rfl, hs3094⟩ := hr3092
                      have hv3095 := map_one_at hq3091
                      refine Aw_one 10 (by kernel_rfl) (Ax_mk rfl rfl (OpW_of_Qt rfl rfl (Q_ixR (T := (Ty.sl Ty.u64)) (.tail _ (.tail _ (.tail _ (.tail _ (.tail _ (.tail _ (.head _))))))) hs3089 hq3091 (getI_ix hx3067).1 rfl rfl rfl rfl rfl) ⟨(Inc.cons (.head _) (Inc.cons (.tail _ (.head _)) (Inc.cons (.tail _ (.tail _ (.head _))) (Inc.cons (.tail _ (.tail _ (.tail _ (.head _)))) (Inc.cons (.tail _ (.tail _ (.tail _ (.tail _ (.head _))))) (Inc.cons (.tail _ (.tail _ (.tail _ (.tail _ (.tail _ (.head _)))))) (Inc.cons (.tail _ (.tail _ (.tail _ (.tail _ (.tail _ (.tail _ (.tail _ (.tail _ (.head _))))))))) (Inc.cons (.tail _ (.tail _ (.tail _ (.tail _ (.tail _ (.tail _ (.tail _ (.tail _ (.tail _ (.head _)))))))))) (Inc.cons (.tail _ (.tail _ (.tail _ (.tail _ (.tail _ (.tail _ (.tail _ (.tail _ (.tail _ (.tail _ (.head _))))))))))) Inc.nil))))))))), ?_⟩))
                      refine Aw_one 11 (by kernel_rfl) (Ax_mk rfl rfl ?_)
                      refine O_storeR (T := (Ty.sl Ty.u64)) (vs := [(sv v3085)]) (r' := [(sv v3085)]) (l' := (setI l2210 x2544 x3060)) rfl rfl rfl rfl rfl (.there (.there (.there (.there (.there (.there .here)))))) hs3089 hq3091 rfl rfl rfl (RowR.set x2544 hs3089 ⟨v3085, rfl, hs3088⟩) (fun hR3096 => ⟨(Inc.cons (.head _) (Inc.cons (.tail _ (.head _)) (Inc.cons (.tail _ (.tail _ (.head _))) (Inc.cons (.tail _ (.tail _ (.tail _ (.head _)))) (Inc.cons (.tail _ (.tail _ (.tail _ (.tail _ (.head _))))) (Inc.cons (.tail _ (.tail _ (.tail _ (.tail _ (.tail _ (.head _)))))) (Inc.cons (.tail _ (.tail _ (.tail _ (.tail _ (.tail _ (.tail _ (.tail _ (.tail _ (.head _))))))))) (Inc.cons (.tail _ (.tail _ (.tail _ (.tail _ (.tail _ (.tail _ (.tail _ (.tail _ (.tail _ (.head _)))))))))) (Inc.cons (.tail _ (.tail _ (.tail _ (.tail _ (.tail _ (.tail _ (.tail _ (.tail _ (.tail _ (.tail _ (.head _))))))))))) Inc.nil))))))))), ?_⟩)
                      have hse := set_map_one vs2212 x2544.toNat (sv v3085)
                      rw [hse] at hR3096 ⊢
                      clear hse
                      have hE3097 := set_at_one hq3091 (v := (sv v3085))
                      refine Aw_done (by kernel_rfl) ?_
                      refine Shift.pull (.there (.there (.there (.there (.there (.there (.there (.there (.there (.there .here)))))))))) ?_
                      refine Shift.pull (.there (.there (.there (.there (.there (.there (.there (.there (.there (.there .here)))))))))) ?_
                      refine Shift.pull (.there (.there (.there (.there (.there (.there (.there (.there (.there (.there .here)))))))))) ?_
                      refine Shift.pull (.there (.there (.there (.there (.there (.there (.there (.there (.there (.there .here)))))))))) ?_
                      refine Shift.pull (.there (.there (.there (.there (.there (.there (.there (.there (.there (.there .here)))))))))) ?_
                      refine Shift.pull (.there (.there (.there (.there (.there (.there (.there (.there (.there (.there .here)))))))))) ?_
                      refine Shift.pull (.there (.there (.there (.there (.there (.there (.there (.there (.there (.there .here)))))))))) ?_
                      refine Shift.pull (.there (.there (.there (.there (.there (.there (.there (.there (.there (.there .here)))))))))) ?_
                      refine Shift.pull (.there (.there (.there (.there (.there (.there (.there (.there (.there (.there .here)))))))))) ?_
                      refine Shift.rem (.there (.there (.there (.there (.there (.there (.there (.there (.there .here))))))))) ?_
                      refine Shift.rem (.there (.there (.there (.there (.there (.there (.there (.there (.there .here))))))))) ?_
                      have hs3098 := (hs2738).mono hK3087
                      have hs3099 := ((hR2214).mono hK2712).mono hK3087
                      refine Shift.done ?_
                      exact ⟨[(3, (.pointer (some ((⟨b769, 0, none⟩ : Addr).add 0)))), (4, (.pointer (some ((⟨b782, 0, none⟩ : Addr).add 0)))), (5, (sv v2204)), (6, (sv v823)), (7, (sv v827)), (8, (sv v867)), (9, (.int .i64 i2216)), (14, (sv v2710)), (15, (.bool x2708))], ⟨rfl, rfl, rfl, rfl, rfl, rfl, rfl, rfl, rfl, trivial⟩, l2207, vs2209, (setI l2210 x2544 x3060), (vs2212.set x2544.toNat (sv v3085)), l2213, rs2215, rfl, rfl, H, hs3098, hR3096, hs3099⟩
                    · skip
                      refine id (Ax_mk rfl rfl ?_)
                      have hR3101 : RowR Ty.u64 K2711 [[(.int .u64 i2627)]] [i2627] := RowR.cons rfl (RowR.nil)
                      refine O_lit (T := Ty.u64) (rows := [[(.int .u64 i2627)]]) (l := [i2627]) rfl rfl rfl hR3101 rfl rfl rfl rfl rfl rfl rfl rfl (fun v3100 => ⟨(Inc.cons (.tail _ (.head _)) (Inc.cons (.tail _ (.tail _ (.head _))) (Inc.cons (.tail _ (.tail _ (.tail _ (.head _)))) (Inc.cons (.tail _ (.tail _ (.tail _ (.tail _ (.head _))))) (Inc.cons (.tail _ (.tail _ (.tail _ (.tail _ (.tail _ (.head _)))))) (Inc.cons (.tail _ (.tail _ (.tail _ (.tail _ (.tail _ (.tail _ (.head _))))))) (Inc.cons (.tail _ (.tail _ (.tail _ (.tail _ (.tail _ (.tail _ (.tail _ (.tail _ (.tail _ (.head _)))))))))) (Inc.cons (.tail _ (.tail _ (.tail _ (.tail _ (.tail _ (.tail _ (.tail _ (.tail _ (.tail _ (.tail _ (.head _))))))))))) (Inc.cons (.tail _ (.tail _ (.tail _ (.tail _ (.tail _ (.tail _ (.tail _ (.tail _ (.tail _ (.tail _ (.tail _ (.head _)))))))))))) Inc.nil))))))))), ?_⟩)
                      refine Aw_one 5 (by kernel_rfl) (Ax_mk rfl rfl (OpW_of_Qt rfl rfl (Qt_load1 (v := (sv v3080)) rfl rfl rfl (Rd_row (T := (Ty.sl Ty.u64)) (.tail _ (.tail _ (.tail _ (.tail _ (.tail _ (.tail _ (.tail _ (.head _)))))))) hs2745 hq3078 rfl rfl)) ⟨(Inc.cons (.tail _ (.head _)) (Inc.cons (.tail _ (.tail _ (.head _))) (Inc.cons (.tail _ (.tail _ (.tail _ (.head _)))) (Inc.cons (.tail _ (.tail _ (.tail _ (.tail _ (.head _))))) (Inc.cons (.tail _ (.tail _ (.tail _ (.tail _ (.tail _ (.head _)))))) (Inc.cons (.tail _ (.tail _ (.tail _ (.tail _ (.tail _ (.tail _ (.head _))))))) (Inc.cons (.tail _ (.tail _ (.tail _ (.tail _ (.tail _ (.tail _ (.tail _ (.tail _ (.tail _ (.head _)))))))))) (Inc.cons (.tail _ (.tail _ (.tail _ (.tail _ (.tail _ (.tail _ (.tail _ (.tail _ (.tail _ (.tail _ (.head _))))))))))) (Inc.cons (.tail _ (.tail _ (.tail _ (.tail _ (.tail _ (.tail _ (.tail _ (.tail _ (.tail _ (.tail _ (.tail _ (.head _)))))))))))) Inc.nil))))))))), ?_⟩))
                      refine Aw_one 9 (by kernel_rfl) (Ax_mk rfl rfl ?_)
                      refine O_appTok (T := Ty.u64) (bytes := 8) (q := x2544.toNat) rfl rfl rfl hs3081 (.tail _ (.tail _ (.tail _ (.tail _ (.tail _ (.tail _ (.tail _ (.tail _ (.head _))))))))) hv3082 (SrcT.row (.head _) hR3101 rfl) hx3061 rfl rfl rfl rfl rfl rfl rfl rfl (fun v3102 K3103 hK3104 hs3105 => ⟨_, (.there (.there (.there (.there (.there (.there (.there (.there .here)))))))), ⟨(Inc.cons (.tail _ (.head _)) (Inc.cons (.tail _ (.tail _ (.head _))) (Inc.cons (.tail _ (.tail _ (.tail _ (.head _)))) (Inc.cons (.tail _ (.tail _ (.tail _ (.tail _ (.head _))))) (Inc.cons (.tail _ (.tail _ (.tail _ (.tail _ (.tail _ (.head _)))))) (Inc.cons (.tail _ (.tail _ (.tail _ (.tail _ (.tail _ (.tail _ (.head _))))))) (Inc.cons (.tail _ (.tail _ (.tail _ (.tail _ (.tail _ (.tail _ (.tail _ (.tail _ (.tail _ (.head _)))))))))) (Inc.cons (.tail _ (.tail _ (.tail _ (.tail _ (.tail _ (.tail _ (.tail _ (.tail _ (.tail _ (.tail _ (.head _))))))))))) (Inc.cons (.tail _ (.tail _ (.tail _ (.tail _ (.tail _ (.tail _ (.tail _ (.tail _ (.tail _ (.tail _ (.tail _ (.head _)))))))))))) Inc.nil))))))))), ?_⟩⟩)
                      refine Aw.shift (Shift.rem .here (Shift.done ⟨(Inc.cons (.head _) (Inc.cons (.tail _ (.head _)) (Inc.cons (.tail _ (.tail _ (.head _))) (Inc.cons (.tail _ (.tail _ (.tail _ (.head _)))) (Inc.cons (.tail _ (.tail _ (.tail _ (.tail _ (.head _))))) (Inc.cons (.tail _ (.tail _ (.tail _ (.tail _ (.tail _ (.head _)))))) (Inc.cons (.tail _ (.tail _ (.tail _ (.tail _ (.tail _ (.tail _ (.tail _ (.tail _ (.head _))))))))) (Inc.cons (.tail _ (.tail _ (.tail _ (.tail _ (.tail _ (.tail _ (.tail _ (.tail _ (.tail _ (.head _)))))))))) (Inc.cons (.tail _ (.tail _ (.tail _ (.tail _ (.tail _ (.tail _ (.tail _ (.tail _ (.tail _ (.tail _ (.head _))))))))))) Inc.nil))))))))), ?_⟩))
                      have hs3106 := (hs2745).mono hK3104
                      obtain ⟨r3107, hq3108, hr3109⟩ := RowR.at hs3106 hx3067
                      obtain ⟨v3110, rfl, hs3111⟩ := hr3109
                      have hv3112 := map_one_at hq3108
                      refine Aw_one 10 (by kernel_rfl) (Ax_mk rfl rfl (OpW_of_Qt rfl rfl (Q_ixR (T := (Ty.sl Ty.u64)) (.tail _ (.tail _ (.tail _ (.tail _ (.tail _ (.tail _ (.head _))))))) hs3106 hq3108 (getI_ix hx3067).1 rfl rfl rfl rfl rfl) ⟨(Inc.cons (.head _) (Inc.cons (.tail _ (.head _)) (Inc.cons (.tail _ (.tail _ (.head _))) (Inc.cons (.tail _ (.tail _ (.tail _ (.head _)))) (Inc.cons (.tail _ (.tail _ (.tail _ (.tail _ (.head _))))) (Inc.cons (.tail _ (.tail _ (.tail _ (.tail _ (.tail _ (.head _)))))) (Inc.cons (.tail _ (.tail _ (.tail _ (.tail _ (.tail _ (.tail _ (.tail _ (.tail _ (.head _))))))))) (Inc.cons (.tail _ (.tail _ (.tail _ (.tail _ (.tail _ (.tail _ (.tail _ (.tail _ (.tail _ (.head _)))))))))) (Inc.cons (.tail _ (.tail _ (.tail _ (.tail _ (.tail _ (.tail _ (.tail _ (.tail _ (.tail _ (.tail _ (.head _))))))))))) Inc.nil))))))))), ?_⟩))
                      refine Aw_one 11 (by kernel_rfl) (Ax_mk rfl rfl ?_)
                      refine O_storeR (T := (Ty.sl Ty.u64)) (vs := [(sv v3102)]) (r' := [(sv v3102)]) (l' := (setI l2210 x2544 x3060)) rfl rfl rfl rfl rfl (.there (.there (.there (.there (.there (.there .here)))))) hs3106 hq3108 rfl rfl rfl (RowR.set x2544 hs3106 ⟨v3102, rfl, hs3105⟩) (fun hR3113 => ⟨(Inc.cons (.head _) (Inc.cons (.tail _ (.head _)) (Inc.cons (.tail _ (.tail _ (.head _))) (Inc.cons (.tail _ (.tail _ (.tail _ (.head _)))) (Inc.cons (.tail _ (.tail _ (.tail _ (.tail _ (.head _))))) (Inc.cons (.tail _ (.tail _ (.tail _ (.tail _ (.tail _ (.head _)))))) (Inc.cons (.tail _ (.tail _ (.tail _ (.tail _ (.tail _ (.tail _ (.tail _ (.tail _ (.head _))))))))) (Inc.cons (.tail _ (.tail _ (.tail _ (.tail _ (.tail _ (.tail _ (.tail _ (.tail _ (.tail _ (.head _)))))))))) (Inc.cons (.tail _ (.tail _ (.tail _ (.tail _ (.tail _ (.tail _ (.tail _ (.tail _ (.tail _ (.tail _ (.head _))))))))))) Inc.nil))))))))), ?_⟩)
                      have hse := set_map_one vs2212 x2544.toNat (sv v3102)
                      rw [hse] at hR3113 ⊢
                      clear hse
                      have hE3114 := set_at_one hq3108 (v := (sv v3102))
                      refine Aw_done (by kernel_rfl) ?_
                      refine Shift.pull (.there (.there (.there (.there (.there (.there (.there (.there (.there (.there .here)))))))))) ?_
                      refine Shift.pull (.there (.there (.there (.there (.there (.there (.there (.there (.there (.there .here)))))))))) ?_
                      refine Shift.pull (.there (.there (.there (.there (.there (.there (.there (.there (.there (.there .here)))))))))) ?_
                      refine Shift.pull (.there (.there (.there (.there (.there (.there (.there (.there (.there (.there .here)))))))))) ?_
                      refine Shift.pull (.there (.there (.there (.there (.there (.there (.there (.there (.there (.there .here)))))))))) ?_
                      refine Shift.pull (.there (.there (.there (.there (.there (.there (.there (.there (.there (.there .here)))))))))) ?_
                      refine Shift.pull (.there (.there (.there (.there (.there (.there (.there (.there (.there (.there .here)))))))))) ?_
                      refine Shift.pull (.there (.there (.there (.there (.there (.there (.there (.there (.there (.there .here)))))))))) ?_
                      refine Shift.pull (.there (.there (.there (.there (.there (.there (.there (.there (.there (.there .here)))))))))) ?_
                      refine Shift.rem (.there (.there (.there (.there (.there (.there (.there (.there (.there .here))))))))) ?_
                      refine Shift.rem (.there (.there (.there (.there (.there (.there (.there (.there (.there .here))))))))) ?_
                      have hs3115 := (hs2738).mono hK3104
                      have hs3116 := ((hR2214).mono hK2712).mono hK3104
                      refine Shift.done ?_
                      exact ⟨[(3, (.pointer (some ((⟨b769, 0, none⟩ : Addr).add 0)))), (4, (.pointer (some ((⟨b782, 0, none⟩ : Addr).add 0)))), (5, (sv v2204)), (6, (sv v823)), (7, (sv v827)), (8, (sv v867)), (9, (.int .i64 i2216)), (14, (sv v2710)), (15, (.bool x2708))], ⟨rfl, rfl, rfl, rfl, rfl, rfl, rfl, rfl, rfl, trivial⟩, l2207, vs2209, (setI l2210 x2544 x3060), (vs2212.set x2544.toNat (sv v3102)), l2213, rs2215, rfl, rfl, H, hs3115, hR3113, hs3116⟩
                  · skip
                    refine id (Ax_mk rfl rfl ?_)
                    have hR3118 : RowR Ty.u64 K2711 [[(.int .u64 i2627)]] [i2627] := RowR.cons rfl (RowR.nil)
                    refine O_lit (T := Ty.u64) (rows := [[(.int .u64 i2627)]]) (l := [i2627]) rfl rfl rfl hR3118 rfl rfl rfl rfl rfl rfl rfl rfl (fun v3117 => ⟨(Inc.cons (.tail _ (.head _)) (Inc.cons (.tail _ (.tail _ (.head _))) (Inc.cons (.tail _ (.tail _ (.tail _ (.head _)))) (Inc.cons (.tail _ (.tail _ (.tail _ (.tail _ (.head _))))) (Inc.cons (.tail _ (.tail _ (.tail _ (.tail _ (.tail _ (.head _)))))) (Inc.cons (.tail _ (.tail _ (.tail _ (.tail _ (.tail _ (.tail _ (.head _))))))) (Inc.cons (.tail _ (.tail _ (.tail _ (.tail _ (.tail _ (.tail _ (.tail _ (.tail _ (.tail _ (.head _)))))))))) (Inc.cons (.tail _ (.tail _ (.tail _ (.tail _ (.tail _ (.tail _ (.tail _ (.tail _ (.tail _ (.tail _ (.head _))))))))))) (Inc.cons (.tail _ (.tail _ (.tail _ (.tail _ (.tail _ (.tail _ (.tail _ (.tail _ (.tail _ (.tail _ (.tail _ (.head _)))))))))))) Inc.nil))))))))), ?_⟩)
                    obtain ⟨r3119, hq3120, hr3121⟩ := RowR.at hs2745 hx3051
                    obtain ⟨v3122, rfl, hs3123⟩ := hr3121
                    have hv3124 := map_one_at hq3120
                    refine Aw_one 4 (by kernel_rfl) (Ax_mk rfl rfl (OpW_of_Qt rfl rfl (Q_ixR (T := (Ty.sl Ty.u64)) (.tail _ (.tail _ (.tail _ (.tail _ (.tail _ (.tail _ (.tail _ (.head _)))))))) hs2745 hq3120 (getI_ix hx3051).1 rfl rfl rfl rfl rfl) ⟨(Inc.cons (.tail _ (.head _)) (Inc.cons (.tail _ (.tail _ (.head _))) (Inc.cons (.tail _ (.tail _ (.tail _ (.head _)))) (Inc.cons (.tail _ (.tail _ (.tail _ (.tail _ (.head _))))) (Inc.cons (.tail _ (.tail _ (.tail _ (.tail _ (.tail _ (.head _)))))) (Inc.cons (.tail _ (.tail _ (.tail _ (.tail _ (.tail _ (.tail _ (.head _))))))) (Inc.cons (.tail _ (.tail _ (.tail _ (.tail _ (.tail _ (.tail _ (.tail _ (.tail _ (.tail _ (.head _)))))))))) (Inc.cons (.tail _ (.tail _ (.tail _ (.tail _ (.tail _ (.tail _ (.tail _ (.tail _ (.tail _ (.tail _ (.head _))))))))))) (Inc.cons (.tail _ (.tail _ (.tail _ (.tail _ (.tail _ (.tail _ (.tail _ (.tail _ (.tail _ (.tail _ (.tail _ (.head _)))))))))))) Inc.nil))))))))), ?_⟩))
                    refine Aw_one 5 (by kernel_rfl) (Ax_mk rfl rfl (OpW_of_Qt rfl rfl (Qt_load1 (v := (sv v3122)) rfl rfl rfl (Rd_row (T := (Ty.sl Ty.u64)) (.tail _ (.tail _ (.tail _ (.tail _ (.tail _ (.tail _ (.tail _ (.head _)))))))) hs2745 hq3120 rfl rfl)) ⟨(Inc.cons (.tail _ (.head _)) (Inc.cons (.tail _ (.tail _ (.head _))) (Inc.cons (.tail _ (.tail _ (.tail _ (.head _)))) (Inc.cons (.tail _ (.tail _ (.tail _ (.tail _ (.head _))))) (Inc.cons (.tail _ (.tail _ (.tail _ (.tail _ (.tail _ (.head _)))))) (Inc.cons (.tail _ (.tail _ (.tail _ (.tail _ (.tail _ (.tail _ (.head _))))))) (Inc.cons (.tail _ (.tail _ (.tail _ (.tail _ (.tail _ (.tail _ (.tail _ (.tail _ (.tail _ (.head _)))))))))) (Inc.cons (.tail _ (.tail _ (.tail _ (.tail _ (.tail _ (.tail _ (.tail _ (.tail _ (.tail _ (.tail _ (.head _))))))))))) (Inc.cons (.tail _ (.tail _ (.tail _ (.tail _ (.tail _ (.tail _ (.tail _ (.tail _ (.tail _ (.tail _ (.tail _ (.head _)))))))))))) Inc.nil))))))))), ?_⟩))
                    refine Aw_one 9 (by kernel_rfl) (Ax_mk rfl rfl ?_)
                    refine O_appTok (T := Ty.u64) (bytes := 8) (q := x2544.toNat) rfl rfl rfl hs3123 (.tail _ (.tail _ (.tail _ (.tail _ (.tail _ (.tail _ (.tail _ (.tail _ (.head _))))))))) hv3124 (SrcT.row (.head _) hR3118 rfl) hx3061 rfl rfl rfl rfl rfl rfl rfl rfl (fun v3125 K3126 hK3127 hs3128 => ⟨_, (.there (.there (.there (.there (.there (.there (.there (.there .here)))))))), ⟨(Inc.cons (.tail _ (.head _)) (Inc.cons (.tail _ (.tail _ (.head _))) (Inc.cons (.tail _ (.tail _ (.tail _ (.head _)))) (Inc.cons (.tail _ (.tail _ (.tail _ (.tail _ (.head _))))) (Inc.cons (.tail _ (.tail _ (.tail _ (.tail _ (.tail _ (.head _)))))) (Inc.cons (.tail _ (.tail _ (.tail _ (.tail _ (.tail _ (.tail _ (.head _))))))) (Inc.cons (.tail _ (.tail _ (.tail _ (.tail _ (.tail _ (.tail _ (.tail _ (.tail _ (.tail _ (.head _)))))))))) (Inc.cons (.tail _ (.tail _ (.tail _ (.tail _ (.tail _ (.tail _ (.tail _ (.tail _ (.tail _ (.tail _ (.head _))))))))))) (Inc.cons (.tail _ (.tail _ (.tail _ (.tail _ (.tail _ (.tail _ (.tail _ (.tail _ (.tail _ (.tail _ (.tail _ (.head _)))))))))))) Inc.nil))))))))), ?_⟩⟩)
                    refine Aw.shift (Shift.rem .here (Shift.done ⟨(Inc.cons (.head _) (Inc.cons (.tail _ (.head _)) (Inc.cons (.tail _ (.tail _ (.head _))) (Inc.cons (.tail _ (.tail _ (.tail _ (.head _)))) (Inc.cons (.tail _ (.tail _ (.tail _ (.tail _ (.head _))))) (Inc.cons (.tail _ (.tail _ (.tail _ (.tail _ (.tail _ (.head _)))))) (Inc.cons (.tail _ (.tail _ (.tail _ (.tail _ (.tail _ (.tail _ (.tail _ (.tail _ (.head _))))))))) (Inc.cons (.tail _ (.tail _ (.tail _ (.tail _ (.tail _ (.tail _ (.tail _ (.tail _ (.tail _ (.head _)))))))))) (Inc.cons (.tail _ (.tail _ (.tail _ (.tail _ (.tail _ (.tail _ (.tail _ (.tail _ (.tail _ (.tail _ (.head _))))))))))) Inc.nil))))))))), ?_⟩))
                    have hs3129 := (hs2745).mono hK3127
                    obtain ⟨r3130, hq3131, hr3132⟩ := RowR.at hs3129 hx3067
                    obtain ⟨v3133, rfl, hs3134⟩ := hr3132
                    have hv3135 := map_one_at hq3131
                    refine Aw_one 10 (by kernel_rfl) (Ax_mk rfl rfl (OpW_of_Qt rfl rfl (Q_ixR (T := (Ty.sl Ty.u64)) (.tail _ (.tail _ (.tail _ (.tail _ (.tail _ (.tail _ (.head _))))))) hs3129 hq3131 (getI_ix hx3067).1 rfl rfl rfl rfl rfl) ⟨(Inc.cons (.head _) (Inc.cons (.tail _ (.head _)) (Inc.cons (.tail _ (.tail _ (.head _))) (Inc.cons (.tail _ (.tail _ (.tail _ (.head _)))) (Inc.cons (.tail _ (.tail _ (.tail _ (.tail _ (.head _))))) (Inc.cons (.tail _ (.tail _ (.tail _ (.tail _ (.tail _ (.head _)))))) (Inc.cons (.tail _ (.tail _ (.tail _ (.tail _ (.tail _ (.tail _ (.tail _ (.tail _ (.head _))))))))) (Inc.cons (.tail _ (.tail _ (.tail _ (.tail _ (.tail _ (.tail _ (.tail _ (.tail _ (.tail _ (.head _)))))))))) (Inc.cons (.tail _ (.tail _ (.tail _ (.tail _ (.tail _ (.tail _ (.tail _ (.tail _ (.tail _ (.tail _ (.head _))))))))))) Inc.nil))))))))), ?_⟩))
                    refine Aw_one 11 (by kernel_rfl) (Ax_mk rfl rfl ?_)
                    refine O_storeR (T := (Ty.sl Ty.u64)) (vs := [(sv v3125)]) (r' := [(sv v3125)]) (l' := (setI l2210 x2544 x3060)) rfl rfl rfl rfl rfl (.there (.there (.there (.there (.there (.there .here)))))) hs3129 hq3131 rfl rfl rfl (RowR.set x2544 hs3129 ⟨v3125, rfl, hs3128⟩) (fun hR3136 => ⟨(Inc.cons (.head _) (Inc.cons (.tail _ (.head _)) (Inc.cons (.tail _ (.tail _ (.head _))) (Inc.cons (.tail _ (.tail _ (.tail _ (.head _)))) (Inc.cons (.tail _ (.tail _ (.tail _ (.tail _ (.head _))))) (Inc.cons (.tail _ (.tail _ (.tail _ (.tail _ (.tail _ (.head _)))))) (Inc.cons (.tail _ (.tail _ (.tail _ (.tail _ (.tail _ (.tail _ (.tail _ (.tail _ (.head _))))))))) (Inc.cons (.tail _ (.tail _ (.tail _ (.tail _ (.tail _ (.tail _ (.tail _ (.tail _ (.tail _ (.head _)))))))))) (Inc.cons (.tail _ (.tail _ (.tail _ (.tail _ (.tail _ (.tail _ (.tail _ (.tail _ (.tail _ (.tail _ (.head _))))))))))) Inc.nil))))))))), ?_⟩)
                    have hse := set_map_one vs2212 x2544.toNat (sv v3125)
                    rw [hse] at hR3136 ⊢
                    clear hse
                    have hE3137 := set_at_one hq3131 (v := (sv v3125))
                    refine Aw_done (by kernel_rfl) ?_
                    refine Shift.pull (.there (.there (.there (.there (.there (.there (.there (.there (.there (.there .here)))))))))) ?_
                    refine Shift.pull (.there (.there (.there (.there (.there (.there (.there (.there (.there (.there .here)))))))))) ?_
                    refine Shift.pull (.there (.there (.there (.there (.there (.there (.there (.there (.there (.there .here)))))))))) ?_
                    refine Shift.pull (.there (.there (.there (.there (.there (.there (.there (.there (.there (.there .here)))))))))) ?_
                    refine Shift.pull (.there (.there (.there (.there (.there (.there (.there (.there (.there (.there .here)))))))))) ?_
                    refine Shift.pull (.there (.there (.there (.there (.there (.there (.there (.there (.there (.there .here)))))))))) ?_
                    refine Shift.pull (.there (.there (.there (.there (.there (.there (.there (.there (.there (.there .here)))))))))) ?_
                    refine Shift.pull (.there (.there (.there (.there (.there (.there (.there (.there (.there (.there .here)))))))))) ?_
                    refine Shift.pull (.there (.there (.there (.there (.there (.there (.there (.there (.there (.there .here)))))))))) ?_
                    refine Shift.rem (.there (.there (.there (.there (.there (.there (.there (.there (.there .here))))))))) ?_
                    refine Shift.rem (.there (.there (.there (.there (.there (.there (.there (.there (.there .here))))))))) ?_
                    have hs3138 := (hs2738).mono hK3127
                    have hs3139 := ((hR2214).mono hK2712).mono hK3127
                    refine Shift.done ?_
                    exact ⟨[(3, (.pointer (some ((⟨b769, 0, none⟩ : Addr).add 0)))), (4, (.pointer (some ((⟨b782, 0, none⟩ : Addr).add 0)))), (5, (sv v2204)), (6, (sv v823)), (7, (sv v827)), (8, (sv v867)), (9, (.int .i64 i2216)), (14, (sv v2710)), (15, (.bool x2708))], ⟨rfl, rfl, rfl, rfl, rfl, rfl, rfl, rfl, rfl, trivial⟩, l2207, vs2209, (setI l2210 x2544 x3060), (vs2212.set x2544.toNat (sv v3125)), l2213, rs2215, rfl, rfl, H, hs3138, hR3136, hs3139⟩
                · intro h3049
                  have H := iff_ (btf h3049) H
                  refine Cw_skip ?_
                  refine Shift.pull (.there (.there (.there (.there (.there (.there (.there (.there (.there (.there .here)))))))))) ?_
                  refine Shift.pull (.there (.there (.there (.there (.there (.there (.there (.there (.there (.there .here)))))))))) ?_
                  refine Shift.pull (.there (.there (.there (.there (.there (.there (.there (.there (.there (.there .here)))))))))) ?_
                  refine Shift.pull (.there (.there (.there (.there (.there (.there (.there (.there (.there (.there .here)))))))))) ?_
                  refine Shift.pull (.there (.there (.there (.there (.there (.there (.there (.there (.there (.there .here)))))))))) ?_
                  refine Shift.pull (.there (.there (.there (.there (.there (.there (.there (.there (.there (.there .here)))))))))) ?_
                  refine Shift.pull (.there (.there (.there (.there (.there (.there (.there (.there (.there (.there .here)))))))))) ?_
                  refine Shift.pull (.there (.there (.there (.there (.there (.there (.there (.there (.there (.there .here)))))))))) ?_
                  refine Shift.pull (.there (.there (.there (.there (.there (.there (.there (.there (.there (.there .here)))))))))) ?_
                  refine Shift.rem (.there (.there (.there (.there (.there (.there (.there (.there (.there .here))))))))) ?_
                  refine Shift.rem (.there (.there (.there (.there (.there (.there (.there (.there (.there .here))))))))) ?_
                  have hs3140 := (hR2214).mono hK2712
                  refine Shift.done ?_
                  exact ⟨[(3, (.pointer (some ((⟨b769, 0, none⟩ : Addr).add 0)))), (4, (.pointer (some ((⟨b782, 0, none⟩ : Addr).add 0)))), (5, (sv v2204)), (6, (sv v823)), (7, (sv v827)), (8, (sv v867)), (9, (.int .i64 i2216)), (14, (sv v2710)), (15, (.bool x2708))], ⟨rfl, rfl, rfl, rfl, rfl, rfl, rfl, rfl, rfl, trivial⟩, l2207, vs2209, l2210, vs2212, l2213, rs2215, rfl, rfl, H, hs2738, hs2745, hs3140⟩
            · intro h2990
              have h2990 := dcd_f (h2990)
              have H := iff_ h2990 H
              refine Cw_seq ?_
              refine Cw_region ?_
              refine Ow_q rfl rfl rfl (Qt_cmp rfl rfl rfl) ?_
              refine Ow_q rfl rfl rfl (Qt_assign rfl) ?_
              refine Ow_nil ?_
              refine Cw_cond rfl ?_ ?_
              · intro h3141
                have h3141 := dcd_t (h3141)
                have H := ift h3141 H
                refine Cw_seq ?_
                refine Cw_seq ?_
                refine Cw_region ?_
                refine Ow_q rfl rfl rfl (Qt_move rfl) ?_
                refine Ow_q rfl rfl rfl (Qt_move rfl) ?_
                refine Ow_q rfl rfl rfl (Qt_move rfl) ?_
                obtain ⟨x3149, hx3150, H⟩ := bnd H
                have hs3151 := (hR2214).mono hK2712
                obtain ⟨r3152, hq3153, hr3154⟩ := RowR.at hs3151 hx3150
                obtain rfl := hr3154
                refine Ow_q rfl rfl rfl (Q_ixR (T := Ty.bool) (.tail _ (.tail _ (.tail _ (.tail _ (.tail _ (.tail _ (.tail _ (.tail _ (.head _))))))))) hs3151 hq3153 (getI_ix hx3150).1 rfl rfl rfl rfl rfl) ?_
                refine Ow_q rfl rfl rfl (Qt_load1 (v := (.bool x3149)) rfl rfl rfl (Rd_row (T := Ty.bool) (.tail _ (.tail _ (.tail _ (.tail _ (.tail _ (.tail _ (.tail _ (.tail _ (.head _))))))))) hs3151 hq3153 rfl rfl)) ?_
                refine Ow_q rfl rfl rfl (Qt_eqB rfl rfl rfl) ?_
                refine Ow_nil ?_
                refine Cw_cond rfl ?_ ?_
                · intro h3155
                  have H := ift h3155 H
                  refine Cw_seq ?_
                  refine Cw_region ?_
                  refine Ow_q rfl rfl rfl (Qt_assign rfl) ?_
                  refine Ow_nil ?_
                  refine Cw_ret ?_
                  obtain ey0 := inj1 H
                  subst y0
                  refine ⟨(by first | exact .inl rfl | exact .inr rfl), [(.bool false)], ⟨(.bool false), _, rfl, rfl, rfl⟩, ?_⟩
                  refine Shift.rem .here ?_
                  refine Shift.rem .here ?_
                  refine Shift.rem .here ?_
                  refine Shift.rem .here ?_
                  refine Shift.rem .here ?_
                  refine Shift.rem .here ?_
                  refine Shift.rem .here ?_
                  refine Shift.rem .here ?_
                  refine Shift.rem .here ?_
                  refine Shift.rem .here ?_
                  refine Shift.rem .here ?_
                  refine Shift.done ?_
                  exact ⟨rfl, rfl⟩
                · intro h3155
                  have H := iff_ (btf h3155) H
                  refine Cw_skip ?_
                  refine Cw_region ?_
                  refine Ow_q rfl rfl rfl (Qt_move rfl) ?_
                  refine Ow_q rfl rfl rfl (Qt_move rfl) ?_
                  obtain ⟨x3156, hx3157, H⟩ := bnd H
                  obtain ⟨r3158, hq3159, hr3160⟩ := RowR.at hs3151 hx3157
                  obtain rfl := hr3160
                  refine Ow_q rfl rfl rfl (Q_ixR (T := Ty.bool) (.tail _ (.tail _ (.tail _ (.tail _ (.tail _ (.tail _ (.tail _ (.tail _ (.head _))))))))) hs3151 hq3159 (getI_ix hx3157).1 rfl rfl rfl rfl rfl) ?_
                  refine Ow_cons rfl (O_storeR (T := Ty.bool) (vs := [(.bool true)]) (r' := [(.bool true)]) (l' := (setI l2213 x2544 true)) rfl rfl rfl rfl rfl (.there (.there (.there (.there (.there (.there (.there (.there .here)))))))) hs3151 hq3159 rfl rfl rfl (RowR.set x2544 hs3151 rfl) (fun hR3161 => ?_))
                  have hE3162 := set_at hq3159 (v := [(.bool true)])
                  refine Ow_nil ?_
                  refine Shift.pull (.there (.there (.there (.there (.there (.there (.there (.there (.there (.there .here)))))))))) ?_
                  refine Shift.pull (.there (.there (.there (.there (.there (.there (.there (.there (.there (.there .here)))))))))) ?_
                  refine Shift.pull (.there (.there (.there (.there (.there (.there (.there (.there (.there (.there .here)))))))))) ?_
                  refine Shift.pull (.there (.there (.there (.there (.there (.there (.there (.there (.there (.there .here)))))))))) ?_
                  refine Shift.pull (.there (.there (.there (.there (.there (.there (.there (.there (.there (.there .here)))))))))) ?_
                  refine Shift.pull (.there (.there (.there (.there (.there (.there (.there (.there (.there (.there .here)))))))))) ?_
                  refine Shift.pull (.there (.there (.there (.there (.there (.there (.there (.there (.there (.there .here)))))))))) ?_
                  refine Shift.pull (.there (.there (.there (.there (.there (.there (.there (.there (.there (.there .here)))))))))) ?_
                  refine Shift.pull (.there (.there (.there (.there (.there (.there (.there (.there (.there (.there .here)))))))))) ?_
                  refine Shift.rem (.there (.there (.there (.there (.there (.there (.there (.there (.there .here))))))))) ?_
                  refine Shift.rem (.there (.there (.there (.there (.there (.there (.there (.there (.there .here))))))))) ?_
                  refine Shift.done ?_
                  exact ⟨[(3, (.pointer (some ((⟨b769, 0, none⟩ : Addr).add 0)))), (4, (.pointer (some ((⟨b782, 0, none⟩ : Addr).add 0)))), (5, (sv v2204)), (6, (sv v823)), (7, (sv v827)), (8, (sv v867)), (9, (.int .i64 i2216)), (14, (sv v2710)), (15, (.bool x2708))], ⟨rfl, rfl, rfl, rfl, rfl, rfl, rfl, rfl, rfl, trivial⟩, l2207, vs2209, l2210, vs2212, (setI l2213 x2544 true), (rs2215.set x2544.toNat [(.bool true)]), rfl, rfl, H, hs2738, hs2745, hR3161⟩
              · intro h3141
                have h3141 := dcd_f (h3141)
                have H := iff_ h3141 H
                refine Cw_skip ?_
                refine Shift.pull (.there (.there (.there (.there (.there (.there (.there (.there (.there (.there .here)))))))))) ?_
                refine Shift.pull (.there (.there (.there (.there (.there (.there (.there (.there (.there (.there .here)))))))))) ?_
                refine Shift.pull (.there (.there (.there (.there (.there (.there (.there (.there (.there (.there .here)))))))))) ?_
                refine Shift.pull (.there (.there (.there (.there (.there (.there (.there (.there (.there (.there .here)))))))))) ?_
                refine Shift.pull (.there (.there (.there (.there (.there (.there (.there (.there (.there (.there .here)))))))))) ?_
                refine Shift.pull (.there (.there (.there (.there (.there (.there (.there (.there (.there (.there .here)))))))))) ?_
                refine Shift.pull (.there (.there (.there (.there (.there (.there (.there (.there (.there (.there .here)))))))))) ?_
                refine Shift.pull (.there (.there (.there (.there (.there (.there (.there (.there (.there (.there .here)))))))))) ?_
                refine Shift.pull (.there (.there (.there (.there (.there (.there (.there (.there (.there (.there .here)))))))))) ?_
                refine Shift.rem (.there (.there (.there (.there (.there (.there (.there (.there (.there .here))))))))) ?_
                refine Shift.rem (.there (.there (.there (.there (.there (.there (.there (.there (.there .here))))))))) ?_
                have hs3163 := (hR2214).mono hK2712
                refine Shift.done ?_
                exact ⟨[(3, (.pointer (some ((⟨b769, 0, none⟩ : Addr).add 0)))), (4, (.pointer (some ((⟨b782, 0, none⟩ : Addr).add 0)))), (5, (sv v2204)), (6, (sv v823)), (7, (sv v827)), (8, (sv v867)), (9, (.int .i64 i2216)), (14, (sv v2710)), (15, (.bool x2708))], ⟨rfl, rfl, rfl, rfl, rfl, rfl, rfl, rfl, rfl, trivial⟩, l2207, vs2209, l2210, vs2212, l2213, rs2215, rfl, rfl, H, hs2738, hs2745, hs3163⟩
        rintro _ K3164 _ hK3165 ⟨l2924, vs2926, l2927, vs2929, l2930, rs2932, rfl, rfl, H, hR2925, hR2928, hR2931⟩
        unfold M_law14_ModelOrder_J5 at H
        refine Cw_seq ?_
        refine Cw_region ?_
        refine Ow_q rfl rfl rfl (Qt_move rfl) ?_
        refine Ow_nil ?_
        refine Cw_cond rfl ?_ ?_
        · intro h3166
          have H := ift h3166 H
          refine Cw_region ?_
          refine Ow_q rfl rfl rfl (Qt_move rfl) ?_
          refine Ow_q rfl rfl rfl (Qt_assign rfl) ?_
          refine Ow_nil ?_
          refine Cw_region ?_
          refine Ow_q rfl rfl rfl (Qt_move rfl) ?_
          refine Ow_q rfl rfl rfl (Qt_arith (e := wI (i2216 + 1)) rfl rfl rfl rfl) ?_
          refine Ow_q rfl rfl rfl (Qt_assign rfl) ?_
          refine Ow_nil ?_
          refine Shift.pull (.there (.there (.there (.there (.there (.there (.there (.there .here)))))))) ?_
          refine Shift.pull (.there (.there (.there (.there (.there (.there (.there (.there .here)))))))) ?_
          refine Shift.pull (.there (.there (.there (.there (.there (.there (.there (.there .here)))))))) ?_
          refine Shift.pull (.there (.there (.there (.there (.there (.there (.there (.there .here)))))))) ?_
          refine Shift.pull (.there (.there (.there (.there (.there (.there (.there (.there .here)))))))) ?_
          refine Shift.pull (.there (.there (.there (.there (.there (.there (.there (.there .here)))))))) ?_
          refine Shift.pull (.there (.there (.there (.there (.there (.there (.there (.there .here)))))))) ?_
          refine Shift.pull (.there (.there (.there (.there (.there (.there (.there (.there .here)))))))) ?_
          refine Shift.pull (.there (.there (.there (.there (.there (.there (.there (.there .here)))))))) ?_
          have hs3167 := (hs2713).mono hK3165
          refine Shift.done ?_
          exact ⟨[(3, (.pointer (some ((⟨b769, 0, none⟩ : Addr).add 0)))), (4, (.pointer (some ((⟨b782, 0, none⟩ : Addr).add 0)))), (5, (sv v2710)), (6, (sv v823)), (7, (sv v827)), (8, (sv v867)), (9, (.int .i64 (wI (i2216 + 1))))], ⟨rfl, rfl, rfl, rfl, rfl, rfl, rfl, trivial⟩, _, Nat.lt_succ_self _, v2710, x2707, l2924, vs2926, l2927, vs2929, l2930, rs2932, (wI (i2216 + 1)), i2631, ((Draw_Codes.mk x766.list ((Draw_Codes.mk x766.list x2545 ((Draw_Codes.mk x766.list i2217 i2218).value)).at_) x2549).value), rfl, rfl, (hkk2224 ▸ H), hs3167, hR2925, hR2928, hR2931⟩
        · intro h3166
          have H := iff_ (btf h3166) H
          refine Cw_skip ?_
          refine Cw_region ?_
          refine Ow_q rfl rfl rfl (Qt_move rfl) ?_
          refine Ow_q rfl rfl rfl (Qt_arith (e := wI (i2216 + 1)) rfl rfl rfl rfl) ?_
          refine Ow_q rfl rfl rfl (Qt_assign rfl) ?_
          refine Ow_nil ?_
          refine Shift.pull (.there (.there (.there (.there (.there (.there (.there (.there .here)))))))) ?_
          refine Shift.pull (.there (.there (.there (.there (.there (.there (.there (.there .here)))))))) ?_
          refine Shift.pull (.there (.there (.there (.there (.there (.there (.there (.there .here)))))))) ?_
          refine Shift.pull (.there (.there (.there (.there (.there (.there (.there (.there .here)))))))) ?_
          refine Shift.pull (.there (.there (.there (.there (.there (.there (.there (.there .here)))))))) ?_
          refine Shift.pull (.there (.there (.there (.there (.there (.there (.there (.there .here)))))))) ?_
          refine Shift.pull (.there (.there (.there (.there (.there (.there (.there (.there .here)))))))) ?_
          refine Shift.pull (.there (.there (.there (.there (.there (.there (.there (.there .here)))))))) ?_
          refine Shift.pull (.there (.there (.there (.there (.there (.there (.there (.there .here)))))))) ?_
          have hs3168 := ((hs2206).mono hK2712).mono hK3165
          refine Shift.done ?_
          exact ⟨[(3, (.pointer (some ((⟨b769, 0, none⟩ : Addr).add 0)))), (4, (.pointer (some ((⟨b782, 0, none⟩ : Addr).add 0)))), (5, (sv v2204)), (6, (sv v823)), (7, (sv v827)), (8, (sv v867)), (9, (.int .i64 (wI (i2216 + 1))))], ⟨rfl, rfl, rfl, rfl, rfl, rfl, rfl, trivial⟩, _, Nat.lt_succ_self _, v2204, l2205, l2924, vs2926, l2927, vs2929, l2930, rs2932, (wI (i2216 + 1)), i2631, ((Draw_Codes.mk x766.list ((Draw_Codes.mk x766.list x2545 ((Draw_Codes.mk x766.list i2217 i2218).value)).at_) x2549).value), rfl, rfl, (hkk2224 ▸ H), hs3168, hR2925, hR2928, hR2931⟩
      · intro h2226
        have h2226 := dcd_f (h2226)
        have H := iff_ h2226 H
        refine Cw_exit ?_
        refine Shift.rem .here ?_
        refine Shift.rem .here ?_
        refine Shift.rem .here ?_
        refine Shift.rem .here ?_
        refine Shift.rem .here ?_
        refine Shift.rem .here ?_
        refine Shift.rem .here ?_
        refine Shift.rem .here ?_
        refine Shift.rem .here ?_
        refine Shift.done ?_
        exact ⟨[], trivial, rfl, rfl, H⟩
    rintro _ K3169 _ hK3170 ⟨rfl, rfl, H⟩
    unfold M_law14_ModelOrder_J2 at H
    refine Cw_seq ?_
    refine Cw_region ?_
    refine Ow_q rfl rfl rfl (Qt_assign rfl) ?_
    refine Ow_nil ?_
    refine Cw_ret ?_
    obtain ey0 := inj1 H
    subst y0
    refine ⟨(by first | exact .inl rfl | exact .inr rfl), [(.bool true)], ⟨(.bool true), _, rfl, rfl, rfl⟩, ?_⟩
    refine Shift.done ?_
    exact ⟨rfl, rfl⟩


end Go.Hx
