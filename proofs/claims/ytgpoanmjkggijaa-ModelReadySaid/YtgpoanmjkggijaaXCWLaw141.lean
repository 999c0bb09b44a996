/- Printed by program. -/
import Derived.Test.YtgpoanmjkggijaaXCM
import Derived.Test.YtgpoanmjkggijaaXCWDraw
import Derived.Test.YtgpoanmjkggijaaXCWRef14
namespace Go.Hx
open Go Go.Proofs
set_option linter.unusedSimpArgs false
set_option linter.unusedVariables false
set_option maxRecDepth 10000
set_option maxHeartbeats 1000000 in
theorem c_M_law14_chans (bp0 : Nat) (p0 : Draw_Codes) (vp0_list : SV) (y0 : List Chan) (z0_at_ : Int) (z0_value : Int) (H : M_law14_chans p0 = some (y0, z0_at_, z0_value)) (K : Kp) (G : List Ent) (hp0_list : Slr Ty.u8 K (sv vp0_list) p0.list) :
    Fc Try.prog 15 #[(.pointer (some ((⟨bp0, 0, none⟩ : Addr).add 0)))] K ((.blk bp0 85 (Draw_Codes.cells p0 vp0_list)) :: G) (fun v K' G' => ∃ (wy0 : SV) (rswy0 : List (List Value)), v = (sv wy0) ∧ (.blk bp0 85 (Draw_Codes.cells (Draw_Codes.mk p0.list z0_at_ z0_value) vp0_list)) :: (.row (sv wy0) 83 3 rswy0.flatten) :: (.tok 23 1 (col 1 rswy0)) :: G = G' ∧ RowR TyChan K' rswy0 y0) := by
  refine Fc_body Try.func15 rfl Try.ntmps15 Try.results15 rfl ?_
  unfold M_law14_chans at H
  refine Cw_seq ?_
  refine Cw_region ?_
  refine Ow_q rfl rfl rfl (Qt_assign rfl) ?_
  refine Ow_nil ?_
  refine Cw_seq ?_
  refine Cw_region ?_
  refine Ow_q rfl rfl rfl (Qt_move rfl) ?_
  obtain ⟨x761, x762, x763, hx764, H⟩ := bnd3 H
  refine Ow_cons rfl (OpW_call rfl Try.call25 rfl rfl (c_M_draw_Codes_Config bp0 p0 vp0_list x761 x762 x763 hx764 _ _ hp0_list) ?_)
  rintro _ K767 _ hK768 ⟨v765, v766, rfl, rfl, hs769, hs770⟩
  obtain ⟨x771, hx772, H⟩ := bnd H
  refine Ow_cons rfl (OpW_call rfl Try.call41 rfl rfl (c_M_ref14_New x761 v765 v766 x771 hx772 _ _ hs769 hs770) ?_)
  rintro _ K775 _ hK776 ⟨v773, rs774, rfl, rfl, hs777⟩
  refine Ow_q rfl rfl rfl (Qt_assign rfl) ?_
  refine Ow_nil ?_
  refine Cw_join (fun env' K' G' => ∃ (l1516 : List Chan) (rs1518 : List (List Value)) (i1519 : Int) (i1520 : Int), [(3, (sv v773))] = env' ∧ (.blk bp0 85 (Draw_Codes.cells (Draw_Codes.mk p0.list i1519 i1520) vp0_list)) :: (.row (sv v773) 83 3 rs1518.flatten) :: (.tok 23 1 (col 1 rs1518)) :: G = G' ∧ M_law14_chans_J1 p0 l1516 i1519 i1520 = some (y0, z0_at_, z0_value) ∧ RowR TyChan K' rs1518 l1516) ?_ ?_
  · skip
    refine Cw_seq ?_
    refine Cw_region ?_
    refine Ow_q rfl rfl rfl (Qt_move rfl) ?_
    refine Ow_q rfl rfl rfl (Q_lenR (T := TyChan) (.head _) hs777 rfl rfl rfl) ?_
    refine Ow_q rfl rfl rfl (Qt_move rfl) ?_
    refine Ow_nil ?_
    refine Cw_block ?_
    refine Cw_loopM (fun n2259 env' K' G' => ∃ (l2253 : List Chan) (rs2255 : List (List Value)) (i2256 : Int) (i2257 : Int) (i2258 : Int), [(0, (.pointer (some ((⟨bp0, 0, none⟩ : Addr).add 0)))), (3, (sv v773)), (10, (.int .i64 (x771.length : Int))), (11, (.int .i64 i2256))] = env' ∧ (.blk bp0 85 (Draw_Codes.cells (Draw_Codes.mk p0.list i2257 i2258) vp0_list)) :: (.row (sv v773) 83 3 rs2255.flatten) :: (.tok 23 1 (col 1 rs2255)) :: G = G' ∧ lp4 (M_law14_chans_L1 x771 p0) n2259 l2253 i2256 i2257 i2258 = some (y0, z0_at_, z0_value) ∧ RowR TyChan K' rs2255 l2253) BIG ?_ ?_
    · skip
      refine Shift.pull (.there .here) ?_
      refine Shift.pull (.there .here) ?_
      refine Shift.pull (.there (.there .here)) ?_
      refine Shift.rem (.there (.there (.there .here))) ?_
      refine Shift.rem (.there (.there (.there .here))) ?_
      refine Shift.done ?_
      exact ⟨[(0, (.pointer (some ((⟨bp0, 0, none⟩ : Addr).add 0)))), (3, (sv v773)), (10, (.int .i64 (x771.length : Int))), (11, (.int .i64 0))], ⟨rfl, rfl, rfl, rfl, trivial⟩, x771, rs774, 0, x762, x763, rfl, rfl, H, hs777⟩
    rintro n2259 _ K2260 _ hK2261 ⟨l2253, rs2255, i2256, i2257, i2258, rfl, rfl, H, hR2254⟩
    obtain ⟨m2262, k2263, rfl, hkk2264, H⟩ := lps4 H
    unfold M_law14_chans_L1 at H
    refine Cw_seq ?_
    refine Cw_region ?_
    refine Ow_q rfl rfl rfl (Qt_cmp rfl rfl rfl) ?_
    refine Ow_nil ?_
    refine Cw_seq ?_
    refine Cw_cond rfl ?_ ?_
    · intro h2266
      have h2266 := dcd_t (h2266)
      have H := ift h2266 H
      refine Cw_skip ?_
      refine Cw_join (fun env' K' G' => ∃ (l2620 : List Chan) (rs2622 : List (List Value)) (i2623 : Int) (i2624 : Int), [(0, (.pointer (some ((⟨bp0, 0, none⟩ : Addr).add 0)))), (3, (sv v773)), (10, (.int .i64 (x771.length : Int))), (11, (.int .i64 i2256))] = env' ∧ (.blk bp0 85 (Draw_Codes.cells (Draw_Codes.mk p0.list i2623 i2624) vp0_list)) :: (.row (sv v773) 83 3 rs2622.flatten) :: (.tok 23 1 (col 1 rs2622)) :: G = G' ∧ M_law14_chans_J2 x771 i2256 p0 k2263 l2620 i2623 i2624 = some (y0, z0_at_, z0_value) ∧ RowR TyChan K' rs2622 l2620) ?_ ?_
      · skip
        refine Cw_block ?_
        refine Cw_seq ?_
        refine Cw_region ?_
        refine Ow_q rfl rfl rfl (Qt_move rfl) ?_
        refine Ow_q rfl rfl rfl (Qt_assign rfl) ?_
        refine Ow_nil ?_
        refine Cw_join (fun env' K' G' => ∃ (l2956 : List Chan) (rs2958 : List (List Value)) (i2959 : Int) (i2960 : Int), [(0, (.pointer (some ((⟨bp0, 0, none⟩ : Addr).add 0)))), (3, (sv v773)), (4, (.int .i64 i2256)), (10, (.int .i64 (x771.length : Int))), (11, (.int .i64 i2256))] = env' ∧ (.blk bp0 85 (Draw_Codes.cells (Draw_Codes.mk p0.list i2959 i2960) vp0_list)) :: (.row (sv v773) 83 3 rs2958.flatten) :: (.tok 23 1 (col 1 rs2958)) :: G = G' ∧ M_law14_chans_J3 i2256 x771 p0 k2263 l2956 i2959 i2960 = some (y0, z0_at_, z0_value) ∧ RowR TyChan K' rs2958 l2956) ?_ ?_
        · skip
          refine Cw_seq ?_
          refine Cw_region ?_
          refine Ow_q rfl rfl rfl (Qt_assign rfl) ?_
          refine Ow_nil ?_
          refine Cw_block ?_
          refine Cw_loopM (fun n3292 env' K' G' => ∃ (l3286 : List Chan) (rs3288 : List (List Value)) (i3289 : Int) (i3290 : Int) (i3291 : Int), [(0, (.pointer (some ((⟨bp0, 0, none⟩ : Addr).add 0)))), (3, (sv v773)), (4, (.int .i64 i2256)), (5, (.int .i64 i3289)), (10, (.int .i64 (x771.length : Int))), (11, (.int .i64 i2256))] = env' ∧ (.blk bp0 85 (Draw_Codes.cells (Draw_Codes.mk p0.list i3290 i3291) vp0_list)) :: (.row (sv v773) 83 3 rs3288.flatten) :: (.tok 23 1 (col 1 rs3288)) :: G = G' ∧ lp4 (M_law14_chans_L2 i2256 x771 p0 k2263) n3292 l3286 i3289 i3290 i3291 = some (y0, z0_at_, z0_value) ∧ RowR TyChan K' rs3288 l3286) BIG ?_ ?_
          · skip
            refine Shift.pull (.there (.there .here)) ?_
            refine Shift.pull (.there (.there .here)) ?_
            refine Shift.pull (.there (.there .here)) ?_
            refine Shift.done ?_
            exact ⟨[(0, (.pointer (some ((⟨bp0, 0, none⟩ : Addr).add 0)))), (3, (sv v773)), (4, (.int .i64 i2256)), (5, (.int .i64 0)), (10, (.int .i64 (x771.length : Int))), (11, (.int .i64 i2256))], ⟨rfl, rfl, rfl, rfl, rfl, rfl, trivial⟩, l2253, rs2255, 0, i2257, i2258, rfl, rfl, H, hR2254⟩
          rintro n3292 _ K3293 _ hK3294 ⟨l3286, rs3288, i3289, i3290, i3291, rfl, rfl, H, hR3287⟩
          obtain ⟨m3295, k3296, rfl, hkk3297, H⟩ := lps4 H
          unfold M_law14_chans_L2 at H
          refine Cw_seq ?_
          refine Cw_seq ?_
          refine Cw_region ?_
          refine Ow_q rfl rfl rfl (Qt_move rfl) ?_
          refine Ow_q rfl rfl rfl (Qt_move rfl) ?_
          refine Ow_q rfl rfl rfl (Qt_move rfl) ?_
          refine Ow_q rfl rfl rfl (Qt_move rfl) ?_
          obtain ⟨x3311, hx3312, H⟩ := bnd H
          obtain ⟨r3313, hq3314, hr3315⟩ := RowR.at hR3287 hx3312
          obtain ⟨v3316, rfl, hs3317⟩ := hr3315
          have hv3318 := col_at (k := 1) hq3314 rfl
          refine Ow_q rfl rfl rfl (Q_ixR (T := TyChan) (.tail _ (.head _)) hR3287 hq3314 (getI_ix hx3312).1 rfl rfl rfl rfl rfl) ?_
          refine Ow_q rfl rfl rfl (Qt_fieldAddr (m := 0) rfl rfl rfl rfl rfl) ?_
          refine Ow_q rfl rfl rfl (Qt_load1 (v := (.int .i64 x3311.capacity)) rfl rfl rfl (Rd_row (T := TyChan) (.tail _ (.head _)) hR3287 hq3314 rfl rfl)) ?_
          refine Ow_q rfl rfl rfl (Qt_arith (e := wI (x3311.capacity + 1)) rfl rfl rfl rfl) ?_
          obtain ⟨x3319, x3320, hx3321, H⟩ := bnd2 H
          have hs3322 := ((((hp0_list).mono hK768).mono hK776).mono hK2261).mono hK3294
          refine Ow_cons rfl (OpW_call rfl Try.call27 rfl rfl (c_M_draw_Codes_Next bp0 (Draw_Codes.mk p0.list i3290 i3291) vp0_list (wI (x3311.capacity + 1)) x3319 x3320 hx3321 _ _ hs3322) ?_)
          rintro _ _ _ - ⟨rfl, rfl, rfl⟩
          refine Ow_q rfl rfl rfl (Qt_cmp rfl rfl rfl) ?_
          refine Ow_nil ?_
          refine Cw_cond rfl ?_ ?_
          · intro h3323
            have h3323 := dcd_t (h3323)
            have H := ift h3323 H
            refine Cw_skip ?_
            refine Cw_join (fun env' K' G' => ∃ (l3462 : List Chan) (rs3464 : List (List Value)) (i3465 : Int), [(0, (.pointer (some ((⟨bp0, 0, none⟩ : Addr).add 0)))), (3, (sv v773)), (4, (.int .i64 i2256)), (5, (.int .i64 i3289)), (10, (.int .i64 (x771.length : Int))), (11, (.int .i64 i2256))] = env' ∧ (.blk bp0 85 (Draw_Codes.cells (Draw_Codes.mk p0.list ((Draw_Codes.mk p0.list x3320 ((Draw_Codes.mk p0.list i3290 i3291).value)).at_) i3465) vp0_list)) :: (.row (sv v773) 83 3 rs3464.flatten) :: (.tok 23 1 (col 1 rs3464)) :: G = G' ∧ M_law14_chans_J4 i2256 i3289 x771 p0 x3320 i3290 i3291 k2263 k3296 l3462 i3465 = some (y0, z0_at_, z0_value) ∧ RowR TyChan K' rs3464 l3462) ?_ ?_
            · skip
              refine Cw_block ?_
              obtain ⟨x3466, hx3467, H⟩ := bnd H
              obtain ⟨x3474, x3475, hx3476, H⟩ := bnd2 H
              obtain ⟨x3479, hx3480, H⟩ := bnd H
              obtain ⟨x3485, hx3486, H⟩ := bnd H
              refine Cw_region_any [] rfl Inc.nil ?_
              refine Aw_q 0 rfl (by kernel_rfl) (by kernel_rfl) (by kernel_rfl) rfl rfl rfl (Qt_move rfl) ?_
              refine Aw_q 1 rfl (by kernel_rfl) (by kernel_rfl) (by kernel_rfl) rfl rfl rfl (Qt_move rfl) ?_
              refine Aw_q 2 rfl (by kernel_rfl) (by kernel_rfl) (by kernel_rfl) rfl rfl rfl (Qt_move rfl) ?_
              refine Aw_q 3 rfl (by kernel_rfl) (by kernel_rfl) (by kernel_rfl) rfl rfl rfl (Qt_move rfl) ?_
              refine Aw_q 7 rfl (by kernel_rfl) (by kernel_rfl) (by kernel_rfl) rfl rfl rfl (Qt_move rfl) ?_
              refine Aw_two 4 8 (by kernel_rfl) ?_ ?_
              · skip
                obtain ⟨r3496, hq3497, hr3498⟩ := RowR.at hR3287 hx3467
                obtain ⟨v3499, rfl, hs3500⟩ := hr3498
                have hv3501 := col_at (k := 1) hq3497 rfl
                refine id (Ax_mk rfl rfl (OpW_of_Qt rfl rfl (Q_ixR (T := TyChan) (.tail _ (.head _)) hR3287 hq3497 (getI_ix hx3467).1 rfl rfl rfl rfl rfl) ⟨Inc.nil, ?_⟩))
                refine Aw_q 5 rfl (by kernel_rfl) (by kernel_rfl) (by kernel_rfl) rfl rfl rfl (Qt_fieldAddr (m := 1) rfl rfl rfl rfl rfl) ?_
                refine Aw_two 6 8 (by kernel_rfl) ?_ ?_
                · skip
                  refine id (Ax_mk rfl rfl (OpW_of_Qt rfl rfl (Qt_load1 (v := (sv v3499)) rfl rfl rfl (Rd_row (T := TyChan) (.tail _ (.head _)) hR3287 hq3497 rfl rfl)) ⟨Inc.nil, ?_⟩))
                  refine Aw_one 8 (by kernel_rfl) (Ax_mk rfl rfl ?_)
                  refine OpW_call rfl Try.call28 rfl rfl (c_M_draw_Codes_Value bp0 (Draw_Codes.mk p0.list x3320 ((Draw_Codes.mk p0.list i3290 i3291).value)) vp0_list x3474 x3475 hx3476 _ _ hs3322) ?_
                  rintro _ _ _ - ⟨rfl, rfl, rfl⟩
                  refine ⟨Inc.nil, ?_⟩
                  refine Aw_one 9 (by kernel_rfl) (Ax_mk rfl rfl ?_)
                  have hR3503 : RowR Ty.u64 K3293 [[(.int .u64 x3474)]] [x3474] := RowR.cons rfl (RowR.nil)
                  refine O_lit (T := Ty.u64) (rows := [[(.int .u64 x3474)]]) (l := [x3474]) rfl rfl rfl hR3503 rfl rfl rfl rfl rfl rfl rfl rfl (fun v3502 => ⟨Inc.nil, ?_⟩)
                  refine Aw_one 10 (by kernel_rfl) (Ax_mk rfl rfl ?_)
                  refine O_appTok (T := Ty.u64) (bytes := 8) (q := i2256.toNat) rfl rfl rfl hs3500 (.tail _ (.tail _ (.tail _ (.head _)))) hv3501 (SrcT.row (.head _) hR3503 rfl) hx3480 rfl rfl rfl rfl rfl rfl rfl rfl (fun v3504 K3505 hK3506 hs3507 => ⟨_, (.there (.there (.there .here))), ⟨Inc.nil, ?_⟩⟩)
                  refine Aw.shift (Shift.rem .here (Shift.done ⟨Inc.nil, ?_⟩))
                  have hs3508 := (hR3287).mono hK3506
                  obtain ⟨r3509, hq3510, hr3511⟩ := RowR.at hs3508 hx3486
                  obtain ⟨v3512, rfl, hs3513⟩ := hr3511
                  refine Aw_one 11 (by kernel_rfl) (Ax_mk rfl rfl (OpW_of_Qt rfl rfl (Q_ixR (T := TyChan) (.tail _ (.head _)) hs3508 hq3510 (getI_ix hx3486).1 rfl rfl rfl rfl rfl) ⟨Inc.nil, ?_⟩))
                  refine Aw_q 12 rfl (by kernel_rfl) (by kernel_rfl) (by kernel_rfl) rfl rfl rfl (Qt_fieldAddr (m := 1) rfl rfl rfl rfl rfl) ?_
                  refine Aw_one 13 (by kernel_rfl) (Ax_mk rfl rfl ?_)
                  refine O_storeR (T := TyChan) (vs := [(sv v3504)]) (r' := (Chan.cells (Chan.mk x3485.capacity x3479 x3485.closed) v3504)) (l' := (setI l3286 i2256 (Chan.mk x3485.capacity x3479 x3485.closed))) rfl rfl rfl rfl rfl (.there .here) hs3508 hq3510 rfl rfl rfl (RowR.set i2256 hs3508 ⟨v3504, rfl, hs3507⟩) (fun hR3514 => ⟨Inc.nil, ?_⟩)
                  have hE3515 := set_at hq3510 (v := (Chan.cells (Chan.mk x3485.capacity x3479 x3485.closed) v3504))
                  have hse := col_set (k := 1) hq3510 (r' := (Chan.cells (Chan.mk x3485.capacity x3479 x3485.closed) v3504)) (v := (sv v3504)) rfl
                  rw [hse]
                  clear hse
                  have hv3516 := col_at (k := 1) hE3515 rfl
                  refine Aw_done (by kernel_rfl) ?_
                  refine Shift.pull (.there (.there .here)) ?_
                  refine Shift.pull (.there (.there .here)) ?_
                  refine Shift.pull (.there (.there .here)) ?_
                  refine Shift.done ?_
                  exact ⟨[(0, (.pointer (some ((⟨bp0, 0, none⟩ : Addr).add 0)))), (3, (sv v773)), (4, (.int .i64 i2256)), (5, (.int .i64 i3289)), (10, (.int .i64 (x771.length : Int))), (11, (.int .i64 i2256))], ⟨rfl, rfl, rfl, rfl, rfl, rfl, trivial⟩, (setI l3286 i2256 (Chan.mk x3485.capacity x3479 x3485.closed)), (rs3288.set i2256.toNat (Chan.cells (Chan.mk x3485.capacity x3479 x3485.closed) v3504)), x3475, rfl, rfl, H, hR3514⟩
                · skip
                  refine id (Ax_mk rfl rfl ?_)
                  refine OpW_call rfl Try.call28 rfl rfl (c_M_draw_Codes_Value bp0 (Draw_Codes.mk p0.list x3320 ((Draw_Codes.mk p0.list i3290 i3291).value)) vp0_list x3474 x3475 hx3476 _ _ hs3322) ?_
                  rintro _ _ _ - ⟨rfl, rfl, rfl⟩
                  refine ⟨Inc.nil, ?_⟩
                  refine Aw_two 6 9 (by kernel_rfl) ?_ ?_
                  · skip
                    refine id (Ax_mk rfl rfl (OpW_of_Qt rfl rfl (Qt_load1 (v := (sv v3499)) rfl rfl rfl (Rd_row (T := TyChan) (.tail _ (.head _)) hR3287 hq3497 rfl rfl)) ⟨Inc.nil, ?_⟩))
                    refine Aw_one 9 (by kernel_rfl) (Ax_mk rfl rfl ?_)
                    have hR3518 : RowR Ty.u64 K3293 [[(.int .u64 x3474)]] [x3474] := RowR.cons rfl (RowR.nil)
                    refine O_lit (T := Ty.u64) (rows := [[(.int .u64 x3474)]]) (l := [x3474]) rfl rfl rfl hR3518 rfl rfl rfl rfl rfl rfl rfl rfl (fun v3517 => ⟨Inc.nil, ?_⟩)
                    refine Aw_one 10 (by kernel_rfl) (Ax_mk rfl rfl ?_)
                    refine O_appTok (T := Ty.u64) (bytes := 8) (q := i2256.toNat) rfl rfl rfl hs3500 (.tail _ (.tail _ (.tail _ (.head _)))) hv3501 (SrcT.row (.head _) hR3518 rfl) hx3480 rfl rfl rfl rfl rfl rfl rfl rfl (fun v3519 K3520 hK3521 hs3522 => ⟨_, (.there (.there (.there .here))), ⟨Inc.nil, ?_⟩⟩)
                    refine Aw.shift (Shift.rem .here (Shift.done ⟨Inc.nil, ?_⟩))
                    have hs3523 := (hR3287).mono hK3521
                    obtain ⟨r3524, hq3525, hr3526⟩ := RowR.at hs3523 hx3486
                    obtain ⟨v3527, rfl, hs3528⟩ := hr3526
                    refine Aw_one 11 (by kernel_rfl) (Ax_mk rfl rfl (OpW_of_Qt rfl rfl (Q_ixR (T := TyChan) (.tail _ (.head _)) hs3523 hq3525 (getI_ix hx3486).1 rfl rfl rfl rfl rfl) ⟨Inc.nil, ?_⟩))
                    refine Aw_q 12 rfl (by kernel_rfl) (by kernel_rfl) (by kernel_rfl) rfl rfl rfl (Qt_fieldAddr (m := 1) rfl rfl rfl rfl rfl) ?_
                    refine Aw_one 13 (by kernel_rfl) (Ax_mk rfl rfl ?_)
                    refine O_storeR (T := TyChan) (vs := [(sv v3519)]) (r' := (Chan.cells (Chan.mk x3485.capacity x3479 x3485.closed) v3519)) (l' := (setI l3286 i2256 (Chan.mk x3485.capacity x3479 x3485.closed))) rfl rfl rfl rfl rfl (.there .here) hs3523 hq3525 rfl rfl rfl (RowR.set i2256 hs3523 ⟨v3519, rfl, hs3522⟩) (fun hR3529 => ⟨Inc.nil, ?_⟩)
                    have hE3530 := set_at hq3525 (v := (Chan.cells (Chan.mk x3485.capacity x3479 x3485.closed) v3519))
                    have hse := col_set (k := 1) hq3525 (r' := (Chan.cells (Chan.mk x3485.capacity x3479 x3485.closed) v3519)) (v := (sv v3519)) rfl
                    rw [hse]
                    clear hse
                    have hv3531 := col_at (k := 1) hE3530 rfl
                    refine Aw_done (by kernel_rfl) ?_
                    refine Shift.pull (.there (.there .here)) ?_
                    refine Shift.pull (.there (.there .here)) ?_
                    refine Shift.pull (.there (.there .here)) ?_
                    refine Shift.done ?_
                    exact ⟨[(0, (.pointer (some ((⟨bp0, 0, none⟩ : Addr).add 0)))), (3, (sv v773)), (4, (.int .i64 i2256)), (5, (.int .i64 i3289)), (10, (.int .i64 (x771.length : Int))), (11, (.int .i64 i2256))], ⟨rfl, rfl, rfl, rfl, rfl, rfl, trivial⟩, (setI l3286 i2256 (Chan.mk x3485.capacity x3479 x3485.closed)), (rs3288.set i2256.toNat (Chan.cells (Chan.mk x3485.capacity x3479 x3485.closed) v3519)), x3475, rfl, rfl, H, hR3529⟩
                  · skip
                    refine id (Ax_mk rfl rfl ?_)
                    have hR3533 : RowR Ty.u64 K3293 [[(.int .u64 x3474)]] [x3474] := RowR.cons rfl (RowR.nil)
                    refine O_lit (T := Ty.u64) (rows := [[(.int .u64 x3474)]]) (l := [x3474]) rfl rfl rfl hR3533 rfl rfl rfl rfl rfl rfl rfl rfl (fun v3532 => ⟨Inc.nil, ?_⟩)
                    refine Aw_one 6 (by kernel_rfl) (Ax_mk rfl rfl (OpW_of_Qt rfl rfl (Qt_load1 (v := (sv v3499)) rfl rfl rfl (Rd_row (T := TyChan) (.tail _ (.tail _ (.head _))) hR3287 hq3497 rfl rfl)) ⟨Inc.nil, ?_⟩))
                    refine Aw_one 10 (by kernel_rfl) (Ax_mk rfl rfl ?_)
                    refine O_appTok (T := Ty.u64) (bytes := 8) (q := i2256.toNat) rfl rfl rfl hs3500 (.tail _ (.tail _ (.tail _ (.head _)))) hv3501 (SrcT.row (.head _) hR3533 rfl) hx3480 rfl rfl rfl rfl rfl rfl rfl rfl (fun v3534 K3535 hK3536 hs3537 => ⟨_, (.there (.there (.there .here))), ⟨Inc.nil, ?_⟩⟩)
                    refine Aw.shift (Shift.rem .here (Shift.done ⟨Inc.nil, ?_⟩))
                    have hs3538 := (hR3287).mono hK3536
                    obtain ⟨r3539, hq3540, hr3541⟩ := RowR.at hs3538 hx3486
                    obtain ⟨v3542, rfl, hs3543⟩ := hr3541
                    refine Aw_one 11 (by kernel_rfl) (Ax_mk rfl rfl (OpW_of_Qt rfl rfl (Q_ixR (T := TyChan) (.tail _ (.head _)) hs3538 hq3540 (getI_ix hx3486).1 rfl rfl rfl rfl rfl) ⟨Inc.nil, ?_⟩))
                    refine Aw_q 12 rfl (by kernel_rfl) (by kernel_rfl) (by kernel_rfl) rfl rfl rfl (Qt_fieldAddr (m := 1) rfl rfl rfl rfl rfl) ?_
                    refine Aw_one 13 (by kernel_rfl) (Ax_mk rfl rfl ?_)
                    refine O_storeR (T := TyChan) (vs := [(sv v3534)]) (r' := (Chan.cells (Chan.mk x3485.capacity x3479 x3485.closed) v3534)) (l' := (setI l3286 i2256 (Chan.mk x3485.capacity x3479 x3485.closed))) rfl rfl rfl rfl rfl (.there .here) hs3538 hq3540 rfl rfl rfl (RowR.set i2256 hs3538 ⟨v3534, rfl, hs3537⟩) (fun hR3544 => ⟨Inc.nil, ?_⟩)
                    have hE3545 := set_at hq3540 (v := (Chan.cells (Chan.mk x3485.capacity x3479 x3485.closed) v3534))
                    have hse := col_set (k := 1) hq3540 (r' := (Chan.cells (Chan.mk x3485.capacity x3479 x3485.closed) v3534)) (v := (sv v3534)) rfl
                    rw [hse]
                    clear hse
                    have hv3546 := col_at (k := 1) hE3545 rfl
                    refine Aw_done (by kernel_rfl) ?_
                    refine Shift.pull (.there (.there .here)) ?_
                    refine Shift.pull (.there (.there .here)) ?_
                    refine Shift.pull (.there (.there .here)) ?_
                    refine Shift.done ?_
                    exact ⟨[(0, (.pointer (some ((⟨bp0, 0, none⟩ : Addr).add 0)))), (3, (sv v773)), (4, (.int .i64 i2256)), (5, (.int .i64 i3289)), (10, (.int .i64 (x771.length : Int))), (11, (.int .i64 i2256))], ⟨rfl, rfl, rfl, rfl, rfl, rfl, trivial⟩, (setI l3286 i2256 (Chan.mk x3485.capacity x3479 x3485.closed)), (rs3288.set i2256.toNat (Chan.cells (Chan.mk x3485.capacity x3479 x3485.closed) v3534)), x3475, rfl, rfl, H, hR3544⟩
              · skip
                refine id (Ax_mk rfl rfl ?_)
                refine OpW_call rfl Try.call28 rfl rfl (c_M_draw_Codes_Value bp0 (Draw_Codes.mk p0.list x3320 ((Draw_Codes.mk p0.list i3290 i3291).value)) vp0_list x3474 x3475 hx3476 _ _ hs3322) ?_
                rintro _ _ _ - ⟨rfl, rfl, rfl⟩
                refine ⟨Inc.nil, ?_⟩
                refine Aw_two 4 9 (by kernel_rfl) ?_ ?_
                · skip
                  obtain ⟨r3547, hq3548, hr3549⟩ := RowR.at hR3287 hx3467
                  obtain ⟨v3550, rfl, hs3551⟩ := hr3549
                  have hv3552 := col_at (k := 1) hq3548 rfl
                  refine id (Ax_mk rfl rfl (OpW_of_Qt rfl rfl (Q_ixR (T := TyChan) (.tail _ (.head _)) hR3287 hq3548 (getI_ix hx3467).1 rfl rfl rfl rfl rfl) ⟨Inc.nil, ?_⟩))
                  refine Aw_q 5 rfl (by kernel_rfl) (by kernel_rfl) (by kernel_rfl) rfl rfl rfl (Qt_fieldAddr (m := 1) rfl rfl rfl rfl rfl) ?_
                  refine Aw_two 6 9 (by kernel_rfl) ?_ ?_
                  · skip
                    refine id (Ax_mk rfl rfl (OpW_of_Qt rfl rfl (Qt_load1 (v := (sv v3550)) rfl rfl rfl (Rd_row (T := TyChan) (.tail _ (.head _)) hR3287 hq3548 rfl rfl)) ⟨Inc.nil, ?_⟩))
                    refine Aw_one 9 (by kernel_rfl) (Ax_mk rfl rfl ?_)
                    have hR3554 : RowR Ty.u64 K3293 [[(.int .u64 x3474)]] [x3474] := RowR.cons rfl (RowR.nil)
                    refine O_lit (T := Ty.u64) (rows := [[(.int .u64 x3474)]]) (l := [x3474]) rfl rfl rfl hR3554 rfl rfl rfl rfl rfl rfl rfl rfl (fun v3553 => ⟨Inc.nil, ?_⟩)
                    refine Aw_one 10 (by kernel_rfl) (Ax_mk rfl rfl ?_)
                    refine O_appTok (T := Ty.u64) (bytes := 8) (q := i2256.toNat) rfl rfl rfl hs3551 (.tail _ (.tail _ (.tail _ (.head _)))) hv3552 (SrcT.row (.head _) hR3554 rfl) hx3480 rfl rfl rfl rfl rfl rfl rfl rfl (fun v3555 K3556 hK3557 hs3558 => ⟨_, (.there (.there (.there .here))), ⟨Inc.nil, ?_⟩⟩)
                    refine Aw.shift (Shift.rem .here (Shift.done ⟨Inc.nil, ?_⟩))
                    have hs3559 := (hR3287).mono hK3557
                    obtain ⟨r3560, hq3561, hr3562⟩ := RowR.at hs3559 hx3486
                    obtain ⟨v3563, rfl, hs3564⟩ := hr3562
                    refine Aw_one 11 (by kernel_rfl) (Ax_mk rfl rfl (OpW_of_Qt rfl rfl (Q_ixR (T := TyChan) (.tail _ (.head _)) hs3559 hq3561 (getI_ix hx3486).1 rfl rfl rfl rfl rfl) ⟨Inc.nil, ?_⟩))
                    refine Aw_q 12 rfl (by kernel_rfl) (by kernel_rfl) (by kernel_rfl) rfl rfl rfl (Qt_fieldAddr (m := 1) rfl rfl rfl rfl rfl) ?_
                    refine Aw_one 13 (by kernel_rfl) (Ax_mk rfl rfl ?_)
                    refine O_storeR (T := TyChan) (vs := [(sv v3555)]) (r' := (Chan.cells (Chan.mk x3485.capacity x3479 x3485.closed) v3555)) (l' := (setI l3286 i2256 (Chan.mk x3485.capacity x3479 x3485.closed))) rfl rfl rfl rfl rfl (.there .here) hs3559 hq3561 rfl rfl rfl (RowR.set i2256 hs3559 ⟨v3555, rfl, hs3558⟩) (fun hR3565 => ⟨Inc.nil, ?_⟩)
                    have hE3566 := set_at hq3561 (v := (Chan.cells (Chan.mk x3485.capacity x3479 x3485.closed) v3555))
                    have hse := col_set (k := 1) hq3561 (r' := (Chan.cells (Chan.mk x3485.capacity x3479 x3485.closed) v3555)) (v := (sv v3555)) rfl
                    rw [hse]
                    clear hse
                    have hv3567 := col_at (k := 1) hE3566 rfl
                    refine Aw_done (by kernel_rfl) ?_
                    refine Shift.pull (.there (.there .here)) ?_
                    refine Shift.pull (.there (.there .here)) ?_
                    refine Shift.pull (.there (.there .here)) ?_
                    refine Shift.done ?_
                    exact ⟨[(0, (.pointer (some ((⟨bp0, 0, none⟩ : Addr).add 0)))), (3, (sv v773)), (4, (.int .i64 i2256)), (5, (.int .i64 i3289)), (10, (.int .i64 (x771.length : Int))), (11, (.int .i64 i2256))], ⟨rfl, rfl, rfl, rfl, rfl, rfl, trivial⟩, (setI l3286 i2256 (Chan.mk x3485.capacity x3479 x3485.closed)), (rs3288.set i2256.toNat (Chan.cells (Chan.mk x3485.capacity x3479 x3485.closed) v3555)), x3475, rfl, rfl, H, hR3565⟩
                  · skip
                    refine id (Ax_mk rfl rfl ?_)
                    have hR3569 : RowR Ty.u64 K3293 [[(.int .u64 x3474)]] [x3474] := RowR.cons rfl (RowR.nil)
                    refine O_lit (T := Ty.u64) (rows := [[(.int .u64 x3474)]]) (l := [x3474]) rfl rfl rfl hR3569 rfl rfl rfl rfl rfl rfl rfl rfl (fun v3568 => ⟨Inc.nil, ?_⟩)
                    refine Aw_one 6 (by kernel_rfl) (Ax_mk rfl rfl (OpW_of_Qt rfl rfl (Qt_load1 (v := (sv v3550)) rfl rfl rfl (Rd_row (T := TyChan) (.tail _ (.tail _ (.head _))) hR3287 hq3548 rfl rfl)) ⟨Inc.nil, ?_⟩))
                    refine Aw_one 10 (by kernel_rfl) (Ax_mk rfl rfl ?_)
                    refine O_appTok (T := Ty.u64) (bytes := 8) (q := i2256.toNat) rfl rfl rfl hs3551 (.tail _ (.tail _ (.tail _ (.head _)))) hv3552 (SrcT.row (.head _) hR3569 rfl) hx3480 rfl rfl rfl rfl rfl rfl rfl rfl (fun v3570 K3571 hK3572 hs3573 => ⟨_, (.there (.there (.there .here))), ⟨Inc.nil, ?_⟩⟩)
                    refine Aw.shift (Shift.rem .here (Shift.done ⟨Inc.nil, ?_⟩))
                    have hs3574 := (hR3287).mono hK3572
                    obtain ⟨r3575, hq3576, hr3577⟩ := RowR.at hs3574 hx3486
                    obtain ⟨v3578, rfl, hs3579⟩ := hr3577
                    refine Aw_one 11 (by kernel_rfl) (Ax_mk rfl rfl (OpW_of_Qt rfl rfl (Q_ixR (T := TyChan) (.tail _ (.head _)) hs3574 hq3576 (getI_ix hx3486).1 rfl rfl rfl rfl rfl) ⟨Inc.nil, ?_⟩))
                    refine Aw_q 12 rfl (by kernel_rfl) (by kernel_rfl) (by kernel_rfl) rfl rfl rfl (Qt_fieldAddr (m := 1) rfl rfl rfl rfl rfl) ?_
                    refine Aw_one 13 (by kernel_rfl) (Ax_mk rfl rfl ?_)
                    refine O_storeR (T := TyChan) (vs := [(sv v3570)]) (r' := (Chan.cells (Chan.mk x3485.capacity x3479 x3485.closed) v3570)) (l' := (setI l3286 i2256 (Chan.mk x3485.capacity x3479 x3485.closed))) rfl rfl rfl rfl rfl (.there .here) hs3574 hq3576 rfl rfl rfl (RowR.set i2256 hs3574 ⟨v3570, rfl, hs3573⟩) (fun hR3580 => ⟨Inc.nil, ?_⟩)
                    have hE3581 := set_at hq3576 (v := (Chan.cells (Chan.mk x3485.capacity x3479 x3485.closed) v3570))
                    have hse := col_set (k := 1) hq3576 (r' := (Chan.cells (Chan.mk x3485.capacity x3479 x3485.closed) v3570)) (v := (sv v3570)) rfl
                    rw [hse]
                    clear hse
                    have hv3582 := col_at (k := 1) hE3581 rfl
                    refine Aw_done (by kernel_rfl) ?_
                    refine Shift.pull (.there (.there .here)) ?_
                    refine Shift.pull (.there (.there .here)) ?_
                    refine Shift.pull (.there (.there .here)) ?_
                    refine Shift.done ?_
                    exact ⟨[(0, (.pointer (some ((⟨bp0, 0, none⟩ : Addr).add 0)))), (3, (sv v773)), (4, (.int .i64 i2256)), (5, (.int .i64 i3289)), (10, (.int .i64 (x771.length : Int))), (11, (.int .i64 i2256))], ⟨rfl, rfl, rfl, rfl, rfl, rfl, trivial⟩, (setI l3286 i2256 (Chan.mk x3485.capacity x3479 x3485.closed)), (rs3288.set i2256.toNat (Chan.cells (Chan.mk x3485.capacity x3479 x3485.closed) v3570)), x3475, rfl, rfl, H, hR3580⟩
                · skip
                  refine id (Ax_mk rfl rfl ?_)
                  have hR3584 : RowR Ty.u64 K3293 [[(.int .u64 x3474)]] [x3474] := RowR.cons rfl (RowR.nil)
                  refine O_lit (T := Ty.u64) (rows := [[(.int .u64 x3474)]]) (l := [x3474]) rfl rfl rfl hR3584 rfl rfl rfl rfl rfl rfl rfl rfl (fun v3583 => ⟨Inc.nil, ?_⟩)
                  obtain ⟨r3585, hq3586, hr3587⟩ := RowR.at hR3287 hx3467
                  obtain ⟨v3588, rfl, hs3589⟩ := hr3587
                  have hv3590 := col_at (k := 1) hq3586 rfl
                  refine Aw_one 4 (by kernel_rfl) (Ax_mk rfl rfl (OpW_of_Qt rfl rfl (Q_ixR (T := TyChan) (.tail _ (.tail _ (.head _))) hR3287 hq3586 (getI_ix hx3467).1 rfl rfl rfl rfl rfl) ⟨Inc.nil, ?_⟩))
                  refine Aw_q 5 rfl (by kernel_rfl) (by kernel_rfl) (by kernel_rfl) rfl rfl rfl (Qt_fieldAddr (m := 1) rfl rfl rfl rfl rfl) ?_
                  refine Aw_one 6 (by kernel_rfl) (Ax_mk rfl rfl (OpW_of_Qt rfl rfl (Qt_load1 (v := (sv v3588)) rfl rfl rfl (Rd_row (T := TyChan) (.tail _ (.tail _ (.head _))) hR3287 hq3586 rfl rfl)) ⟨Inc.nil, ?_⟩))
                  refine Aw_one 10 (by kernel_rfl) (Ax_mk rfl rfl ?_)
                  refine O_appTok (T := Ty.u64) (bytes := 8) (q := i2256.toNat) rfl rfl rfl hs3589 (.tail _ (.tail _ (.tail _ (.head _)))) hv3590 (SrcT.row (.head _) hR3584 rfl) hx3480 rfl rfl rfl rfl rfl rfl rfl rfl (fun v3591 K3592 hK3593 hs3594 => ⟨_, (.there (.there (.there .here))), ⟨Inc.nil, ?_⟩⟩)
                  refine Aw.shift (Shift.rem .here (Shift.done ⟨Inc.nil, ?_⟩))
                  have hs3595 := (hR3287).mono hK3593
                  obtain ⟨r3596, hq3597, hr3598⟩ := RowR.at hs3595 hx3486
                  obtain ⟨v3599, rfl, hs3600⟩ := hr3598
                  refine Aw_one 11 (by kernel_rfl) (Ax_mk rfl rfl (OpW_of_Qt rfl rfl (Q_ixR (T := TyChan) (.tail _ (.head _)) hs3595 hq3597 (getI_ix hx3486).1 rfl rfl rfl rfl rfl) ⟨Inc.nil, ?_⟩))
                  refine Aw_q 12 rfl (by kernel_rfl) (by kernel_rfl) (by kernel_rfl) rfl rfl rfl (Qt_fieldAddr (m := 1) rfl rfl rfl rfl rfl) ?_
                  refine Aw_one 13 (by kernel_rfl) (Ax_mk rfl rfl ?_)
                  refine O_storeR (T := TyChan) (vs := [(sv v3591)]) (r' := (Chan.cells (Chan.mk x3485.capacity x3479 x3485.closed) v3591)) (l' := (setI l3286 i2256 (Chan.mk x3485.capacity x3479 x3485.closed))) rfl rfl rfl rfl rfl (.there .here) hs3595 hq3597 rfl rfl rfl (RowR.set i2256 hs3595 ⟨v3591, rfl, hs3594⟩) (fun hR3601 => ⟨Inc.nil, ?_⟩)
                  have hE3602 := set_at hq3597 (v := (Chan.cells (Chan.mk x3485.capacity x3479 x3485.closed) v3591))
                  have hse := col_set (k := 1) hq3597 (r' := (Chan.cells (Chan.mk x3485.capacity x3479 x3485.closed) v3591)) (v := (sv v3591)) rfl
                  rw [hse]
                  clear hse
                  have hv3603 := col_at (k := 1) hE3602 rfl
                  refine Aw_done (by kernel_rfl) ?_
                  refine Shift.pull (.there (.there .here)) ?_
                  refine Shift.pull (.there (.there .here)) ?_
                  refine Shift.pull (.there (.there .here)) ?_
                  refine Shift.done ?_
                  exact ⟨[(0, (.pointer (some ((⟨bp0, 0, none⟩ : Addr).add 0)))), (3, (sv v773)), (4, (.int .i64 i2256)), (5, (.int .i64 i3289)), (10, (.int .i64 (x771.length : Int))), (11, (.int .i64 i2256))], ⟨rfl, rfl, rfl, rfl, rfl, rfl, trivial⟩, (setI l3286 i2256 (Chan.mk x3485.capacity x3479 x3485.closed)), (rs3288.set i2256.toNat (Chan.cells (Chan.mk x3485.capacity x3479 x3485.closed) v3591)), x3475, rfl, rfl, H, hR3601⟩
            rintro _ K3604 _ hK3605 ⟨l3462, rs3464, i3465, rfl, rfl, H, hR3463⟩
            unfold M_law14_chans_J4 at H
            refine Cw_region ?_
            refine Ow_q rfl rfl rfl (Qt_move rfl) ?_
            refine Ow_q rfl rfl rfl (Qt_arith (e := wI (i3289 + 1)) rfl rfl rfl rfl) ?_
            refine Ow_q rfl rfl rfl (Qt_assign rfl) ?_
            refine Ow_nil ?_
            refine Shift.pull (.there (.there .here)) ?_
            refine Shift.pull (.there (.there .here)) ?_
            refine Shift.pull (.there (.there .here)) ?_
            refine Shift.done ?_
            exact ⟨[(0, (.pointer (some ((⟨bp0, 0, none⟩ : Addr).add 0)))), (3, (sv v773)), (4, (.int .i64 i2256)), (5, (.int .i64 (wI (i3289 + 1)))), (10, (.int .i64 (x771.length : Int))), (11, (.int .i64 i2256))], ⟨rfl, rfl, rfl, rfl, rfl, rfl, trivial⟩, _, Nat.lt_succ_self _, l3462, rs3464, (wI (i3289 + 1)), ((Draw_Codes.mk p0.list x3320 ((Draw_Codes.mk p0.list i3290 i3291).value)).at_), i3465, rfl, rfl, (hkk3297 ▸ H), hR3463⟩
          · intro h3323
            have h3323 := dcd_f (h3323)
            have H := iff_ h3323 H
            refine Cw_exit ?_
            refine Shift.pull (.there (.there .here)) ?_
            refine Shift.pull (.there (.there .here)) ?_
            refine Shift.pull (.there (.there .here)) ?_
            refine Shift.done ?_
            exact ⟨[(0, (.pointer (some ((⟨bp0, 0, none⟩ : Addr).add 0)))), (3, (sv v773)), (4, (.int .i64 i2256)), (10, (.int .i64 (x771.length : Int))), (11, (.int .i64 i2256))], ⟨rfl, rfl, rfl, rfl, rfl, trivial⟩, l3286, rs3288, x3320, ((Draw_Codes.mk p0.list i3290 i3291).value), rfl, rfl, H, hR3287⟩
        rintro _ K3606 _ hK3607 ⟨l2956, rs2958, i2959, i2960, rfl, rfl, H, hR2957⟩
        unfold M_law14_chans_J3 at H
        refine Cw_region ?_
        refine Ow_q rfl rfl rfl (Qt_move rfl) ?_
        refine Ow_q rfl rfl rfl (Qt_move rfl) ?_
        refine Ow_q rfl rfl rfl (Qt_move rfl) ?_
        obtain ⟨x3608, x3609, hx3610, H⟩ := bnd2 H
        have hs3611 := ((((hp0_list).mono hK768).mono hK776).mono hK2261).mono hK3607
        refine Ow_cons rfl (OpW_call rfl Try.call27 rfl rfl (c_M_draw_Codes_Next bp0 (Draw_Codes.mk p0.list i2959 i2960) vp0_list 4 x3608 x3609 hx3610 _ _ hs3611) ?_)
        rintro _ _ _ - ⟨rfl, rfl, rfl⟩
        refine Ow_q rfl rfl rfl (Qt_cmp rfl rfl rfl) ?_
        obtain ⟨x3612, hx3613, H⟩ := bnd H
        obtain ⟨r3614, hq3615, hr3616⟩ := RowR.at hR2957 hx3613
        obtain ⟨v3617, rfl, hs3618⟩ := hr3616
        have hv3619 := col_at (k := 1) hq3615 rfl
        refine Ow_q rfl rfl rfl (Q_ixR (T := TyChan) (.tail _ (.head _)) hR2957 hq3615 (getI_ix hx3613).1 rfl rfl rfl rfl rfl) ?_
        refine Ow_q rfl rfl rfl (Qt_fieldAddr (m := 2) rfl rfl rfl rfl rfl) ?_
        refine Ow_cons rfl (O_storeR (T := TyChan) (vs := [(.bool (dcd (x3608 = 1)))]) (r' := (Chan.cells (Chan.mk x3612.capacity x3612.buffer (dcd (x3608 = 1))) v3617)) (l' := (setI l2956 i2256 (Chan.mk x3612.capacity x3612.buffer (dcd (x3608 = 1))))) rfl rfl rfl rfl rfl (.there .here) hR2957 hq3615 rfl rfl rfl (RowR.set i2256 hR2957 ⟨v3617, rfl, hs3618⟩) (fun hR3620 => ?_))
        have hE3621 := set_at hq3615 (v := (Chan.cells (Chan.mk x3612.capacity x3612.buffer (dcd (x3608 = 1))) v3617))
        have hse := col_same (k := 1) hq3615 (r' := (Chan.cells (Chan.mk x3612.capacity x3612.buffer (dcd (x3608 = 1))) v3617)) rfl
        rw [hse]
        clear hse
        have hv3622 := col_at (k := 1) hE3621 rfl
        refine Ow_nil ?_
        refine Shift.pull (.there (.there .here)) ?_
        refine Shift.pull (.there (.there .here)) ?_
        refine Shift.pull (.there (.there .here)) ?_
        refine Shift.done ?_
        exact ⟨[(0, (.pointer (some ((⟨bp0, 0, none⟩ : Addr).add 0)))), (3, (sv v773)), (10, (.int .i64 (x771.length : Int))), (11, (.int .i64 i2256))], ⟨rfl, rfl, rfl, rfl, trivial⟩, (setI l2956 i2256 (Chan.mk x3612.capacity x3612.buffer (dcd (x3608 = 1)))), (rs2958.set i2256.toNat (Chan.cells (Chan.mk x3612.capacity x3612.buffer (dcd (x3608 = 1))) v3617)), x3609, ((Draw_Codes.mk p0.list i2959 i2960).value), rfl, rfl, H, hR3620⟩
      rintro _ K3623 _ hK3624 ⟨l2620, rs2622, i2623, i2624, rfl, rfl, H, hR2621⟩
      unfold M_law14_chans_J2 at H
      refine Cw_region ?_
      refine Ow_q rfl rfl rfl (Qt_arith (e := wI (i2256 + 1)) rfl rfl rfl rfl) ?_
      refine Ow_q rfl rfl rfl (Qt_move rfl) ?_
      refine Ow_nil ?_
      refine Shift.pull (.there (.there .here)) ?_
      refine Shift.pull (.there (.there .here)) ?_
      refine Shift.pull (.there (.there .here)) ?_
      refine Shift.done ?_
      exact ⟨[(0, (.pointer (some ((⟨bp0, 0, none⟩ : Addr).add 0)))), (3, (sv v773)), (10, (.int .i64 (x771.length : Int))), (11, (.int .i64 (wI (i2256 + 1))))], ⟨rfl, rfl, rfl, rfl, trivial⟩, _, Nat.lt_succ_self _, l2620, rs2622, (wI (i2256 + 1)), i2623, i2624, rfl, rfl, (hkk2264 ▸ H), hR2621⟩
    · intro h2266
      have h2266 := dcd_f (h2266)
      have H := iff_ h2266 H
      refine Cw_exit ?_
      refine Shift.pull (.there (.there .here)) ?_
      refine Shift.pull (.there (.there .here)) ?_
      refine Shift.pull (.there (.there .here)) ?_
      refine Shift.done ?_
      exact ⟨[(3, (sv v773))], ⟨rfl, trivial⟩, l2253, rs2255, i2257, i2258, rfl, rfl, H, hR2254⟩
  rintro _ K3625 _ hK3626 ⟨l1516, rs1518, i1519, i1520, rfl, rfl, H, hR1517⟩
  unfold M_law14_chans_J1 at H
  refine Cw_seq ?_
  refine Cw_region ?_
  refine Ow_q rfl rfl rfl (Qt_move rfl) ?_
  refine Ow_q rfl rfl rfl (Qt_assign rfl) ?_
  refine Ow_nil ?_
  refine Cw_ret ?_
  obtain ⟨ey0, ez0_at_, ez0_value⟩ := inj3 H
  subst y0 z0_at_ z0_value
  refine ⟨(by first | exact .inl rfl | exact .inr rfl), [(sv v773)], ⟨(sv v773), _, rfl, rfl, rfl⟩, ?_⟩
  refine Shift.pull (.there (.there .here)) ?_
  refine Shift.pull (.there (.there .here)) ?_
  refine Shift.pull (.there (.there .here)) ?_
  refine Shift.done ?_
  exact ⟨v773, rs1518, rfl, rfl, hR1517⟩

set_option maxHeartbeats 1000000 in
theorem c_M_law14_config (p0 : List Chan) (vp0 : SV) (y0 : Config) (H : M_law14_config p0 = some y0) (K : Kp) (G : List Ent) (hp0 : Slr TyChan K (sv vp0) p0) :
    Fc Try.prog 16 #[(sv vp0)] K (G) (fun v K' G' => ∃ (wy0_capacities : SV) (wy0_starts : SV), v = (.agg (Config.cells y0 wy0_capacities wy0_starts).toArray) ∧ (.tok 3 1 [(sv wy0_capacities)]) :: (.tok 23 1 [(sv wy0_starts)]) :: G = G' ∧ Slr Ty.i64 K' (sv wy0_capacities) y0.capacities ∧ Slr Ty.u64 K' (sv wy0_starts) y0.starts) := by
  refine Fc_body Try.func16 rfl Try.ntmps16 Try.results16 rfl ?_
  unfold M_law14_config at H
  refine Cw_seq ?_
  refine Cw_region ?_
  refine Ow_cons rfl (OpW_alloc (cs := (Config.cells (Config.mk [] [] 0) nilS nilS)) rfl rfl rfl rfl (fun b136 => ?_))
  refine Ow_nil ?_
  refine Cw_seq ?_
  refine Cw_region ?_
  refine Ow_q rfl rfl rfl (Qt_build (cs := (Config.cells (Config.mk [] [] 2) nilS nilS)) rfl rfl rfl rfl rfl rfl) ?_
  refine Ow_cons rfl (OpW_alloc (cs := (Config.cells (Config.mk [] [] 0) nilS nilS)) rfl rfl rfl rfl (fun b137 => ?_))
  refine Ow_cons rfl (OpW_store (vs := (Config.cells (Config.mk [] [] 2) nilS nilS)) (all' := (Config.cells (Config.mk [] [] 2) nilS nilS)) rfl rfl rfl rfl rfl .here rfl rfl rfl ?_)
  refine Ow_nil ?_
  refine Cw_join (fun env' K' G' => ∃ (v253 : SV) (l254 : List Int) (v256 : SV) (l257 : List Int), [(2, (.pointer (some ((⟨b136, 0, none⟩ : Addr).add 0)))), (3, (.pointer (some ((⟨b137, 0, none⟩ : Addr).add 0))))] = env' ∧ (.blk b137 34 (Config.cells (Config.mk l254 l257 2) v253 v256)) :: (.blk b136 34 (Config.cells (Config.mk [] [] 0) nilS nilS)) :: (.tok 3 1 [(sv v253)]) :: (.tok 23 1 [(sv v256)]) :: G = G' ∧ M_law14_config_J1 l254 l257 = some y0 ∧ Slr Ty.i64 K' (sv v253) l254 ∧ Slr Ty.u64 K' (sv v256) l257) ?_ ?_
  · skip
    refine Cw_seq ?_
    refine Cw_region ?_
    refine Ow_q rfl rfl rfl (Qt_move rfl) ?_
    refine Ow_q rfl rfl rfl (Q_len (T := TyChan) hp0 rfl rfl) ?_
    refine Ow_q rfl rfl rfl (Qt_move rfl) ?_
    refine Ow_nil ?_
    refine Cw_block ?_
    refine Cw_loopM (fun n374 env' K' G' => ∃ (i367 : Int) (v368 : SV) (l369 : List Int) (v371 : SV) (l372 : List Int), [(0, (sv vp0)), (2, (.pointer (some ((⟨b136, 0, none⟩ : Addr).add 0)))), (3, (.pointer (some ((⟨b137, 0, none⟩ : Addr).add 0)))), (7, (.int .i64 (p0.length : Int))), (8, (.int .i64 i367))] = env' ∧ (.blk b137 34 (Config.cells (Config.mk l369 l372 2) v368 v371)) :: (.blk b136 34 (Config.cells (Config.mk [] [] 0) nilS nilS)) :: (.tok 3 1 [(sv v368)]) :: (.tok 23 1 [(sv v371)]) :: G = G' ∧ lp3 (M_law14_config_L1 p0) n374 i367 l369 l372 = some y0 ∧ Slr Ty.i64 K' (sv v368) l369 ∧ Slr Ty.u64 K' (sv v371) l372) BIG ?_ ?_
    · skip
      refine Shift.nilTok1 3 1 ?_
      refine Shift.nilTok1 23 1 ?_
      refine Shift.pull (.there .here) ?_
      refine Shift.pull (.there (.there (.there .here))) ?_
      refine Shift.pull (.there (.there (.there .here))) ?_
      refine Shift.done ?_
      exact ⟨[(0, (sv vp0)), (2, (.pointer (some ((⟨b136, 0, none⟩ : Addr).add 0)))), (3, (.pointer (some ((⟨b137, 0, none⟩ : Addr).add 0)))), (7, (.int .i64 (p0.length : Int))), (8, (.int .i64 0))], ⟨rfl, rfl, rfl, rfl, rfl, trivial⟩, 0, nilS, ([] : List Int), nilS, ([] : List Int), rfl, rfl, H, (Slr.nil Ty.i64 _), (Slr.nil Ty.u64 _)⟩
    rintro n374 _ K375 _ hK376 ⟨i367, v368, l369, v371, l372, rfl, rfl, H, hs370, hs373⟩
    obtain ⟨m377, k378, rfl, hkk379, H⟩ := lps3 H
    unfold M_law14_config_L1 at H
    refine Cw_seq ?_
    refine Cw_region ?_
    refine Ow_q rfl rfl rfl (Qt_cmp rfl rfl rfl) ?_
    refine Ow_nil ?_
    refine Cw_seq ?_
    refine Cw_cond rfl ?_ ?_
    · intro h381
      have h381 := dcd_t (h381)
      have H := ift h381 H
      refine Cw_skip ?_
      refine Cw_seq ?_
      refine Cw_block ?_
      refine Cw_seq ?_
      refine Cw_region ?_
      refine Ow_q rfl rfl rfl (Qt_move rfl) ?_
      refine Ow_q rfl rfl rfl (Qt_assign rfl) ?_
      refine Ow_nil ?_
      refine Cw_join (fun env' K' G' => ∃ (v464 : SV) (l465 : List Int), [(0, (sv vp0)), (2, (.pointer (some ((⟨b136, 0, none⟩ : Addr).add 0)))), (3, (.pointer (some ((⟨b137, 0, none⟩ : Addr).add 0)))), (7, (.int .i64 (p0.length : Int))), (8, (.int .i64 i367))] = env' ∧ (.blk b137 34 (Config.cells (Config.mk l465 l372 2) v464 v371)) :: (.blk b136 34 (Config.cells (Config.mk [] [] 0) nilS nilS)) :: (.tok 3 1 [(sv v464)]) :: (.tok 23 1 [(sv v371)]) :: G = G' ∧ M_law14_config_J2 p0 i367 l372 k378 l465 = some y0 ∧ Slr Ty.i64 K' (sv v464) l465) ?_ ?_
      · skip
        obtain ⟨x467, hx468, H⟩ := bnd H
        obtain ⟨x477, hx478, H⟩ := bnd H
        refine Cw_region_any [.blk b136 34 (Config.cells (Config.mk [] [] 0) nilS nilS), .tok 23 1 [(sv v371)]] rfl (Inc.cons (.tail _ (.head _)) (Inc.cons (.tail _ (.tail _ (.tail _ (.head _)))) Inc.nil)) ?_
        refine Aw_q 0 rfl (by kernel_rfl) (by kernel_rfl) (by kernel_rfl) rfl rfl rfl (Qt_fieldAddr (m := 0) rfl rfl rfl rfl rfl) ?_
        refine Aw_q 2 rfl (by kernel_rfl) (by kernel_rfl) (by kernel_rfl) rfl rfl rfl (Qt_move rfl) ?_
        refine Aw_q 3 rfl (by kernel_rfl) (by kernel_rfl) (by kernel_rfl) rfl rfl rfl (Qt_move rfl) ?_
        have hs483 := (hp0).mono hK376
        obtain ⟨r484, hr485, hk486⟩ := Slr.at hs483 hx468
        obtain ⟨v487, rfl, hs488⟩ := hr485
        refine Aw_q 4 rfl (by kernel_rfl) (by kernel_rfl) (by kernel_rfl) rfl rfl rfl (Q_ix (T := TyChan) hs483 hx468 rfl rfl rfl rfl rfl) ?_
        refine Aw_q 5 rfl (by kernel_rfl) (by kernel_rfl) (by kernel_rfl) rfl rfl rfl (Qt_fieldAddr (m := 0) rfl rfl rfl rfl rfl) ?_
        refine Aw_q 6 rfl (by kernel_rfl) (by kernel_rfl) (by kernel_rfl) rfl rfl rfl (Qt_load1 (v := (.int .i64 x467.capacity)) rfl rfl rfl (Rdc.k hk486 rfl)) ?_
        refine Aw_two 1 7 (by kernel_rfl) ?_ ?_
        · skip
          refine id (Ax_mk rfl rfl (OpW_of_Qt rfl rfl (Qt_load1 (v := (sv v368)) rfl rfl rfl (Rdc.blk (.head _) rfl)) ⟨(Inc.cons (.tail _ (.head _)) (Inc.cons (.tail _ (.tail _ (.tail _ (.head _)))) Inc.nil)), ?_⟩))
          refine Aw_one 7 (by kernel_rfl) (Ax_mk rfl rfl ?_)
          have hR490 : RowR Ty.i64 K375 [[(.int .i64 x467.capacity)]] [x467.capacity] := RowR.cons rfl (RowR.nil)
          refine O_lit (T := Ty.i64) (rows := [[(.int .i64 x467.capacity)]]) (l := [x467.capacity]) rfl rfl rfl hR490 rfl rfl rfl rfl rfl rfl rfl rfl (fun v489 => ⟨(Inc.cons (.tail _ (.tail _ (.head _))) (Inc.cons (.tail _ (.tail _ (.tail _ (.tail _ (.head _))))) Inc.nil)), ?_⟩)
          refine Aw_one 8 (by kernel_rfl) (Ax_mk rfl rfl ?_)
          refine O_appTok (T := Ty.i64) (bytes := 8) (q := 0) rfl rfl rfl hs370 (.tail _ (.tail _ (.tail _ (.head _)))) rfl (SrcT.row (.head _) hR490 rfl) hx478 rfl rfl rfl rfl rfl rfl rfl rfl (fun v491 K492 hK493 hs494 => ⟨_, (.there (.there (.there .here))), ⟨(Inc.cons (.tail _ (.tail _ (.head _))) (Inc.cons (.tail _ (.tail _ (.tail _ (.tail _ (.head _))))) Inc.nil)), ?_⟩⟩)
          refine Aw.shift (Shift.rem .here (Shift.done ⟨(Inc.cons (.tail _ (.head _)) (Inc.cons (.tail _ (.tail _ (.tail _ (.head _)))) Inc.nil)), ?_⟩))
          refine Aw_q 9 rfl (by kernel_rfl) (by kernel_rfl) (by kernel_rfl) rfl rfl rfl (Qt_fieldAddr (m := 0) rfl rfl rfl rfl rfl) ?_
          refine Aw_one 10 (by kernel_rfl) (Ax_mk rfl rfl ?_)
          refine OpW_store (vs := [(sv v491)]) (all' := (Config.cells (Config.mk x477 l372 2) v491 v371)) rfl rfl rfl rfl rfl .here rfl rfl rfl ⟨(Inc.cons (.tail _ (.head _)) (Inc.cons (.tail _ (.tail _ (.tail _ (.head _)))) Inc.nil)), ?_⟩
          refine Aw_done (by kernel_rfl) ?_
          refine Shift.pull (.there (.there (.there .here))) ?_
          refine Shift.pull (.there (.there (.there .here))) ?_
          refine Shift.pull (.there (.there (.there .here))) ?_
          refine Shift.pull (.there (.there (.there .here))) ?_
          refine Shift.done ?_
          exact ⟨[(0, (sv vp0)), (2, (.pointer (some ((⟨b136, 0, none⟩ : Addr).add 0)))), (3, (.pointer (some ((⟨b137, 0, none⟩ : Addr).add 0)))), (7, (.int .i64 (p0.length : Int))), (8, (.int .i64 i367))], ⟨rfl, rfl, rfl, rfl, rfl, trivial⟩, v491, x477, rfl, rfl, H, hs494⟩
        · skip
          refine id (Ax_mk rfl rfl ?_)
          have hR496 : RowR Ty.i64 K375 [[(.int .i64 x467.capacity)]] [x467.capacity] := RowR.cons rfl (RowR.nil)
          refine O_lit (T := Ty.i64) (rows := [[(.int .i64 x467.capacity)]]) (l := [x467.capacity]) rfl rfl rfl hR496 rfl rfl rfl rfl rfl rfl rfl rfl (fun v495 => ⟨(Inc.cons (.tail _ (.tail _ (.head _))) (Inc.cons (.tail _ (.tail _ (.tail _ (.tail _ (.head _))))) Inc.nil)), ?_⟩)
          refine Aw_one 1 (by kernel_rfl) (Ax_mk rfl rfl (OpW_of_Qt rfl rfl (Qt_load1 (v := (sv v368)) rfl rfl rfl (Rdc.blk (.tail _ (.head _)) rfl)) ⟨(Inc.cons (.tail _ (.tail _ (.head _))) (Inc.cons (.tail _ (.tail _ (.tail _ (.tail _ (.head _))))) Inc.nil)), ?_⟩))
          refine Aw_one 8 (by kernel_rfl) (Ax_mk rfl rfl ?_)
          refine O_appTok (T := Ty.i64) (bytes := 8) (q := 0) rfl rfl rfl hs370 (.tail _ (.tail _ (.tail _ (.head _)))) rfl (SrcT.row (.head _) hR496 rfl) hx478 rfl rfl rfl rfl rfl rfl rfl rfl (fun v497 K498 hK499 hs500 => ⟨_, (.there (.there (.there .here))), ⟨(Inc.cons (.tail _ (.tail _ (.head _))) (Inc.cons (.tail _ (.tail _ (.tail _ (.tail _ (.head _))))) Inc.nil)), ?_⟩⟩)
          refine Aw.shift (Shift.rem .here (Shift.done ⟨(Inc.cons (.tail _ (.head _)) (Inc.cons (.tail _ (.tail _ (.tail _ (.head _)))) Inc.nil)), ?_⟩))
          refine Aw_q 9 rfl (by kernel_rfl) (by kernel_rfl) (by kernel_rfl) rfl rfl rfl (Qt_fieldAddr (m := 0) rfl rfl rfl rfl rfl) ?_
          refine Aw_one 10 (by kernel_rfl) (Ax_mk rfl rfl ?_)
          refine OpW_store (vs := [(sv v497)]) (all' := (Config.cells (Config.mk x477 l372 2) v497 v371)) rfl rfl rfl rfl rfl .here rfl rfl rfl ⟨(Inc.cons (.tail _ (.head _)) (Inc.cons (.tail _ (.tail _ (.tail _ (.head _)))) Inc.nil)), ?_⟩
          refine Aw_done (by kernel_rfl) ?_
          refine Shift.pull (.there (.there (.there .here))) ?_
          refine Shift.pull (.there (.there (.there .here))) ?_
          refine Shift.pull (.there (.there (.there .here))) ?_
          refine Shift.pull (.there (.there (.there .here))) ?_
          refine Shift.done ?_
          exact ⟨[(0, (sv vp0)), (2, (.pointer (some ((⟨b136, 0, none⟩ : Addr).add 0)))), (3, (.pointer (some ((⟨b137, 0, none⟩ : Addr).add 0)))), (7, (.int .i64 (p0.length : Int))), (8, (.int .i64 i367))], ⟨rfl, rfl, rfl, rfl, rfl, trivial⟩, v497, x477, rfl, rfl, H, hs500⟩
      rintro _ K501 _ hK502 ⟨v464, l465, rfl, rfl, H, hs466⟩
      unfold M_law14_config_J2 at H
      refine Cw_region ?_
      refine Ow_q rfl rfl rfl (Qt_fieldAddr (m := 1) rfl rfl rfl rfl rfl) ?_
      refine Ow_q rfl rfl rfl (Qt_load1 (v := (sv v371)) rfl rfl rfl (Rdc.blk (.head _) rfl)) ?_
      have hR504 : RowR Ty.u64 K501 [[(.int .u64 0)]] [0] := RowR.cons rfl (RowR.nil)
      refine Ow_cons rfl (O_lit (T := Ty.u64) (rows := [[(.int .u64 0)]]) (l := [0]) rfl rfl rfl hR504 rfl rfl rfl rfl rfl rfl rfl rfl (fun v503 => ?_))
      obtain ⟨x505, hx506, H⟩ := bnd H
      have hs511 := (hs373).mono hK502
      refine Ow_cons rfl (O_appTok (T := Ty.u64) (bytes := 8) (q := 0) rfl rfl rfl hs511 (.tail _ (.tail _ (.tail _ (.tail _ (.head _))))) rfl (SrcT.row (.head _) hR504 rfl) hx506 rfl rfl rfl rfl rfl rfl rfl rfl (fun v507 K508 hK509 hs510 => ⟨_, (.there (.there (.there (.there .here)))), ?_⟩))
      refine Ow.shift (Shift.rem .here (Shift.done ?_))
      refine Ow_q rfl rfl rfl (Qt_fieldAddr (m := 1) rfl rfl rfl rfl rfl) ?_
      refine Ow_cons rfl (OpW_store (vs := [(sv v507)]) (all' := (Config.cells (Config.mk l465 x505 2) v464 v507)) rfl rfl rfl rfl rfl .here rfl rfl rfl ?_)
      refine Ow_nil ?_
      refine Cw_region ?_
      refine Ow_q rfl rfl rfl (Qt_arith (e := wI (i367 + 1)) rfl rfl rfl rfl) ?_
      refine Ow_q rfl rfl rfl (Qt_move rfl) ?_
      refine Ow_nil ?_
      refine Shift.pull (.there (.there (.there .here))) ?_
      refine Shift.pull (.there (.there (.there .here))) ?_
      refine Shift.pull (.there (.there (.there .here))) ?_
      refine Shift.pull (.there (.there (.there .here))) ?_
      have hs512 := (hs466).mono hK509
      refine Shift.done ?_
      exact ⟨[(0, (sv vp0)), (2, (.pointer (some ((⟨b136, 0, none⟩ : Addr).add 0)))), (3, (.pointer (some ((⟨b137, 0, none⟩ : Addr).add 0)))), (7, (.int .i64 (p0.length : Int))), (8, (.int .i64 (wI (i367 + 1))))], ⟨rfl, rfl, rfl, rfl, rfl, trivial⟩, _, Nat.lt_succ_self _, (wI (i367 + 1)), v464, l465, v507, x505, rfl, rfl, (hkk379 ▸ H), hs512, hs510⟩
    · intro h381
      have h381 := dcd_f (h381)
      have H := iff_ h381 H
      refine Cw_exit ?_
      refine Shift.pull (.there (.there (.there .here))) ?_
      refine Shift.pull (.there (.there (.there .here))) ?_
      refine Shift.pull (.there (.there (.there .here))) ?_
      refine Shift.pull (.there (.there (.there .here))) ?_
      refine Shift.done ?_
      exact ⟨[(2, (.pointer (some ((⟨b136, 0, none⟩ : Addr).add 0)))), (3, (.pointer (some ((⟨b137, 0, none⟩ : Addr).add 0))))], ⟨rfl, rfl, trivial⟩, v368, l369, v371, l372, rfl, rfl, H, hs370, hs373⟩
  rintro _ K513 _ hK514 ⟨v253, l254, v256, l257, rfl, rfl, H, hs255, hs258⟩
  unfold M_law14_config_J1 at H
  refine Cw_seq ?_
  refine Cw_region ?_
  refine Ow_q rfl rfl rfl (Qt_loadA (m := 3) (cs := (Config.cells (Config.mk l254 l257 2) v253 v256)) rfl rfl rfl rfl ⟨rfl, Rdc.blk (.head _) rfl⟩) ?_
  refine Ow_cons rfl (OpW_store (vs := (Config.cells (Config.mk l254 l257 2) v253 v256)) (all' := (Config.cells (Config.mk l254 l257 2) v253 v256)) rfl rfl rfl rfl rfl (.there .here) rfl rfl rfl ?_)
  refine Ow_nil ?_
  refine Cw_ret ?_
  obtain ey0 := inj1 H
  subst y0
  refine ⟨(by first | exact .inl rfl | exact .inr rfl), [(.agg (Config.cells (Config.mk l254 l257 2) v253 v256).toArray)], ⟨(.agg (Config.cells (Config.mk l254 l257 2) v253 v256).toArray), _, rfl, ⟨_, 3, (Config.cells (Config.mk l254 l257 2) v253 v256), rfl, rfl, rfl, rfl, ⟨rfl, Rdc.blk (.tail _ (.head _)) rfl⟩, rfl⟩, rfl⟩, ?_⟩
  refine Shift.pull (.there (.there (.there .here))) ?_
  refine Shift.pull (.there (.there (.there .here))) ?_
  refine Shift.rem (.there (.there .here)) ?_
  refine Shift.rem (.there (.there .here)) ?_
  refine Shift.done ?_
  exact ⟨v253, v256, rfl, rfl, hs255, hs258⟩

set_option maxHeartbeats 1000000 in
theorem c_M_law14_result (bp0 : Nat) (p0 : Draw_Codes) (vp0_list : SV) (p1 : List Chan) (vp1 : SV) (p2 : Op) (vp2_cases : SV) (vp2_draws : SV) (y0 : Result) (z0_at_ : Int) (z0_value : Int) (H : M_law14_result p0 p1 p2 = some (y0, z0_at_, z0_value)) (K : Kp) (G : List Ent) (hp0_list : Slr Ty.u8 K (sv vp0_list) p0.list) (hp1 : Slr TyChan K (sv vp1) p1) (hp2_cases : Slr TyCase K (sv vp2_cases) p2.cases) (hp2_draws : Slr Ty.i64 K (sv vp2_draws) p2.draws) :
    Fc Try.prog 18 #[(.pointer (some ((⟨bp0, 0, none⟩ : Addr).add 0))), (sv vp1), (.agg (Op.cells p2 vp2_cases vp2_draws).toArray)] K ((.blk bp0 85 (Draw_Codes.cells p0 vp0_list)) :: G) (fun v K' G' => v = (.agg (Result.cells y0).toArray) ∧ K = K' ∧ (.blk bp0 85 (Draw_Codes.cells (Draw_Codes.mk p0.list z0_at_ z0_value) vp0_list)) :: G = G') := by
  refine Fc_body Try.func18 rfl Try.ntmps18 Try.results18 rfl ?_
  unfold M_law14_result at H
  refine Cw_seq ?_
  refine Cw_region ?_
  refine Ow_cons rfl (OpW_box (cs := (Op.cells p2 vp2_cases vp2_draws)) rfl rfl rfl (fun b109 => ?_))
  refine Ow_cons rfl (OpW_alloc (cs := (Result.cells (Result.mk 0 0 0 false 0))) rfl rfl rfl rfl (fun b110 => ?_))
  refine Ow_nil ?_
  refine Cw_seq ?_
  refine Cw_region ?_
  refine Ow_q rfl rfl rfl (Qt_move rfl) ?_
  obtain ⟨x111, x112, hx113, H⟩ := bnd2 H
  refine Ow.shift (Shift.pull (.there (.there .here)) (Shift.done ?_))
  refine Ow_cons rfl (OpW_call rfl Try.call27 rfl rfl (c_M_draw_Codes_Next bp0 p0 vp0_list 7 x111 x112 hx113 _ _ hp0_list) ?_)
  rintro _ _ _ - ⟨rfl, rfl, rfl⟩
  refine Ow_q rfl rfl rfl (Qt_arith (e := wI (1 + x111)) rfl rfl rfl rfl) ?_
  refine Ow_q rfl rfl rfl (Qt_build (cs := (Result.cells (Result.mk (wI (1 + x111)) (-1) 0 false 0))) rfl rfl rfl rfl rfl rfl) ?_
  refine Ow_cons rfl (OpW_alloc (cs := (Result.cells (Result.mk 0 0 0 false 0))) rfl rfl rfl rfl (fun b114 => ?_))
  refine Ow_cons rfl (OpW_store (vs := (Result.cells (Result.mk (wI (1 + x111)) (-1) 0 false 0))) (all' := (Result.cells (Result.mk (wI (1 + x111)) (-1) 0 false 0))) rfl rfl rfl rfl rfl .here rfl rfl rfl ?_)
  refine Ow_nil ?_
  refine Cw_join (fun env' K' G' => ∃ (i127 : Int) (i128 : Int) (i129 : Int), [(0, (.pointer (some ((⟨bp0, 0, none⟩ : Addr).add 0)))), (1, (sv vp1)), (5, (.pointer (some ((⟨b109, 0, none⟩ : Addr).add 0)))), (6, (.pointer (some ((⟨b110, 0, none⟩ : Addr).add 0)))), (7, (.pointer (some ((⟨b114, 0, none⟩ : Addr).add 0))))] = env' ∧ K = K' ∧ (.blk bp0 85 (Draw_Codes.cells (Draw_Codes.mk p0.list i127 i128) vp0_list)) :: (.blk b114 25 (Result.cells (Result.mk (wI (1 + x111)) i129 0 false 0))) :: (.blk b110 25 (Result.cells (Result.mk 0 0 0 false 0))) :: (.blk b109 38 (Op.cells p2 vp2_cases vp2_draws)) :: G = G' ∧ M_law14_result_J1 p1 p0 x111 p2 i127 i128 i129 = some (y0, z0_at_, z0_value)) ?_ ?_
  · skip
    refine Cw_join (fun env' K' G' => ∃ (t135 : Bool) (i136 : Int) (i137 : Int), [(0, (.pointer (some ((⟨bp0, 0, none⟩ : Addr).add 0)))), (1, (sv vp1)), (5, (.pointer (some ((⟨b109, 0, none⟩ : Addr).add 0)))), (6, (.pointer (some ((⟨b110, 0, none⟩ : Addr).add 0)))), (7, (.pointer (some ((⟨b114, 0, none⟩ : Addr).add 0)))), (26, (.bool t135))] = env' ∧ K = K' ∧ (.blk bp0 85 (Draw_Codes.cells (Draw_Codes.mk p0.list i136 i137) vp0_list)) :: (.blk b114 25 (Result.cells (Result.mk (wI (1 + x111)) (-1) 0 false 0))) :: (.blk b110 25 (Result.cells (Result.mk 0 0 0 false 0))) :: (.blk b109 38 (Op.cells p2 vp2_cases vp2_draws)) :: G = G' ∧ M_law14_result_J2 p1 p0 x111 p2 t135 i136 i137 = some (y0, z0_at_, z0_value)) ?_ ?_
    · skip
      refine Cw_region ?_
      refine Ow_q rfl rfl rfl (Qt_fieldAddr (m := 0) rfl rfl rfl rfl rfl) ?_
      refine Ow_q rfl rfl rfl (Qt_load1 (v := (.int .i64 p2.kind)) rfl rfl rfl (Rdc.blk (.tail _ (.tail _ (.tail _ (.head _)))) rfl)) ?_
      refine Ow_q rfl rfl rfl (Qt_cmp rfl rfl rfl) ?_
      refine Ow_q rfl rfl rfl (Qt_move rfl) ?_
      refine Ow_caseG rfl rfl rfl ?_ ?_
      · intro h138
        have h138 := dcd_t (h138)
        have H := ift h138 H
        refine Ow_qw rfl rfl rfl rfl rfl rfl (Qt_fieldAddr (m := 5) rfl rfl rfl rfl rfl) ?_
        refine Ow_qw rfl rfl rfl rfl rfl rfl (Qt_load1 (v := (sv vp2_cases)) rfl rfl rfl (Rdc.blk (.tail _ (.tail _ (.tail _ (.head _)))) rfl)) ?_
        refine Ow_qw rfl rfl rfl rfl rfl rfl (Q_len (T := TyCase) hp2_cases rfl rfl) ?_
        refine Ow_qw rfl rfl rfl rfl rfl rfl (Qt_cmp rfl rfl rfl) ?_
        refine Ow_q rfl rfl rfl (Qt_pick_t rfl rfl) ?_
        refine Ow_q rfl rfl rfl (Qt_move rfl) ?_
        refine Ow_caseG rfl rfl rfl ?_ ?_
        · intro h139
          have h139 := dcd_t (h139)
          have H := ift h139 H
          refine Ow_qw rfl rfl rfl rfl rfl rfl (Qt_move rfl) ?_
          obtain ⟨x140, x141, hx142, H⟩ := bnd2 H
          refine Ow.shift (Shift.pull (.there .here) (Shift.done ?_))
          refine Ow_want rfl rfl rfl rfl (OpW_call rfl Try.call27 rfl rfl (c_M_draw_Codes_Next bp0 (Draw_Codes.mk p0.list x112 p0.value) vp0_list 4 x140 x141 hx142 _ _ hp0_list) ?_)
          rintro _ _ _ - ⟨rfl, rfl, rfl⟩
          refine Ow_qw rfl rfl rfl rfl rfl rfl (Qt_cmp rfl rfl rfl) ?_
          refine Ow_q rfl rfl rfl (Qt_pick_t rfl rfl) ?_
          refine Ow_nil ?_
          refine Shift.pull (.there (.there (.there .here))) ?_
          refine Shift.pull (.there (.there (.there .here))) ?_
          refine Shift.pull (.there (.there (.there .here))) ?_
          refine Shift.pull (.there (.there (.there .here))) ?_
          refine Shift.done ?_
          exact ⟨[(0, (.pointer (some ((⟨bp0, 0, none⟩ : Addr).add 0)))), (1, (sv vp1)), (5, (.pointer (some ((⟨b109, 0, none⟩ : Addr).add 0)))), (6, (.pointer (some ((⟨b110, 0, none⟩ : Addr).add 0)))), (7, (.pointer (some ((⟨b114, 0, none⟩ : Addr).add 0)))), (26, (.bool (dcd (x140 > 0))))], ⟨rfl, rfl, rfl, rfl, rfl, rfl, trivial⟩, (dcd (x140 > 0)), x141, ((Draw_Codes.mk p0.list x112 p0.value).value), rfl, rfl, rfl, H⟩
        · intro h139
          have h139 := dcd_f (h139)
          have H := iff_ h139 H
          refine Ow_pass rfl rfl rfl rfl rfl rfl rfl ?_
          refine Ow_pass rfl rfl rfl rfl rfl rfl rfl ?_
          refine Ow_pass rfl rfl rfl rfl rfl rfl rfl ?_
          refine Ow_q rfl rfl rfl (Qt_pick_f rfl rfl) ?_
          refine Ow_nil ?_
          refine Shift.pull (.there (.there (.there .here))) ?_
          refine Shift.pull (.there (.there (.there .here))) ?_
          refine Shift.pull (.there (.there .here)) ?_
          refine Shift.pull (.there (.there (.there .here))) ?_
          refine Shift.done ?_
          exact ⟨[(0, (.pointer (some ((⟨bp0, 0, none⟩ : Addr).add 0)))), (1, (sv vp1)), (5, (.pointer (some ((⟨b109, 0, none⟩ : Addr).add 0)))), (6, (.pointer (some ((⟨b110, 0, none⟩ : Addr).add 0)))), (7, (.pointer (some ((⟨b114, 0, none⟩ : Addr).add 0)))), (26, (.bool false))], ⟨rfl, rfl, rfl, rfl, rfl, rfl, trivial⟩, false, x112, p0.value, rfl, rfl, rfl, H⟩
      · intro h138
        have h138 := dcd_f (h138)
        have H := iff_ h138 H
        refine Ow_pass rfl rfl rfl rfl rfl rfl rfl ?_
        refine Ow_pass rfl rfl rfl rfl rfl rfl rfl ?_
        refine Ow_pass rfl rfl rfl rfl rfl rfl rfl ?_
        refine Ow_pass rfl rfl rfl rfl rfl rfl rfl ?_
        refine Ow_q rfl rfl rfl (Qt_pick_f rfl rfl) ?_
        refine Ow_q rfl rfl rfl (Qt_move rfl) ?_
        refine Ow_pass rfl rfl rfl rfl rfl rfl rfl ?_
        refine Ow_pass rfl rfl rfl rfl rfl rfl rfl ?_
        refine Ow_pass rfl rfl rfl rfl rfl rfl rfl ?_
        refine Ow_q rfl rfl rfl (Qt_pick_f rfl rfl) ?_
        refine Ow_nil ?_
        refine Shift.pull (.there (.there (.there .here))) ?_
        refine Shift.pull (.there (.there (.there .here))) ?_
        refine Shift.pull (.there (.there .here)) ?_
        refine Shift.pull (.there (.there (.there .here))) ?_
        refine Shift.done ?_
        exact ⟨[(0, (.pointer (some ((⟨bp0, 0, none⟩ : Addr).add 0)))), (1, (sv vp1)), (5, (.pointer (some ((⟨b109, 0, none⟩ : Addr).add 0)))), (6, (.pointer (some ((⟨b110, 0, none⟩ : Addr).add 0)))), (7, (.pointer (some ((⟨b114, 0, none⟩ : Addr).add 0)))), (26, (.bool false))], ⟨rfl, rfl, rfl, rfl, rfl, rfl, trivial⟩, false, x112, p0.value, rfl, rfl, rfl, H⟩
    rintro _ _ _ - ⟨t135, i136, i137, rfl, rfl, rfl, H⟩
    unfold M_law14_result_J2 at H
    refine Cw_cond rfl ?_ ?_
    · intro h143
      have H := ift h143 H
      refine Cw_region ?_
      refine Ow_q rfl rfl rfl (Qt_move rfl) ?_
      refine Ow_q rfl rfl rfl (Qt_fieldAddr (m := 5) rfl rfl rfl rfl rfl) ?_
      refine Ow_q rfl rfl rfl (Qt_load1 (v := (sv vp2_cases)) rfl rfl rfl (Rdc.blk (.tail _ (.tail _ (.tail _ (.head _)))) rfl)) ?_
      refine Ow_q rfl rfl rfl (Q_len (T := TyCase) hp2_cases rfl rfl) ?_
      obtain ⟨x144, x145, hx146, H⟩ := bnd2 H
      refine Ow_cons rfl (OpW_call rfl Try.call27 rfl rfl (c_M_draw_Codes_Next bp0 (Draw_Codes.mk p0.list i136 i137) vp0_list (p2.cases.length : Int) x144 x145 hx146 _ _ hp0_list) ?_)
      rintro _ _ _ - ⟨rfl, rfl, rfl⟩
      refine Ow_q rfl rfl rfl (Qt_fieldAddr (m := 1) rfl rfl rfl rfl rfl) ?_
      refine Ow_cons rfl (OpW_store (vs := [(.int .i64 x144)]) (all' := (Result.cells (Result.mk (wI (1 + x111)) x144 0 false 0))) rfl rfl rfl rfl rfl (.there .here) rfl rfl rfl ?_)
      refine Ow_nil ?_
      refine Shift.pull (.there (.there (.there .here))) ?_
      refine Shift.pull (.there (.there (.there .here))) ?_
      refine Shift.pull (.there (.there (.there .here))) ?_
      refine Shift.pull (.there (.there (.there .here))) ?_
      refine Shift.done ?_
      exact ⟨[(0, (.pointer (some ((⟨bp0, 0, none⟩ : Addr).add 0)))), (1, (sv vp1)), (5, (.pointer (some ((⟨b109, 0, none⟩ : Addr).add 0)))), (6, (.pointer (some ((⟨b110, 0, none⟩ : Addr).add 0)))), (7, (.pointer (some ((⟨b114, 0, none⟩ : Addr).add 0))))], ⟨rfl, rfl, rfl, rfl, rfl, trivial⟩, x145, ((Draw_Codes.mk p0.list i136 i137).value), x144, rfl, rfl, rfl, H⟩
    · intro h143
      have H := iff_ (btf h143) H
      refine Cw_skip ?_
      refine Shift.pull (.there (.there (.there .here))) ?_
      refine Shift.pull (.there (.there (.there .here))) ?_
      refine Shift.pull (.there (.there (.there .here))) ?_
      refine Shift.pull (.there (.there (.there .here))) ?_
      refine Shift.done ?_
      exact ⟨[(0, (.pointer (some ((⟨bp0, 0, none⟩ : Addr).add 0)))), (1, (sv vp1)), (5, (.pointer (some ((⟨b109, 0, none⟩ : Addr).add 0)))), (6, (.pointer (some ((⟨b110, 0, none⟩ : Addr).add 0)))), (7, (.pointer (some ((⟨b114, 0, none⟩ : Addr).add 0))))], ⟨rfl, rfl, rfl, rfl, rfl, trivial⟩, i136, i137, (-1), rfl, rfl, rfl, H⟩
  rintro _ _ _ - ⟨i127, i128, i129, rfl, rfl, rfl, H⟩
  unfold M_law14_result_J1 at H
  refine Cw_seq ?_
  refine Cw_region ?_
  refine Ow_q rfl rfl rfl (Qt_fieldAddr (m := 2) rfl rfl rfl rfl rfl) ?_
  refine Ow_q rfl rfl rfl (Qt_load1 (v := (.int .i64 p2.channel)) rfl rfl rfl (Rdc.blk (.tail _ (.tail _ (.tail _ (.head _)))) rfl)) ?_
  refine Ow_q rfl rfl rfl (Qt_assign rfl) ?_
  refine Ow_nil ?_
  refine Cw_join (fun env' K' G' => ∃ (i153 : Int), [(0, (.pointer (some ((⟨bp0, 0, none⟩ : Addr).add 0)))), (1, (sv vp1)), (6, (.pointer (some ((⟨b110, 0, none⟩ : Addr).add 0)))), (7, (.pointer (some ((⟨b114, 0, none⟩ : Addr).add 0)))), (8, (.int .i64 i153))] = env' ∧ K = K' ∧ (.blk bp0 85 (Draw_Codes.cells (Draw_Codes.mk p0.list i127 i128) vp0_list)) :: (.blk b114 25 (Result.cells (Result.mk (wI (1 + x111)) i129 0 false 0))) :: (.blk b110 25 (Result.cells (Result.mk 0 0 0 false 0))) :: G = G' ∧ M_law14_result_J3 p1 p0 i127 i128 x111 i129 i153 = some (y0, z0_at_, z0_value)) ?_ ?_
  · skip
    refine Cw_seq ?_
    refine Cw_region ?_
    refine Ow_q rfl rfl rfl (Qt_fieldAddr (m := 1) rfl rfl rfl rfl rfl) ?_
    refine Ow_q rfl rfl rfl (Qt_load1 (v := (.int .i64 i129)) rfl rfl rfl (Rdc.blk (.tail _ (.head _)) rfl)) ?_
    refine Ow_q rfl rfl rfl (Qt_cmp rfl rfl rfl) ?_
    refine Ow_nil ?_
    refine Cw_cond rfl ?_ ?_
    · intro h154
      have h154 := dcd_t (h154)
      have H := ift h154 H
      refine Cw_region ?_
      refine Ow_q rfl rfl rfl (Qt_fieldAddr (m := 5) rfl rfl rfl rfl rfl) ?_
      refine Ow_q rfl rfl rfl (Qt_load1 (v := (sv vp2_cases)) rfl rfl rfl (Rdc.blk (.tail _ (.tail _ (.tail _ (.head _)))) rfl)) ?_
      refine Ow_q rfl rfl rfl (Qt_fieldAddr (m := 1) rfl rfl rfl rfl rfl) ?_
      refine Ow_q rfl rfl rfl (Qt_load1 (v := (.int .i64 i129)) rfl rfl rfl (Rdc.blk (.tail _ (.head _)) rfl)) ?_
      obtain ⟨x155, hx156, H⟩ := bnd H
      obtain ⟨r157, hr158, hk159⟩ := Slr.at hp2_cases hx156
      obtain rfl := hr158
      refine Ow_q rfl rfl rfl (Q_ix (T := TyCase) hp2_cases hx156 rfl rfl rfl rfl rfl) ?_
      refine Ow_q rfl rfl rfl (Qt_fieldAddr (m := 1) rfl rfl rfl rfl rfl) ?_
      refine Ow_q rfl rfl rfl (Qt_load1 (v := (.int .i64 x155.channel)) rfl rfl rfl (Rdc.k hk159 rfl)) ?_
      refine Ow_q rfl rfl rfl (Qt_assign rfl) ?_
      refine Ow_nil ?_
      refine Shift.pull (.there (.there .here)) ?_
      refine Shift.pull (.there (.there .here)) ?_
      refine Shift.pull (.there (.there .here)) ?_
      refine Shift.rem (.there (.there (.there .here))) ?_
      refine Shift.done ?_
      exact ⟨[(0, (.pointer (some ((⟨bp0, 0, none⟩ : Addr).add 0)))), (1, (sv vp1)), (6, (.pointer (some ((⟨b110, 0, none⟩ : Addr).add 0)))), (7, (.pointer (some ((⟨b114, 0, none⟩ : Addr).add 0)))), (8, (.int .i64 x155.channel))], ⟨rfl, rfl, rfl, rfl, rfl, trivial⟩, x155.channel, rfl, rfl, rfl, H⟩
    · intro h154
      have h154 := dcd_f (h154)
      have H := iff_ h154 H
      refine Cw_skip ?_
      refine Shift.pull (.there (.there .here)) ?_
      refine Shift.pull (.there (.there .here)) ?_
      refine Shift.pull (.there (.there .here)) ?_
      refine Shift.rem (.there (.there (.there .here))) ?_
      refine Shift.done ?_
      exact ⟨[(0, (.pointer (some ((⟨bp0, 0, none⟩ : Addr).add 0)))), (1, (sv vp1)), (6, (.pointer (some ((⟨b110, 0, none⟩ : Addr).add 0)))), (7, (.pointer (some ((⟨b114, 0, none⟩ : Addr).add 0)))), (8, (.int .i64 p2.channel))], ⟨rfl, rfl, rfl, rfl, rfl, trivial⟩, p2.channel, rfl, rfl, rfl, H⟩
  rintro _ _ _ - ⟨i153, rfl, rfl, rfl, H⟩
  unfold M_law14_result_J3 at H
  refine Cw_join (fun env' K' G' => ∃ (i190 : Int) (i191 : Int) (i192 : Int) (t193 : Bool), [(0, (.pointer (some ((⟨bp0, 0, none⟩ : Addr).add 0)))), (6, (.pointer (some ((⟨b110, 0, none⟩ : Addr).add 0)))), (7, (.pointer (some ((⟨b114, 0, none⟩ : Addr).add 0))))] = env' ∧ K = K' ∧ (.blk bp0 85 (Draw_Codes.cells (Draw_Codes.mk p0.list i190 i191) vp0_list)) :: (.blk b114 25 (Result.cells (Result.mk (wI (1 + x111)) i129 i192 t193 0))) :: (.blk b110 25 (Result.cells (Result.mk 0 0 0 false 0))) :: G = G' ∧ M_law14_result_J4 p0 x111 i129 i190 i191 i192 t193 = some (y0, z0_at_, z0_value)) ?_ ?_
  · skip
    refine Cw_join (fun env' K' G' => ∃ (t208 : Bool) (i209 : Int) (i210 : Int), [(0, (.pointer (some ((⟨bp0, 0, none⟩ : Addr).add 0)))), (1, (sv vp1)), (6, (.pointer (some ((⟨b110, 0, none⟩ : Addr).add 0)))), (7, (.pointer (some ((⟨b114, 0, none⟩ : Addr).add 0)))), (8, (.int .i64 i153)), (71, (.bool t208))] = env' ∧ K = K' ∧ (.blk bp0 85 (Draw_Codes.cells (Draw_Codes.mk p0.list i209 i210) vp0_list)) :: (.blk b114 25 (Result.cells (Result.mk (wI (1 + x111)) i129 0 false 0))) :: (.blk b110 25 (Result.cells (Result.mk 0 0 0 false 0))) :: G = G' ∧ M_law14_result_J5 p1 i153 p0 x111 i129 t208 i209 i210 = some (y0, z0_at_, z0_value)) ?_ ?_
    · skip
      refine Cw_region ?_
      refine Ow_q rfl rfl rfl (Qt_fieldAddr (m := 0) rfl rfl rfl rfl rfl) ?_
      refine Ow_q rfl rfl rfl (Qt_load1 (v := (.int .i64 (wI (1 + x111)))) rfl rfl rfl (Rdc.blk (.tail _ (.head _)) rfl)) ?_
      refine Ow_q rfl rfl rfl (Qt_cmp rfl rfl rfl) ?_
      refine Ow_q rfl rfl rfl (Qt_move rfl) ?_
      refine Ow_caseG rfl rfl rfl ?_ ?_
      · intro h211
        have h211 := dcd_t (h211)
        have H := ift h211 H
        refine Ow_qw rfl rfl rfl rfl rfl rfl (Qt_move rfl) ?_
        refine Ow_qw rfl rfl rfl rfl rfl rfl (Qt_cmp rfl rfl rfl) ?_
        refine Ow_q rfl rfl rfl (Qt_pick_t rfl rfl) ?_
        refine Ow_q rfl rfl rfl (Qt_move rfl) ?_
        refine Ow_caseG rfl rfl rfl ?_ ?_
        · intro h212
          have h212 := dcd_t (h212)
          have H := ift h212 H
          refine Ow_qw rfl rfl rfl rfl rfl rfl (Qt_move rfl) ?_
          refine Ow_qw rfl rfl rfl rfl rfl rfl (Qt_move rfl) ?_
          refine Ow_qw rfl rfl rfl rfl rfl rfl (Q_len (T := TyChan) hp1 rfl rfl) ?_
          refine Ow_qw rfl rfl rfl rfl rfl rfl (Qt_cmp rfl rfl rfl) ?_
          refine Ow_q rfl rfl rfl (Qt_pick_t rfl rfl) ?_
          refine Ow_q rfl rfl rfl (Qt_move rfl) ?_
          refine Ow_caseG rfl rfl rfl ?_ ?_
          · intro h213
            have h213 := dcd_t (h213)
            have H := ift h213 H
            refine Ow_qw rfl rfl rfl rfl rfl rfl (Qt_move rfl) ?_
            refine Ow_qw rfl rfl rfl rfl rfl rfl (Qt_move rfl) ?_
            obtain ⟨x214, hx215, H⟩ := bnd H
            obtain ⟨r216, hr217, hk218⟩ := Slr.at hp1 hx215
            obtain ⟨v219, rfl, hs220⟩ := hr217
            refine Ow_qw rfl rfl rfl rfl rfl rfl (Q_ix (T := TyChan) hp1 hx215 rfl rfl rfl rfl rfl) ?_
            refine Ow_qw rfl rfl rfl rfl rfl rfl (Qt_fieldAddr (m := 1) rfl rfl rfl rfl rfl) ?_
            refine Ow_qw rfl rfl rfl rfl rfl rfl (Qt_load1 (v := (sv v219)) rfl rfl rfl (Rdc.k hk218 rfl)) ?_
            refine Ow_qw rfl rfl rfl rfl rfl rfl (Q_len (T := Ty.u64) hs220 rfl rfl) ?_
            refine Ow_qw rfl rfl rfl rfl rfl rfl (Qt_cmp rfl rfl rfl) ?_
            refine Ow_q rfl rfl rfl (Qt_pick_t rfl rfl) ?_
            refine Ow_q rfl rfl rfl (Qt_move rfl) ?_
            refine Ow_caseG rfl rfl rfl ?_ ?_
            · intro h221
              have h221 := dcd_t (h221)
              have H := ift h221 H
              refine Ow_qw rfl rfl rfl rfl rfl rfl (Qt_move rfl) ?_
              obtain ⟨x222, x223, hx224, H⟩ := bnd2 H
              refine Ow_want rfl rfl rfl rfl (OpW_call rfl Try.call27 rfl rfl (c_M_draw_Codes_Next bp0 (Draw_Codes.mk p0.list i127 i128) vp0_list 3 x222 x223 hx224 _ _ hp0_list) ?_)
              rintro _ _ _ - ⟨rfl, rfl, rfl⟩
              refine Ow_qw rfl rfl rfl rfl rfl rfl (Qt_cmp rfl rfl rfl) ?_
              refine Ow_q rfl rfl rfl (Qt_pick_t rfl rfl) ?_
              refine Ow_nil ?_
              refine Shift.pull (.there (.there .here)) ?_
              refine Shift.pull (.there (.there .here)) ?_
              refine Shift.pull (.there (.there .here)) ?_
              refine Shift.done ?_
              exact ⟨[(0, (.pointer (some ((⟨bp0, 0, none⟩ : Addr).add 0)))), (1, (sv vp1)), (6, (.pointer (some ((⟨b110, 0, none⟩ : Addr).add 0)))), (7, (.pointer (some ((⟨b114, 0, none⟩ : Addr).add 0)))), (8, (.int .i64 i153)), (71, (.bool (dcd (x222 > 0))))], ⟨rfl, rfl, rfl, rfl, rfl, rfl, trivial⟩, (dcd (x222 > 0)), x223, ((Draw_Codes.mk p0.list i127 i128).value), rfl, rfl, rfl, H⟩
            · intro h221
              have h221 := dcd_f (h221)
              have H := iff_ h221 H
              refine Ow_pass rfl rfl rfl rfl rfl rfl rfl ?_
              refine Ow_pass rfl rfl rfl rfl rfl rfl rfl ?_
              refine Ow_pass rfl rfl rfl rfl rfl rfl rfl ?_
              refine Ow_q rfl rfl rfl (Qt_pick_f rfl rfl) ?_
              refine Ow_nil ?_
              refine Shift.pull (.there (.there .here)) ?_
              refine Shift.pull (.there (.there .here)) ?_
              refine Shift.pull (.there (.there .here)) ?_
              refine Shift.done ?_
              exact ⟨[(0, (.pointer (some ((⟨bp0, 0, none⟩ : Addr).add 0)))), (1, (sv vp1)), (6, (.pointer (some ((⟨b110, 0, none⟩ : Addr).add 0)))), (7, (.pointer (some ((⟨b114, 0, none⟩ : Addr).add 0)))), (8, (.int .i64 i153)), (71, (.bool false))], ⟨rfl, rfl, rfl, rfl, rfl, rfl, trivial⟩, false, i127, i128, rfl, rfl, rfl, H⟩
          · intro h213
            have h213 := dcd_f (h213)
            have H := iff_ h213 H
            refine Ow_pass rfl rfl rfl rfl rfl rfl rfl ?_
            refine Ow_pass rfl rfl rfl rfl rfl rfl rfl ?_
            refine Ow_pass rfl rfl rfl rfl rfl rfl rfl ?_
            refine Ow_pass rfl rfl rfl rfl rfl rfl rfl ?_
            refine Ow_pass rfl rfl rfl rfl rfl rfl rfl ?_
            refine Ow_pass rfl rfl rfl rfl rfl rfl rfl ?_
            refine Ow_pass rfl rfl rfl rfl rfl rfl rfl ?_
            refine Ow_q rfl rfl rfl (Qt_pick_f rfl rfl) ?_
            refine Ow_q rfl rfl rfl (Qt_move rfl) ?_
            refine Ow_pass rfl rfl rfl rfl rfl rfl rfl ?_
            refine Ow_pass rfl rfl rfl rfl rfl rfl rfl ?_
            refine Ow_pass rfl rfl rfl rfl rfl rfl rfl ?_
            refine Ow_q rfl rfl rfl (Qt_pick_f rfl rfl) ?_
            refine Ow_nil ?_
            refine Shift.pull (.there (.there .here)) ?_
            refine Shift.pull (.there (.there .here)) ?_
            refine Shift.pull (.there (.there .here)) ?_
            refine Shift.done ?_
            exact ⟨[(0, (.pointer (some ((⟨bp0, 0, none⟩ : Addr).add 0)))), (1, (sv vp1)), (6, (.pointer (some ((⟨b110, 0, none⟩ : Addr).add 0)))), (7, (.pointer (some ((⟨b114, 0, none⟩ : Addr).add 0)))), (8, (.int .i64 i153)), (71, (.bool false))], ⟨rfl, rfl, rfl, rfl, rfl, rfl, trivial⟩, false, i127, i128, rfl, rfl, rfl, H⟩
        · intro h212
          have h212 := dcd_f (h212)
          have H := iff_ h212 H
          refine Ow_pass rfl rfl rfl rfl rfl rfl rfl ?_
          refine Ow_pass rfl rfl rfl rfl rfl rfl rfl ?_
          refine Ow_pass rfl rfl rfl rfl rfl rfl rfl ?_
          refine Ow_pass rfl rfl rfl rfl rfl rfl rfl ?_
          refine Ow_q rfl rfl rfl (Qt_pick_f rfl rfl) ?_
          refine Ow_q rfl rfl rfl (Qt_move rfl) ?_
          refine Ow_pass rfl rfl rfl rfl rfl rfl rfl ?_
          refine Ow_pass rfl rfl rfl rfl rfl rfl rfl ?_
          refine Ow_pass rfl rfl rfl rfl rfl rfl rfl ?_
          refine Ow_pass rfl rfl rfl rfl rfl rfl rfl ?_
          refine Ow_pass rfl rfl rfl rfl rfl rfl rfl ?_
          refine Ow_pass rfl rfl rfl rfl rfl rfl rfl ?_
          refine Ow_pass rfl rfl rfl rfl rfl rfl rfl ?_
          refine Ow_q rfl rfl rfl (Qt_pick_f rfl rfl) ?_
          refine Ow_q rfl rfl rfl (Qt_move rfl) ?_
          refine Ow_pass rfl rfl rfl rfl rfl rfl rfl ?_
          refine Ow_pass rfl rfl rfl rfl rfl rfl rfl ?_
          refine Ow_pass rfl rfl rfl rfl rfl rfl rfl ?_
          refine Ow_q rfl rfl rfl (Qt_pick_f rfl rfl) ?_
          refine Ow_nil ?_
          refine Shift.pull (.there (.there .here)) ?_
          refine Shift.pull (.there (.there .here)) ?_
          refine Shift.pull (.there (.there .here)) ?_
          refine Shift.done ?_
          exact ⟨[(0, (.pointer (some ((⟨bp0, 0, none⟩ : Addr).add 0)))), (1, (sv vp1)), (6, (.pointer (some ((⟨b110, 0, none⟩ : Addr).add 0)))), (7, (.pointer (some ((⟨b114, 0, none⟩ : Addr).add 0)))), (8, (.int .i64 i153)), (71, (.bool false))], ⟨rfl, rfl, rfl, rfl, rfl, rfl, trivial⟩, false, i127, i128, rfl, rfl, rfl, H⟩
      · intro h211
        have h211 := dcd_f (h211)
        have H := iff_ h211 H
        refine Ow_pass rfl rfl rfl rfl rfl rfl rfl ?_
        refine Ow_pass rfl rfl rfl rfl rfl rfl rfl ?_
        refine Ow_q rfl rfl rfl (Qt_pick_f rfl rfl) ?_
        refine Ow_q rfl rfl rfl (Qt_move rfl) ?_
        refine Ow_pass rfl rfl rfl rfl rfl rfl rfl ?_
        refine Ow_pass rfl rfl rfl rfl rfl rfl rfl ?_
        refine Ow_pass rfl rfl rfl rfl rfl rfl rfl ?_
        refine Ow_pass rfl rfl rfl rfl rfl rfl rfl ?_
        refine Ow_q rfl rfl rfl (Qt_pick_f rfl rfl) ?_
        refine Ow_q rfl rfl rfl (Qt_move rfl) ?_
        refine Ow_pass rfl rfl rfl rfl rfl rfl rfl ?_
        refine Ow_pass rfl rfl rfl rfl rfl rfl rfl ?_
        refine Ow_pass rfl rfl rfl rfl rfl rfl rfl ?_
        refine Ow_pass rfl rfl rfl rfl rfl rfl rfl ?_
        refine Ow_pass rfl rfl rfl rfl rfl rfl rfl ?_
        refine Ow_pass rfl rfl rfl rfl rfl rfl rfl ?_
        refine Ow_pass rfl rfl rfl rfl rfl rfl rfl ?_
        refine Ow_q rfl rfl rfl (Qt_pick_f rfl rfl) ?_
        refine Ow_q rfl rfl rfl (Qt_move rfl) ?_
        refine Ow_pass rfl rfl rfl rfl rfl rfl rfl ?_
        refine Ow_pass rfl rfl rfl rfl rfl rfl rfl ?_
        refine Ow_pass rfl rfl rfl rfl rfl rfl rfl ?_
        refine Ow_q rfl rfl rfl (Qt_pick_f rfl rfl) ?_
        refine Ow_nil ?_
        refine Shift.pull (.there (.there .here)) ?_
        refine Shift.pull (.there (.there .here)) ?_
        refine Shift.pull (.there (.there .here)) ?_
        refine Shift.done ?_
        exact ⟨[(0, (.pointer (some ((⟨bp0, 0, none⟩ : Addr).add 0)))), (1, (sv vp1)), (6, (.pointer (some ((⟨b110, 0, none⟩ : Addr).add 0)))), (7, (.pointer (some ((⟨b114, 0, none⟩ : Addr).add 0)))), (8, (.int .i64 i153)), (71, (.bool false))], ⟨rfl, rfl, rfl, rfl, rfl, rfl, trivial⟩, false, i127, i128, rfl, rfl, rfl, H⟩
    rintro _ _ _ - ⟨t208, i209, i210, rfl, rfl, rfl, H⟩
    unfold M_law14_result_J5 at H
    refine Cw_cond rfl ?_ ?_
    · intro h225
      have H := ift h225 H
      refine Cw_region ?_
      refine Ow_q rfl rfl rfl (Qt_move rfl) ?_
      refine Ow_q rfl rfl rfl (Qt_move rfl) ?_
      obtain ⟨x226, hx227, H⟩ := bnd H
      obtain ⟨r228, hr229, hk230⟩ := Slr.at hp1 hx227
      obtain ⟨v231, rfl, hs232⟩ := hr229
      refine Ow_q rfl rfl rfl (Q_ix (T := TyChan) hp1 hx227 rfl rfl rfl rfl rfl) ?_
      refine Ow_q rfl rfl rfl (Qt_fieldAddr (m := 1) rfl rfl rfl rfl rfl) ?_
      refine Ow_q rfl rfl rfl (Qt_load1 (v := (sv v231)) rfl rfl rfl (Rdc.k hk230 rfl)) ?_
      obtain ⟨x233, hx234, H⟩ := bnd H
      obtain ⟨r235, hr236, hk237⟩ := Slr.at hs232 hx234
      obtain rfl := hr236
      refine Ow_q rfl rfl rfl (Q_ix (T := Ty.u64) hs232 hx234 rfl rfl rfl rfl rfl) ?_
      refine Ow_q rfl rfl rfl (Qt_load1 (v := (.int .u64 x233)) rfl rfl rfl (Rdc.k hk237 rfl)) ?_
      refine Ow_q rfl rfl rfl (Qt_fieldAddr (m := 2) rfl rfl rfl rfl rfl) ?_
      refine Ow_cons rfl (OpW_store (vs := [(.int .u64 x233)]) (all' := (Result.cells (Result.mk (wI (1 + x111)) i129 x233 false 0))) rfl rfl rfl rfl rfl (.there .here) rfl rfl rfl ?_)
      refine Ow_q rfl rfl rfl (Qt_fieldAddr (m := 3) rfl rfl rfl rfl rfl) ?_
      refine Ow_cons rfl (OpW_store (vs := [(.bool true)]) (all' := (Result.cells (Result.mk (wI (1 + x111)) i129 x233 true 0))) rfl rfl rfl rfl rfl (.there .here) rfl rfl rfl ?_)
      refine Ow_nil ?_
      refine Shift.pull (.there (.there .here)) ?_
      refine Shift.pull (.there (.there .here)) ?_
      refine Shift.pull (.there (.there .here)) ?_
      refine Shift.done ?_
      exact ⟨[(0, (.pointer (some ((⟨bp0, 0, none⟩ : Addr).add 0)))), (6, (.pointer (some ((⟨b110, 0, none⟩ : Addr).add 0)))), (7, (.pointer (some ((⟨b114, 0, none⟩ : Addr).add 0))))], ⟨rfl, rfl, rfl, trivial⟩, i209, i210, x233, true, rfl, rfl, rfl, H⟩
    · intro h225
      have H := iff_ (btf h225) H
      refine Cw_skip ?_
      refine Shift.pull (.there (.there .here)) ?_
      refine Shift.pull (.there (.there .here)) ?_
      refine Shift.pull (.there (.there .here)) ?_
      refine Shift.done ?_
      exact ⟨[(0, (.pointer (some ((⟨bp0, 0, none⟩ : Addr).add 0)))), (6, (.pointer (some ((⟨b110, 0, none⟩ : Addr).add 0)))), (7, (.pointer (some ((⟨b114, 0, none⟩ : Addr).add 0))))], ⟨rfl, rfl, rfl, trivial⟩, i209, i210, 0, false, rfl, rfl, rfl, H⟩
  rintro _ _ _ - ⟨i190, i191, i192, t193, rfl, rfl, rfl, H⟩
  unfold M_law14_result_J4 at H
  refine Cw_join (fun env' K' G' => ∃ (i242 : Int) (i243 : Int) (i244 : Int), [(0, (.pointer (some ((⟨bp0, 0, none⟩ : Addr).add 0)))), (6, (.pointer (some ((⟨b110, 0, none⟩ : Addr).add 0)))), (7, (.pointer (some ((⟨b114, 0, none⟩ : Addr).add 0))))] = env' ∧ K = K' ∧ (.blk bp0 85 (Draw_Codes.cells (Draw_Codes.mk p0.list i242 i243) vp0_list)) :: (.blk b114 25 (Result.cells (Result.mk (wI (1 + x111)) i129 i192 t193 i244))) :: (.blk b110 25 (Result.cells (Result.mk 0 0 0 false 0))) :: G = G' ∧ M_law14_result_J6 p0 x111 i129 i192 t193 i242 i243 i244 = some (y0, z0_at_, z0_value)) ?_ ?_
  · skip
    refine Cw_seq ?_
    refine Cw_region ?_
    refine Ow_q rfl rfl rfl (Qt_fieldAddr (m := 0) rfl rfl rfl rfl rfl) ?_
    refine Ow_q rfl rfl rfl (Qt_load1 (v := (.int .i64 (wI (1 + x111)))) rfl rfl rfl (Rdc.blk (.tail _ (.head _)) rfl)) ?_
    refine Ow_q rfl rfl rfl (Qt_cmp rfl rfl rfl) ?_
    refine Ow_nil ?_
    refine Cw_cond rfl ?_ ?_
    · intro h245
      have h245 := dcd_t (h245)
      have H := ift h245 H
      refine Cw_region ?_
      refine Ow_q rfl rfl rfl (Qt_move rfl) ?_
      obtain ⟨x246, x247, hx248, H⟩ := bnd2 H
      refine Ow_cons rfl (OpW_call rfl Try.call27 rfl rfl (c_M_draw_Codes_Next bp0 (Draw_Codes.mk p0.list i190 i191) vp0_list 4 x246 x247 hx248 _ _ hp0_list) ?_)
      rintro _ _ _ - ⟨rfl, rfl, rfl⟩
      refine Ow_q rfl rfl rfl (Qt_fieldAddr (m := 4) rfl rfl rfl rfl rfl) ?_
      refine Ow_cons rfl (OpW_store (vs := [(.int .i64 x246)]) (all' := (Result.cells (Result.mk (wI (1 + x111)) i129 i192 t193 x246))) rfl rfl rfl rfl rfl (.there .here) rfl rfl rfl ?_)
      refine Ow_nil ?_
      refine Shift.pull (.there (.there .here)) ?_
      refine Shift.pull (.there (.there .here)) ?_
      refine Shift.pull (.there (.there .here)) ?_
      refine Shift.done ?_
      exact ⟨[(0, (.pointer (some ((⟨bp0, 0, none⟩ : Addr).add 0)))), (6, (.pointer (some ((⟨b110, 0, none⟩ : Addr).add 0)))), (7, (.pointer (some ((⟨b114, 0, none⟩ : Addr).add 0))))], ⟨rfl, rfl, rfl, trivial⟩, x247, ((Draw_Codes.mk p0.list i190 i191).value), x246, rfl, rfl, rfl, H⟩
    · intro h245
      have h245 := dcd_f (h245)
      have H := iff_ h245 H
      refine Cw_skip ?_
      refine Shift.pull (.there (.there .here)) ?_
      refine Shift.pull (.there (.there .here)) ?_
      refine Shift.pull (.there (.there .here)) ?_
      refine Shift.done ?_
      exact ⟨[(0, (.pointer (some ((⟨bp0, 0, none⟩ : Addr).add 0)))), (6, (.pointer (some ((⟨b110, 0, none⟩ : Addr).add 0)))), (7, (.pointer (some ((⟨b114, 0, none⟩ : Addr).add 0))))], ⟨rfl, rfl, rfl, trivial⟩, i190, i191, 0, rfl, rfl, rfl, H⟩
  rintro _ _ _ - ⟨i242, i243, i244, rfl, rfl, rfl, H⟩
  unfold M_law14_result_J6 at H
  refine Cw_join (fun env' K' G' => ∃ (i259 : Int) (i260 : Int) (i261 : Int) (i262 : Int) (t263 : Bool) (i264 : Int), [(6, (.pointer (some ((⟨b110, 0, none⟩ : Addr).add 0)))), (7, (.pointer (some ((⟨b114, 0, none⟩ : Addr).add 0))))] = env' ∧ K = K' ∧ (.blk bp0 85 (Draw_Codes.cells (Draw_Codes.mk p0.list i259 i260) vp0_list)) :: (.blk b114 25 (Result.cells (Result.mk (wI (1 + x111)) i261 i262 t263 i264))) :: (.blk b110 25 (Result.cells (Result.mk 0 0 0 false 0))) :: G = G' ∧ M_law14_result_J7 p0 x111 i259 i260 i261 i262 t263 i264 = some (y0, z0_at_, z0_value)) ?_ ?_
  · skip
    refine Cw_seq ?_
    refine Cw_region ?_
    refine Ow_q rfl rfl rfl (Qt_move rfl) ?_
    obtain ⟨x265, x266, hx267, H⟩ := bnd2 H
    refine Ow_cons rfl (OpW_call rfl Try.call27 rfl rfl (c_M_draw_Codes_Next bp0 (Draw_Codes.mk p0.list i242 i243) vp0_list 12 x265 x266 hx267 _ _ hp0_list) ?_)
    rintro _ _ _ - ⟨rfl, rfl, rfl⟩
    refine Ow_nil ?_
    refine Cw_block ?_
    refine Cw_seq ?_
    refine Cw_region ?_
    refine Ow_q rfl rfl rfl (Qt_cmp rfl rfl rfl) ?_
    refine Ow_q rfl rfl rfl (Qt_assign rfl) ?_
    refine Ow_nil ?_
    refine Cw_cond rfl ?_ ?_
    · intro h268
      have h268 := dcd_t (h268)
      have H := ift h268 H
      refine Cw_region ?_
      refine Ow_q rfl rfl rfl (Qt_fieldAddr (m := 2) rfl rfl rfl rfl rfl) ?_
      refine Ow_q rfl rfl rfl (Qt_load1 (v := (.int .u64 i192)) rfl rfl rfl (Rdc.blk (.tail _ (.head _)) rfl)) ?_
      refine Ow_q rfl rfl rfl (Qt_arith (e := wU (i192 + 1)) rfl rfl rfl rfl) ?_
      refine Ow_q rfl rfl rfl (Qt_fieldAddr (m := 2) rfl rfl rfl rfl rfl) ?_
      refine Ow_cons rfl (OpW_store (vs := [(.int .u64 (wU (i192 + 1)))]) (all' := (Result.cells (Result.mk (wI (1 + x111)) i129 (wU (i192 + 1)) t193 i244))) rfl rfl rfl rfl rfl (.there .here) rfl rfl rfl ?_)
      refine Ow_nil ?_
      refine Shift.pull (.there (.there .here)) ?_
      refine Shift.pull (.there (.there .here)) ?_
      refine Shift.pull (.there (.there .here)) ?_
      refine Shift.done ?_
      exact ⟨[(6, (.pointer (some ((⟨b110, 0, none⟩ : Addr).add 0)))), (7, (.pointer (some ((⟨b114, 0, none⟩ : Addr).add 0))))], ⟨rfl, rfl, trivial⟩, x266, ((Draw_Codes.mk p0.list i242 i243).value), i129, (wU (i192 + 1)), t193, i244, rfl, rfl, rfl, H⟩
    · intro h268
      have h268 := dcd_f (h268)
      have H := iff_ h268 H
      refine Cw_seq ?_
      refine Cw_region ?_
      refine Ow_q rfl rfl rfl (Qt_cmp rfl rfl rfl) ?_
      refine Ow_q rfl rfl rfl (Qt_assign rfl) ?_
      refine Ow_nil ?_
      refine Cw_cond rfl ?_ ?_
      · intro h269
        have h269 := dcd_t (h269)
        have H := ift h269 H
        refine Cw_region ?_
        refine Ow_q rfl rfl rfl (Qt_fieldAddr (m := 3) rfl rfl rfl rfl rfl) ?_
        refine Ow_q rfl rfl rfl (Qt_load1 (v := (.bool t193)) rfl rfl rfl (Rdc.blk (.tail _ (.head _)) rfl)) ?_
        refine Ow_q rfl rfl rfl (Qt_not rfl) ?_
        refine Ow_q rfl rfl rfl (Qt_fieldAddr (m := 3) rfl rfl rfl rfl rfl) ?_
        refine Ow_cons rfl (OpW_store (vs := [(.bool (!(t193)))]) (all' := (Result.cells (Result.mk (wI (1 + x111)) i129 i192 (!(t193)) i244))) rfl rfl rfl rfl rfl (.there .here) rfl rfl rfl ?_)
        refine Ow_nil ?_
        refine Shift.pull (.there (.there .here)) ?_
        refine Shift.pull (.there (.there .here)) ?_
        refine Shift.pull (.there (.there .here)) ?_
        refine Shift.done ?_
        exact ⟨[(6, (.pointer (some ((⟨b110, 0, none⟩ : Addr).add 0)))), (7, (.pointer (some ((⟨b114, 0, none⟩ : Addr).add 0))))], ⟨rfl, rfl, trivial⟩, x266, ((Draw_Codes.mk p0.list i242 i243).value), i129, i192, (!(t193)), i244, rfl, rfl, rfl, H⟩
      · intro h269
        have h269 := dcd_f (h269)
        have H := iff_ h269 H
        refine Cw_seq ?_
        refine Cw_region ?_
        refine Ow_q rfl rfl rfl (Qt_cmp rfl rfl rfl) ?_
        refine Ow_q rfl rfl rfl (Qt_assign rfl) ?_
        refine Ow_nil ?_
        refine Cw_cond rfl ?_ ?_
        · intro h270
          have h270 := dcd_t (h270)
          have H := ift h270 H
          refine Cw_region ?_
          refine Ow_q rfl rfl rfl (Qt_fieldAddr (m := 4) rfl rfl rfl rfl rfl) ?_
          refine Ow_q rfl rfl rfl (Qt_load1 (v := (.int .i64 i244)) rfl rfl rfl (Rdc.blk (.tail _ (.head _)) rfl)) ?_
          refine Ow_q rfl rfl rfl (Qt_arith (e := wI (i244 + 1)) rfl rfl rfl rfl) ?_
          refine Ow_q rfl rfl rfl (Qt_fieldAddr (m := 4) rfl rfl rfl rfl rfl) ?_
          refine Ow_cons rfl (OpW_store (vs := [(.int .i64 (wI (i244 + 1)))]) (all' := (Result.cells (Result.mk (wI (1 + x111)) i129 i192 t193 (wI (i244 + 1))))) rfl rfl rfl rfl rfl (.there .here) rfl rfl rfl ?_)
          refine Ow_nil ?_
          refine Shift.pull (.there (.there .here)) ?_
          refine Shift.pull (.there (.there .here)) ?_
          refine Shift.pull (.there (.there .here)) ?_
          refine Shift.done ?_
          exact ⟨[(6, (.pointer (some ((⟨b110, 0, none⟩ : Addr).add 0)))), (7, (.pointer (some ((⟨b114, 0, none⟩ : Addr).add 0))))], ⟨rfl, rfl, trivial⟩, x266, ((Draw_Codes.mk p0.list i242 i243).value), i129, i192, t193, (wI (i244 + 1)), rfl, rfl, rfl, H⟩
        · intro h270
          have h270 := dcd_f (h270)
          have H := iff_ h270 H
          refine Cw_seq ?_
          refine Cw_region ?_
          refine Ow_q rfl rfl rfl (Qt_cmp rfl rfl rfl) ?_
          refine Ow_q rfl rfl rfl (Qt_assign rfl) ?_
          refine Ow_nil ?_
          refine Cw_cond rfl ?_ ?_
          · intro h271
            have h271 := dcd_t (h271)
            have H := ift h271 H
            refine Cw_region ?_
            refine Ow_q rfl rfl rfl (Qt_move rfl) ?_
            obtain ⟨x272, x273, hx274, H⟩ := bnd2 H
            refine Ow_cons rfl (OpW_call rfl Try.call27 rfl rfl (c_M_draw_Codes_Next bp0 (Draw_Codes.mk p0.list x266 ((Draw_Codes.mk p0.list i242 i243).value)) vp0_list 4 x272 x273 hx274 _ _ hp0_list) ?_)
            rintro _ _ _ - ⟨rfl, rfl, rfl⟩
            refine Ow_q rfl rfl rfl (Qt_arith (e := wI (x272 - 1)) rfl rfl rfl rfl) ?_
            refine Ow_q rfl rfl rfl (Qt_fieldAddr (m := 1) rfl rfl rfl rfl rfl) ?_
            refine Ow_cons rfl (OpW_store (vs := [(.int .i64 (wI (x272 - 1)))]) (all' := (Result.cells (Result.mk (wI (1 + x111)) (wI (x272 - 1)) i192 t193 i244))) rfl rfl rfl rfl rfl (.there .here) rfl rfl rfl ?_)
            refine Ow_nil ?_
            refine Shift.pull (.there (.there .here)) ?_
            refine Shift.pull (.there (.there .here)) ?_
            refine Shift.pull (.there (.there .here)) ?_
            refine Shift.done ?_
            exact ⟨[(6, (.pointer (some ((⟨b110, 0, none⟩ : Addr).add 0)))), (7, (.pointer (some ((⟨b114, 0, none⟩ : Addr).add 0))))], ⟨rfl, rfl, trivial⟩, x273, ((Draw_Codes.mk p0.list x266 ((Draw_Codes.mk p0.list i242 i243).value)).value), (wI (x272 - 1)), i192, t193, i244, rfl, rfl, rfl, H⟩
          · intro h271
            have h271 := dcd_f (h271)
            have H := iff_ h271 H
            refine Cw_skip ?_
            refine Shift.pull (.there (.there .here)) ?_
            refine Shift.pull (.there (.there .here)) ?_
            refine Shift.pull (.there (.there .here)) ?_
            refine Shift.done ?_
            exact ⟨[(6, (.pointer (some ((⟨b110, 0, none⟩ : Addr).add 0)))), (7, (.pointer (some ((⟨b114, 0, none⟩ : Addr).add 0))))], ⟨rfl, rfl, trivial⟩, x266, ((Draw_Codes.mk p0.list i242 i243).value), i129, i192, t193, i244, rfl, rfl, rfl, H⟩
  rintro _ _ _ - ⟨i259, i260, i261, i262, t263, i264, rfl, rfl, rfl, H⟩
  unfold M_law14_result_J7 at H
  refine Cw_seq ?_
  refine Cw_region ?_
  refine Ow_q rfl rfl rfl (Qt_loadA (m := 5) (cs := (Result.cells (Result.mk (wI (1 + x111)) i261 i262 t263 i264))) rfl rfl rfl rfl ⟨rfl, Rdc.blk (.tail _ (.head _)) rfl⟩) ?_
  refine Ow_cons rfl (OpW_store (vs := (Result.cells (Result.mk (wI (1 + x111)) i261 i262 t263 i264))) (all' := (Result.cells (Result.mk (wI (1 + x111)) i261 i262 t263 i264))) rfl rfl rfl rfl rfl (.there (.there .here)) rfl rfl rfl ?_)
  refine Ow_nil ?_
  refine Cw_ret ?_
  obtain ⟨ey0, ez0_at_, ez0_value⟩ := inj3 H
  subst y0 z0_at_ z0_value
  refine ⟨(by first | exact .inl rfl | exact .inr rfl), [(.agg (Result.cells (Result.mk (wI (1 + x111)) i261 i262 t263 i264)).toArray)], ⟨(.agg (Result.cells (Result.mk (wI (1 + x111)) i261 i262 t263 i264)).toArray), _, rfl, ⟨_, 5, (Result.cells (Result.mk (wI (1 + x111)) i261 i262 t263 i264)), rfl, rfl, rfl, rfl, ⟨rfl, Rdc.blk (.tail _ (.tail _ (.head _))) rfl⟩, rfl⟩, rfl⟩, ?_⟩
  refine Shift.rem (.there .here) ?_
  refine Shift.rem (.there .here) ?_
  refine Shift.done ?_
  exact ⟨rfl, rfl, rfl⟩


end Go.Hx
