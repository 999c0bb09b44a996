/- Printed by program. -/
import Derived.Test.YtgpoanmjkggijaaXCM
import Derived.Test.YtgpoanmjkggijaaXCWDraw
import Derived.Test.YtgpoanmjkggijaaXCWRef151
namespace Go.Hx
open Go Go.Proofs
set_option linter.unusedSimpArgs false
set_option linter.unusedVariables false
set_option maxRecDepth 10000
set_option maxHeartbeats 1000000 in
theorem c_M_73z (p0 : List Int) (vp0 : SV) (y0 : Config) (y1 : List (List Op)) (y2 : List Event) (H : M_73z p0 = some (y0, y1, y2)) (K : Kp) (G : List Ent) (hp0 : Slr Ty.u8 K (sv vp0) p0) :
  Fc Try.prog 30 #[(sv vp0)] K (G) (fun v K' G' => ∃ (wy0_capacities : SV) (wy0_starts : SV) (wy1 : SV) (rswy1 : List (List Value)) (wy2 : SV), v = (.tuple #[(.agg (Config.cells y0 wy0_capacities wy0_starts).toArray), (sv wy1), (sv wy2)]) ∧ (.tok 3 1 [(sv wy0_capacities)]) :: (.tok 23 1 [(sv wy0_starts)]) :: (.row (sv wy1) 99 1 rswy1.flatten) :: (.tok 65 8 [(sv wy2)]) :: G = G' ∧ Slr Ty.i64 K' (sv wy0_capacities) y0.capacities ∧ Slr Ty.u64 K' (sv wy0_starts) y0.starts ∧ RowR (Ty.sl TyOp) K' rswy1 y1 ∧ Slr TyEvent K' (sv wy2) y2) := by
 refine Fc_body Try.func30 rfl Try.ntmps30 Try.results30 rfl ?_
 unfold M_73z at H
 refine Cw_seq<|Cw_region<|?_
 refine Ow_cons rfl (OpW_alloc (cs := (Config.cells (Config.mk [] [] 0) nilS nilS)) rfl rfl rfl rfl (fun b719 => ?_))
 refine Ow_q rfl rfl rfl (Qt_assign rfl)<|Ow_q rfl rfl rfl (Qt_assign rfl)<|Ow_nil<|Cw_seq<|Cw_region<|Ow_q rfl rfl rfl (Qt_move rfl)<|?_
 obtain ⟨x720, hx721, H⟩ := bnd H
 refine Ow_cons rfl (OpW_call rfl Try.call14 rfl rfl (c_M_97z p0 vp0 200 x720 hx721 _ _ hp0) ?_)
 rintro _ _ _ - ⟨b722, v723, rfl, rfl, rfl, hs724⟩
 refine Ow_q rfl rfl rfl (Qt_assign rfl)<|Ow_nil<|Cw_seq<|Cw_region<|Ow_q rfl rfl rfl (Qt_move rfl)<|?_
 obtain ⟨x725, x726, x727, hx728, H⟩ := bnd3 H
 refine Ow_cons rfl (OpW_call rfl Try.call25 rfl rfl (c_M_98z b722 x720 v723 x725 x726 x727 hx728 _ _ hs724) ?_)
 rintro _ K731 _ hK732 ⟨v729, v730, rfl, rfl, hs733, hs734⟩
 refine Ow_cons rfl (OpW_alloc (cs := (Config.cells (Config.mk [] [] 0) nilS nilS)) rfl rfl rfl rfl (fun b735 => ?_))
 refine Ow_cons rfl (OpW_store (vs := (Config.cells x725 v729 v730)) (all' := (Config.cells x725 v729 v730)) rfl rfl rfl rfl rfl .here rfl rfl rfl ?_)
 refine Ow_nil<|Cw_seq<|Cw_region<|Ow_q rfl rfl rfl (Qt_move rfl)<|Ow_q rfl rfl rfl (Qt_loadA (m := 3) (cs := (Config.cells x725 v729 v730)) rfl rfl rfl rfl ⟨rfl, Rdc.blk Mb0 rfl⟩)<|?_
 obtain ⟨x736, x737, x738, hx739, H⟩ := bnd3 H
 refine Ow.shift (Pu1 (Shift.done ?_))
 have hs740 := (hs724).mono hK732
 refine Ow_cons rfl (OpW_call rfl Try.call67 rfl rfl (c_M_35z b722 (Draw_Codes.mk x720.list x726 x727) v723 x725 v729 v730 12 x736 x737 x738 hx739 _ _ hs740 hs733 hs734) ?_)
 rintro _ K743 _ hK744 ⟨v741, rs742, rfl, rfl, hs745⟩
 refine Ow_q rfl rfl rfl (Qt_assign rfl)<|Ow_nil<|Cw_seq<|Cw_region<|Ow_q rfl rfl rfl (Qt_loadA (m := 3) (cs := (Config.cells x725 v729 v730)) rfl rfl rfl rfl ⟨rfl, Rdc.blk Mb2 rfl⟩)<|?_
 obtain ⟨x746, hx747, H⟩ := bnd H
 have hs748 := (hs733).mono hK744
 have hs749 := (hs734).mono hK744
 refine Ow_cons rfl (OpW_call rfl Try.call68 rfl rfl (c_M_108z x725 v729 v730 x746 hx747 _ _ hs748 hs749) ?_)
 rintro _ K752 _ hK753 ⟨v750, v751, rfl, rfl, hs754, hs755⟩
 refine Ow_cons rfl (OpW_alloc (cs := (Desk.cells (Desk.mk [] [] 0) nilS nilS)) rfl rfl rfl rfl (fun b756 => ?_))
 refine Ow_cons rfl (OpW_store (vs := (Desk.cells x746 v750 v751)) (all' := (Desk.cells x746 v750 v751)) rfl rfl rfl rfl rfl .here rfl rfl rfl ?_)
 refine Ow_nil ?_
 refine Cw_join (fun env' K' G' => ∃ (v785 : SV) (l786 : List Int) (rs788 : List (List Value)) (v789 : SV) (l790 : List Int) (rs792 : List (List Value)), [(2, (.pointer (some ((⟨b719, 0, none⟩ : Addr).add 0)))), (5, (.pointer (some ((⟨b722, 0, none⟩ : Addr).add 0)))), (6, (.pointer (some ((⟨b735, 0, none⟩ : Addr).add 0)))), (7, (sv v741)), (8, (.pointer (some ((⟨b756, 0, none⟩ : Addr).add 0)))), (9, (sv v785)), (10, (sv v789))] = env' ∧ K752 = K' ∧ (.blk b756 102 (Desk.cells x746 v750 v751)) :: (.blk b735 34 (Config.cells x725 v729 v730)) :: (.blk b722 85 (Draw_Codes.cells (Draw_Codes.mk x720.list x737 x738) v723)) :: (.blk b719 34 (Config.cells (Config.mk [] [] 0) nilS nilS)) :: (.row (sv v785) 3 1 rs788.flatten) :: (.row (sv v789) 3 1 rs792.flatten) :: (.tok 83 3 [(sv v750)]) :: (.row (sv v741) 99 1 rs742.flatten) :: (.tok 3 1 [(sv v729)]) :: (.tok 23 1 [(sv v730)]) :: G = G' ∧ M_167z x736 x746 x725 x720 x737 x738 l786 l790 = some (y0, y1, y2) ∧ RowR Ty.i64 K' rs788 l786 ∧ RowR Ty.i64 K' rs792 l790) ?_ ?_
 ·skip
  obtain ⟨x793, hx794, H⟩ := bnd H
  obtain ⟨x799, hx800, H⟩ := bnd H
  refine Cw_region_any [.blk b756 102 (Desk.cells x746 v750 v751), .tok 83 3 [(sv v750)], .blk b722 85 (Draw_Codes.cells (Draw_Codes.mk x720.list x737 x738) v723), .row (sv v741) 99 1 rs742.flatten, .blk b735 34 (Config.cells x725 v729 v730), .tok 3 1 [(sv v729)], .tok 23 1 [(sv v730)], .blk b719 34 (Config.cells (Config.mk [] [] 0) nilS nilS)] rfl (Inc.cons Mb0 (Inc.cons Mb1 (Inc.cons Mb2 (Inc.cons Mb3 (Inc.cons Mb4 (Inc.cons Mb5 (Inc.cons Mb6 (Inc.cons Mb7 Inc.nil))))))))<|Awq 0 rfl (by kernel_rfl) rfl rfl rfl (Qt_fieldAddr (m := 2) rfl rfl rfl rfl rfl)<|Awq 1 rfl (by kernel_rfl) rfl rfl rfl (Qt_load1 (v := (.int .i64 x725.threads)) rfl rfl rfl (Rdc.blk Mb4 rfl))<|Awq 3 rfl (by kernel_rfl) rfl rfl rfl (Qt_fieldAddr (m := 2) rfl rfl rfl rfl rfl)<|Awq 4 rfl (by kernel_rfl) rfl rfl rfl (Qt_load1 (v := (.int .i64 x725.threads)) rfl rfl rfl (Rdc.blk Mb4 rfl))<|?_
  refine Aw_two 2 5 (by kernel_rfl) ?_ ?_
  ·skip
   refine id (Ax_mk rfl rfl ?_)
   refine O_make (T := Ty.i64) (r := [(.int .i64 0)]) rfl rfl rfl hx794 rfl rfl rfl rfl rfl rfl rfl rfl rfl rfl (fun v805 rs806 hR807 hz808 => ⟨(Inc.cons Mb1 (Inc.cons Mb2 (Inc.cons Mb3 (Inc.cons Mb4 (Inc.cons Mb5 (Inc.cons Mb6 (Inc.cons Mb7 (Inc.cons Mb8 Inc.nil)))))))), ?_⟩)
   refine Awq 6 rfl (by kernel_rfl) rfl rfl rfl (Qt_assign rfl) ?_
   refine Aw_one 5 (by kernel_rfl) (Ax_mk rfl rfl ?_)
   refine O_make (T := Ty.i64) (r := [(.int .i64 0)]) rfl rfl rfl hx800 rfl rfl rfl rfl rfl rfl rfl rfl rfl rfl (fun v809 rs810 hR811 hz812 => ⟨(Inc.cons Mb2 (Inc.cons Mb3 (Inc.cons Mb4 (Inc.cons Mb5 (Inc.cons Mb6 (Inc.cons Mb7 (Inc.cons Mb8 (Inc.cons Mb9 Inc.nil)))))))), ?_⟩)
   refine Awq 7 rfl (by kernel_rfl) rfl rfl rfl (Qt_assign rfl)<|Aw_done (by kernel_rfl)<|Pu8<|Pu8<|Pu7<|Pu6<|Pu4<|Pu5<|Pu9<|Pu8<|?_
   refine Pu9<|Pu9<|Shift.done<|?_
   exact ⟨_, by exact ⟨rfl, rfl, rfl, rfl, rfl, rfl, rfl, trivial⟩, v805, x793, rs806, v809, x799, rs810, rfl, rfl, rfl, H, hR807, hR811⟩
  ·skip
   refine id (Ax_mk rfl rfl ?_)
   refine O_make (T := Ty.i64) (r := [(.int .i64 0)]) rfl rfl rfl hx800 rfl rfl rfl rfl rfl rfl rfl rfl rfl rfl (fun v813 rs814 hR815 hz816 => ⟨(Inc.cons Mb1 (Inc.cons Mb2 (Inc.cons Mb3 (Inc.cons Mb4 (Inc.cons Mb5 (Inc.cons Mb6 (Inc.cons Mb7 (Inc.cons Mb8 Inc.nil)))))))), ?_⟩)
   refine Aw_one 2 (by kernel_rfl) (Ax_mk rfl rfl ?_)
   refine O_make (T := Ty.i64) (r := [(.int .i64 0)]) rfl rfl rfl hx794 rfl rfl rfl rfl rfl rfl rfl rfl rfl rfl (fun v817 rs818 hR819 hz820 => ⟨(Inc.cons Mb2 (Inc.cons Mb3 (Inc.cons Mb4 (Inc.cons Mb5 (Inc.cons Mb6 (Inc.cons Mb7 (Inc.cons Mb8 (Inc.cons Mb9 Inc.nil)))))))), ?_⟩)
   refine Awq 6 rfl (by kernel_rfl) rfl rfl rfl (Qt_assign rfl)<|Awq 7 rfl (by kernel_rfl) rfl rfl rfl (Qt_assign rfl)<|Aw_done (by kernel_rfl)<|Pu8<|Pu8<|Pu7<|Pu6<|Pu5<|Pu5<|Pu9<|?_
   refine Pu8<|Pu9<|Pu9<|Shift.done<|?_
   exact ⟨_, by exact ⟨rfl, rfl, rfl, rfl, rfl, rfl, rfl, trivial⟩, v817, x793, rs818, v813, x799, rs814, rfl, rfl, rfl, H, hR819, hR815⟩
 rintro _ _ _ - ⟨v785, l786, rs788, v789, l790, rs792, rfl, rfl, rfl, H, hR787, hR791⟩
 unfold M_167z at H
 refine Cw_seq<|Cw_region<|Ow_q rfl rfl rfl (Qt_fieldAddr (m := 2) rfl rfl rfl rfl rfl)<|Ow_q rfl rfl rfl (Qt_load1 (v := (.int .i64 x725.threads)) rfl rfl rfl (Rdc.blk Mb1 rfl))<|?_
 obtain ⟨x821, hx822, H⟩ := bnd H
 refine Ow_cons rfl (O_make (T := TyResult) (r := (Result.cells (Result.mk 0 0 0 false 0))) rfl rfl rfl hx822 rfl rfl rfl rfl rfl rfl rfl rfl rfl rfl (fun v823 rs824 hR825 hz826 => ?_))
 refine Ow_q rfl rfl rfl (Qt_assign rfl)<|Ow_nil<|Cw_seq<|Cw_region<|Ow_q rfl rfl rfl (Qt_assign rfl)<|Ow_nil<|?_
 refine Cw_join (fun env' K' G' => ∃ (v1455 : SV) (l1456 : List Event), [(2, (.pointer (some ((⟨b719, 0, none⟩ : Addr).add 0)))), (6, (.pointer (some ((⟨b735, 0, none⟩ : Addr).add 0)))), (7, (sv v741)), (12, (sv v1455))] = env' ∧ (.blk b735 34 (Config.cells x725 v729 v730)) :: (.blk b719 34 (Config.cells (Config.mk [] [] 0) nilS nilS)) :: (.tok 65 8 [(sv v1455)]) :: (.row (sv v741) 99 1 rs742.flatten) :: (.tok 3 1 [(sv v729)]) :: (.tok 23 1 [(sv v730)]) :: G = G' ∧ M_164z x736 x725 l1456 = some (y0, y1, y2) ∧ Slr TyEvent K' (sv v1455) l1456) ?_ ?_
 ·skip
  refine Cw_seq<|Cw_region<|Ow_q rfl rfl rfl (Qt_assign rfl)<|Ow_nil<|Cw_block<|?_
  refine Cw_loopM (fun n2086 env' K' G' => ∃ (l2064 : List Int) (rs2066 : List (List Value)) (l2067 : List Int) (rs2069 : List (List Value)) (l2070 : List Result) (rs2072 : List (List Value)) (v2073 : SV) (l2074 : List Event) (i2076 : Int) (v2077 : SV) (l2078 : List Chan) (v2080 : SV) (l2081 : List Waiter) (i2083 : Int) (i2084 : Int) (i2085 : Int), [(2, (.pointer (some ((⟨b719, 0, none⟩ : Addr).add 0)))), (5, (.pointer (some ((⟨b722, 0, none⟩ : Addr).add 0)))), (6, (.pointer (some ((⟨b735, 0, none⟩ : Addr).add 0)))), (7, (sv v741)), (8, (.pointer (some ((⟨b756, 0, none⟩ : Addr).add 0)))), (9, (sv v785)), (10, (sv v789)), (11, (sv v823)), (12, (sv v2073)), (13, (.int .i64 i2076))] = env' ∧ (.blk b756 102 (Desk.cells (Desk.mk l2078 l2081 i2083) v2077 v2080)) :: (.blk b735 34 (Config.cells x725 v729 v730)) :: (.blk b722 85 (Draw_Codes.cells (Draw_Codes.mk x720.list i2084 i2085) v723)) :: (.blk b719 34 (Config.cells (Config.mk [] [] 0) nilS nilS)) :: (.row (sv v785) 3 1 rs2066.flatten) :: (.row (sv v789) 3 1 rs2069.flatten) :: (.row (sv v823) 25 5 rs2072.flatten) :: (.tok 65 8 [(sv v2073)]) :: (.row (sv v741) 99 1 rs742.flatten) :: (.tok 3 1 [(sv v729)]) :: (.tok 23 1 [(sv v730)]) :: G = G' ∧ lp10 (M_166z x736 x725 x720) n2086 l2064 l2067 l2070 l2074 i2076 l2078 l2081 i2083 i2084 i2085 = some (y0, y1, y2) ∧ RowR Ty.i64 K' rs2066 l2064 ∧ RowR Ty.i64 K' rs2069 l2067 ∧ RowR TyResult K' rs2072 l2070 ∧ Slr TyEvent K' (sv v2073) l2074 ∧ Slr TyChan K' (sv v2077) l2078 ∧ Slr TyWaiter K' (sv v2080) l2081) BIG ?_ ?_
  ·skip
   refine Shift.nilTok1 65 8<|Pu11<|Pu11<|Pu11<|Pu3<|Pu4<|Pu10<|Pu10<|Pu10<|Pu10<|?_
   refine Pu10<|Pu10<|Re11<|Shift.done<|?_
   exact ⟨_, by exact ⟨rfl, rfl, rfl, rfl, rfl, rfl, rfl, rfl, rfl, rfl, trivial⟩, l786, rs788, l790, rs792, x821, rs824, nilS, ([] : List Event), 0, v750, x746.chans, v751, x746.waiting, x746.tick, x737, x738, rfl, rfl, H, hR787, hR791, hR825, (Slr.nil TyEvent _), hs754, hs755⟩
  rintro n2086 _ K2087 _ hK2088 ⟨l2064, rs2066, l2067, rs2069, l2070, rs2072, v2073, l2074, i2076, v2077, l2078, v2080, l2081, i2083, i2084, i2085, rfl, rfl, H, hR2065, hR2068, hR2071, hs2075, hs2079, hs2082⟩
  obtain ⟨m2089, k2090, rfl, hkk2091, H⟩ := lps10 H
  unfold M_166z at H
  refine Cw_seq ?_
  refine Cw_join (fun env' K' G' => ∃ (t2104 : Bool) (i2105 : Int) (i2106 : Int), [(2, (.pointer (some ((⟨b719, 0, none⟩ : Addr).add 0)))), (5, (.pointer (some ((⟨b722, 0, none⟩ : Addr).add 0)))), (6, (.pointer (some ((⟨b735, 0, none⟩ : Addr).add 0)))), (7, (sv v741)), (8, (.pointer (some ((⟨b756, 0, none⟩ : Addr).add 0)))), (9, (sv v785)), (10, (sv v789)), (11, (sv v823)), (12, (sv v2073)), (13, (.int .i64 i2076)), (41, (.bool t2104))] = env' ∧ K2087 = K' ∧ (.blk b756 102 (Desk.cells (Desk.mk l2078 l2081 i2083) v2077 v2080)) :: (.blk b735 34 (Config.cells x725 v729 v730)) :: (.blk b722 85 (Draw_Codes.cells (Draw_Codes.mk x720.list i2105 i2106) v723)) :: (.blk b719 34 (Config.cells (Config.mk [] [] 0) nilS nilS)) :: (.row (sv v785) 3 1 rs2066.flatten) :: (.row (sv v789) 3 1 rs2069.flatten) :: (.row (sv v823) 25 5 rs2072.flatten) :: (.tok 65 8 [(sv v2073)]) :: (.row (sv v741) 99 1 rs742.flatten) :: (.tok 3 1 [(sv v729)]) :: (.tok 23 1 [(sv v730)]) :: G = G' ∧ M_72z x736 l2064 l2067 l2070 l2074 i2076 l2078 l2081 i2083 x725 x720 k2090 t2104 i2105 i2106 = some (y0, y1, y2)) ?_ ?_
  ·skip
   refine Cw_region<|Ow_q rfl rfl rfl (Qt_move rfl)<|Ow_q rfl rfl rfl (Qt_cmp rfl rfl rfl)<|Ow_q rfl rfl rfl (Qt_move rfl)<|?_
   refine Ow_caseG rfl rfl rfl ?_ ?_
   ·intro h2107
    have h2107 := dcd_t (h2107)
    have H := ift h2107 H
    refine Ow_qw rfl rfl rfl rfl rfl rfl (Qt_move rfl) ?_
    obtain ⟨x2108, hx2109, H⟩ := bnd H
    refine Ow.shift (Pu2 (Shift.done ?_))
    have hs2110 := (((hs740).mono hK744).mono hK753).mono hK2088
    refine Ow_want rfl rfl rfl rfl (OpW_call rfl Try.call66 rfl rfl (c_M_59z b722 (Draw_Codes.mk x720.list i2084 i2085) v723 x2108 hx2109 _ _ hs2110) ?_)
    rintro _ _ _ - ⟨rfl, rfl, rfl⟩
    refine Ow_q rfl rfl rfl (Qt_pick_t rfl rfl)<|Ow_nil<|Pu10<|Pu10<|Pu10<|Pu10<|Pu10<|Pu10<|Pu10<|Pu10<|?_
    refine Pu8<|Pu10<|Pu10<|Shift.done<|?_
    exact ⟨_, by exact ⟨rfl, rfl, rfl, rfl, rfl, rfl, rfl, rfl, rfl, rfl, rfl, trivial⟩, x2108, ((Draw_Codes.mk x720.list i2084 i2085).at_), ((Draw_Codes.mk x720.list i2084 i2085).value), rfl, rfl, rfl, H⟩
   ·intro h2107
    have h2107 := dcd_f (h2107)
    have H := iff_ h2107 H
    refine Ow_pass rfl rfl rfl rfl rfl rfl rfl<|Ow_pass rfl rfl rfl rfl rfl rfl rfl<|Ow_q rfl rfl rfl (Qt_pick_f rfl rfl)<|Ow_nil<|Pu10<|Pu10<|Pu10<|Pu10<|Pu10<|Pu10<|?_
    refine Pu10<|Pu10<|Pu10<|Pu10<|Pu10<|Shift.done<|?_
    exact ⟨_, by exact ⟨rfl, rfl, rfl, rfl, rfl, rfl, rfl, rfl, rfl, rfl, rfl, trivial⟩, false, i2084, i2085, rfl, rfl, rfl, H⟩
  rintro _ _ _ - ⟨t2104, i2105, i2106, rfl, rfl, rfl, H⟩
  unfold M_72z at H
  refine Cw_cond rfl ?_ ?_
  ·intro h2111
   have H := ift h2111 H
   refine Cw_skip ?_
   refine Cw_join (fun env' K' G' => ∃ (l2366 : List Int) (rs2368 : List (List Value)) (l2369 : List Int) (rs2371 : List (List Value)) (l2372 : List Result) (rs2374 : List (List Value)) (v2375 : SV) (l2376 : List Event) (v2378 : SV) (l2379 : List Chan) (v2381 : SV) (l2382 : List Waiter) (i2384 : Int) (i2385 : Int), [(2, (.pointer (some ((⟨b719, 0, none⟩ : Addr).add 0)))), (5, (.pointer (some ((⟨b722, 0, none⟩ : Addr).add 0)))), (6, (.pointer (some ((⟨b735, 0, none⟩ : Addr).add 0)))), (7, (sv v741)), (8, (.pointer (some ((⟨b756, 0, none⟩ : Addr).add 0)))), (9, (sv v785)), (10, (sv v789)), (11, (sv v823)), (12, (sv v2375)), (13, (.int .i64 i2076))] = env' ∧ (.blk b756 102 (Desk.cells (Desk.mk l2379 l2382 i2384) v2378 v2381)) :: (.blk b735 34 (Config.cells x725 v729 v730)) :: (.blk b722 85 (Draw_Codes.cells (Draw_Codes.mk x720.list i2385 ((Draw_Codes.mk x720.list i2105 i2106).value)) v723)) :: (.blk b719 34 (Config.cells (Config.mk [] [] 0) nilS nilS)) :: (.row (sv v785) 3 1 rs2368.flatten) :: (.row (sv v789) 3 1 rs2371.flatten) :: (.row (sv v823) 25 5 rs2374.flatten) :: (.tok 65 8 [(sv v2375)]) :: (.row (sv v741) 99 1 rs742.flatten) :: (.tok 3 1 [(sv v729)]) :: (.tok 23 1 [(sv v730)]) :: G = G' ∧ M_22z x736 i2076 x725 x720 i2105 i2106 k2090 l2366 l2369 l2372 l2376 l2379 l2382 i2384 i2385 = some (y0, y1, y2) ∧ RowR Ty.i64 K' rs2368 l2366 ∧ RowR Ty.i64 K' rs2371 l2369 ∧ RowR TyResult K' rs2374 l2372 ∧ Slr TyEvent K' (sv v2375) l2376 ∧ Slr TyChan K' (sv v2378) l2379 ∧ Slr TyWaiter K' (sv v2381) l2382) ?_ ?_
   ·skip
    refine Cw_block<|Cw_seq<|Cw_region<|Ow_q rfl rfl rfl (Qt_move rfl)<|Ow_q rfl rfl rfl (Qt_fieldAddr (m := 2) rfl rfl rfl rfl rfl)<|Ow_q rfl rfl rfl (Qt_load1 (v := (.int .i64 x725.threads)) rfl rfl rfl (Rdc.blk Mb1 rfl))<|?_
    obtain ⟨x2386, x2387, hx2388, H⟩ := bnd2 H
    refine Ow.shift (Pu2 (Shift.done ?_))
    have hs2389 := (((hs740).mono hK744).mono hK753).mono hK2088
    refine Ow_cons rfl (OpW_call rfl Try.call27 rfl rfl (c_M_0z b722 (Draw_Codes.mk x720.list i2105 i2106) v723 x725.threads x2386 x2387 hx2388 _ _ hs2389) ?_)
    rintro _ _ _ - ⟨rfl, rfl, rfl⟩
    refine Ow_q rfl rfl rfl (Qt_assign rfl)<|Ow_nil<|Cw_block<|?_
    refine Cw_join (fun env' K' G' => ∃ (t2424 : Bool), [(2, (.pointer (some ((⟨b719, 0, none⟩ : Addr).add 0)))), (5, (.pointer (some ((⟨b722, 0, none⟩ : Addr).add 0)))), (6, (.pointer (some ((⟨b735, 0, none⟩ : Addr).add 0)))), (7, (sv v741)), (8, (.pointer (some ((⟨b756, 0, none⟩ : Addr).add 0)))), (9, (sv v785)), (10, (sv v789)), (11, (sv v823)), (12, (sv v2073)), (13, (.int .i64 i2076)), (14, (.int .i64 x2386)), (48, (.bool t2424))] = env' ∧ K2087 = K' ∧ (.blk b756 102 (Desk.cells (Desk.mk l2078 l2081 i2083) v2077 v2080)) :: (.blk b735 34 (Config.cells x725 v729 v730)) :: (.blk b722 85 (Draw_Codes.cells (Draw_Codes.mk x720.list x2387 ((Draw_Codes.mk x720.list i2105 i2106).value)) v723)) :: (.blk b719 34 (Config.cells (Config.mk [] [] 0) nilS nilS)) :: (.row (sv v785) 3 1 rs2066.flatten) :: (.row (sv v789) 3 1 rs2069.flatten) :: (.row (sv v823) 25 5 rs2072.flatten) :: (.tok 65 8 [(sv v2073)]) :: (.row (sv v741) 99 1 rs742.flatten) :: (.tok 3 1 [(sv v729)]) :: (.tok 23 1 [(sv v730)]) :: G = G' ∧ M_23z x736 l2064 l2067 l2070 l2074 i2076 x2386 l2078 l2081 i2083 x725 x720 x2387 i2105 i2106 k2090 t2424 = some (y0, y1, y2)) ?_ ?_
    ·skip
     obtain ⟨x2425, hx2426, H⟩ := bnd H
     rcases bool_ct (dcd (x2425 = 0)) with hb_ | hb_ <;> revert hb_
     ·intro h2430
      have h2430 := dcd_t (h2430)
      have H := ift h2430 H
      obtain ⟨x2431, hx2432, H⟩ := bnd H
      obtain ⟨x2436, hx2437, H⟩ := bnd H
      refine Cw_region_any [.blk b722 85 (Draw_Codes.cells (Draw_Codes.mk x720.list x2387 ((Draw_Codes.mk x720.list i2105 i2106).value)) v723), .blk b756 102 (Desk.cells (Desk.mk l2078 l2081 i2083) v2077 v2080), .blk b735 34 (Config.cells x725 v729 v730), .blk b719 34 (Config.cells (Config.mk [] [] 0) nilS nilS), .row (sv v785) 3 1 rs2066.flatten, .row (sv v789) 3 1 rs2069.flatten, .row (sv v823) 25 5 rs2072.flatten, .tok 65 8 [(sv v2073)], .row (sv v741) 99 1 rs742.flatten, .tok 3 1 [(sv v729)], .tok 23 1 [(sv v730)]] rfl (Inc.cons Mb0 (Inc.cons Mb1 (Inc.cons Mb2 (Inc.cons Mb3 (Inc.cons Mb4 (Inc.cons Mb5 (Inc.cons Mb6 (Inc.cons Mb7 (Inc.cons Mb8 (Inc.cons Mb9 (Inc.cons Mb10 Inc.nil)))))))))))<|Awq 0 rfl (by kernel_rfl) rfl rfl rfl (Qt_move rfl)<|Awq 1 rfl (by kernel_rfl) rfl rfl rfl (Qt_move rfl)<|?_
      obtain ⟨r2444, hq2445, hr2446⟩ := RowR.at hR2068 hx2426
      obtain rfl := hr2446
      refine Awq 2 rfl (by kernel_rfl) rfl rfl rfl (Q_ixR (T := Ty.i64) Mb5 hR2068 hq2445 (getI_ix hx2426).1 rfl rfl rfl rfl rfl)<|Awq 3 rfl (by kernel_rfl) rfl rfl rfl (Qt_load1 (v := (.int .i64 x2425)) rfl rfl rfl (Rd_row (T := Ty.i64) Mb5 hR2068 hq2445 rfl rfl))<|Awq 4 rfl (by kernel_rfl) rfl rfl rfl (Qt_cmp rfl rfl rfl)<|Awq 5 rfl (by kernel_rfl) rfl rfl rfl (Qt_move rfl)<|Aw.known (d := 54) rfl (dcd_pos h2430)<|Awqw 6 rfl (by kernel_rfl) rfl rfl rfl rfl rfl rfl (Qt_move rfl)<|Awqw 7 rfl (by kernel_rfl) rfl rfl rfl rfl rfl rfl (Qt_move rfl)<|?_
      obtain ⟨r2447, hq2448, hr2449⟩ := RowR.at hR2065 hx2432
      obtain rfl := hr2449
      refine Awqw 8 rfl (by kernel_rfl) rfl rfl rfl rfl rfl rfl (Q_ixR (T := Ty.i64) Mb4 hR2065 hq2448 (getI_ix hx2432).1 rfl rfl rfl rfl rfl)<|Awqw 9 rfl (by kernel_rfl) rfl rfl rfl rfl rfl rfl (Qt_load1 (v := (.int .i64 x2431)) rfl rfl rfl (Rd_row (T := Ty.i64) Mb4 hR2065 hq2448 rfl rfl))<|Awqw 10 rfl (by kernel_rfl) rfl rfl rfl rfl rfl rfl (Qt_move rfl)<|Awqw 11 rfl (by kernel_rfl) rfl rfl rfl rfl rfl rfl (Qt_move rfl)<|?_
      have hs2450 := ((hs745).mono hK753).mono hK2088
      obtain ⟨r2451, hq2452, hr2453⟩ := RowR.at hs2450 hx2437
      obtain ⟨v2454, rfl, hs2455⟩ := hr2453
      refine Awqw 12 rfl (by kernel_rfl) rfl rfl rfl rfl rfl rfl (Q_ixR (T := (Ty.sl TyOp)) Mb8 hs2450 hq2452 (getI_ix hx2437).1 rfl rfl rfl rfl rfl)<|Awqw 13 rfl (by kernel_rfl) rfl rfl rfl rfl rfl rfl (Qt_load1 (v := (sv v2454)) rfl rfl rfl (Rd_row (T := (Ty.sl TyOp)) Mb8 hs2450 hq2452 rfl rfl))<|Awqw 14 rfl (by kernel_rfl) rfl rfl rfl rfl rfl rfl (Q_len (T := TyOp) hs2455 rfl rfl)<|Awqw 15 rfl (by kernel_rfl) rfl rfl rfl rfl rfl rfl (Qt_cmp rfl rfl rfl)<|Awq 16 rfl (by kernel_rfl) rfl rfl rfl (Qt_pick_t rfl rfl)<|Awq 17 rfl (by kernel_rfl) rfl rfl rfl (Qt_assign rfl)<|Aw_done (by kernel_rfl)<|Pu10<|Pu10<|Pu10<|?_
      refine Pu10<|Pu10<|Pu10<|Pu10<|Pu10<|Pu8<|Pu10<|Pu10<|Shift.done<|?_
      exact ⟨_, by exact ⟨rfl, rfl, rfl, rfl, rfl, rfl, rfl, rfl, rfl, rfl, rfl, rfl, trivial⟩, (dcd (x2431 < (x2436.length : Int))), rfl, rfl, rfl, H⟩
     ·intro h2430
      have h2430 := dcd_f (h2430)
      have H := iff_ h2430 H
      refine Cw_region_any [.blk b722 85 (Draw_Codes.cells (Draw_Codes.mk x720.list x2387 ((Draw_Codes.mk x720.list i2105 i2106).value)) v723), .blk b756 102 (Desk.cells (Desk.mk l2078 l2081 i2083) v2077 v2080), .blk b735 34 (Config.cells x725 v729 v730), .blk b719 34 (Config.cells (Config.mk [] [] 0) nilS nilS), .row (sv v785) 3 1 rs2066.flatten, .row (sv v789) 3 1 rs2069.flatten, .row (sv v823) 25 5 rs2072.flatten, .tok 65 8 [(sv v2073)], .row (sv v741) 99 1 rs742.flatten, .tok 3 1 [(sv v729)], .tok 23 1 [(sv v730)]] rfl (Inc.cons Mb0 (Inc.cons Mb1 (Inc.cons Mb2 (Inc.cons Mb3 (Inc.cons Mb4 (Inc.cons Mb5 (Inc.cons Mb6 (Inc.cons Mb7 (Inc.cons Mb8 (Inc.cons Mb9 (Inc.cons Mb10 Inc.nil)))))))))))<|Awq 0 rfl (by kernel_rfl) rfl rfl rfl (Qt_move rfl)<|Awq 1 rfl (by kernel_rfl) rfl rfl rfl (Qt_move rfl)<|?_
      obtain ⟨r2456, hq2457, hr2458⟩ := RowR.at hR2068 hx2426
      obtain rfl := hr2458
      refine Awq 2 rfl (by kernel_rfl) rfl rfl rfl (Q_ixR (T := Ty.i64) Mb5 hR2068 hq2457 (getI_ix hx2426).1 rfl rfl rfl rfl rfl)<|Awq 3 rfl (by kernel_rfl) rfl rfl rfl (Qt_load1 (v := (.int .i64 x2425)) rfl rfl rfl (Rd_row (T := Ty.i64) Mb5 hR2068 hq2457 rfl rfl))<|Awq 4 rfl (by kernel_rfl) rfl rfl rfl (Qt_cmp rfl rfl rfl)<|Awq 5 rfl (by kernel_rfl) rfl rfl rfl (Qt_move rfl)<|Aw.known (d := 54) rfl (dcd_neg h2430)<|Awps 6 rfl (by kernel_rfl) rfl rfl rfl rfl rfl rfl rfl<|Awps 7 rfl (by kernel_rfl) rfl rfl rfl rfl rfl rfl rfl<|Awps 8 rfl (by kernel_rfl) rfl rfl rfl rfl rfl rfl rfl<|Awps 9 rfl (by kernel_rfl) rfl rfl rfl rfl rfl rfl rfl<|Awps 10 rfl (by kernel_rfl) rfl rfl rfl rfl rfl rfl rfl<|?_
      refine Awps 11 rfl (by kernel_rfl) rfl rfl rfl rfl rfl rfl rfl<|Awps 12 rfl (by kernel_rfl) rfl rfl rfl rfl rfl rfl rfl<|Awps 13 rfl (by kernel_rfl) rfl rfl rfl rfl rfl rfl rfl<|Awps 14 rfl (by kernel_rfl) rfl rfl rfl rfl rfl rfl rfl<|Awps 15 rfl (by kernel_rfl) rfl rfl rfl rfl rfl rfl rfl<|Awq 16 rfl (by kernel_rfl) rfl rfl rfl (Qt_pick_f rfl rfl)<|Awq 17 rfl (by kernel_rfl) rfl rfl rfl (Qt_assign rfl)<|Aw_done (by kernel_rfl)<|Pu10<|Pu10<|?_
      refine Pu10<|Pu10<|Pu10<|Pu10<|Pu10<|Pu10<|Pu8<|Pu10<|Pu10<|Shift.done<|?_
      exact ⟨_, by exact ⟨rfl, rfl, rfl, rfl, rfl, rfl, rfl, rfl, rfl, rfl, rfl, rfl, trivial⟩, false, rfl, rfl, rfl, H⟩
    rintro _ _ _ - ⟨t2424, rfl, rfl, rfl, H⟩
    unfold M_23z at H
    refine Cw_cond rfl ?_ ?_
    ·intro h2459
     have H := ift h2459 H
     refine Cw_seq<|Cw_region<|Ow_q rfl rfl rfl (Qt_move rfl)<|Ow_q rfl rfl rfl (Qt_move rfl)<|Ow_q rfl rfl rfl (Qt_move rfl)<|Ow_q rfl rfl rfl (Qt_move rfl)<|?_
     obtain ⟨x2460, hx2461, H⟩ := bnd H
     obtain ⟨r2462, hq2463, hr2464⟩ := RowR.at hR2065 hx2461
     obtain rfl := hr2464
     refine Ow_q rfl rfl rfl (Q_ixR (T := Ty.i64) Mb4 hR2065 hq2463 (getI_ix hx2461).1 rfl rfl rfl rfl rfl)<|Ow_q rfl rfl rfl (Qt_load1 (v := (.int .i64 x2460)) rfl rfl rfl (Rd_row (T := Ty.i64) Mb4 hR2065 hq2463 rfl rfl))<|Ow_q rfl rfl rfl (Qt_build (cs := (Event.cells (Event.mk x2386 x2460 false (Result.mk 0 0 0 false 0)))) rfl rfl rfl rfl rfl rfl)<|?_
     have hR2466 : RowR TyEvent K2087 [(Event.cells (Event.mk x2386 x2460 false (Result.mk 0 0 0 false 0)))] [(Event.mk x2386 x2460 false (Result.mk 0 0 0 false 0))] := RowR.cons rfl (RowR.nil)
     refine Ow_cons rfl (O_lit (T := TyEvent) (rows := [(Event.cells (Event.mk x2386 x2460 false (Result.mk 0 0 0 false 0)))]) (l := [(Event.mk x2386 x2460 false (Result.mk 0 0 0 false 0))]) rfl rfl rfl hR2466 rfl rfl rfl rfl rfl rfl rfl rfl (fun v2465 => ?_))
     obtain ⟨x2467, hx2468, H⟩ := bnd H
     refine Ow_cons rfl (O_appTok (T := TyEvent) (bytes := 64) (q := 0) rfl rfl rfl hs2075 Mb8 rfl (SrcT.row Mb0 hR2466 rfl) hx2468 rfl rfl rfl rfl rfl rfl rfl rfl (fun v2469 K2470 hK2471 hs2472 => ⟨_, (.there (.there (.there (.there (.there (.there (.there (.there .here)))))))), ?_⟩))
     refine Ow.shift (Re0 (Shift.done ?_))
     refine Ow_q rfl rfl rfl (Qt_assign rfl)<|Ow_nil<|Cw_region<|Ow_q rfl rfl rfl (Qt_move rfl)<|Ow_q rfl rfl rfl (Qt_move rfl)<|?_
     obtain ⟨x2473, hx2474, H⟩ := bnd H
     have hs2475 := (hR2068).mono hK2471
     obtain ⟨r2476, hq2477, hr2478⟩ := RowR.at hs2475 hx2474
     obtain rfl := hr2478
     refine Ow_q rfl rfl rfl (Q_ixR (T := Ty.i64) Mb5 hs2475 hq2477 (getI_ix hx2474).1 rfl rfl rfl rfl rfl) ?_
     refine Ow_cons rfl (O_storeR (T := Ty.i64) (vs := [(.int .i64 1)]) (r' := [(.int .i64 1)]) (l' := (setI l2067 x2386 1)) rfl rfl rfl rfl rfl (.there (.there (.there (.there (.there .here))))) hs2475 hq2477 rfl rfl rfl (RowR.set x2386 hs2475 rfl) (fun hR2479 => ?_))
     have hE2480 := set_at hq2477 (v := [(.int .i64 1)])
     refine Ow_nil<|Pu10<|Pu10<|Pu10<|Pu10<|Pu10<|Pu10<|Pu10<|Pu10<|Pu10<|?_
     refine Pu10<|Pu10<|?_
     have hs2481 := (hR2065).mono hK2471
     have hs2482 := (hR2071).mono hK2471
     have hs2483 := (hs2079).mono hK2471
     have hs2484 := (hs2082).mono hK2471
     exact Shift.done ⟨_, by exact ⟨rfl, rfl, rfl, rfl, rfl, rfl, rfl, rfl, rfl, rfl, trivial⟩, l2064, rs2066, (setI l2067 x2386 1), (rs2069.set x2386.toNat [(.int .i64 1)]), l2070, rs2072, v2469, x2467, v2077, l2078, v2080, l2081, i2083, x2387, rfl, rfl, H, hs2481, hR2479, hs2482, hs2472, hs2483, hs2484⟩
    ·intro h2459
     have H := iff_ (btf h2459) H
     refine Cw_seq<|Cw_region<|Ow_q rfl rfl rfl (Qt_move rfl)<|Ow_q rfl rfl rfl (Qt_move rfl)<|?_
     obtain ⟨x2485, hx2486, H⟩ := bnd H
     obtain ⟨r2487, hq2488, hr2489⟩ := RowR.at hR2068 hx2486
     obtain rfl := hr2489
     refine Ow_q rfl rfl rfl (Q_ixR (T := Ty.i64) Mb5 hR2068 hq2488 (getI_ix hx2486).1 rfl rfl rfl rfl rfl)<|Ow_q rfl rfl rfl (Qt_load1 (v := (.int .i64 x2485)) rfl rfl rfl (Rd_row (T := Ty.i64) Mb5 hR2068 hq2488 rfl rfl))<|Ow_q rfl rfl rfl (Qt_cmp rfl rfl rfl)<|Ow_q rfl rfl rfl (Qt_assign rfl)<|Ow_nil<|?_
     refine Cw_cond rfl ?_ ?_
     ·intro h2490
      have h2490 := dcd_t (h2490)
      have H := ift h2490 H
      refine Cw_seq<|Cw_region<|Ow_q rfl rfl rfl (Qt_assign rfl)<|Ow_nil<|Cw_seq<|?_
      obtain ⟨x2549, hx2550, H⟩ := bnd H
      obtain ⟨x2557, hx2558, H⟩ := bnd H
      obtain ⟨x2562, hx2563, H⟩ := bnd H
      obtain ⟨x2571, x2572, x2573, hx2574, H⟩ := bnd3 H
      refine Cw_region_any [.blk b735 34 (Config.cells x725 v729 v730), .blk b722 85 (Draw_Codes.cells (Draw_Codes.mk x720.list x2387 ((Draw_Codes.mk x720.list i2105 i2106).value)) v723), .blk b719 34 (Config.cells (Config.mk [] [] 0) nilS nilS), .row (sv v785) 3 1 rs2066.flatten, .row (sv v789) 3 1 rs2069.flatten, .row (sv v823) 25 5 rs2072.flatten, .tok 65 8 [(sv v2073)], .row (sv v741) 99 1 rs742.flatten, .tok 3 1 [(sv v729)], .tok 23 1 [(sv v730)]] rfl (Inc.cons Mb1 (Inc.cons Mb2 (Inc.cons Mb3 (Inc.cons Mb4 (Inc.cons Mb5 (Inc.cons Mb6 (Inc.cons Mb7 (Inc.cons Mb8 (Inc.cons Mb9 (Inc.cons Mb10 Inc.nil))))))))))<|Awq 1 rfl (by kernel_rfl) rfl rfl rfl (Qt_move rfl)<|Awq 2 rfl (by kernel_rfl) rfl rfl rfl (Qt_move rfl)<|Awq 3 rfl (by kernel_rfl) rfl rfl rfl (Qt_move rfl)<|?_
      have hs2583 := ((hs745).mono hK753).mono hK2088
      obtain ⟨r2584, hq2585, hr2586⟩ := RowR.at hs2583 hx2550
      obtain ⟨v2587, rfl, hs2588⟩ := hr2586
      refine Awq 4 rfl (by kernel_rfl) rfl rfl rfl (Q_ixR (T := (Ty.sl TyOp)) Mb7 hs2583 hq2585 (getI_ix hx2550).1 rfl rfl rfl rfl rfl)<|Awq 5 rfl (by kernel_rfl) rfl rfl rfl (Qt_load1 (v := (sv v2587)) rfl rfl rfl (Rd_row (T := (Ty.sl TyOp)) Mb7 hs2583 hq2585 rfl rfl))<|Awq 6 rfl (by kernel_rfl) rfl rfl rfl (Qt_move rfl)<|Awq 7 rfl (by kernel_rfl) rfl rfl rfl (Qt_move rfl)<|?_
      obtain ⟨r2589, hq2590, hr2591⟩ := RowR.at hR2065 hx2558
      obtain rfl := hr2591
      refine Awq 8 rfl (by kernel_rfl) rfl rfl rfl (Q_ixR (T := Ty.i64) Mb3 hR2065 hq2590 (getI_ix hx2558).1 rfl rfl rfl rfl rfl)<|Awq 9 rfl (by kernel_rfl) rfl rfl rfl (Qt_load1 (v := (.int .i64 x2557)) rfl rfl rfl (Rd_row (T := Ty.i64) Mb3 hR2065 hq2590 rfl rfl))<|?_
      obtain ⟨r2592, hr2593, hk2594⟩ := Slr.at hs2588 hx2563
      obtain ⟨v2595, v2596, rfl, hs2597, hs2598⟩ := hr2593
      refine Awq 10 rfl (by kernel_rfl) rfl rfl rfl (Q_ix (T := TyOp) hs2588 hx2563 rfl rfl rfl rfl rfl)<|Awq 11 rfl (by kernel_rfl) rfl rfl rfl (Qt_loadA (m := 7) (cs := (Op.cells x2562 v2595 v2596)) rfl rfl rfl rfl ⟨rfl, Rdc.k hk2594 rfl⟩)<|?_
      refine Aw_one 0 (by kernel_rfl) (Ax_mk rfl rfl (OpW_of_Qt rfl rfl (Qt_loadA (m := 3) (cs := (Desk.cells (Desk.mk l2078 l2081 i2083) v2077 v2080)) rfl rfl rfl rfl ⟨rfl, Rdc.blk Mb0 rfl⟩) ⟨(Inc.cons Mb1 (Inc.cons Mb2 (Inc.cons Mb3 (Inc.cons Mb4 (Inc.cons Mb5 (Inc.cons Mb6 (Inc.cons Mb7 (Inc.cons Mb8 (Inc.cons Mb9 (Inc.cons Mb10 Inc.nil)))))))))), ?_⟩))
      refine Aw_one 12 (by kernel_rfl) (Ax_mk rfl rfl ?_)
      refine OpW_call rfl Try.call69 rfl rfl (c_M_128z (Desk.mk l2078 l2081 i2083) v2077 v2080 x2386 x2562 v2595 v2596 x2571 x2572 x2573 hx2574 _ _ hs2079 hs2082 hs2597 hs2598) ?_
      rintro _ K2602 _ hK2603 ⟨v2599, v2600, v2601, rfl, rfl, hs2604, hs2605, hs2606⟩
      refine ⟨(Inc.cons Mb2 (Inc.cons Mb3 (Inc.cons Mb4 (Inc.cons Mb5 (Inc.cons Mb6 (Inc.cons Mb7 (Inc.cons Mb8 (Inc.cons Mb9 (Inc.cons Mb10 (Inc.cons Mb11 Inc.nil)))))))))), ?_⟩
      refine Awq 13 rfl (by kernel_rfl) rfl rfl rfl (Qt_move rfl)<|Awq 14 rfl (by kernel_rfl) rfl rfl rfl (Qt_extract rfl rfl)<|Awq 15 rfl (by kernel_rfl) rfl rfl rfl (Qt_extract rfl rfl)<|Awq 16 rfl (by kernel_rfl) rfl rfl rfl (Qt_extract rfl rfl)<|?_
      refine Aw_one 17 (by kernel_rfl) (Ax_mk rfl rfl ?_)
      refine OpW_store (vs := (Desk.cells x2571 v2599 v2600)) (all' := (Desk.cells x2571 v2599 v2600)) rfl rfl rfl rfl rfl (.there .here) rfl rfl rfl ⟨(Inc.cons Mb2 (Inc.cons Mb3 (Inc.cons Mb4 (Inc.cons Mb5 (Inc.cons Mb6 (Inc.cons Mb7 (Inc.cons Mb8 (Inc.cons Mb9 (Inc.cons Mb10 (Inc.cons Mb11 Inc.nil)))))))))), ?_⟩
      refine Awq 18 rfl (by kernel_rfl) rfl rfl rfl (Qt_assign rfl)<|Aw_done (by kernel_rfl)<|Cw_seq<|Cw_region<|Ow_q rfl rfl rfl (Qt_move rfl)<|Ow_q rfl rfl rfl (Qt_move rfl)<|?_
      obtain ⟨x2607, hx2608, H⟩ := bnd H
      have hs2609 := (hR2068).mono hK2603
      obtain ⟨r2610, hq2611, hr2612⟩ := RowR.at hs2609 hx2608
      obtain rfl := hr2612
      refine Ow_q rfl rfl rfl (Q_ixR (T := Ty.i64) Mb6 hs2609 hq2611 (getI_ix hx2608).1 rfl rfl rfl rfl rfl) ?_
      refine Ow_cons rfl (O_storeR (T := Ty.i64) (vs := [(.int .i64 2)]) (r' := [(.int .i64 2)]) (l' := (setI l2067 x2386 2)) rfl rfl rfl rfl rfl (.there (.there (.there (.there (.there (.there .here)))))) hs2609 hq2611 rfl rfl rfl (RowR.set x2386 hs2609 rfl) (fun hR2613 => ?_))
      have hE2614 := set_at hq2611 (v := [(.int .i64 2)])
      refine Ow_nil<|Cw_seq<|Cw_region<|Ow_q rfl rfl rfl (Qt_move rfl)<|Ow_q rfl rfl rfl (Q_len (T := TyDone) hs2606 rfl rfl)<|Ow_q rfl rfl rfl (Qt_move rfl)<|Ow_nil<|Cw_block<|?_
      refine Cw_loopM (fun n2679 env' K' G' => ∃ (l2672 : List Int) (rs2674 : List (List Value)) (l2675 : List Result) (rs2677 : List (List Value)) (i2678 : Int), [(2, (.pointer (some ((⟨b719, 0, none⟩ : Addr).add 0)))), (5, (.pointer (some ((⟨b722, 0, none⟩ : Addr).add 0)))), (6, (.pointer (some ((⟨b735, 0, none⟩ : Addr).add 0)))), (7, (sv v741)), (8, (.pointer (some ((⟨b756, 0, none⟩ : Addr).add 0)))), (9, (sv v785)), (10, (sv v789)), (11, (sv v823)), (12, (sv v2073)), (13, (.int .i64 i2076)), (104, (sv v2601)), (105, (.int .i64 (x2572.length : Int))), (106, (.int .i64 i2678))] = env' ∧ K2602 = K' ∧ (.blk b756 102 (Desk.cells x2571 v2599 v2600)) :: (.blk b735 34 (Config.cells x725 v729 v730)) :: (.blk b722 85 (Draw_Codes.cells (Draw_Codes.mk x720.list x2387 ((Draw_Codes.mk x720.list i2105 i2106).value)) v723)) :: (.blk b719 34 (Config.cells (Config.mk [] [] 0) nilS nilS)) :: (.row (sv v789) 3 1 rs2674.flatten) :: (.row (sv v823) 25 5 rs2677.flatten) :: (.tok 108 6 [(sv v2601)]) :: (.row (sv v785) 3 1 rs2066.flatten) :: (.tok 65 8 [(sv v2073)]) :: (.row (sv v741) 99 1 rs742.flatten) :: (.tok 3 1 [(sv v729)]) :: (.tok 23 1 [(sv v730)]) :: G = G' ∧ lp3 (M_165z x736 l2064 l2074 i2076 x2572 x2571 x725 x720 x2387 i2105 i2106 k2090) n2679 l2672 l2675 i2678 = some (y0, y1, y2) ∧ RowR Ty.i64 K' rs2674 l2672 ∧ RowR TyResult K' rs2677 l2675) BIG ?_ ?_
      ·skip
       refine Pu11<|Pu11<|Pu11<|Pu11<|Pu9<|Pu5<|Pu11<|Pu11<|Pu11<|Pu11<|?_
       refine Pu11<|Pu11<|?_
       have hs2680 := (hR2071).mono hK2603
       exact Shift.done ⟨_, by exact ⟨rfl, rfl, rfl, rfl, rfl, rfl, rfl, rfl, rfl, rfl, rfl, rfl, rfl, trivial⟩, (setI l2067 x2386 2), (rs2069.set x2386.toNat [(.int .i64 2)]), l2070, rs2072, 0, rfl, rfl, rfl, H, hR2613, hs2680⟩
      rintro n2679 _ _ _ - ⟨l2672, rs2674, l2675, rs2677, i2678, rfl, rfl, rfl, H, hR2673, hR2676⟩
      obtain ⟨m2681, k2682, rfl, hkk2683, H⟩ := lps3 H
      unfold M_165z at H
      refine Cw_seq<|Cw_region<|Ow_q rfl rfl rfl (Qt_cmp rfl rfl rfl)<|Ow_nil<|Cw_seq<|?_
      refine Cw_cond rfl ?_ ?_
      ·intro h2685
       have h2685 := dcd_t (h2685)
       have H := ift h2685 H
       refine Cw_skip<|Cw_seq<|Cw_block<|Cw_seq<|Cw_region<|?_
       obtain ⟨x2706, hx2707, H⟩ := bnd H
       obtain ⟨r2708, hr2709, hk2710⟩ := Slr.at hs2606 hx2707
       obtain rfl := hr2709
       refine Ow_q rfl rfl rfl (Q_ix (T := TyDone) hs2606 hx2707 rfl rfl rfl rfl rfl)<|Ow_q rfl rfl rfl (Qt_loadA (m := 6) (cs := (Done.cells x2706)) rfl rfl rfl rfl ⟨rfl, Rdc.k hk2710 rfl⟩)<|?_
       refine Ow_cons rfl (OpW_alloc (cs := (Done.cells (Done.mk 0 (Result.mk 0 0 0 false 0)))) rfl rfl rfl rfl (fun b2711 => ?_))
       refine Ow_cons rfl (OpW_store (vs := (Done.cells x2706)) (all' := (Done.cells x2706)) rfl rfl rfl rfl rfl .here rfl rfl rfl ?_)
       refine Ow_nil<|Cw_seq<|Cw_region<|Ow_q rfl rfl rfl (Qt_move rfl)<|Ow_q rfl rfl rfl (Qt_fieldAddr (m := 0) rfl rfl rfl rfl rfl)<|Ow_q rfl rfl rfl (Qt_load1 (v := (.int .i64 x2706.thread)) rfl rfl rfl (Rdc.blk Mb0 rfl))<|Ow_q rfl rfl rfl (Qt_fieldAddr (m := 1) rfl rfl rfl rfl rfl)<|Ow_q rfl rfl rfl (Qt_loadA (m := 5) (cs := (Result.cells x2706.result)) rfl rfl rfl rfl ⟨rfl, Rdc.blk Mb0 rfl⟩)<|?_
       obtain ⟨x2712, hx2713, H⟩ := bnd H
       obtain ⟨r2714, hq2715, hr2716⟩ := RowR.at hR2676 hx2713
       obtain rfl := hr2716
       refine Ow_q rfl rfl rfl (Q_ixR (T := TyResult) Mb6 hR2676 hq2715 (getI_ix hx2713).1 rfl rfl rfl rfl rfl) ?_
       refine Ow_cons rfl (O_storeR (T := TyResult) (vs := (Result.cells x2706.result)) (r' := (Result.cells x2706.result)) (l' := (setI l2675 x2706.thread x2706.result)) rfl rfl rfl rfl rfl (.there (.there (.there (.there (.there (.there .here)))))) hR2676 hq2715 rfl rfl rfl (RowR.set x2706.thread hR2676 rfl) (fun hR2717 => ?_))
       have hE2718 := set_at hq2715 (v := (Result.cells x2706.result))
       refine Ow_nil<|Cw_region<|Ow_q rfl rfl rfl (Qt_move rfl)<|Ow_q rfl rfl rfl (Qt_fieldAddr (m := 0) rfl rfl rfl rfl rfl)<|Ow_q rfl rfl rfl (Qt_load1 (v := (.int .i64 x2706.thread)) rfl rfl rfl (Rdc.blk Mb0 rfl))<|?_
       obtain ⟨x2719, hx2720, H⟩ := bnd H
       obtain ⟨r2721, hq2722, hr2723⟩ := RowR.at hR2673 hx2720
       obtain rfl := hr2723
       refine Ow_q rfl rfl rfl (Q_ixR (T := Ty.i64) Mb5 hR2673 hq2722 (getI_ix hx2720).1 rfl rfl rfl rfl rfl) ?_
       refine Ow_cons rfl (O_storeR (T := Ty.i64) (vs := [(.int .i64 3)]) (r' := [(.int .i64 3)]) (l' := (setI l2672 x2706.thread 3)) rfl rfl rfl rfl rfl (.there (.there (.there (.there (.there .here))))) hR2673 hq2722 rfl rfl rfl (RowR.set x2706.thread hR2673 rfl) (fun hR2724 => ?_))
       have hE2725 := set_at hq2722 (v := [(.int .i64 3)])
       refine Ow_nil<|Cw_region<|Ow_q rfl rfl rfl (Qt_arith (e := wI (i2678 + 1)) rfl rfl rfl rfl)<|Ow_q rfl rfl rfl (Qt_move rfl)<|Ow_nil<|Pu12<|Pu12<|Pu12<|Pu12<|Pu12<|?_
       refine Pu12<|Pu12<|Pu12<|Pu12<|Pu12<|Pu12<|Pu12<|Re12<|Shift.done<|?_
       exact ⟨_, by exact ⟨rfl, rfl, rfl, rfl, rfl, rfl, rfl, rfl, rfl, rfl, rfl, rfl, rfl, trivial⟩, _, Nat.lt_succ_self _, (setI l2672 x2706.thread 3), (rs2674.set x2706.thread.toNat [(.int .i64 3)]), (setI l2675 x2706.thread x2706.result), (rs2677.set x2706.thread.toNat (Result.cells x2706.result)), (wI (i2678 + 1)), rfl, rfl, rfl, (hkk2683 ▸ H), hR2724, hR2717⟩
      ·intro h2685
       have h2685 := dcd_f (h2685)
       have H := iff_ h2685 H
       refine Cw_exit<|Pu11<|Pu11<|Pu11<|Pu11<|Pu9<|Pu9<|Pu11<|Pu10<|Pu10<|?_
       refine Pu10<|Pu10<|Re11<|?_
       have hs2726 := (hR2065).mono hK2603
       have hs2727 := (hs2075).mono hK2603
       exact Shift.done ⟨_, by exact ⟨rfl, rfl, rfl, rfl, rfl, rfl, rfl, rfl, rfl, rfl, trivial⟩, l2064, rs2066, l2672, rs2674, l2675, rs2677, v2073, l2074, v2599, x2571.chans, v2600, x2571.waiting, x2571.tick, x2387, rfl, rfl, H, hs2726, hR2673, hR2676, hs2727, hs2604, hs2605⟩
     ·intro h2490
      have h2490 := dcd_f (h2490)
      have H := iff_ h2490 H
      refine Cw_seq<|Cw_region<|Ow_q rfl rfl rfl (Qt_move rfl)<|Ow_q rfl rfl rfl (Qt_move rfl)<|?_
      obtain ⟨x2728, hx2729, H⟩ := bnd H
      obtain ⟨r2730, hq2731, hr2732⟩ := RowR.at hR2068 hx2729
      obtain rfl := hr2732
      refine Ow_q rfl rfl rfl (Q_ixR (T := Ty.i64) Mb5 hR2068 hq2731 (getI_ix hx2729).1 rfl rfl rfl rfl rfl)<|Ow_q rfl rfl rfl (Qt_load1 (v := (.int .i64 x2728)) rfl rfl rfl (Rd_row (T := Ty.i64) Mb5 hR2068 hq2731 rfl rfl))<|Ow_q rfl rfl rfl (Qt_cmp rfl rfl rfl)<|Ow_q rfl rfl rfl (Qt_assign rfl)<|Ow_nil<|?_
      refine Cw_cond rfl ?_ ?_
      ·intro h2733
       have h2733 := dcd_t (h2733)
       have H := ift h2733 H
       refine Cw_seq ?_
       obtain ⟨x2764, hx2765, H⟩ := bnd H
       obtain ⟨x2769, hx2770, H⟩ := bnd H
       obtain ⟨x2776, hx2777, H⟩ := bnd H
       refine Cw_region_any [.blk b756 102 (Desk.cells (Desk.mk l2078 l2081 i2083) v2077 v2080), .blk b735 34 (Config.cells x725 v729 v730), .blk b722 85 (Draw_Codes.cells (Draw_Codes.mk x720.list x2387 ((Draw_Codes.mk x720.list i2105 i2106).value)) v723), .blk b719 34 (Config.cells (Config.mk [] [] 0) nilS nilS), .row (sv v785) 3 1 rs2066.flatten, .row (sv v789) 3 1 rs2069.flatten, .row (sv v823) 25 5 rs2072.flatten, .row (sv v741) 99 1 rs742.flatten, .tok 3 1 [(sv v729)], .tok 23 1 [(sv v730)]] rfl (Inc.cons Mb0 (Inc.cons Mb1 (Inc.cons Mb2 (Inc.cons Mb3 (Inc.cons Mb4 (Inc.cons Mb5 (Inc.cons Mb6 (Inc.cons Mb8 (Inc.cons Mb9 (Inc.cons Mb10 Inc.nil))))))))))<|Awq 0 rfl (by kernel_rfl) rfl rfl rfl (Qt_move rfl)<|Awq 1 rfl (by kernel_rfl) rfl rfl rfl (Qt_move rfl)<|Awq 2 rfl (by kernel_rfl) rfl rfl rfl (Qt_move rfl)<|Awq 3 rfl (by kernel_rfl) rfl rfl rfl (Qt_move rfl)<|?_
       obtain ⟨r2782, hq2783, hr2784⟩ := RowR.at hR2065 hx2765
       obtain rfl := hr2784
       refine Awq 4 rfl (by kernel_rfl) rfl rfl rfl (Q_ixR (T := Ty.i64) Mb4 hR2065 hq2783 (getI_ix hx2765).1 rfl rfl rfl rfl rfl)<|Awq 5 rfl (by kernel_rfl) rfl rfl rfl (Qt_load1 (v := (.int .i64 x2764)) rfl rfl rfl (Rd_row (T := Ty.i64) Mb4 hR2065 hq2783 rfl rfl))<|Awq 6 rfl (by kernel_rfl) rfl rfl rfl (Qt_move rfl)<|Awq 7 rfl (by kernel_rfl) rfl rfl rfl (Qt_move rfl)<|?_
       obtain ⟨r2785, hq2786, hr2787⟩ := RowR.at hR2071 hx2770
       obtain rfl := hr2787
       refine Awq 8 rfl (by kernel_rfl) rfl rfl rfl (Q_ixR (T := TyResult) Mb6 hR2071 hq2786 (getI_ix hx2770).1 rfl rfl rfl rfl rfl)<|Awq 9 rfl (by kernel_rfl) rfl rfl rfl (Qt_loadA (m := 5) (cs := (Result.cells x2769)) rfl rfl rfl rfl ⟨rfl, Rd_row (T := TyResult) Mb6 hR2071 hq2786 rfl rfl⟩)<|Awq 10 rfl (by kernel_rfl) rfl rfl rfl (Qt_build (cs := (Event.cells (Event.mk x2386 x2764 true x2769))) rfl rfl rfl rfl rfl rfl)<|?_
       refine Aw_one 11 (by kernel_rfl) (Ax_mk rfl rfl ?_)
       have hR2789 : RowR TyEvent K2087 [(Event.cells (Event.mk x2386 x2764 true x2769))] [(Event.mk x2386 x2764 true x2769)] := RowR.cons rfl (RowR.nil)
       refine O_lit (T := TyEvent) (rows := [(Event.cells (Event.mk x2386 x2764 true x2769))]) (l := [(Event.mk x2386 x2764 true x2769)]) rfl rfl rfl hR2789 rfl rfl rfl rfl rfl rfl rfl rfl (fun v2788 => ⟨(Inc.cons Mb1 (Inc.cons Mb2 (Inc.cons Mb3 (Inc.cons Mb4 (Inc.cons Mb5 (Inc.cons Mb6 (Inc.cons Mb7 (Inc.cons Mb9 (Inc.cons Mb10 (Inc.cons Mb11 Inc.nil)))))))))), ?_⟩)
       refine Aw_one 12 (by kernel_rfl) (Ax_mk rfl rfl ?_)
       refine O_appTok (T := TyEvent) (bytes := 64) (q := 0) rfl rfl rfl hs2075 Mb8 rfl (SrcT.row Mb0 hR2789 rfl) hx2777 rfl rfl rfl rfl rfl rfl rfl rfl (fun v2790 K2791 hK2792 hs2793 => ⟨_, (.there (.there (.there (.there (.there (.there (.there (.there .here)))))))), ⟨(Inc.cons Mb1 (Inc.cons Mb2 (Inc.cons Mb3 (Inc.cons Mb4 (Inc.cons Mb5 (Inc.cons Mb6 (Inc.cons Mb7 (Inc.cons Mb9 (Inc.cons Mb10 (Inc.cons Mb11 Inc.nil)))))))))), ?_⟩⟩)
       refine Aw.shift (Re0 (Shift.done ⟨(Inc.cons Mb0 (Inc.cons Mb1 (Inc.cons Mb2 (Inc.cons Mb3 (Inc.cons Mb4 (Inc.cons Mb5 (Inc.cons Mb6 (Inc.cons Mb8 (Inc.cons Mb9 (Inc.cons Mb10 Inc.nil)))))))))), ?_⟩))
       refine Awq 13 rfl (by kernel_rfl) rfl rfl rfl (Qt_assign rfl)<|Aw_done (by kernel_rfl)<|Cw_seq<|Cw_region<|Ow_q rfl rfl rfl (Qt_move rfl)<|Ow_q rfl rfl rfl (Qt_move rfl)<|?_
       obtain ⟨x2794, hx2795, H⟩ := bnd H
       have hs2796 := (hR2065).mono hK2792
       obtain ⟨r2797, hq2798, hr2799⟩ := RowR.at hs2796 hx2795
       obtain rfl := hr2799
       refine Ow_q rfl rfl rfl (Q_ixR (T := Ty.i64) Mb4 hs2796 hq2798 (getI_ix hx2795).1 rfl rfl rfl rfl rfl)<|Ow_q rfl rfl rfl (Qt_load1 (v := (.int .i64 x2794)) rfl rfl rfl (Rd_row (T := Ty.i64) Mb4 hs2796 hq2798 rfl rfl))<|Ow_q rfl rfl rfl (Qt_arith (e := wI (x2794 + 1)) rfl rfl rfl rfl)<|?_
       obtain ⟨x2800, hx2801, H⟩ := bnd H
       obtain ⟨r2802, hq2803, hr2804⟩ := RowR.at hs2796 hx2801
       obtain rfl := hr2804
       refine Ow_q rfl rfl rfl (Q_ixR (T := Ty.i64) Mb4 hs2796 hq2803 (getI_ix hx2801).1 rfl rfl rfl rfl rfl) ?_
       refine Ow_cons rfl (O_storeR (T := Ty.i64) (vs := [(.int .i64 (wI (x2794 + 1)))]) (r' := [(.int .i64 (wI (x2794 + 1)))]) (l' := (setI l2064 x2386 (wI (x2794 + 1)))) rfl rfl rfl rfl rfl (.there (.there (.there (.there .here)))) hs2796 hq2803 rfl rfl rfl (RowR.set x2386 hs2796 rfl) (fun hR2805 => ?_))
       have hE2806 := set_at hq2803 (v := [(.int .i64 (wI (x2794 + 1)))])
       refine Ow_nil<|Cw_region<|Ow_q rfl rfl rfl (Qt_move rfl)<|Ow_q rfl rfl rfl (Qt_move rfl)<|?_
       obtain ⟨x2807, hx2808, H⟩ := bnd H
       have hs2809 := (hR2068).mono hK2792
       obtain ⟨r2810, hq2811, hr2812⟩ := RowR.at hs2809 hx2808
       obtain rfl := hr2812
       refine Ow_q rfl rfl rfl (Q_ixR (T := Ty.i64) Mb5 hs2809 hq2811 (getI_ix hx2808).1 rfl rfl rfl rfl rfl) ?_
       refine Ow_cons rfl (O_storeR (T := Ty.i64) (vs := [(.int .i64 0)]) (r' := [(.int .i64 0)]) (l' := (setI l2067 x2386 0)) rfl rfl rfl rfl rfl (.there (.there (.there (.there (.there .here))))) hs2809 hq2811 rfl rfl rfl (RowR.set x2386 hs2809 rfl) (fun hR2813 => ?_))
       have hE2814 := set_at hq2811 (v := [(.int .i64 0)])
       refine Ow_nil<|Pu10<|Pu10<|Pu10<|Pu10<|Pu10<|Pu10<|Pu10<|Pu10<|Pu10<|?_
       refine Pu10<|Pu10<|?_
       have hs2815 := (hR2071).mono hK2792
       have hs2816 := (hs2079).mono hK2792
       have hs2817 := (hs2082).mono hK2792
       exact Shift.done ⟨_, by exact ⟨rfl, rfl, rfl, rfl, rfl, rfl, rfl, rfl, rfl, rfl, trivial⟩, (setI l2064 x2386 (wI (x2794 + 1))), (rs2066.set x2386.toNat [(.int .i64 (wI (x2794 + 1)))]), (setI l2067 x2386 0), (rs2069.set x2386.toNat [(.int .i64 0)]), l2070, rs2072, v2790, x2776, v2077, l2078, v2080, l2081, i2083, x2387, rfl, rfl, H, hR2805, hR2813, hs2815, hs2793, hs2816, hs2817⟩
      ·intro h2733
       have h2733 := dcd_f (h2733)
       have H := iff_ h2733 H
       refine Cw_skip<|Pu10<|Pu10<|Pu10<|Pu10<|Pu10<|Pu10<|Pu10<|Pu10<|Pu10<|?_
       refine Pu10<|Pu10<|Shift.done<|?_
       exact ⟨_, by exact ⟨rfl, rfl, rfl, rfl, rfl, rfl, rfl, rfl, rfl, rfl, trivial⟩, l2064, rs2066, l2067, rs2069, l2070, rs2072, v2073, l2074, v2077, l2078, v2080, l2081, i2083, x2387, rfl, rfl, H, hR2065, hR2068, hR2071, hs2075, hs2079, hs2082⟩
   rintro _ K2818 _ hK2819 ⟨l2366, rs2368, l2369, rs2371, l2372, rs2374, v2375, l2376, v2378, l2379, v2381, l2382, i2384, i2385, rfl, rfl, H, hR2367, hR2370, hR2373, hs2377, hs2380, hs2383⟩
   unfold M_22z at H
   refine Cw_region<|Ow_q rfl rfl rfl (Qt_move rfl)<|Ow_q rfl rfl rfl (Qt_arith (e := wI (i2076 + 1)) rfl rfl rfl rfl)<|Ow_q rfl rfl rfl (Qt_assign rfl)<|Ow_nil<|Pu10<|Pu10<|Pu10<|Pu10<|Pu10<|?_
   refine Pu10<|Pu10<|Pu10<|Pu10<|Pu10<|Pu10<|Shift.done<|?_
   exact ⟨_, by exact ⟨rfl, rfl, rfl, rfl, rfl, rfl, rfl, rfl, rfl, rfl, trivial⟩, _, Nat.lt_succ_self _, l2366, rs2368, l2369, rs2371, l2372, rs2374, v2375, l2376, (wI (i2076 + 1)), v2378, l2379, v2381, l2382, i2384, i2385, ((Draw_Codes.mk x720.list i2105 i2106).value), rfl, rfl, (hkk2091 ▸ H), hR2367, hR2370, hR2373, hs2377, hs2380, hs2383⟩
  ·intro h2111
   have H := iff_ (btf h2111) H
   refine Cw_exit<|Pu10<|Pu10<|Pu10<|Pu10<|Pu7<|Pu6<|Re6<|Re6<|Re6<|?_
   refine Re6<|Re6<|Shift.done<|?_
   exact ⟨_, by exact ⟨rfl, rfl, rfl, rfl, trivial⟩, v2073, l2074, rfl, rfl, H, hs2075⟩
 rintro _ K2820 _ hK2821 ⟨v1455, l1456, rfl, rfl, H, hs1457⟩
 unfold M_164z at H
 refine Cw_seq<|Cw_region<|Ow_q rfl rfl rfl (Qt_loadA (m := 3) (cs := (Config.cells x725 v729 v730)) rfl rfl rfl rfl ⟨rfl, Rdc.blk Mb0 rfl⟩)<|Ow_q rfl rfl rfl (Qt_move rfl)<|Ow_q rfl rfl rfl (Qt_move rfl)<|?_
 refine Ow_cons rfl (OpW_store (vs := (Config.cells x725 v729 v730)) (all' := (Config.cells x725 v729 v730)) rfl rfl rfl rfl rfl (.there .here) rfl rfl rfl ?_)
 refine Ow_q rfl rfl rfl (Qt_assign rfl)<|Ow_q rfl rfl rfl (Qt_assign rfl)<|Ow_nil<|Cw_ret<|?_
 obtain ⟨ey0, ey1, ey2⟩ := inj3 H
 subst y0 y1 y2
 refine ⟨(by first | exact .inl rfl | exact .inr rfl), [(.agg (Config.cells x725 v729 v730).toArray), (sv v741), (sv v1455)], ⟨(.agg (Config.cells x725 v729 v730).toArray), _, rfl, ⟨_, 3, (Config.cells x725 v729 v730), rfl, rfl, rfl, rfl, ⟨rfl, Rdc.blk Mb1 rfl⟩, rfl⟩, ⟨(sv v741), _, rfl, rfl, ⟨(sv v1455), _, rfl, rfl, rfl⟩⟩⟩, ?_⟩
 refine Pu2<|Pu3<|Pu5<|Pu5<|Re4<|Re4<|?_
 have hs2822 := ((hs748).mono hK753).mono hK2821
 have hs2823 := ((hs749).mono hK753).mono hK2821
 have hs2824 := ((hs745).mono hK753).mono hK2821
 exact Shift.done ⟨v729, v730, v741, rs742, v1455, rfl, rfl, hs2822, hs2823, hs2824, hs1457⟩



end Go.Hx

namespace Go.Hx
open Go Go.Proofs
set_option linter.unusedSimpArgs false
set_option linter.unusedVariables false
set_option maxRecDepth 10000
set_option maxHeartbeats 1000000 in
theorem c_M_79z (p0 : List Event) (vp0 : SV) (y0 : List A2Int) (H : M_79z p0 = some y0) (K : Kp) (G : List Ent) (hp0 : Slr TyEvent K (sv vp0) p0) :
  Fc Try.prog 71 #[(sv vp0)] K (G) (fun v K' G' => ∃ (wy0 : SV), v = (sv wy0) ∧ (.tok 115 2 [(sv wy0)]) :: G = G' ∧ Slr TyA2Int K' (sv wy0) y0) := by
 refine Fc_body Try.func71 rfl Try.ntmps71 Try.results71 rfl ?_
 unfold M_79z at H
 refine Cw_seq<|Cw_region<|Ow_q rfl rfl rfl (Qt_assign rfl)<|Ow_nil<|Cw_seq<|Cw_region<|Ow_q rfl rfl rfl (Qt_assign rfl)<|Ow_nil<|?_
 refine Cw_join (fun env' K' G' => ∃ (v182 : SV) (l183 : List A2Int), [(3, (sv v182))] = env' ∧ (.tok 115 2 [(sv v182)]) :: G = G' ∧ M_198z l183 = some y0 ∧ Slr TyA2Int K' (sv v182) l183) ?_ ?_
 ·skip
  refine Cw_seq<|Cw_region<|Ow_q rfl rfl rfl (Qt_assign rfl)<|Ow_nil<|Cw_block<|?_
  refine Cw_loopM (fun n273 env' K' G' => ∃ (v269 : SV) (l270 : List A2Int) (i272 : Int), [(0, (sv vp0)), (3, (sv v269)), (4, (.int .i64 i272))] = env' ∧ (.tok 115 2 [(sv v269)]) :: G = G' ∧ lp2 (M_169z p0) n273 l270 i272 = some y0 ∧ Slr TyA2Int K' (sv v269) l270) BIG ?_ ?_
  ·skip
   refine Shift.nilTok1 115 2<|Shift.done<|?_
   exact ⟨_, by exact ⟨rfl, rfl, rfl, trivial⟩, nilS, ([] : List A2Int), 0, rfl, rfl, H, (Slr.nil TyA2Int _)⟩
  rintro n273 _ K274 _ hK275 ⟨v269, l270, i272, rfl, rfl, H, hs271⟩
  obtain ⟨m276, k277, rfl, hkk278, H⟩ := lps2 H
  unfold M_169z at H
  refine Cw_seq<|Cw_seq<|Cw_region<|Ow_q rfl rfl rfl (Qt_move rfl)<|Ow_q rfl rfl rfl (Qt_move rfl)<|?_
  have hs281 := (hp0).mono hK275
  refine Ow_q rfl rfl rfl (Q_len (T := TyEvent) hs281 rfl rfl)<|Ow_q rfl rfl rfl (Qt_cmp rfl rfl rfl)<|Ow_nil<|?_
  refine Cw_cond rfl ?_ ?_
  ·intro h282
   have h282 := dcd_t (h282)
   have H := ift h282 H
   refine Cw_skip<|Cw_seq<|Cw_block<|Cw_seq<|Cw_region<|Ow_q rfl rfl rfl (Qt_move rfl)<|Ow_q rfl rfl rfl (Qt_move rfl)<|?_
   obtain ⟨x319, hx320, H⟩ := bnd H
   obtain ⟨r321, hr322, hk323⟩ := Slr.at hs281 hx320
   obtain rfl := hr322
   refine Ow_q rfl rfl rfl (Q_ix (T := TyEvent) hs281 hx320 rfl rfl rfl rfl rfl)<|Ow_q rfl rfl rfl (Qt_fieldAddr (m := 2) rfl rfl rfl rfl rfl)<|Ow_q rfl rfl rfl (Qt_load1 (v := (.bool x319.ret)) rfl rfl rfl (Rdc.k hk323 rfl))<|Ow_q rfl rfl rfl (Qt_not rfl)<|Ow_nil<|?_
   refine Cw_cond rfl ?_ ?_
   ·intro h324
    have h324 := nt_t (h324)
    have H := iff_ (btf h324) H
    obtain ⟨x325, hx326, H⟩ := bnd H
    obtain ⟨x330, hx331, H⟩ := bnd H
    obtain ⟨x337, hx338, H⟩ := bnd H
    refine Cw_region_any [] rfl Inc.nil<|Awq 0 rfl (by kernel_rfl) rfl rfl rfl (Qt_move rfl)<|Awq 1 rfl (by kernel_rfl) rfl rfl rfl (Qt_move rfl)<|Awq 2 rfl (by kernel_rfl) rfl rfl rfl (Qt_move rfl)<|?_
    obtain ⟨r343, hr344, hk345⟩ := Slr.at hs281 hx326
    obtain rfl := hr344
    refine Awq 3 rfl (by kernel_rfl) rfl rfl rfl (Q_ix (T := TyEvent) hs281 hx326 rfl rfl rfl rfl rfl)<|Awq 4 rfl (by kernel_rfl) rfl rfl rfl (Qt_fieldAddr (m := 0) rfl rfl rfl rfl rfl)<|Awq 5 rfl (by kernel_rfl) rfl rfl rfl (Qt_load1 (v := (.int .i64 x325.thread)) rfl rfl rfl (Rdc.k hk345 rfl))<|Awq 6 rfl (by kernel_rfl) rfl rfl rfl (Qt_move rfl)<|Awq 7 rfl (by kernel_rfl) rfl rfl rfl (Qt_move rfl)<|?_
    obtain ⟨r346, hr347, hk348⟩ := Slr.at hs281 hx331
    obtain rfl := hr347
    refine Awq 8 rfl (by kernel_rfl) rfl rfl rfl (Q_ix (T := TyEvent) hs281 hx331 rfl rfl rfl rfl rfl)<|Awq 9 rfl (by kernel_rfl) rfl rfl rfl (Qt_fieldAddr (m := 1) rfl rfl rfl rfl rfl)<|Awq 10 rfl (by kernel_rfl) rfl rfl rfl (Qt_load1 (v := (.int .i64 x330.op)) rfl rfl rfl (Rdc.k hk348 rfl))<|Awq 11 rfl (by kernel_rfl) rfl rfl rfl (Qt_buildArr (cs := (A2Int.cells (A2Int.mk x325.thread x330.op))) rfl rfl rfl rfl rfl rfl)<|?_
    refine Aw_one 12 (by kernel_rfl) (Ax_mk rfl rfl ?_)
    have hR350 : RowR TyA2Int K274 [(A2Int.cells (A2Int.mk x325.thread x330.op))] [(A2Int.mk x325.thread x330.op)] := RowR.cons rfl (RowR.nil)
    refine O_lit (T := TyA2Int) (rows := [(A2Int.cells (A2Int.mk x325.thread x330.op))]) (l := [(A2Int.mk x325.thread x330.op)]) rfl rfl rfl hR350 rfl rfl rfl rfl rfl rfl rfl rfl (fun v349 => ⟨Inc.nil, ?_⟩)
    refine Aw_one 13 (by kernel_rfl) (Ax_mk rfl rfl ?_)
    refine O_appTok (T := TyA2Int) (bytes := 16) (q := 0) rfl rfl rfl hs271 Mb1 rfl (SrcT.row Mb0 hR350 rfl) hx338 rfl rfl rfl rfl rfl rfl rfl rfl (fun v351 K352 hK353 hs354 => ⟨_, (.there .here), ⟨Inc.nil, ?_⟩⟩)
    refine Aw.shift (Re0 (Shift.done ⟨Inc.nil, ?_⟩))
    refine Awq 14 rfl (by kernel_rfl) rfl rfl rfl (Qt_assign rfl)<|Aw_done (by kernel_rfl)<|Cw_region<|Ow_q rfl rfl rfl (Qt_move rfl)<|Ow_q rfl rfl rfl (Qt_arith (e := wI (i272 + 1)) rfl rfl rfl rfl)<|Ow_q rfl rfl rfl (Qt_assign rfl)<|Ow_nil<|Shift.done<|?_
    exact ⟨_, by exact ⟨rfl, rfl, rfl, trivial⟩, _, Nat.lt_succ_self _, v351, x337, (wI (i272 + 1)), rfl, rfl, (hkk278 ▸ H), hs354⟩
   ·intro h324
    have h324 := nt_f (h324)
    have H := ift h324 H
    refine Cw_skip<|Cw_region<|Ow_q rfl rfl rfl (Qt_move rfl)<|Ow_q rfl rfl rfl (Qt_arith (e := wI (i272 + 1)) rfl rfl rfl rfl)<|Ow_q rfl rfl rfl (Qt_assign rfl)<|Ow_nil<|Shift.done<|?_
    exact ⟨_, by exact ⟨rfl, rfl, rfl, trivial⟩, _, Nat.lt_succ_self _, v269, l270, (wI (i272 + 1)), rfl, rfl, (hkk278 ▸ H), hs271⟩
  ·intro h282
   have h282 := dcd_f (h282)
   have H := iff_ h282 H
   refine Cw_exit<|Shift.done<|?_
   exact ⟨_, by exact ⟨rfl, trivial⟩, v269, l270, rfl, rfl, H, hs271⟩
 rintro _ K355 _ hK356 ⟨v182, l183, rfl, rfl, H, hs184⟩
 unfold M_198z at H
 refine Cw_seq<|Cw_region<|Ow_q rfl rfl rfl (Qt_move rfl)<|Ow_q rfl rfl rfl (Qt_assign rfl)<|Ow_nil<|Cw_ret<|?_
 obtain ey0 := inj1 H
 subst y0
 refine ⟨(by first | exact .inl rfl | exact .inr rfl), [(sv v182)], ⟨(sv v182), _, rfl, rfl, rfl⟩, ?_⟩
 exact Shift.done ⟨v182, rfl, rfl, hs184⟩

set_option maxHeartbeats 1000000 in
theorem c_M_46z (p0 : List Event) (vp0 : SV) (p1 : Int) (p2 : Int) (p3 : Bool) (y0 : Int) (H : M_46z p0 p1 p2 p3 = some y0) (K : Kp) (G : List Ent) (hp0 : Slr TyEvent K (sv vp0) p0) :
  Fc Try.prog 110 #[(sv vp0), (.int .i64 p1), (.int .i64 p2), (.bool p3)] K (G) (fun v K' G' => v = (.int .i64 y0) ∧ G = G') := by
 refine Fc_body Try.func110 rfl Try.ntmps110 Try.results110 rfl ?_
 unfold M_46z at H
 refine Cw_seq<|Cw_region<|Ow_q rfl rfl rfl (Qt_assign rfl)<|Ow_nil<|?_
 refine Cw_join (fun env' K' G' => [] = env' ∧ G = G' ∧ M_199z = some y0) ?_ ?_
 ·skip
  refine Cw_seq<|Cw_region<|Ow_q rfl rfl rfl (Qt_assign rfl)<|Ow_nil<|Cw_block<|?_
  refine Cw_loopM (fun n157 env' K' G' => ∃ (i156 : Int), [(0, (sv vp0)), (1, (.int .i64 p1)), (2, (.int .i64 p2)), (3, (.bool p3)), (9, (.int .i64 i156))] = env' ∧ K = K' ∧ G = G' ∧ lp1 (M_135z p0 p1 p2 p3) n157 i156 = some y0) BIG ?_ ?_
  ·skip
   exact Shift.done ⟨_, by exact ⟨rfl, rfl, rfl, rfl, rfl, trivial⟩, 0, rfl, rfl, rfl, H⟩
  rintro n157 _ _ _ - ⟨i156, rfl, rfl, rfl, H⟩
  obtain ⟨m158, k159, rfl, hkk160, H⟩ := lps1 H
  unfold M_135z at H
  refine Cw_seq<|Cw_seq<|Cw_region<|Ow_q rfl rfl rfl (Qt_move rfl)<|Ow_q rfl rfl rfl (Qt_move rfl)<|Ow_q rfl rfl rfl (Q_len (T := TyEvent) hp0 rfl rfl)<|Ow_q rfl rfl rfl (Qt_cmp rfl rfl rfl)<|Ow_nil<|?_
  refine Cw_cond rfl ?_ ?_
  ·intro h162
   have h162 := dcd_t (h162)
   have H := ift h162 H
   refine Cw_skip<|Cw_seq<|Cw_block<|?_
   refine Cw_join (fun env' K' G' => ∃ (t199 : Bool), [(0, (sv vp0)), (1, (.int .i64 p1)), (2, (.int .i64 p2)), (3, (.bool p3)), (9, (.int .i64 i156)), (40, (.bool t199))] = env' ∧ K = K' ∧ G = G' ∧ M_80z p0 p1 p2 p3 i156 k159 t199 = some y0) ?_ ?_
   ·skip
    refine Cw_region<|Ow_q rfl rfl rfl (Qt_move rfl)<|Ow_q rfl rfl rfl (Qt_move rfl)<|?_
    obtain ⟨x200, hx201, H⟩ := bnd H
    obtain ⟨r202, hr203, hk204⟩ := Slr.at hp0 hx201
    obtain rfl := hr203
    refine Ow_q rfl rfl rfl (Q_ix (T := TyEvent) hp0 hx201 rfl rfl rfl rfl rfl)<|Ow_q rfl rfl rfl (Qt_fieldAddr (m := 0) rfl rfl rfl rfl rfl)<|Ow_q rfl rfl rfl (Qt_load1 (v := (.int .i64 x200.thread)) rfl rfl rfl (Rdc.k hk204 rfl))<|Ow_q rfl rfl rfl (Qt_move rfl)<|Ow_q rfl rfl rfl (Qt_cmp rfl rfl rfl)<|Ow_q rfl rfl rfl (Qt_move rfl)<|?_
    refine Ow_caseG rfl rfl rfl ?_ ?_
    ·intro h205
     have h205 := dcd_t (h205)
     have H := ift h205 H
     refine Ow_qw rfl rfl rfl rfl rfl rfl (Qt_move rfl)<|Ow_qw rfl rfl rfl rfl rfl rfl (Qt_move rfl)<|?_
     obtain ⟨x206, hx207, H⟩ := bnd H
     obtain ⟨r208, hr209, hk210⟩ := Slr.at hp0 hx207
     obtain rfl := hr209
     refine Ow_qw rfl rfl rfl rfl rfl rfl (Q_ix (T := TyEvent) hp0 hx207 rfl rfl rfl rfl rfl)<|Ow_qw rfl rfl rfl rfl rfl rfl (Qt_fieldAddr (m := 1) rfl rfl rfl rfl rfl)<|Ow_qw rfl rfl rfl rfl rfl rfl (Qt_load1 (v := (.int .i64 x206.op)) rfl rfl rfl (Rdc.k hk210 rfl))<|Ow_qw rfl rfl rfl rfl rfl rfl (Qt_move rfl)<|Ow_qw rfl rfl rfl rfl rfl rfl (Qt_cmp rfl rfl rfl)<|Ow_q rfl rfl rfl (Qt_pick_t rfl rfl)<|Ow_q rfl rfl rfl (Qt_move rfl)<|?_
     refine Ow_caseG rfl rfl rfl ?_ ?_
     ·intro h211
      have h211 := dcd_t (h211)
      have H := ift h211 H
      refine Ow_qw rfl rfl rfl rfl rfl rfl (Qt_move rfl)<|Ow_qw rfl rfl rfl rfl rfl rfl (Qt_move rfl)<|?_
      obtain ⟨x212, hx213, H⟩ := bnd H
      obtain ⟨r214, hr215, hk216⟩ := Slr.at hp0 hx213
      obtain rfl := hr215
      refine Ow_qw rfl rfl rfl rfl rfl rfl (Q_ix (T := TyEvent) hp0 hx213 rfl rfl rfl rfl rfl)<|Ow_qw rfl rfl rfl rfl rfl rfl (Qt_fieldAddr (m := 2) rfl rfl rfl rfl rfl)<|Ow_qw rfl rfl rfl rfl rfl rfl (Qt_load1 (v := (.bool x212.ret)) rfl rfl rfl (Rdc.k hk216 rfl))<|Ow_qw rfl rfl rfl rfl rfl rfl (Qt_move rfl)<|Ow_qw rfl rfl rfl rfl rfl rfl (Qt_eqB rfl rfl rfl)<|Ow_q rfl rfl rfl (Qt_pick_t rfl rfl)<|Ow_nil<|Shift.done<|?_
      exact ⟨_, by exact ⟨rfl, rfl, rfl, rfl, rfl, rfl, trivial⟩, (x212.ret == p3), rfl, rfl, rfl, H⟩
     ·intro h211
      have h211 := dcd_f (h211)
      have H := iff_ h211 H
      refine Ow_pass rfl rfl rfl rfl rfl rfl rfl<|Ow_pass rfl rfl rfl rfl rfl rfl rfl<|Ow_pass rfl rfl rfl rfl rfl rfl rfl<|Ow_pass rfl rfl rfl rfl rfl rfl rfl<|Ow_pass rfl rfl rfl rfl rfl rfl rfl<|Ow_pass rfl rfl rfl rfl rfl rfl rfl<|Ow_pass rfl rfl rfl rfl rfl rfl rfl<|Ow_q rfl rfl rfl (Qt_pick_f rfl rfl)<|Ow_nil<|Shift.done<|?_
      exact ⟨_, by exact ⟨rfl, rfl, rfl, rfl, rfl, rfl, trivial⟩, false, rfl, rfl, rfl, H⟩
    ·intro h205
     have h205 := dcd_f (h205)
     have H := iff_ h205 H
     refine Ow_pass rfl rfl rfl rfl rfl rfl rfl<|Ow_pass rfl rfl rfl rfl rfl rfl rfl<|Ow_pass rfl rfl rfl rfl rfl rfl rfl<|Ow_pass rfl rfl rfl rfl rfl rfl rfl<|Ow_pass rfl rfl rfl rfl rfl rfl rfl<|Ow_pass rfl rfl rfl rfl rfl rfl rfl<|Ow_pass rfl rfl rfl rfl rfl rfl rfl<|Ow_q rfl rfl rfl (Qt_pick_f rfl rfl)<|Ow_q rfl rfl rfl (Qt_move rfl)<|Ow_pass rfl rfl rfl rfl rfl rfl rfl<|?_
     refine Ow_pass rfl rfl rfl rfl rfl rfl rfl<|Ow_pass rfl rfl rfl rfl rfl rfl rfl<|Ow_pass rfl rfl rfl rfl rfl rfl rfl<|Ow_pass rfl rfl rfl rfl rfl rfl rfl<|Ow_pass rfl rfl rfl rfl rfl rfl rfl<|Ow_pass rfl rfl rfl rfl rfl rfl rfl<|Ow_q rfl rfl rfl (Qt_pick_f rfl rfl)<|Ow_nil<|Shift.done<|?_
     exact ⟨_, by exact ⟨rfl, rfl, rfl, rfl, rfl, rfl, trivial⟩, false, rfl, rfl, rfl, H⟩
   rintro _ _ _ - ⟨t199, rfl, rfl, rfl, H⟩
   unfold M_80z at H
   refine Cw_cond rfl ?_ ?_
   ·intro h217
    have H := ift h217 H
    refine Cw_seq<|Cw_region<|Ow_q rfl rfl rfl (Qt_move rfl)<|Ow_q rfl rfl rfl (Qt_assign rfl)<|Ow_nil<|Cw_ret<|?_
    obtain ey0 := inj1 H
    subst y0
    refine ⟨(by first | exact .inl rfl | exact .inr rfl), [(.int .i64 i156)], ⟨(.int .i64 i156), _, rfl, rfl, rfl⟩, ?_⟩
    exact Shift.done ⟨rfl, rfl⟩
   ·intro h217
    have H := iff_ (btf h217) H
    refine Cw_skip<|Cw_region<|Ow_q rfl rfl rfl (Qt_move rfl)<|Ow_q rfl rfl rfl (Qt_arith (e := wI (i156 + 1)) rfl rfl rfl rfl)<|Ow_q rfl rfl rfl (Qt_assign rfl)<|Ow_nil<|Shift.done<|?_
    exact ⟨_, by exact ⟨rfl, rfl, rfl, rfl, rfl, trivial⟩, _, Nat.lt_succ_self _, (wI (i156 + 1)), rfl, rfl, rfl, (hkk160 ▸ H)⟩
  ·intro h162
   have h162 := dcd_f (h162)
   have H := iff_ h162 H
   refine Cw_exit<|Shift.done<|?_
   exact ⟨[], trivial, rfl, rfl, H⟩
 rintro _ K218 _ hK219 ⟨rfl, rfl, H⟩
 unfold M_199z at H
 refine Cw_seq<|Cw_region<|Ow_q rfl rfl rfl (Qt_assign rfl)<|Ow_nil<|Cw_ret<|?_
 obtain ey0 := inj1 H
 subst y0
 refine ⟨(by first | exact .inl rfl | exact .inr rfl), [(.int .i64 (-1))], ⟨(.int .i64 (-1)), _, rfl, rfl, rfl⟩, ?_⟩
 exact Shift.done ⟨rfl, rfl⟩

set_option maxHeartbeats 1000000 in
theorem c_M_82z (p0 : List Event) (vp0 : SV) (p1 : Int) (p2 : Int) (y0 : Int) (H : M_82z p0 p1 p2 = some y0) (K : Kp) (G : List Ent) (hp0 : Slr TyEvent K (sv vp0) p0) :
  Fc Try.prog 78 #[(sv vp0), (.int .i64 p1), (.int .i64 p2)] K (G) (fun v K' G' => v = (.int .i64 y0) ∧ G = G') := by
 refine Fc_body Try.func78 rfl Try.ntmps78 Try.results78 rfl ?_
 unfold M_82z at H
 refine Cw_seq<|Cw_region<|Ow_q rfl rfl rfl (Qt_assign rfl)<|Ow_nil<|Cw_seq<|Cw_region<|Ow_q rfl rfl rfl (Qt_move rfl)<|Ow_q rfl rfl rfl (Qt_move rfl)<|Ow_q rfl rfl rfl (Qt_move rfl)<|?_
 obtain ⟨x5, hx6, H⟩ := bnd H
 refine Ow_cons rfl (OpW_call rfl Try.call110 rfl rfl (c_M_46z p0 vp0 p1 p2 false x5 hx6 _ _ hp0) ?_)
 rintro _ K7 _ hK8 ⟨rfl, rfl⟩
 refine Ow_q rfl rfl rfl (Qt_assign rfl)<|Ow_nil<|Cw_ret<|?_
 obtain ey0 := inj1 H
 subst y0
 refine ⟨(by first | exact .inl rfl | exact .inr rfl), [(.int .i64 x5)], ⟨(.int .i64 x5), _, rfl, rfl, rfl⟩, ?_⟩
 exact Shift.done ⟨rfl, rfl⟩

set_option maxHeartbeats 1000000 in
theorem c_M_136z (p0 : List Event) (vp0 : SV) (p1 : Int) (p2 : Int) (y0 : Result) (y1 : Int) (H : M_136z p0 p1 p2 = some (y0, y1)) (K : Kp) (G : List Ent) (hp0 : Slr TyEvent K (sv vp0) p0) :
  Fc Try.prog 109 #[(sv vp0), (.int .i64 p1), (.int .i64 p2)] K (G) (fun v K' G' => v = (.tuple #[(.agg (Result.cells y0).toArray), (.int .i64 y1)]) ∧ G = G') := by
 refine Fc_body Try.func109 rfl Try.ntmps109 Try.results109 rfl ?_
 unfold M_136z at H
 refine Cw_seq<|Cw_region<|?_
 refine Ow_cons rfl (OpW_alloc (cs := (Result.cells (Result.mk 0 0 0 false 0))) rfl rfl rfl rfl (fun b13 => ?_))
 refine Ow_q rfl rfl rfl (Qt_assign rfl)<|Ow_nil<|Cw_seq<|Cw_region<|Ow_q rfl rfl rfl (Qt_move rfl)<|Ow_q rfl rfl rfl (Qt_move rfl)<|Ow_q rfl rfl rfl (Qt_move rfl)<|?_
 obtain ⟨x14, hx15, H⟩ := bnd H
 refine Ow_cons rfl (OpW_call rfl Try.call110 rfl rfl (c_M_46z p0 vp0 p1 p2 true x14 hx15 _ _ hp0) ?_)
 rintro _ K16 _ hK17 ⟨rfl, rfl⟩
 refine Ow_q rfl rfl rfl (Qt_assign rfl)<|Ow_nil<|Cw_seq<|Cw_seq<|Cw_region<|Ow_q rfl rfl rfl (Qt_move rfl)<|Ow_q rfl rfl rfl (Qt_cmp rfl rfl rfl)<|Ow_nil<|?_
 refine Cw_cond rfl ?_ ?_
 ·intro h19
  have h19 := dcd_t (h19)
  have H := ift h19 H
  refine Cw_seq<|Cw_region<|Ow_q rfl rfl rfl (Qt_build (cs := (Result.cells (Result.mk 0 0 0 false 0))) rfl rfl rfl rfl rfl rfl)<|?_
  refine Ow_cons rfl (OpW_store (vs := (Result.cells (Result.mk 0 0 0 false 0))) (all' := (Result.cells (Result.mk 0 0 0 false 0))) rfl rfl rfl rfl rfl .here rfl rfl rfl ?_)
  refine Ow_q rfl rfl rfl (Qt_assign rfl)<|Ow_nil<|Cw_ret<|?_
  obtain ⟨ey0, ey1⟩ := inj2 H
  subst y0 y1
  refine ⟨(by first | exact .inl rfl | exact .inr rfl), [(.agg (Result.cells (Result.mk 0 0 0 false 0)).toArray), (.int .i64 (-1))], ⟨(.agg (Result.cells (Result.mk 0 0 0 false 0)).toArray), _, rfl, ⟨_, 5, (Result.cells (Result.mk 0 0 0 false 0)), rfl, rfl, rfl, rfl, ⟨rfl, Rdc.blk Mb0 rfl⟩, rfl⟩, ⟨(.int .i64 (-1)), _, rfl, rfl, rfl⟩⟩, ?_⟩
  refine Re0<|Shift.done<|?_
  exact ⟨rfl, rfl⟩
 ·intro h19
  have h19 := dcd_f (h19)
  have H := iff_ h19 H
  refine Cw_skip<|Cw_seq<|Cw_region<|Ow_q rfl rfl rfl (Qt_move rfl)<|Ow_q rfl rfl rfl (Qt_move rfl)<|?_
  obtain ⟨x20, hx21, H⟩ := bnd H
  have hs22 := (hp0).mono hK17
  obtain ⟨r23, hr24, hk25⟩ := Slr.at hs22 hx21
  obtain rfl := hr24
  refine Ow_q rfl rfl rfl (Q_ix (T := TyEvent) hs22 hx21 rfl rfl rfl rfl rfl)<|Ow_q rfl rfl rfl (Qt_fieldAddr (m := 3) rfl rfl rfl rfl rfl)<|Ow_q rfl rfl rfl (Qt_loadA (m := 5) (cs := (Result.cells x20.result)) rfl rfl rfl rfl ⟨rfl, Rdc.k hk25 rfl⟩)<|Ow_q rfl rfl rfl (Qt_move rfl)<|?_
  refine Ow_cons rfl (OpW_store (vs := (Result.cells x20.result)) (all' := (Result.cells x20.result)) rfl rfl rfl rfl rfl .here rfl rfl rfl ?_)
  refine Ow_q rfl rfl rfl (Qt_assign rfl)<|Ow_nil<|Cw_ret<|?_
  obtain ⟨ey0, ey1⟩ := inj2 H
  subst y0 y1
  refine ⟨(by first | exact .inl rfl | exact .inr rfl), [(.agg (Result.cells x20.result).toArray), (.int .i64 x14)], ⟨(.agg (Result.cells x20.result).toArray), _, rfl, ⟨_, 5, (Result.cells x20.result), rfl, rfl, rfl, rfl, ⟨rfl, Rdc.blk Mb0 rfl⟩, rfl⟩, ⟨(.int .i64 x14), _, rfl, rfl, rfl⟩⟩, ?_⟩
  refine Re0<|Shift.done<|?_
  exact ⟨rfl, rfl⟩



end Go.Hx

namespace Go.Hx
open Go Go.Proofs
set_option linter.unusedSimpArgs false
set_option linter.unusedVariables false
set_option maxRecDepth 10000
set_option maxHeartbeats 1000000 in
theorem c_M_43z (p0 : Op) (vp0_cases : SV) (vp0_draws : SV) (p1 : Result) (y0 : Case) (y1 : Bool) (H : M_43z p0 p1 = some (y0, y1)) (K : Kp) (G : List Ent) (hp0_cases : Slr TyCase K (sv vp0_cases) p0.cases) (hp0_draws : Slr Ty.i64 K (sv vp0_draws) p0.draws) :
  Fc Try.prog 72 #[(.agg (Op.cells p0 vp0_cases vp0_draws).toArray), (.agg (Result.cells p1).toArray)] K (G) (fun v K' G' => v = (.tuple #[(.agg (Case.cells y0).toArray), (.bool y1)]) ∧ K = K' ∧ G = G') := by
 refine Fc_body Try.func72 rfl Try.ntmps72 Try.results72 rfl ?_
 unfold M_43z at H
 refine Cw_seq<|Cw_region<|?_
 refine Ow_cons rfl (OpW_box (cs := (Op.cells p0 vp0_cases vp0_draws)) rfl rfl rfl (fun b27 => ?_))
 refine Ow_cons rfl (OpW_box (cs := (Result.cells p1)) rfl rfl rfl (fun b28 => ?_))
 refine Ow_cons rfl (OpW_alloc (cs := (Case.cells (Case.mk false 0 0))) rfl rfl rfl rfl (fun b29 => ?_))
 refine Ow_q rfl rfl rfl (Qt_assign rfl)<|Ow_nil<|Cw_seq<|Cw_seq<|Cw_region<|Ow_q rfl rfl rfl (Qt_fieldAddr (m := 0) rfl rfl rfl rfl rfl)<|Ow_q rfl rfl rfl (Qt_load1 (v := (.int .i64 p0.kind)) rfl rfl rfl (Rdc.blk Mb2 rfl))<|Ow_q rfl rfl rfl (Qt_cmp rfl rfl rfl)<|Ow_nil<|?_
 refine Cw_cond rfl ?_ ?_
 ·intro h34
  have h34 := dcd_f (nt_t (h34))
  have H := iff_ h34 H
  refine Cw_seq<|Cw_region<|Ow_q rfl rfl rfl (Qt_loadA (m := 7) (cs := (Op.cells p0 vp0_cases vp0_draws)) rfl rfl rfl rfl ⟨rfl, Rdc.blk Mb2 rfl⟩)<|?_
  obtain ⟨x35, x36, hx37, H⟩ := bnd2 H
  refine Ow_cons rfl (OpW_call rfl Try.call100 rfl rfl (c_M_62z p0 vp0_cases vp0_draws x35 x36 hx37 _ _ hp0_cases hp0_draws) ?_)
  rintro _ _ _ - ⟨rfl, rfl, rfl⟩
  refine Ow_q rfl rfl rfl (Qt_extract rfl rfl)<|Ow_q rfl rfl rfl (Qt_extract rfl rfl)<|?_
  refine Ow_cons rfl (OpW_store (vs := (Case.cells x35)) (all' := (Case.cells x35)) rfl rfl rfl rfl rfl .here rfl rfl rfl ?_)
  refine Ow_q rfl rfl rfl (Qt_assign rfl)<|Ow_nil<|Cw_ret<|?_
  obtain ⟨ey0, ey1⟩ := inj2 H
  subst y0 y1
  refine ⟨(by first | exact .inl rfl | exact .inr rfl), [(.agg (Case.cells x35).toArray), (.bool x36)], ⟨(.agg (Case.cells x35).toArray), _, rfl, ⟨_, 3, (Case.cells x35), rfl, rfl, rfl, rfl, ⟨rfl, Rdc.blk Mb0 rfl⟩, rfl⟩, ⟨(.bool x36), _, rfl, rfl, rfl⟩⟩, ?_⟩
  refine Re0<|Re0<|Re0<|Shift.done<|?_
  exact ⟨rfl, rfl, rfl⟩
 ·intro h34
  have h34 := dcd_t (nt_f (h34))
  have H := ift h34 H
  refine Cw_skip<|Cw_seq<|?_
  refine Cw_join (fun env' K' G' => ∃ (t53 : Bool) (i54 : Int) (i55 : Int) (i56 : Int) (i57 : Int) (i58 : Int) (i59 : Int) (i60 : Int) (i61 : Int) (i62 : Int) (i63 : Int) (i64 : Int), [(2, (.pointer (some ((⟨b27, 0, none⟩ : Addr).add 0)))), (3, (.pointer (some ((⟨b28, 0, none⟩ : Addr).add 0)))), (4, (.pointer (some ((⟨b29, 0, none⟩ : Addr).add 0)))), (23, (.bool t53))] = env' ∧ K = K' ∧ (.blk b29 73 (Case.cells (Case.mk false i54 i55))) :: (.blk b28 25 (Result.cells (Result.mk i56 i57 i58 p1.ok i59))) :: (.blk b27 38 (Op.cells (Op.mk i60 i61 i62 i63 i64 p0.cases p0.draws) vp0_cases vp0_draws)) :: G = G' ∧ M_130z p1 p0 t53 i54 i55 i56 i57 i58 i59 i60 i61 i62 i63 i64 = some (y0, y1)) ?_ ?_
  ·skip
   refine Cw_region<|Ow_q rfl rfl rfl (Qt_fieldAddr (m := 1) rfl rfl rfl rfl rfl)<|Ow_q rfl rfl rfl (Qt_load1 (v := (.int .i64 p1.case_)) rfl rfl rfl (Rdc.blk Mb1 rfl))<|Ow_q rfl rfl rfl (Qt_cmp rfl rfl rfl)<|Ow_q rfl rfl rfl (Qt_move rfl)<|?_
   refine Ow_caseG rfl rfl rfl ?_ ?_
   ·intro h65
    have h65 := dcd_t (h65)
    have H := ift h65 H
    refine Ow_pass rfl rfl rfl rfl rfl rfl rfl<|Ow_pass rfl rfl rfl rfl rfl rfl rfl<|Ow_pass rfl rfl rfl rfl rfl rfl rfl<|Ow_pass rfl rfl rfl rfl rfl rfl rfl<|Ow_pass rfl rfl rfl rfl rfl rfl rfl<|Ow_pass rfl rfl rfl rfl rfl rfl rfl<|Ow_q rfl rfl rfl (Qt_pick_t rfl rfl)<|Ow_nil<|Pu2<|Pu2<|?_
    refine Pu2<|Shift.done<|?_
    exact ⟨_, by exact ⟨rfl, rfl, rfl, rfl, trivial⟩, true, 0, 0, p1.kind, p1.case_, p1.value, p1.number, p0.kind, p0.mode, p0.channel, p0.value, p0.deadline, rfl, rfl, rfl, H⟩
   ·intro h65
    have h65 := dcd_f (h65)
    have H := iff_ h65 H
    refine Ow_qw rfl rfl rfl rfl rfl rfl (Qt_fieldAddr (m := 1) rfl rfl rfl rfl rfl)<|Ow_qw rfl rfl rfl rfl rfl rfl (Qt_load1 (v := (.int .i64 p1.case_)) rfl rfl rfl (Rdc.blk Mb1 rfl))<|Ow_qw rfl rfl rfl rfl rfl rfl (Qt_fieldAddr (m := 5) rfl rfl rfl rfl rfl)<|Ow_qw rfl rfl rfl rfl rfl rfl (Qt_load1 (v := (sv vp0_cases)) rfl rfl rfl (Rdc.blk Mb2 rfl))<|Ow_qw rfl rfl rfl rfl rfl rfl (Q_len (T := TyCase) hp0_cases rfl rfl)<|Ow_qw rfl rfl rfl rfl rfl rfl (Qt_cmp rfl rfl rfl)<|Ow_q rfl rfl rfl (Qt_pick_f rfl rfl)<|Ow_nil<|Pu2<|Pu2<|?_
    refine Pu2<|Shift.done<|?_
    exact ⟨_, by exact ⟨rfl, rfl, rfl, rfl, trivial⟩, (dcd (p1.case_ ≥ (p0.cases.length : Int))), 0, 0, p1.kind, p1.case_, p1.value, p1.number, p0.kind, p0.mode, p0.channel, p0.value, p0.deadline, rfl, rfl, rfl, H⟩
  rintro _ _ _ - ⟨t53, i54, i55, i56, i57, i58, i59, i60, i61, i62, i63, i64, rfl, rfl, rfl, H⟩
  unfold M_130z at H
  refine Cw_cond rfl ?_ ?_
  ·intro h66
   have H := ift h66 H
   refine Cw_seq<|Cw_region<|Ow_q rfl rfl rfl (Qt_build (cs := (Case.cells (Case.mk false 0 0))) rfl rfl rfl rfl rfl rfl)<|?_
   refine Ow_cons rfl (OpW_store (vs := (Case.cells (Case.mk false 0 0))) (all' := (Case.cells (Case.mk false 0 0))) rfl rfl rfl rfl rfl .here rfl rfl rfl ?_)
   refine Ow_q rfl rfl rfl (Qt_assign rfl)<|Ow_nil<|Cw_ret<|?_
   obtain ⟨ey0, ey1⟩ := inj2 H
   subst y0 y1
   refine ⟨(by first | exact .inl rfl | exact .inr rfl), [(.agg (Case.cells (Case.mk false 0 0)).toArray), (.bool false)], ⟨(.agg (Case.cells (Case.mk false 0 0)).toArray), _, rfl, ⟨_, 3, (Case.cells (Case.mk false 0 0)), rfl, rfl, rfl, rfl, ⟨rfl, Rdc.blk Mb0 rfl⟩, rfl⟩, ⟨(.bool false), _, rfl, rfl, rfl⟩⟩, ?_⟩
   refine Re0<|Re0<|Re0<|Shift.done<|?_
   exact ⟨rfl, rfl, rfl⟩
  ·intro h66
   have H := iff_ (btf h66) H
   refine Cw_skip<|Cw_seq<|Cw_region<|Ow_q rfl rfl rfl (Qt_fieldAddr (m := 5) rfl rfl rfl rfl rfl)<|Ow_q rfl rfl rfl (Qt_load1 (v := (sv vp0_cases)) rfl rfl rfl (Rdc.blk Mb2 rfl))<|Ow_q rfl rfl rfl (Qt_fieldAddr (m := 1) rfl rfl rfl rfl rfl)<|Ow_q rfl rfl rfl (Qt_load1 (v := (.int .i64 i57)) rfl rfl rfl (Rdc.blk Mb1 rfl))<|?_
   obtain ⟨x67, hx68, H⟩ := bnd H
   obtain ⟨r69, hr70, hk71⟩ := Slr.at hp0_cases hx68
   obtain rfl := hr70
   refine Ow_q rfl rfl rfl (Q_ix (T := TyCase) hp0_cases hx68 rfl rfl rfl rfl rfl)<|Ow_q rfl rfl rfl (Qt_loadA (m := 3) (cs := (Case.cells x67)) rfl rfl rfl rfl ⟨rfl, Rdc.k hk71 rfl⟩)<|?_
   refine Ow_cons rfl (OpW_store (vs := (Case.cells x67)) (all' := (Case.cells x67)) rfl rfl rfl rfl rfl .here rfl rfl rfl ?_)
   refine Ow_q rfl rfl rfl (Qt_assign rfl)<|Ow_nil<|Cw_ret<|?_
   obtain ⟨ey0, ey1⟩ := inj2 H
   subst y0 y1
   refine ⟨(by first | exact .inl rfl | exact .inr rfl), [(.agg (Case.cells x67).toArray), (.bool true)], ⟨(.agg (Case.cells x67).toArray), _, rfl, ⟨_, 3, (Case.cells x67), rfl, rfl, rfl, rfl, ⟨rfl, Rdc.blk Mb0 rfl⟩, rfl⟩, ⟨(.bool true), _, rfl, rfl, rfl⟩⟩, ?_⟩
   refine Re0<|Re0<|Re0<|Shift.done<|?_
   exact ⟨rfl, rfl, rfl⟩

set_option maxHeartbeats 1000000 in
theorem c_M_132z (p0 : List (List Op)) (vp0 : SV) (p1 : List Event) (vp1 : SV) (p2 : Int) (p3 : Bool) (y0 : List Int) (H : M_132z p0 p1 p2 p3 = some y0) (K : Kp) (G : List Ent) (hp0 : Slr (Ty.sl TyOp) K (sv vp0) p0) (hp1 : Slr TyEvent K (sv vp1) p1) :
  Fc Try.prog 38 #[(sv vp0), (sv vp1), (.int .i64 p2), (.bool p3)] K (G) (fun v K' G' => ∃ (wy0 : SV), v = (sv wy0) ∧ (.tok 23 1 [(sv wy0)]) :: G = G' ∧ Slr Ty.u64 K' (sv wy0) y0) := by
 refine Fc_body Try.func38 rfl Try.ntmps38 Try.results38 rfl ?_
 unfold M_132z at H
 refine Cw_seq<|Cw_region<|Ow_q rfl rfl rfl (Qt_assign rfl)<|Ow_nil<|Cw_seq<|Cw_region<|Ow_q rfl rfl rfl (Qt_assign rfl)<|Ow_nil<|?_
 refine Cw_join (fun env' K' G' => ∃ (v398 : SV) (l399 : List Int), [(9, (sv v398))] = env' ∧ (.tok 23 1 [(sv v398)]) :: G = G' ∧ M_196z l399 = some y0 ∧ Slr Ty.u64 K' (sv v398) l399) ?_ ?_
 ·skip
  refine Cw_seq<|Cw_region<|Ow_q rfl rfl rfl (Qt_assign rfl)<|Ow_nil<|Cw_block<|?_
  refine Cw_loopM (fun n587 env' K' G' => ∃ (v583 : SV) (l584 : List Int) (i586 : Int), [(0, (sv vp0)), (1, (sv vp1)), (2, (.int .i64 p2)), (3, (.bool p3)), (9, (sv v583)), (10, (.int .i64 i586))] = env' ∧ (.tok 23 1 [(sv v583)]) :: G = G' ∧ lp2 (M_168z p0 p1 p2 p3) n587 l584 i586 = some y0 ∧ Slr Ty.u64 K' (sv v583) l584) BIG ?_ ?_
  ·skip
   refine Shift.nilTok1 23 1<|Shift.done<|?_
   exact ⟨_, by exact ⟨rfl, rfl, rfl, rfl, rfl, rfl, trivial⟩, nilS, ([] : List Int), 0, rfl, rfl, H, (Slr.nil Ty.u64 _)⟩
  rintro n587 _ K588 _ hK589 ⟨v583, l584, i586, rfl, rfl, H, hs585⟩
  obtain ⟨m590, k591, rfl, hkk592, H⟩ := lps2 H
  unfold M_168z at H
  refine Cw_seq<|Cw_seq<|Cw_region<|Ow_q rfl rfl rfl (Qt_move rfl)<|Ow_q rfl rfl rfl (Qt_move rfl)<|?_
  have hs595 := (hp1).mono hK589
  refine Ow_q rfl rfl rfl (Q_len (T := TyEvent) hs595 rfl rfl)<|Ow_q rfl rfl rfl (Qt_cmp rfl rfl rfl)<|Ow_nil<|?_
  refine Cw_cond rfl ?_ ?_
  ·intro h596
   have h596 := dcd_t (h596)
   have H := ift h596 H
   refine Cw_skip ?_
   refine Cw_join (fun env' K' G' => ∃ (v677 : SV) (l678 : List Int), [(0, (sv vp0)), (1, (sv vp1)), (2, (.int .i64 p2)), (3, (.bool p3)), (9, (sv v677)), (10, (.int .i64 i586))] = env' ∧ (.tok 23 1 [(sv v677)]) :: G = G' ∧ M_10z p0 p1 p2 p3 i586 k591 l678 = some y0 ∧ Slr Ty.u64 K' (sv v677) l678) ?_ ?_
   ·skip
    refine Cw_block<|Cw_seq<|Cw_region<|Ow_q rfl rfl rfl (Qt_move rfl)<|Ow_q rfl rfl rfl (Qt_move rfl)<|?_
    obtain ⟨x680, hx681, H⟩ := bnd H
    obtain ⟨r682, hr683, hk684⟩ := Slr.at hs595 hx681
    obtain rfl := hr683
    refine Ow_q rfl rfl rfl (Q_ix (T := TyEvent) hs595 hx681 rfl rfl rfl rfl rfl)<|Ow_q rfl rfl rfl (Qt_loadA (m := 8) (cs := (Event.cells x680)) rfl rfl rfl rfl ⟨rfl, Rdc.k hk684 rfl⟩)<|?_
    refine Ow_cons rfl (OpW_alloc (cs := (Event.cells (Event.mk 0 0 false (Result.mk 0 0 0 false 0)))) rfl rfl rfl rfl (fun b685 => ?_))
    refine Ow_cons rfl (OpW_store (vs := (Event.cells x680)) (all' := (Event.cells x680)) rfl rfl rfl rfl rfl .here rfl rfl rfl ?_)
    refine Ow_nil<|Cw_seq<|Cw_seq<|Cw_region<|Ow_q rfl rfl rfl (Qt_fieldAddr (m := 2) rfl rfl rfl rfl rfl)<|Ow_q rfl rfl rfl (Qt_load1 (v := (.bool x680.ret)) rfl rfl rfl (Rdc.blk Mb0 rfl))<|Ow_q rfl rfl rfl (Qt_not rfl)<|Ow_nil<|?_
    refine Cw_cond rfl ?_ ?_
    ·intro h687
     have h687 := nt_t (h687)
     have H := iff_ (btf h687) H
     refine Cw_exit<|Pu1<|Re1<|Shift.done<|?_
     exact ⟨_, by exact ⟨rfl, rfl, rfl, rfl, rfl, rfl, trivial⟩, v583, l584, rfl, rfl, H, hs585⟩
    ·intro h687
     have h687 := nt_f (h687)
     have H := ift h687 H
     refine Cw_skip ?_
     refine Cw_join (fun env' K' G' => ∃ (b724 : Nat) (t725 : Bool) (t726 : Bool) (i727 : Int) (i728 : Int), [(0, (sv vp0)), (1, (sv vp1)), (2, (.int .i64 p2)), (3, (.bool p3)), (9, (sv v583)), (10, (.int .i64 i586)), (11, (.pointer (some ((⟨b685, 0, none⟩ : Addr).add 0)))), (12, (.pointer (some ((⟨b724, 0, none⟩ : Addr).add 0)))), (13, (.bool t725))] = env' ∧ K588 = K' ∧ (.blk b724 73 (Case.cells (Case.mk t726 i727 i728))) :: (.blk b685 65 (Event.cells x680)) :: (.tok 23 1 [(sv v583)]) :: G = G' ∧ M_131z p0 p1 p2 p3 l584 i586 x680 k591 t725 t726 i727 i728 = some y0) ?_ ?_
     ·skip
      obtain ⟨x729, hx730, H⟩ := bnd H
      obtain ⟨x737, hx738, H⟩ := bnd H
      obtain ⟨x746, x747, hx748, H⟩ := bnd2 H
      refine Cw_region_any [.blk b685 65 (Event.cells x680), .tok 23 1 [(sv v583)]] rfl (Inc.cons Mb0 (Inc.cons Mb1 Inc.nil))<|Awq 0 rfl (by kernel_rfl) rfl rfl rfl (Qt_move rfl)<|Awq 1 rfl (by kernel_rfl) rfl rfl rfl (Qt_fieldAddr (m := 0) rfl rfl rfl rfl rfl)<|Awq 2 rfl (by kernel_rfl) rfl rfl rfl (Qt_load1 (v := (.int .i64 x680.thread)) rfl rfl rfl (Rdc.blk Mb0 rfl))<|?_
      have hs750 := (hp0).mono hK589
      obtain ⟨r751, hr752, hk753⟩ := Slr.at hs750 hx730
      obtain ⟨v754, rfl, hs755⟩ := hr752
      refine Awq 3 rfl (by kernel_rfl) rfl rfl rfl (Q_ix (T := (Ty.sl TyOp)) hs750 hx730 rfl rfl rfl rfl rfl)<|Awq 4 rfl (by kernel_rfl) rfl rfl rfl (Qt_load1 (v := (sv v754)) rfl rfl rfl (Rdc.k hk753 rfl))<|Awq 5 rfl (by kernel_rfl) rfl rfl rfl (Qt_fieldAddr (m := 1) rfl rfl rfl rfl rfl)<|Awq 6 rfl (by kernel_rfl) rfl rfl rfl (Qt_load1 (v := (.int .i64 x680.op)) rfl rfl rfl (Rdc.blk Mb0 rfl))<|?_
      obtain ⟨r756, hr757, hk758⟩ := Slr.at hs755 hx738
      obtain ⟨v759, v760, rfl, hs761, hs762⟩ := hr757
      refine Awq 7 rfl (by kernel_rfl) rfl rfl rfl (Q_ix (T := TyOp) hs755 hx738 rfl rfl rfl rfl rfl)<|Awq 8 rfl (by kernel_rfl) rfl rfl rfl (Qt_loadA (m := 7) (cs := (Op.cells x737 v759 v760)) rfl rfl rfl rfl ⟨rfl, Rdc.k hk758 rfl⟩)<|Awq 9 rfl (by kernel_rfl) rfl rfl rfl (Qt_fieldAddr (m := 3) rfl rfl rfl rfl rfl)<|Awq 10 rfl (by kernel_rfl) rfl rfl rfl (Qt_loadA (m := 5) (cs := (Result.cells x680.result)) rfl rfl rfl rfl ⟨rfl, Rdc.blk Mb0 rfl⟩)<|?_
      refine Aw_two 11 15 (by kernel_rfl) ?_ ?_
      ·skip
       refine id (Ax_mk rfl rfl ?_)
       refine OpW_call rfl Try.call72 rfl rfl (c_M_43z x737 v759 v760 x680.result x746 x747 hx748 _ _ hs761 hs762) ?_
       rintro _ _ _ - ⟨rfl, rfl, rfl⟩
       refine ⟨(Inc.cons Mb0 (Inc.cons Mb1 Inc.nil)), ?_⟩
       refine Awq 12 rfl (by kernel_rfl) rfl rfl rfl (Qt_move rfl)<|Awq 13 rfl (by kernel_rfl) rfl rfl rfl (Qt_extract rfl rfl)<|Awq 14 rfl (by kernel_rfl) rfl rfl rfl (Qt_extract rfl rfl)<|?_
       refine Aw_one 15 (by kernel_rfl) (Ax_mk rfl rfl ?_)
       refine OpW_alloc (cs := (Case.cells (Case.mk false 0 0))) rfl rfl rfl rfl (fun b763 => ⟨(Inc.cons Mb1 (Inc.cons Mb2 Inc.nil)), ?_⟩)
       refine Aw_one 16 (by kernel_rfl) (Ax_mk rfl rfl ?_)
       refine OpW_store (vs := (Case.cells x746)) (all' := (Case.cells x746)) rfl rfl rfl rfl rfl .here rfl rfl rfl ⟨(Inc.cons Mb1 (Inc.cons Mb2 Inc.nil)), ?_⟩
       refine Awq 17 rfl (by kernel_rfl) rfl rfl rfl (Qt_assign rfl)<|Aw_done (by kernel_rfl)<|Pu2<|Pu2<|Pu2<|Shift.done<|?_
       exact ⟨_, by exact ⟨rfl, rfl, rfl, rfl, rfl, rfl, rfl, rfl, rfl, trivial⟩, b763, x747, x746.send, x746.channel, x746.value, rfl, rfl, rfl, H⟩
      ·skip
       refine id (Ax_mk rfl rfl ?_)
       refine OpW_alloc (cs := (Case.cells (Case.mk false 0 0))) rfl rfl rfl rfl (fun b764 => ⟨(Inc.cons Mb1 (Inc.cons Mb2 Inc.nil)), ?_⟩)
       refine Aw_one 11 (by kernel_rfl) (Ax_mk rfl rfl ?_)
       refine OpW_call rfl Try.call72 rfl rfl (c_M_43z x737 v759 v760 x680.result x746 x747 hx748 _ _ hs761 hs762) ?_
       rintro _ _ _ - ⟨rfl, rfl, rfl⟩
       refine ⟨(Inc.cons Mb1 (Inc.cons Mb2 Inc.nil)), ?_⟩
       refine Awq 12 rfl (by kernel_rfl) rfl rfl rfl (Qt_move rfl)<|Awq 13 rfl (by kernel_rfl) rfl rfl rfl (Qt_extract rfl rfl)<|Awq 14 rfl (by kernel_rfl) rfl rfl rfl (Qt_extract rfl rfl)<|?_
       refine Aw_one 16 (by kernel_rfl) (Ax_mk rfl rfl ?_)
       refine OpW_store (vs := (Case.cells x746)) (all' := (Case.cells x746)) rfl rfl rfl rfl rfl .here rfl rfl rfl ⟨(Inc.cons Mb1 (Inc.cons Mb2 Inc.nil)), ?_⟩
       refine Awq 17 rfl (by kernel_rfl) rfl rfl rfl (Qt_assign rfl)<|Aw_done (by kernel_rfl)<|Pu2<|Pu2<|Pu2<|Shift.done<|?_
       exact ⟨_, by exact ⟨rfl, rfl, rfl, rfl, rfl, rfl, rfl, rfl, rfl, trivial⟩, b764, x747, x746.send, x746.channel, x746.value, rfl, rfl, rfl, H⟩
     rintro _ _ _ - ⟨b724, t725, t726, i727, i728, rfl, rfl, rfl, H⟩
     unfold M_131z at H
     refine Cw_seq ?_
     refine Cw_join (fun env' K' G' => ∃ (t771 : Bool), [(0, (sv vp0)), (1, (sv vp1)), (2, (.int .i64 p2)), (3, (.bool p3)), (9, (sv v583)), (10, (.int .i64 i586)), (11, (.pointer (some ((⟨b685, 0, none⟩ : Addr).add 0)))), (12, (.pointer (some ((⟨b724, 0, none⟩ : Addr).add 0)))), (55, (.bool t771))] = env' ∧ K588 = K' ∧ (.blk b724 73 (Case.cells (Case.mk t726 i727 i728))) :: (.blk b685 65 (Event.cells x680)) :: (.tok 23 1 [(sv v583)]) :: G = G' ∧ M_44z p0 p1 p2 p3 l584 i586 t726 i727 i728 x680 k591 t771 = some y0) ?_ ?_
     ·skip
      refine Cw_region<|Ow_q rfl rfl rfl (Qt_move rfl)<|Ow_q rfl rfl rfl (Qt_not rfl)<|Ow_q rfl rfl rfl (Qt_move rfl)<|?_
      refine Ow_caseG rfl rfl rfl ?_ ?_
      ·intro h772
       have h772 := nt_t (h772)
       have H := iff_ (btf h772) H
       refine Ow_pass rfl rfl rfl rfl rfl rfl rfl<|Ow_pass rfl rfl rfl rfl rfl rfl rfl<|Ow_pass rfl rfl rfl rfl rfl rfl rfl<|Ow_pass rfl rfl rfl rfl rfl rfl rfl<|Ow_q rfl rfl rfl (Qt_pick_t rfl rfl)<|Ow_q rfl rfl rfl (Qt_move rfl)<|Ow_pass rfl rfl rfl rfl rfl rfl rfl<|Ow_pass rfl rfl rfl rfl rfl rfl rfl<|Ow_pass rfl rfl rfl rfl rfl rfl rfl<|Ow_pass rfl rfl rfl rfl rfl rfl rfl<|?_
       refine Ow_q rfl rfl rfl (Qt_pick_t rfl rfl)<|Ow_nil<|Pu2<|Pu2<|Pu2<|Shift.done<|?_
       exact ⟨_, by exact ⟨rfl, rfl, rfl, rfl, rfl, rfl, rfl, rfl, rfl, trivial⟩, true, rfl, rfl, rfl, H⟩
      ·intro h772
       have h772 := nt_f (h772)
       have H := ift h772 H
       refine Ow_qw rfl rfl rfl rfl rfl rfl (Qt_fieldAddr (m := 1) rfl rfl rfl rfl rfl)<|Ow_qw rfl rfl rfl rfl rfl rfl (Qt_load1 (v := (.int .i64 i727)) rfl rfl rfl (Rdc.blk Mb0 rfl))<|Ow_qw rfl rfl rfl rfl rfl rfl (Qt_move rfl)<|Ow_qw rfl rfl rfl rfl rfl rfl (Qt_cmp rfl rfl rfl)<|Ow_q rfl rfl rfl (Qt_pick_f rfl rfl)<|Ow_q rfl rfl rfl (Qt_move rfl)<|?_
       refine Ow_caseG rfl rfl rfl ?_ ?_
       ·intro h773
        have h773 := dcd_f (nt_t (h773))
        have H := iff_ h773 H
        refine Ow_pass rfl rfl rfl rfl rfl rfl rfl<|Ow_pass rfl rfl rfl rfl rfl rfl rfl<|Ow_pass rfl rfl rfl rfl rfl rfl rfl<|Ow_pass rfl rfl rfl rfl rfl rfl rfl<|Ow_q rfl rfl rfl (Qt_pick_t rfl rfl)<|Ow_nil<|Pu2<|Pu2<|Pu2<|Shift.done<|?_
        exact ⟨_, by exact ⟨rfl, rfl, rfl, rfl, rfl, rfl, rfl, rfl, rfl, trivial⟩, true, rfl, rfl, rfl, H⟩
       ·intro h773
        have h773 := dcd_t (nt_f (h773))
        have H := ift h773 H
        refine Ow_qw rfl rfl rfl rfl rfl rfl (Qt_fieldAddr (m := 0) rfl rfl rfl rfl rfl)<|Ow_qw rfl rfl rfl rfl rfl rfl (Qt_load1 (v := (.bool t726)) rfl rfl rfl (Rdc.blk Mb0 rfl))<|Ow_qw rfl rfl rfl rfl rfl rfl (Qt_move rfl)<|Ow_qw rfl rfl rfl rfl rfl rfl (Qt_neB rfl rfl rfl)<|Ow_q rfl rfl rfl (Qt_pick_f rfl rfl)<|Ow_nil<|Pu2<|Pu2<|Pu2<|Shift.done<|?_
        exact ⟨_, by exact ⟨rfl, rfl, rfl, rfl, rfl, rfl, rfl, rfl, rfl, trivial⟩, (!((t726 == p3))), rfl, rfl, rfl, H⟩
     rintro _ _ _ - ⟨t771, rfl, rfl, rfl, H⟩
     unfold M_44z at H
     refine Cw_cond rfl ?_ ?_
     ·intro h774
      have H := ift h774 H
      refine Cw_exit<|Pu2<|Re1<|Re1<|Shift.done<|?_
      exact ⟨_, by exact ⟨rfl, rfl, rfl, rfl, rfl, rfl, trivial⟩, v583, l584, rfl, rfl, H, hs585⟩
     ·intro h774
      have H := iff_ (btf h774) H
      refine Cw_skip ?_
      refine Cw_join (fun env' K' G' => ∃ (v786 : SV) (l787 : List Int), [(0, (sv vp0)), (1, (sv vp1)), (2, (.int .i64 p2)), (3, (.bool p3)), (9, (sv v786)), (10, (.int .i64 i586)), (11, (.pointer (some ((⟨b685, 0, none⟩ : Addr).add 0))))] = env' ∧ (.blk b685 65 (Event.cells x680)) :: (.tok 23 1 [(sv v786)]) :: G = G' ∧ M_76z p0 p1 p2 p3 i586 x680 k591 l787 = some y0 ∧ Slr Ty.u64 K' (sv v786) l787) ?_ ?_
      ·skip
       refine Cw_join (fun env' K' G' => ∃ (t790 : Bool), [(0, (sv vp0)), (1, (sv vp1)), (2, (.int .i64 p2)), (3, (.bool p3)), (9, (sv v583)), (10, (.int .i64 i586)), (11, (.pointer (some ((⟨b685, 0, none⟩ : Addr).add 0)))), (12, (.pointer (some ((⟨b724, 0, none⟩ : Addr).add 0)))), (62, (.bool t790))] = env' ∧ K588 = K' ∧ (.blk b724 73 (Case.cells (Case.mk t726 i727 i728))) :: (.blk b685 65 (Event.cells x680)) :: (.tok 23 1 [(sv v583)]) :: G = G' ∧ M_77z p0 p1 p2 p3 l584 i586 t726 i727 i728 x680 k591 t790 = some y0) ?_ ?_
       ·skip
        refine Cw_region<|Ow_q rfl rfl rfl (Qt_move rfl)<|Ow_q rfl rfl rfl (Qt_move rfl)<|?_
        refine Ow_caseG rfl rfl rfl ?_ ?_
        ·intro h791
         have H := ift h791 H
         refine Ow_qw rfl rfl rfl rfl rfl rfl (Qt_fieldAddr (m := 3) rfl rfl rfl rfl rfl)<|Ow_qw rfl rfl rfl rfl rfl rfl (Qt_fieldAddr (m := 3) rfl rfl rfl rfl rfl)<|Ow_qw rfl rfl rfl rfl rfl rfl (Qt_load1 (v := (.int .i64 x680.result.kind)) rfl rfl rfl (Rdc.blk Mb1 rfl))<|Ow_qw rfl rfl rfl rfl rfl rfl (Qt_cmp rfl rfl rfl)<|Ow_q rfl rfl rfl (Qt_pick_t rfl rfl)<|Ow_nil<|Pu2<|Pu2<|Pu2<|Shift.done<|?_
         exact ⟨_, by exact ⟨rfl, rfl, rfl, rfl, rfl, rfl, rfl, rfl, rfl, trivial⟩, (dcd (x680.result.kind = 1)), rfl, rfl, rfl, H⟩
        ·intro h791
         have H := iff_ (btf h791) H
         refine Ow_pass rfl rfl rfl rfl rfl rfl rfl<|Ow_pass rfl rfl rfl rfl rfl rfl rfl<|Ow_pass rfl rfl rfl rfl rfl rfl rfl<|Ow_pass rfl rfl rfl rfl rfl rfl rfl<|Ow_q rfl rfl rfl (Qt_pick_f rfl rfl)<|Ow_nil<|Pu2<|Pu2<|Pu2<|Shift.done<|?_
         exact ⟨_, by exact ⟨rfl, rfl, rfl, rfl, rfl, rfl, rfl, rfl, rfl, trivial⟩, false, rfl, rfl, rfl, H⟩
       rintro _ _ _ - ⟨t790, rfl, rfl, rfl, H⟩
       unfold M_77z at H
       refine Cw_cond rfl ?_ ?_
       ·intro h792
        have H := ift h792 H
        refine Cw_region<|Ow_q rfl rfl rfl (Qt_move rfl)<|Ow_q rfl rfl rfl (Qt_fieldAddr (m := 2) rfl rfl rfl rfl rfl)<|Ow_q rfl rfl rfl (Qt_load1 (v := (.int .u64 i728)) rfl rfl rfl (Rdc.blk Mb0 rfl))<|?_
        have hR794 : RowR Ty.u64 K588 [[(.int .u64 i728)]] [i728] := RowR.cons rfl (RowR.nil)
        refine Ow_cons rfl (O_lit (T := Ty.u64) (rows := [[(.int .u64 i728)]]) (l := [i728]) rfl rfl rfl hR794 rfl rfl rfl rfl rfl rfl rfl rfl (fun v793 => ?_))
        obtain ⟨x795, hx796, H⟩ := bnd H
        refine Ow_cons rfl (O_appTok (T := Ty.u64) (bytes := 8) (q := 0) rfl rfl rfl hs585 Mb3 rfl (SrcT.row Mb0 hR794 rfl) hx796 rfl rfl rfl rfl rfl rfl rfl rfl (fun v797 K798 hK799 hs800 => ⟨_, (.there (.there (.there .here))), ?_⟩))
        refine Ow.shift (Re0 (Shift.done ?_))
        refine Ow_q rfl rfl rfl (Qt_assign rfl)<|Ow_nil<|Pu2<|Pu2<|Re2<|Shift.done<|?_
        exact ⟨_, by exact ⟨rfl, rfl, rfl, rfl, rfl, rfl, rfl, trivial⟩, v797, x795, rfl, rfl, H, hs800⟩
       ·intro h792
        have H := iff_ (btf h792) H
        refine Cw_skip<|Pu2<|Pu2<|Re2<|Shift.done<|?_
        exact ⟨_, by exact ⟨rfl, rfl, rfl, rfl, rfl, rfl, rfl, trivial⟩, v583, l584, rfl, rfl, H, hs585⟩
      rintro _ K801 _ hK802 ⟨v786, l787, rfl, rfl, H, hs788⟩
      unfold M_76z at H
      refine Cw_join (fun env' K' G' => ∃ (t805 : Bool), [(0, (sv vp0)), (1, (sv vp1)), (2, (.int .i64 p2)), (3, (.bool p3)), (9, (sv v786)), (10, (.int .i64 i586)), (11, (.pointer (some ((⟨b685, 0, none⟩ : Addr).add 0)))), (80, (.bool t805))] = env' ∧ K801 = K' ∧ (.blk b685 65 (Event.cells x680)) :: (.tok 23 1 [(sv v786)]) :: G = G' ∧ M_75z p0 p1 p2 p3 l787 i586 x680 k591 t805 = some y0) ?_ ?_
      ·skip
       refine Cw_region<|Ow_q rfl rfl rfl (Qt_move rfl)<|Ow_q rfl rfl rfl (Qt_not rfl)<|Ow_q rfl rfl rfl (Qt_move rfl)<|?_
       refine Ow_caseG rfl rfl rfl ?_ ?_
       ·intro h806
        have h806 := nt_t (h806)
        have H := iff_ (btf h806) H
        refine Ow_qw rfl rfl rfl rfl rfl rfl (Qt_fieldAddr (m := 3) rfl rfl rfl rfl rfl)<|Ow_qw rfl rfl rfl rfl rfl rfl (Qt_fieldAddr (m := 3) rfl rfl rfl rfl rfl)<|Ow_qw rfl rfl rfl rfl rfl rfl (Qt_load1 (v := (.int .i64 x680.result.kind)) rfl rfl rfl (Rdc.blk Mb0 rfl))<|Ow_qw rfl rfl rfl rfl rfl rfl (Qt_cmp rfl rfl rfl)<|Ow_q rfl rfl rfl (Qt_pick_t rfl rfl)<|Ow_q rfl rfl rfl (Qt_move rfl)<|?_
        refine Ow_caseG rfl rfl rfl ?_ ?_
        ·intro h807
         have h807 := dcd_t (h807)
         have H := ift h807 H
         refine Ow_qw rfl rfl rfl rfl rfl rfl (Qt_fieldAddr (m := 3) rfl rfl rfl rfl rfl)<|Ow_qw rfl rfl rfl rfl rfl rfl (Qt_fieldAddr (m := 6) rfl rfl rfl rfl rfl)<|Ow_qw rfl rfl rfl rfl rfl rfl (Qt_load1 (v := (.bool x680.result.ok)) rfl rfl rfl (Rdc.blk Mb0 rfl))<|Ow_q rfl rfl rfl (Qt_pick_t rfl rfl)<|Ow_nil<|Pu1<|Pu1<|Shift.done<|?_
         exact ⟨_, by exact ⟨rfl, rfl, rfl, rfl, rfl, rfl, rfl, rfl, trivial⟩, x680.result.ok, rfl, rfl, rfl, H⟩
        ·intro h807
         have h807 := dcd_f (h807)
         have H := iff_ h807 H
         refine Ow_pass rfl rfl rfl rfl rfl rfl rfl<|Ow_pass rfl rfl rfl rfl rfl rfl rfl<|Ow_pass rfl rfl rfl rfl rfl rfl rfl<|Ow_q rfl rfl rfl (Qt_pick_f rfl rfl)<|Ow_nil<|Pu1<|Pu1<|Shift.done<|?_
         exact ⟨_, by exact ⟨rfl, rfl, rfl, rfl, rfl, rfl, rfl, rfl, trivial⟩, false, rfl, rfl, rfl, H⟩
       ·intro h806
        have h806 := nt_f (h806)
        have H := ift h806 H
        refine Ow_pass rfl rfl rfl rfl rfl rfl rfl<|Ow_pass rfl rfl rfl rfl rfl rfl rfl<|Ow_pass rfl rfl rfl rfl rfl rfl rfl<|Ow_pass rfl rfl rfl rfl rfl rfl rfl<|Ow_q rfl rfl rfl (Qt_pick_f rfl rfl)<|Ow_q rfl rfl rfl (Qt_move rfl)<|Ow_pass rfl rfl rfl rfl rfl rfl rfl<|Ow_pass rfl rfl rfl rfl rfl rfl rfl<|Ow_pass rfl rfl rfl rfl rfl rfl rfl<|Ow_q rfl rfl rfl (Qt_pick_f rfl rfl)<|?_
        refine Ow_nil<|Pu1<|Pu1<|Shift.done<|?_
        exact ⟨_, by exact ⟨rfl, rfl, rfl, rfl, rfl, rfl, rfl, rfl, trivial⟩, false, rfl, rfl, rfl, H⟩
      rintro _ _ _ - ⟨t805, rfl, rfl, rfl, H⟩
      unfold M_75z at H
      refine Cw_cond rfl ?_ ?_
      ·intro h808
       have H := ift h808 H
       refine Cw_region<|Ow_q rfl rfl rfl (Qt_move rfl)<|Ow_q rfl rfl rfl (Qt_fieldAddr (m := 3) rfl rfl rfl rfl rfl)<|Ow_q rfl rfl rfl (Qt_fieldAddr (m := 5) rfl rfl rfl rfl rfl)<|Ow_q rfl rfl rfl (Qt_load1 (v := (.int .u64 x680.result.value)) rfl rfl rfl (Rdc.blk Mb0 rfl))<|?_
       have hR810 : RowR Ty.u64 K801 [[(.int .u64 x680.result.value)]] [x680.result.value] := RowR.cons rfl (RowR.nil)
       refine Ow_cons rfl (O_lit (T := Ty.u64) (rows := [[(.int .u64 x680.result.value)]]) (l := [x680.result.value]) rfl rfl rfl hR810 rfl rfl rfl rfl rfl rfl rfl rfl (fun v809 => ?_))
       obtain ⟨x811, hx812, H⟩ := bnd H
       refine Ow_cons rfl (O_appTok (T := Ty.u64) (bytes := 8) (q := 0) rfl rfl rfl hs788 Mb2 rfl (SrcT.row Mb0 hR810 rfl) hx812 rfl rfl rfl rfl rfl rfl rfl rfl (fun v813 K814 hK815 hs816 => ⟨_, (.there (.there .here)), ?_⟩))
       refine Ow.shift (Re0 (Shift.done ?_))
       refine Ow_q rfl rfl rfl (Qt_assign rfl)<|Ow_nil<|Pu1<|Re1<|Shift.done<|?_
       exact ⟨_, by exact ⟨rfl, rfl, rfl, rfl, rfl, rfl, trivial⟩, v813, x811, rfl, rfl, H, hs816⟩
      ·intro h808
       have H := iff_ (btf h808) H
       refine Cw_skip<|Pu1<|Re1<|Shift.done<|?_
       exact ⟨_, by exact ⟨rfl, rfl, rfl, rfl, rfl, rfl, trivial⟩, v786, l787, rfl, rfl, H, hs788⟩
   rintro _ K817 _ hK818 ⟨v677, l678, rfl, rfl, H, hs679⟩
   unfold M_10z at H
   refine Cw_region<|Ow_q rfl rfl rfl (Qt_move rfl)<|Ow_q rfl rfl rfl (Qt_arith (e := wI (i586 + 1)) rfl rfl rfl rfl)<|Ow_q rfl rfl rfl (Qt_assign rfl)<|Ow_nil<|Shift.done<|?_
   exact ⟨_, by exact ⟨rfl, rfl, rfl, rfl, rfl, rfl, trivial⟩, _, Nat.lt_succ_self _, v677, l678, (wI (i586 + 1)), rfl, rfl, (hkk592 ▸ H), hs679⟩
  ·intro h596
   have h596 := dcd_f (h596)
   have H := iff_ h596 H
   refine Cw_exit<|Shift.done<|?_
   exact ⟨_, by exact ⟨rfl, trivial⟩, v583, l584, rfl, rfl, H, hs585⟩
 rintro _ K819 _ hK820 ⟨v398, l399, rfl, rfl, H, hs400⟩
 unfold M_196z at H
 refine Cw_seq<|Cw_region<|Ow_q rfl rfl rfl (Qt_move rfl)<|Ow_q rfl rfl rfl (Qt_assign rfl)<|Ow_nil<|Cw_ret<|?_
 obtain ey0 := inj1 H
 subst y0
 refine ⟨(by first | exact .inl rfl | exact .inr rfl), [(sv v398)], ⟨(sv v398), _, rfl, rfl, rfl⟩, ?_⟩
 exact Shift.done ⟨v398, rfl, rfl, hs400⟩


end Go.Hx

namespace Go.Hx
open Go Go.Proofs
set_option linter.unusedSimpArgs false
set_option linter.unusedVariables false
set_option maxRecDepth 10000
set_option maxHeartbeats 1000000 in
theorem c_M_83z (p0 : List (List Op)) (vp0 : SV) (p1 : List Event) (vp1 : SV) (p2 : A2Int) (p3 : Int) (p4 : Int) (p5 : Int) (y0 : Bool) (H : M_83z p0 p1 p2 p3 p4 p5 = some y0) (K : Kp) (G : List Ent) (hp0 : Slr (Ty.sl TyOp) K (sv vp0) p0) (hp1 : Slr TyEvent K (sv vp1) p1) :
  Fc Try.prog 74 #[(sv vp0), (sv vp1), (.agg (A2Int.cells p2).toArray), (.int .i64 p3), (.int .u64 p4), (.int .i64 p5)] K (G) (fun v K' G' => v = (.bool y0) ∧ G = G') := by
 refine Fc_body Try.func74 rfl Try.ntmps74 Try.results74 rfl ?_
 unfold M_83z at H
 refine Cw_seq<|Cw_region<|?_
 refine Ow_cons rfl (OpW_box (cs := (A2Int.cells p2)) rfl rfl rfl (fun b114 => ?_))
 refine Ow_q rfl rfl rfl (Qt_assign rfl)<|Ow_nil<|Cw_seq<|?_
 obtain ⟨x145, hx146, H⟩ := bnd H
 obtain ⟨x152, hx153, H⟩ := bnd H
 refine Cw_region_any [.blk b114 115 (A2Int.cells p2)] rfl (Inc.cons Mb0 Inc.nil)<|Awq 0 rfl (by kernel_rfl) rfl rfl rfl (Qt_move rfl)<|Awq 1 rfl (by kernel_rfl) rfl rfl rfl (Qt_ixArr (q := 0) (m := 0) rfl rfl rfl rfl rfl (by decide) rfl (by decide))<|Awq 2 rfl (by kernel_rfl) rfl rfl rfl (Qt_load1 (v := (.int .i64 p2.x0)) rfl rfl rfl (Rdc.blk Mb0 rfl))<|?_
 obtain ⟨r162, hr163, hk164⟩ := Slr.at hp0 hx146
 obtain ⟨v165, rfl, hs166⟩ := hr163
 refine Awq 3 rfl (by kernel_rfl) rfl rfl rfl (Q_ix (T := (Ty.sl TyOp)) hp0 hx146 rfl rfl rfl rfl rfl)<|Awq 4 rfl (by kernel_rfl) rfl rfl rfl (Qt_load1 (v := (sv v165)) rfl rfl rfl (Rdc.k hk164 rfl))<|Awq 5 rfl (by kernel_rfl) rfl rfl rfl (Qt_ixArr (q := 1) (m := 1) rfl rfl rfl rfl rfl (by decide) rfl (by decide))<|Awq 6 rfl (by kernel_rfl) rfl rfl rfl (Qt_load1 (v := (.int .i64 p2.x1)) rfl rfl rfl (Rdc.blk Mb0 rfl))<|?_
 obtain ⟨r167, hr168, hk169⟩ := Slr.at hs166 hx153
 obtain ⟨v170, v171, rfl, hs172, hs173⟩ := hr168
 refine Awq 7 rfl (by kernel_rfl) rfl rfl rfl (Q_ix (T := TyOp) hs166 hx153 rfl rfl rfl rfl rfl)<|Awq 8 rfl (by kernel_rfl) rfl rfl rfl (Qt_loadA (m := 7) (cs := (Op.cells x152 v170 v171)) rfl rfl rfl rfl ⟨rfl, Rdc.k hk169 rfl⟩)<|?_
 refine Aw_one 9 (by kernel_rfl) (Ax_mk rfl rfl ?_)
 refine OpW_alloc (cs := (Op.cells (Op.mk 0 0 0 0 0 [] []) nilS nilS)) rfl rfl rfl rfl (fun b174 => ⟨(Inc.cons Mb1 Inc.nil), ?_⟩)
 refine Aw_one 10 (by kernel_rfl) (Ax_mk rfl rfl ?_)
 refine OpW_store (vs := (Op.cells x152 v170 v171)) (all' := (Op.cells x152 v170 v171)) rfl rfl rfl rfl rfl .here rfl rfl rfl ⟨(Inc.cons Mb1 Inc.nil), ?_⟩
 refine Aw_done (by kernel_rfl)<|Cw_seq<|Cw_seq<|Cw_region<|Ow_q rfl rfl rfl (Qt_move rfl)<|Ow_q rfl rfl rfl (Qt_ixArr (q := 0) (m := 0) rfl rfl rfl rfl rfl (by decide) rfl (by decide))<|Ow_q rfl rfl rfl (Qt_load1 (v := (.int .i64 p2.x0)) rfl rfl rfl (Rdc.blk Mb1 rfl))<|Ow_q rfl rfl rfl (Qt_ixArr (q := 1) (m := 1) rfl rfl rfl rfl rfl (by decide) rfl (by decide))<|Ow_q rfl rfl rfl (Qt_load1 (v := (.int .i64 p2.x1)) rfl rfl rfl (Rdc.blk Mb1 rfl))<|?_
 obtain ⟨x180, hx181, H⟩ := bnd H
 refine Ow_cons rfl (OpW_call rfl Try.call78 rfl rfl (c_M_82z p1 vp1 p2.x0 p2.x1 x180 hx181 _ _ hp1) ?_)
 rintro _ K182 _ hK183 ⟨rfl, rfl⟩
 refine Ow_q rfl rfl rfl (Qt_move rfl)<|Ow_q rfl rfl rfl (Qt_cmp rfl rfl rfl)<|Ow_nil<|?_
 refine Cw_cond rfl ?_ ?_
 ·intro h184
  have h184 := dcd_t (h184)
  have H := ift h184 H
  refine Cw_seq<|Cw_region<|Ow_q rfl rfl rfl (Qt_assign rfl)<|Ow_nil<|Cw_ret<|?_
  obtain ey0 := inj1 H
  subst y0
  refine ⟨(by first | exact .inl rfl | exact .inr rfl), [(.bool false)], ⟨(.bool false), _, rfl, rfl, rfl⟩, ?_⟩
  refine Re0<|Re0<|Shift.done<|?_
  exact ⟨rfl, rfl⟩
 ·intro h184
  have h184 := dcd_f (h184)
  have H := iff_ h184 H
  refine Cw_skip<|Cw_seq<|Cw_region<|Ow_q rfl rfl rfl (Qt_move rfl)<|Ow_q rfl rfl rfl (Qt_ixArr (q := 0) (m := 0) rfl rfl rfl rfl rfl (by decide) rfl (by decide))<|Ow_q rfl rfl rfl (Qt_load1 (v := (.int .i64 p2.x0)) rfl rfl rfl (Rdc.blk Mb1 rfl))<|Ow_q rfl rfl rfl (Qt_ixArr (q := 1) (m := 1) rfl rfl rfl rfl rfl (by decide) rfl (by decide))<|Ow_q rfl rfl rfl (Qt_load1 (v := (.int .i64 p2.x1)) rfl rfl rfl (Rdc.blk Mb1 rfl))<|?_
  obtain ⟨x185, x186, hx187, H⟩ := bnd2 H
  have hs188 := (hp1).mono hK183
  refine Ow_cons rfl (OpW_call rfl Try.call109 rfl rfl (c_M_136z p1 vp1 p2.x0 p2.x1 x185 x186 hx187 _ _ hs188) ?_)
  rintro _ K189 _ hK190 ⟨rfl, rfl⟩
  refine Ow_q rfl rfl rfl (Qt_move rfl)<|Ow_q rfl rfl rfl (Qt_extract rfl rfl)<|Ow_q rfl rfl rfl (Qt_extract rfl rfl)<|?_
  refine Ow_cons rfl (OpW_alloc (cs := (Result.cells (Result.mk 0 0 0 false 0))) rfl rfl rfl rfl (fun b191 => ?_))
  refine Ow_cons rfl (OpW_store (vs := (Result.cells x185)) (all' := (Result.cells x185)) rfl rfl rfl rfl rfl .here rfl rfl rfl ?_)
  refine Ow_q rfl rfl rfl (Qt_assign rfl)<|Ow_nil<|Cw_seq<|Cw_seq<|Cw_region<|Ow_q rfl rfl rfl (Qt_move rfl)<|Ow_q rfl rfl rfl (Qt_cmp rfl rfl rfl)<|Ow_nil<|?_
  refine Cw_cond rfl ?_ ?_
  ·intro h204
   have h204 := dcd_t (h204)
   have H := ift h204 H
   refine Cw_seq<|Cw_region<|Ow_q rfl rfl rfl (Qt_loadA (m := 7) (cs := (Op.cells x152 v170 v171)) rfl rfl rfl rfl ⟨rfl, Rdc.blk Mb1 rfl⟩)<|Ow_q rfl rfl rfl (Qt_loadA (m := 5) (cs := (Result.cells x185)) rfl rfl rfl rfl ⟨rfl, Rdc.blk Mb0 rfl⟩)<|?_
   obtain ⟨x205, x206, hx207, H⟩ := bnd2 H
   have hs208 := ((hs172).mono hK183).mono hK190
   have hs209 := ((hs173).mono hK183).mono hK190
   refine Ow_cons rfl (OpW_call rfl Try.call72 rfl rfl (c_M_43z x152 v170 v171 x185 x205 x206 hx207 _ _ hs208 hs209) ?_)
   rintro _ _ _ - ⟨rfl, rfl, rfl⟩
   refine Ow_q rfl rfl rfl (Qt_move rfl)<|Ow_q rfl rfl rfl (Qt_extract rfl rfl)<|Ow_q rfl rfl rfl (Qt_extract rfl rfl)<|?_
   refine Ow_cons rfl (OpW_alloc (cs := (Case.cells (Case.mk false 0 0))) rfl rfl rfl rfl (fun b210 => ?_))
   refine Ow_cons rfl (OpW_store (vs := (Case.cells x205)) (all' := (Case.cells x205)) rfl rfl rfl rfl rfl .here rfl rfl rfl ?_)
   refine Ow_q rfl rfl rfl (Qt_assign rfl)<|Ow_nil<|?_
   refine Cw_join (fun env' K' G' => ∃ (t215 : Bool), [(12, (.bool t215))] = env' ∧ K189 = K' ∧ G = G' ∧ M_24z t215 = some y0) ?_ ?_
   ·skip
    refine Cw_region<|Ow_q rfl rfl rfl (Qt_move rfl)<|Ow_q rfl rfl rfl (Qt_move rfl)<|?_
    refine Ow_caseG rfl rfl rfl ?_ ?_
    ·intro h216
     have H := ift h216 H
     refine Ow_qw rfl rfl rfl rfl rfl rfl (Qt_fieldAddr (m := 0) rfl rfl rfl rfl rfl)<|Ow_qw rfl rfl rfl rfl rfl rfl (Qt_load1 (v := (.int .i64 x185.kind)) rfl rfl rfl (Rdc.blk Mb1 rfl))<|Ow_qw rfl rfl rfl rfl rfl rfl (Qt_cmp rfl rfl rfl)<|Ow_q rfl rfl rfl (Qt_pick_t rfl rfl)<|Ow_q rfl rfl rfl (Qt_move rfl)<|?_
     refine Ow_caseG rfl rfl rfl ?_ ?_
     ·intro h217
      have h217 := dcd_t (h217)
      have H := ift h217 H
      refine Ow_qw rfl rfl rfl rfl rfl rfl (Qt_fieldAddr (m := 0) rfl rfl rfl rfl rfl)<|Ow_qw rfl rfl rfl rfl rfl rfl (Qt_load1 (v := (.bool x205.send)) rfl rfl rfl (Rdc.blk Mb0 rfl))<|Ow_q rfl rfl rfl (Qt_pick_t rfl rfl)<|Ow_q rfl rfl rfl (Qt_move rfl)<|?_
      refine Ow_caseG rfl rfl rfl ?_ ?_
      ·intro h218
       have H := ift h218 H
       refine Ow_qw rfl rfl rfl rfl rfl rfl (Qt_fieldAddr (m := 1) rfl rfl rfl rfl rfl)<|Ow_qw rfl rfl rfl rfl rfl rfl (Qt_load1 (v := (.int .i64 x205.channel)) rfl rfl rfl (Rdc.blk Mb0 rfl))<|Ow_qw rfl rfl rfl rfl rfl rfl (Qt_move rfl)<|Ow_qw rfl rfl rfl rfl rfl rfl (Qt_cmp rfl rfl rfl)<|Ow_q rfl rfl rfl (Qt_pick_t rfl rfl)<|Ow_q rfl rfl rfl (Qt_move rfl)<|?_
       refine Ow_caseG rfl rfl rfl ?_ ?_
       ·intro h219
        have h219 := dcd_t (h219)
        have H := ift h219 H
        refine Ow_qw rfl rfl rfl rfl rfl rfl (Qt_fieldAddr (m := 2) rfl rfl rfl rfl rfl)<|Ow_qw rfl rfl rfl rfl rfl rfl (Qt_load1 (v := (.int .u64 x205.value)) rfl rfl rfl (Rdc.blk Mb0 rfl))<|Ow_qw rfl rfl rfl rfl rfl rfl (Qt_move rfl)<|Ow_qw rfl rfl rfl rfl rfl rfl (Qt_cmp rfl rfl rfl)<|Ow_q rfl rfl rfl (Qt_pick_t rfl rfl)<|Ow_q rfl rfl rfl (Qt_assign rfl)<|Ow_nil<|Re0<|Re0<|Re0<|?_
        refine Re0<|Shift.done<|?_
        exact ⟨_, by exact ⟨rfl, trivial⟩, (dcd (x205.value = p4)), rfl, rfl, rfl, H⟩
       ·intro h219
        have h219 := dcd_f (h219)
        have H := iff_ h219 H
        refine Ow_pass rfl rfl rfl rfl rfl rfl rfl<|Ow_pass rfl rfl rfl rfl rfl rfl rfl<|Ow_pass rfl rfl rfl rfl rfl rfl rfl<|Ow_pass rfl rfl rfl rfl rfl rfl rfl<|Ow_q rfl rfl rfl (Qt_pick_f rfl rfl)<|Ow_q rfl rfl rfl (Qt_assign rfl)<|Ow_nil<|Re0<|Re0<|Re0<|?_
        refine Re0<|Shift.done<|?_
        exact ⟨_, by exact ⟨rfl, trivial⟩, false, rfl, rfl, rfl, H⟩
      ·intro h218
       have H := iff_ (btf h218) H
       refine Ow_pass rfl rfl rfl rfl rfl rfl rfl<|Ow_pass rfl rfl rfl rfl rfl rfl rfl<|Ow_pass rfl rfl rfl rfl rfl rfl rfl<|Ow_pass rfl rfl rfl rfl rfl rfl rfl<|Ow_q rfl rfl rfl (Qt_pick_f rfl rfl)<|Ow_q rfl rfl rfl (Qt_move rfl)<|Ow_pass rfl rfl rfl rfl rfl rfl rfl<|Ow_pass rfl rfl rfl rfl rfl rfl rfl<|Ow_pass rfl rfl rfl rfl rfl rfl rfl<|Ow_pass rfl rfl rfl rfl rfl rfl rfl<|?_
       refine Ow_q rfl rfl rfl (Qt_pick_f rfl rfl)<|Ow_q rfl rfl rfl (Qt_assign rfl)<|Ow_nil<|Re0<|Re0<|Re0<|Re0<|Shift.done<|?_
       exact ⟨_, by exact ⟨rfl, trivial⟩, false, rfl, rfl, rfl, H⟩
     ·intro h217
      have h217 := dcd_f (h217)
      have H := iff_ h217 H
      refine Ow_pass rfl rfl rfl rfl rfl rfl rfl<|Ow_pass rfl rfl rfl rfl rfl rfl rfl<|Ow_q rfl rfl rfl (Qt_pick_f rfl rfl)<|Ow_q rfl rfl rfl (Qt_move rfl)<|Ow_pass rfl rfl rfl rfl rfl rfl rfl<|Ow_pass rfl rfl rfl rfl rfl rfl rfl<|Ow_pass rfl rfl rfl rfl rfl rfl rfl<|Ow_pass rfl rfl rfl rfl rfl rfl rfl<|Ow_q rfl rfl rfl (Qt_pick_f rfl rfl)<|Ow_q rfl rfl rfl (Qt_move rfl)<|?_
      refine Ow_pass rfl rfl rfl rfl rfl rfl rfl<|Ow_pass rfl rfl rfl rfl rfl rfl rfl<|Ow_pass rfl rfl rfl rfl rfl rfl rfl<|Ow_pass rfl rfl rfl rfl rfl rfl rfl<|Ow_q rfl rfl rfl (Qt_pick_f rfl rfl)<|Ow_q rfl rfl rfl (Qt_assign rfl)<|Ow_nil<|Re0<|Re0<|Re0<|?_
      refine Re0<|Shift.done<|?_
      exact ⟨_, by exact ⟨rfl, trivial⟩, false, rfl, rfl, rfl, H⟩
    ·intro h216
     have H := iff_ (btf h216) H
     refine Ow_pass rfl rfl rfl rfl rfl rfl rfl<|Ow_pass rfl rfl rfl rfl rfl rfl rfl<|Ow_pass rfl rfl rfl rfl rfl rfl rfl<|Ow_q rfl rfl rfl (Qt_pick_f rfl rfl)<|Ow_q rfl rfl rfl (Qt_move rfl)<|Ow_pass rfl rfl rfl rfl rfl rfl rfl<|Ow_pass rfl rfl rfl rfl rfl rfl rfl<|Ow_q rfl rfl rfl (Qt_pick_f rfl rfl)<|Ow_q rfl rfl rfl (Qt_move rfl)<|Ow_pass rfl rfl rfl rfl rfl rfl rfl<|?_
     refine Ow_pass rfl rfl rfl rfl rfl rfl rfl<|Ow_pass rfl rfl rfl rfl rfl rfl rfl<|Ow_pass rfl rfl rfl rfl rfl rfl rfl<|Ow_q rfl rfl rfl (Qt_pick_f rfl rfl)<|Ow_q rfl rfl rfl (Qt_move rfl)<|Ow_pass rfl rfl rfl rfl rfl rfl rfl<|Ow_pass rfl rfl rfl rfl rfl rfl rfl<|Ow_pass rfl rfl rfl rfl rfl rfl rfl<|Ow_pass rfl rfl rfl rfl rfl rfl rfl<|Ow_q rfl rfl rfl (Qt_pick_f rfl rfl)<|?_
     refine Ow_q rfl rfl rfl (Qt_assign rfl)<|Ow_nil<|Re0<|Re0<|Re0<|Re0<|Shift.done<|?_
     exact ⟨_, by exact ⟨rfl, trivial⟩, false, rfl, rfl, rfl, H⟩
   rintro _ _ _ - ⟨t215, rfl, rfl, rfl, H⟩
   unfold M_24z at H
   refine Cw_ret ?_
   obtain ey0 := inj1 H
   subst y0
   refine ⟨(by first | exact .inl rfl | exact .inr rfl), [(.bool t215)], ⟨(.bool t215), _, rfl, rfl, rfl⟩, ?_⟩
   exact Shift.done ⟨rfl, rfl⟩
  ·intro h204
   have h204 := dcd_f (h204)
   have H := iff_ h204 H
   refine Cw_skip<|Cw_seq<|Cw_region<|Ow_q rfl rfl rfl (Qt_loadA (m := 7) (cs := (Op.cells x152 v170 v171)) rfl rfl rfl rfl ⟨rfl, Rdc.blk Mb1 rfl⟩)<|?_
   obtain ⟨x220, hx221, H⟩ := bnd H
   have hs222 := ((hs172).mono hK183).mono hK190
   have hs223 := ((hs173).mono hK183).mono hK190
   refine Ow_cons rfl (OpW_call rfl Try.call63 rfl rfl (c_M_7z x152 v170 v171 x220 hx221 _ _ hs222 hs223) ?_)
   rintro _ K225 _ hK226 ⟨v224, rfl, rfl, hs227⟩
   refine Ow_q rfl rfl rfl (Qt_assign rfl)<|Ow_nil<|?_
   refine Cw_join (fun env' K' G' => [] = env' ∧ G = G' ∧ M_170z = some y0) ?_ ?_
   ·skip
    refine Cw_seq<|Cw_region<|Ow_q rfl rfl rfl (Qt_assign rfl)<|Ow_nil<|Cw_block<|?_
    refine Cw_loopM (fun n324 env' K' G' => ∃ (i323 : Int), [(3, (.int .i64 p3)), (4, (.int .u64 p4)), (18, (sv v224)), (19, (.int .i64 i323))] = env' ∧ K225 = K' ∧ G = G' ∧ lp1 (M_171z p3 p4 x220) n324 i323 = some y0) BIG ?_ ?_
    ·skip
     refine Re0<|Re0<|Re0<|Shift.done<|?_
     exact ⟨_, by exact ⟨rfl, rfl, rfl, rfl, trivial⟩, 0, rfl, rfl, rfl, H⟩
    rintro n324 _ _ _ - ⟨i323, rfl, rfl, rfl, H⟩
    obtain ⟨m325, k326, rfl, hkk327, H⟩ := lps1 H
    unfold M_171z at H
    refine Cw_seq<|Cw_seq<|Cw_region<|Ow_q rfl rfl rfl (Qt_move rfl)<|Ow_q rfl rfl rfl (Qt_move rfl)<|Ow_q rfl rfl rfl (Q_len (T := TyCase) hs227 rfl rfl)<|Ow_q rfl rfl rfl (Qt_cmp rfl rfl rfl)<|Ow_nil<|?_
    refine Cw_cond rfl ?_ ?_
    ·intro h329
     have h329 := dcd_t (h329)
     have H := ift h329 H
     refine Cw_skip<|Cw_seq<|Cw_block<|?_
     refine Cw_join (fun env' K' G' => ∃ (t366 : Bool), [(3, (.int .i64 p3)), (4, (.int .u64 p4)), (18, (sv v224)), (19, (.int .i64 i323)), (106, (.bool t366))] = env' ∧ K225 = K' ∧ G = G' ∧ M_47z p3 p4 x220 i323 k326 t366 = some y0) ?_ ?_
     ·skip
      refine Cw_region<|Ow_q rfl rfl rfl (Qt_move rfl)<|Ow_q rfl rfl rfl (Qt_move rfl)<|?_
      obtain ⟨x367, hx368, H⟩ := bnd H
      obtain ⟨r369, hr370, hk371⟩ := Slr.at hs227 hx368
      obtain rfl := hr370
      refine Ow_q rfl rfl rfl (Q_ix (T := TyCase) hs227 hx368 rfl rfl rfl rfl rfl)<|Ow_q rfl rfl rfl (Qt_fieldAddr (m := 0) rfl rfl rfl rfl rfl)<|Ow_q rfl rfl rfl (Qt_load1 (v := (.bool x367.send)) rfl rfl rfl (Rdc.k hk371 rfl))<|Ow_q rfl rfl rfl (Qt_move rfl)<|?_
      refine Ow_caseG rfl rfl rfl ?_ ?_
      ·intro h372
       have H := ift h372 H
       refine Ow_qw rfl rfl rfl rfl rfl rfl (Qt_move rfl)<|Ow_qw rfl rfl rfl rfl rfl rfl (Qt_move rfl)<|?_
       obtain ⟨x373, hx374, H⟩ := bnd H
       obtain ⟨r375, hr376, hk377⟩ := Slr.at hs227 hx374
       obtain rfl := hr376
       refine Ow_qw rfl rfl rfl rfl rfl rfl (Q_ix (T := TyCase) hs227 hx374 rfl rfl rfl rfl rfl)<|Ow_qw rfl rfl rfl rfl rfl rfl (Qt_fieldAddr (m := 1) rfl rfl rfl rfl rfl)<|Ow_qw rfl rfl rfl rfl rfl rfl (Qt_load1 (v := (.int .i64 x373.channel)) rfl rfl rfl (Rdc.k hk377 rfl))<|Ow_qw rfl rfl rfl rfl rfl rfl (Qt_move rfl)<|Ow_qw rfl rfl rfl rfl rfl rfl (Qt_cmp rfl rfl rfl)<|Ow_q rfl rfl rfl (Qt_pick_t rfl rfl)<|Ow_q rfl rfl rfl (Qt_move rfl)<|?_
       refine Ow_caseG rfl rfl rfl ?_ ?_
       ·intro h378
        have h378 := dcd_t (h378)
        have H := ift h378 H
        refine Ow_qw rfl rfl rfl rfl rfl rfl (Qt_move rfl)<|Ow_qw rfl rfl rfl rfl rfl rfl (Qt_move rfl)<|?_
        obtain ⟨x379, hx380, H⟩ := bnd H
        obtain ⟨r381, hr382, hk383⟩ := Slr.at hs227 hx380
        obtain rfl := hr382
        refine Ow_qw rfl rfl rfl rfl rfl rfl (Q_ix (T := TyCase) hs227 hx380 rfl rfl rfl rfl rfl)<|Ow_qw rfl rfl rfl rfl rfl rfl (Qt_fieldAddr (m := 2) rfl rfl rfl rfl rfl)<|Ow_qw rfl rfl rfl rfl rfl rfl (Qt_load1 (v := (.int .u64 x379.value)) rfl rfl rfl (Rdc.k hk383 rfl))<|Ow_qw rfl rfl rfl rfl rfl rfl (Qt_move rfl)<|Ow_qw rfl rfl rfl rfl rfl rfl (Qt_cmp rfl rfl rfl)<|Ow_q rfl rfl rfl (Qt_pick_t rfl rfl)<|Ow_nil<|Shift.done<|?_
        exact ⟨_, by exact ⟨rfl, rfl, rfl, rfl, rfl, trivial⟩, (dcd (x379.value = p4)), rfl, rfl, rfl, H⟩
       ·intro h378
        have h378 := dcd_f (h378)
        have H := iff_ h378 H
        refine Ow_pass rfl rfl rfl rfl rfl rfl rfl<|Ow_pass rfl rfl rfl rfl rfl rfl rfl<|Ow_pass rfl rfl rfl rfl rfl rfl rfl<|Ow_pass rfl rfl rfl rfl rfl rfl rfl<|Ow_pass rfl rfl rfl rfl rfl rfl rfl<|Ow_pass rfl rfl rfl rfl rfl rfl rfl<|Ow_pass rfl rfl rfl rfl rfl rfl rfl<|Ow_q rfl rfl rfl (Qt_pick_f rfl rfl)<|Ow_nil<|Shift.done<|?_
        exact ⟨_, by exact ⟨rfl, rfl, rfl, rfl, rfl, trivial⟩, false, rfl, rfl, rfl, H⟩
      ·intro h372
       have H := iff_ (btf h372) H
       refine Ow_pass rfl rfl rfl rfl rfl rfl rfl<|Ow_pass rfl rfl rfl rfl rfl rfl rfl<|Ow_pass rfl rfl rfl rfl rfl rfl rfl<|Ow_pass rfl rfl rfl rfl rfl rfl rfl<|Ow_pass rfl rfl rfl rfl rfl rfl rfl<|Ow_pass rfl rfl rfl rfl rfl rfl rfl<|Ow_pass rfl rfl rfl rfl rfl rfl rfl<|Ow_q rfl rfl rfl (Qt_pick_f rfl rfl)<|Ow_q rfl rfl rfl (Qt_move rfl)<|Ow_pass rfl rfl rfl rfl rfl rfl rfl<|?_
       refine Ow_pass rfl rfl rfl rfl rfl rfl rfl<|Ow_pass rfl rfl rfl rfl rfl rfl rfl<|Ow_pass rfl rfl rfl rfl rfl rfl rfl<|Ow_pass rfl rfl rfl rfl rfl rfl rfl<|Ow_pass rfl rfl rfl rfl rfl rfl rfl<|Ow_pass rfl rfl rfl rfl rfl rfl rfl<|Ow_q rfl rfl rfl (Qt_pick_f rfl rfl)<|Ow_nil<|Shift.done<|?_
       exact ⟨_, by exact ⟨rfl, rfl, rfl, rfl, rfl, trivial⟩, false, rfl, rfl, rfl, H⟩
     rintro _ _ _ - ⟨t366, rfl, rfl, rfl, H⟩
     unfold M_47z at H
     refine Cw_cond rfl ?_ ?_
     ·intro h384
      have H := ift h384 H
      refine Cw_seq<|Cw_region<|Ow_q rfl rfl rfl (Qt_assign rfl)<|Ow_nil<|Cw_ret<|?_
      obtain ey0 := inj1 H
      subst y0
      refine ⟨(by first | exact .inl rfl | exact .inr rfl), [(.bool true)], ⟨(.bool true), _, rfl, rfl, rfl⟩, ?_⟩
      exact Shift.done ⟨rfl, rfl⟩
     ·intro h384
      have H := iff_ (btf h384) H
      refine Cw_skip<|Cw_region<|Ow_q rfl rfl rfl (Qt_move rfl)<|Ow_q rfl rfl rfl (Qt_arith (e := wI (i323 + 1)) rfl rfl rfl rfl)<|Ow_q rfl rfl rfl (Qt_assign rfl)<|Ow_nil<|Shift.done<|?_
      exact ⟨_, by exact ⟨rfl, rfl, rfl, rfl, trivial⟩, _, Nat.lt_succ_self _, (wI (i323 + 1)), rfl, rfl, rfl, (hkk327 ▸ H)⟩
    ·intro h329
     have h329 := dcd_f (h329)
     have H := iff_ h329 H
     refine Cw_exit<|Shift.done<|?_
     exact ⟨[], trivial, rfl, rfl, H⟩
   rintro _ K385 _ hK386 ⟨rfl, rfl, H⟩
   unfold M_170z at H
   refine Cw_seq<|Cw_region<|Ow_q rfl rfl rfl (Qt_assign rfl)<|Ow_nil<|Cw_ret<|?_
   obtain ey0 := inj1 H
   subst y0
   refine ⟨(by first | exact .inl rfl | exact .inr rfl), [(.bool false)], ⟨(.bool false), _, rfl, rfl, rfl⟩, ?_⟩
   exact Shift.done ⟨rfl, rfl⟩

set_option maxHeartbeats 1000000 in
theorem c_M_137z (p0 : List Int) (vp0 : SV) (p1 : Int) (y0 : Int) (H : M_137z p0 p1 = some y0) (K : Kp) (G : List Ent) (hp0 : Slr Ty.u64 K (sv vp0) p0) :
  Fc Try.prog 75 #[(sv vp0), (.int .u64 p1)] K (G) (fun v K' G' => v = (.int .i64 y0) ∧ G = G') := by
 refine Fc_body Try.func75 rfl Try.ntmps75 Try.results75 rfl ?_
 unfold M_137z at H
 refine Cw_seq<|Cw_region<|Ow_q rfl rfl rfl (Qt_assign rfl)<|Ow_nil<|Cw_seq<|Cw_region<|Ow_q rfl rfl rfl (Qt_assign rfl)<|Ow_nil<|?_
 refine Cw_join (fun env' K' G' => ∃ (i52 : Int), [(5, (.int .i64 i52))] = env' ∧ G = G' ∧ M_172z i52 = some y0) ?_ ?_
 ·skip
  refine Cw_seq<|Cw_region<|Ow_q rfl rfl rfl (Qt_assign rfl)<|Ow_nil<|Cw_block<|?_
  refine Cw_loopM (fun n77 env' K' G' => ∃ (i75 : Int) (i76 : Int), [(0, (sv vp0)), (1, (.int .u64 p1)), (5, (.int .i64 i75)), (6, (.int .i64 i76))] = env' ∧ K = K' ∧ G = G' ∧ lp2 (M_173z p0 p1) n77 i75 i76 = some y0) BIG ?_ ?_
  ·skip
   exact Shift.done ⟨_, by exact ⟨rfl, rfl, rfl, rfl, trivial⟩, 0, 0, rfl, rfl, rfl, H⟩
  rintro n77 _ _ _ - ⟨i75, i76, rfl, rfl, rfl, H⟩
  obtain ⟨m78, k79, rfl, hkk80, H⟩ := lps2 H
  unfold M_173z at H
  refine Cw_seq<|Cw_seq<|Cw_region<|Ow_q rfl rfl rfl (Qt_move rfl)<|Ow_q rfl rfl rfl (Qt_move rfl)<|Ow_q rfl rfl rfl (Q_len (T := Ty.u64) hp0 rfl rfl)<|Ow_q rfl rfl rfl (Qt_cmp rfl rfl rfl)<|Ow_nil<|?_
  refine Cw_cond rfl ?_ ?_
  ·intro h82
   have h82 := dcd_t (h82)
   have H := ift h82 H
   refine Cw_skip<|Cw_seq<|Cw_block<|Cw_seq<|Cw_region<|Ow_q rfl rfl rfl (Qt_move rfl)<|Ow_q rfl rfl rfl (Qt_move rfl)<|?_
   obtain ⟨x89, hx90, H⟩ := bnd H
   obtain ⟨r91, hr92, hk93⟩ := Slr.at hp0 hx90
   obtain rfl := hr92
   refine Ow_q rfl rfl rfl (Q_ix (T := Ty.u64) hp0 hx90 rfl rfl rfl rfl rfl)<|Ow_q rfl rfl rfl (Qt_load1 (v := (.int .u64 x89)) rfl rfl rfl (Rdc.k hk93 rfl))<|Ow_q rfl rfl rfl (Qt_move rfl)<|Ow_q rfl rfl rfl (Qt_cmp rfl rfl rfl)<|Ow_nil<|?_
   refine Cw_cond rfl ?_ ?_
   ·intro h94
    have h94 := dcd_t (h94)
    have H := ift h94 H
    refine Cw_region<|Ow_q rfl rfl rfl (Qt_move rfl)<|Ow_q rfl rfl rfl (Qt_arith (e := wI (i75 + 1)) rfl rfl rfl rfl)<|Ow_q rfl rfl rfl (Qt_assign rfl)<|Ow_nil<|Cw_region<|Ow_q rfl rfl rfl (Qt_move rfl)<|Ow_q rfl rfl rfl (Qt_arith (e := wI (i76 + 1)) rfl rfl rfl rfl)<|Ow_q rfl rfl rfl (Qt_assign rfl)<|Ow_nil<|?_
    exact Shift.done ⟨_, by exact ⟨rfl, rfl, rfl, rfl, trivial⟩, _, Nat.lt_succ_self _, (wI (i75 + 1)), (wI (i76 + 1)), rfl, rfl, rfl, (hkk80 ▸ H)⟩
   ·intro h94
    have h94 := dcd_f (h94)
    have H := iff_ h94 H
    refine Cw_skip<|Cw_region<|Ow_q rfl rfl rfl (Qt_move rfl)<|Ow_q rfl rfl rfl (Qt_arith (e := wI (i76 + 1)) rfl rfl rfl rfl)<|Ow_q rfl rfl rfl (Qt_assign rfl)<|Ow_nil<|Shift.done<|?_
    exact ⟨_, by exact ⟨rfl, rfl, rfl, rfl, trivial⟩, _, Nat.lt_succ_self _, i75, (wI (i76 + 1)), rfl, rfl, rfl, (hkk80 ▸ H)⟩
  ·intro h82
   have h82 := dcd_f (h82)
   have H := iff_ h82 H
   refine Cw_exit<|Shift.done<|?_
   exact ⟨_, by exact ⟨rfl, trivial⟩, i75, rfl, rfl, H⟩
 rintro _ K95 _ hK96 ⟨i52, rfl, rfl, H⟩
 unfold M_172z at H
 refine Cw_seq<|Cw_region<|Ow_q rfl rfl rfl (Qt_move rfl)<|Ow_q rfl rfl rfl (Qt_assign rfl)<|Ow_nil<|Cw_ret<|?_
 obtain ey0 := inj1 H
 subst y0
 refine ⟨(by first | exact .inl rfl | exact .inr rfl), [(.int .i64 i52)], ⟨(.int .i64 i52), _, rfl, rfl, rfl⟩, ?_⟩
 exact Shift.done ⟨rfl, rfl⟩

set_option maxHeartbeats 1000000 in
theorem c_M_138z (p0 : List (List Op)) (vp0 : SV) (p1 : List Event) (vp1 : SV) (p2 : Int) (p3 : Int) (y0 : Bool) (H : M_138z p0 p1 p2 p3 = some y0) (K : Kp) (G : List Ent) (hp0 : Slr (Ty.sl TyOp) K (sv vp0) p0) (hp1 : Slr TyEvent K (sv vp1) p1) :
  Fc Try.prog 76 #[(sv vp0), (sv vp1), (.int .i64 p2), (.int .i64 p3)] K (G) (fun v K' G' => v = (.bool y0) ∧ G = G') := by
 refine Fc_body Try.func76 rfl Try.ntmps76 Try.results76 rfl ?_
 unfold M_138z at H
 refine Cw_seq<|Cw_region<|Ow_q rfl rfl rfl (Qt_assign rfl)<|Ow_nil<|?_
 refine Cw_join (fun env' K' G' => [] = env' ∧ G = G' ∧ M_174z = some y0) ?_ ?_
 ·skip
  refine Cw_seq<|Cw_region<|Ow_q rfl rfl rfl (Qt_assign rfl)<|Ow_nil<|Cw_block<|?_
  refine Cw_loopM (fun n388 env' K' G' => ∃ (i387 : Int), [(0, (sv vp0)), (1, (sv vp1)), (2, (.int .i64 p2)), (3, (.int .i64 p3)), (9, (.int .i64 i387))] = env' ∧ K = K' ∧ G = G' ∧ lp1 (M_175z p0 p1 p2 p3) n388 i387 = some y0) BIG ?_ ?_
  ·skip
   exact Shift.done ⟨_, by exact ⟨rfl, rfl, rfl, rfl, rfl, trivial⟩, 0, rfl, rfl, rfl, H⟩
  rintro n388 _ _ _ - ⟨i387, rfl, rfl, rfl, H⟩
  obtain ⟨m389, k390, rfl, hkk391, H⟩ := lps1 H
  unfold M_175z at H
  refine Cw_seq<|Cw_seq<|Cw_region<|Ow_q rfl rfl rfl (Qt_move rfl)<|Ow_q rfl rfl rfl (Qt_move rfl)<|Ow_q rfl rfl rfl (Qt_cmp rfl rfl rfl)<|Ow_nil<|?_
  refine Cw_cond rfl ?_ ?_
  ·intro h393
   have h393 := dcd_t (h393)
   have H := ift h393 H
   refine Cw_skip<|Cw_seq<|Cw_block<|Cw_seq<|?_
   obtain ⟨x495, hx496, H⟩ := bnd H
   obtain ⟨x500, hx501, H⟩ := bnd H
   obtain ⟨x507, hx508, H⟩ := bnd H
   obtain ⟨x512, hx513, H⟩ := bnd H
   refine Cw_region_any [] rfl Inc.nil<|Awq 0 rfl (by kernel_rfl) rfl rfl rfl (Qt_move rfl)<|Awq 1 rfl (by kernel_rfl) rfl rfl rfl (Qt_move rfl)<|Awq 2 rfl (by kernel_rfl) rfl rfl rfl (Qt_move rfl)<|?_
   obtain ⟨r522, hr523, hk524⟩ := Slr.at hp1 hx496
   obtain rfl := hr523
   refine Awq 3 rfl (by kernel_rfl) rfl rfl rfl (Q_ix (T := TyEvent) hp1 hx496 rfl rfl rfl rfl rfl)<|Awq 4 rfl (by kernel_rfl) rfl rfl rfl (Qt_fieldAddr (m := 0) rfl rfl rfl rfl rfl)<|Awq 5 rfl (by kernel_rfl) rfl rfl rfl (Qt_load1 (v := (.int .i64 x495.thread)) rfl rfl rfl (Rdc.k hk524 rfl))<|?_
   obtain ⟨r525, hr526, hk527⟩ := Slr.at hp0 hx501
   obtain ⟨v528, rfl, hs529⟩ := hr526
   refine Awq 6 rfl (by kernel_rfl) rfl rfl rfl (Q_ix (T := (Ty.sl TyOp)) hp0 hx501 rfl rfl rfl rfl rfl)<|Awq 7 rfl (by kernel_rfl) rfl rfl rfl (Qt_load1 (v := (sv v528)) rfl rfl rfl (Rdc.k hk527 rfl))<|Awq 8 rfl (by kernel_rfl) rfl rfl rfl (Qt_move rfl)<|Awq 9 rfl (by kernel_rfl) rfl rfl rfl (Qt_move rfl)<|?_
   obtain ⟨r530, hr531, hk532⟩ := Slr.at hp1 hx508
   obtain rfl := hr531
   refine Awq 10 rfl (by kernel_rfl) rfl rfl rfl (Q_ix (T := TyEvent) hp1 hx508 rfl rfl rfl rfl rfl)<|Awq 11 rfl (by kernel_rfl) rfl rfl rfl (Qt_fieldAddr (m := 1) rfl rfl rfl rfl rfl)<|Awq 12 rfl (by kernel_rfl) rfl rfl rfl (Qt_load1 (v := (.int .i64 x507.op)) rfl rfl rfl (Rdc.k hk532 rfl))<|?_
   obtain ⟨r533, hr534, hk535⟩ := Slr.at hs529 hx513
   obtain ⟨v536, v537, rfl, hs538, hs539⟩ := hr534
   refine Awq 13 rfl (by kernel_rfl) rfl rfl rfl (Q_ix (T := TyOp) hs529 hx513 rfl rfl rfl rfl rfl)<|Awq 14 rfl (by kernel_rfl) rfl rfl rfl (Qt_loadA (m := 7) (cs := (Op.cells x512 v536 v537)) rfl rfl rfl rfl ⟨rfl, Rdc.k hk535 rfl⟩)<|?_
   refine Aw_one 15 (by kernel_rfl) (Ax_mk rfl rfl ?_)
   refine OpW_alloc (cs := (Op.cells (Op.mk 0 0 0 0 0 [] []) nilS nilS)) rfl rfl rfl rfl (fun b540 => ⟨Inc.nil, ?_⟩)
   refine Aw_one 16 (by kernel_rfl) (Ax_mk rfl rfl ?_)
   refine OpW_store (vs := (Op.cells x512 v536 v537)) (all' := (Op.cells x512 v536 v537)) rfl rfl rfl rfl rfl .here rfl rfl rfl ⟨Inc.nil, ?_⟩
   refine Aw_done (by kernel_rfl) ?_
   refine Cw_join (fun env' K' G' => ∃ (t548 : Bool), [(0, (sv vp0)), (1, (sv vp1)), (2, (.int .i64 p2)), (3, (.int .i64 p3)), (9, (.int .i64 i387)), (47, (.bool t548))] = env' ∧ K = K' ∧ G = G' ∧ M_48z p0 p1 p2 p3 i387 k390 t548 = some y0) ?_ ?_
   ·skip
    refine Cw_region<|Ow_q rfl rfl rfl (Qt_move rfl)<|Ow_q rfl rfl rfl (Qt_move rfl)<|?_
    obtain ⟨x549, hx550, H⟩ := bnd H
    obtain ⟨r551, hr552, hk553⟩ := Slr.at hp1 hx550
    obtain rfl := hr552
    refine Ow_q rfl rfl rfl (Q_ix (T := TyEvent) hp1 hx550 rfl rfl rfl rfl rfl)<|Ow_q rfl rfl rfl (Qt_fieldAddr (m := 2) rfl rfl rfl rfl rfl)<|Ow_q rfl rfl rfl (Qt_load1 (v := (.bool x549.ret)) rfl rfl rfl (Rdc.k hk553 rfl))<|Ow_q rfl rfl rfl (Qt_not rfl)<|Ow_q rfl rfl rfl (Qt_move rfl)<|?_
    refine Ow_caseG rfl rfl rfl ?_ ?_
    ·intro h554
     have h554 := nt_t (h554)
     have H := iff_ (btf h554) H
     refine Ow_qw rfl rfl rfl rfl rfl rfl (Qt_fieldAddr (m := 0) rfl rfl rfl rfl rfl)<|Ow_qw rfl rfl rfl rfl rfl rfl (Qt_load1 (v := (.int .i64 x512.kind)) rfl rfl rfl (Rdc.blk Mb0 rfl))<|Ow_qw rfl rfl rfl rfl rfl rfl (Qt_cmp rfl rfl rfl)<|Ow_q rfl rfl rfl (Qt_pick_t rfl rfl)<|Ow_q rfl rfl rfl (Qt_move rfl)<|?_
     refine Ow_caseG rfl rfl rfl ?_ ?_
     ·intro h555
      have h555 := dcd_t (h555)
      have H := ift h555 H
      refine Ow_qw rfl rfl rfl rfl rfl rfl (Qt_fieldAddr (m := 2) rfl rfl rfl rfl rfl)<|Ow_qw rfl rfl rfl rfl rfl rfl (Qt_load1 (v := (.int .i64 x512.channel)) rfl rfl rfl (Rdc.blk Mb0 rfl))<|Ow_qw rfl rfl rfl rfl rfl rfl (Qt_move rfl)<|Ow_qw rfl rfl rfl rfl rfl rfl (Qt_cmp rfl rfl rfl)<|Ow_q rfl rfl rfl (Qt_pick_t rfl rfl)<|Ow_nil<|Re0<|Shift.done<|?_
      exact ⟨_, by exact ⟨rfl, rfl, rfl, rfl, rfl, rfl, trivial⟩, (dcd (x512.channel = p2)), rfl, rfl, rfl, H⟩
     ·intro h555
      have h555 := dcd_f (h555)
      have H := iff_ h555 H
      refine Ow_pass rfl rfl rfl rfl rfl rfl rfl<|Ow_pass rfl rfl rfl rfl rfl rfl rfl<|Ow_pass rfl rfl rfl rfl rfl rfl rfl<|Ow_pass rfl rfl rfl rfl rfl rfl rfl<|Ow_q rfl rfl rfl (Qt_pick_f rfl rfl)<|Ow_nil<|Re0<|Shift.done<|?_
      exact ⟨_, by exact ⟨rfl, rfl, rfl, rfl, rfl, rfl, trivial⟩, false, rfl, rfl, rfl, H⟩
    ·intro h554
     have h554 := nt_f (h554)
     have H := ift h554 H
     refine Ow_pass rfl rfl rfl rfl rfl rfl rfl<|Ow_pass rfl rfl rfl rfl rfl rfl rfl<|Ow_pass rfl rfl rfl rfl rfl rfl rfl<|Ow_q rfl rfl rfl (Qt_pick_f rfl rfl)<|Ow_q rfl rfl rfl (Qt_move rfl)<|Ow_pass rfl rfl rfl rfl rfl rfl rfl<|Ow_pass rfl rfl rfl rfl rfl rfl rfl<|Ow_pass rfl rfl rfl rfl rfl rfl rfl<|Ow_pass rfl rfl rfl rfl rfl rfl rfl<|Ow_q rfl rfl rfl (Qt_pick_f rfl rfl)<|?_
     refine Ow_nil<|Re0<|Shift.done<|?_
     exact ⟨_, by exact ⟨rfl, rfl, rfl, rfl, rfl, rfl, trivial⟩, false, rfl, rfl, rfl, H⟩
   rintro _ _ _ - ⟨t548, rfl, rfl, rfl, H⟩
   unfold M_48z at H
   refine Cw_cond rfl ?_ ?_
   ·intro h556
    have H := ift h556 H
    refine Cw_seq<|Cw_region<|Ow_q rfl rfl rfl (Qt_assign rfl)<|Ow_nil<|Cw_ret<|?_
    obtain ey0 := inj1 H
    subst y0
    refine ⟨(by first | exact .inl rfl | exact .inr rfl), [(.bool true)], ⟨(.bool true), _, rfl, rfl, rfl⟩, ?_⟩
    exact Shift.done ⟨rfl, rfl⟩
   ·intro h556
    have H := iff_ (btf h556) H
    refine Cw_skip<|Cw_region<|Ow_q rfl rfl rfl (Qt_move rfl)<|Ow_q rfl rfl rfl (Qt_arith (e := wI (i387 + 1)) rfl rfl rfl rfl)<|Ow_q rfl rfl rfl (Qt_assign rfl)<|Ow_nil<|Shift.done<|?_
    exact ⟨_, by exact ⟨rfl, rfl, rfl, rfl, rfl, trivial⟩, _, Nat.lt_succ_self _, (wI (i387 + 1)), rfl, rfl, rfl, (hkk391 ▸ H)⟩
  ·intro h393
   have h393 := dcd_f (h393)
   have H := iff_ h393 H
   refine Cw_exit<|Shift.done<|?_
   exact ⟨[], trivial, rfl, rfl, H⟩
 rintro _ K557 _ hK558 ⟨rfl, rfl, H⟩
 unfold M_174z at H
 refine Cw_seq<|Cw_region<|Ow_q rfl rfl rfl (Qt_assign rfl)<|Ow_nil<|Cw_ret<|?_
 obtain ey0 := inj1 H
 subst y0
 refine ⟨(by first | exact .inl rfl | exact .inr rfl), [(.bool false)], ⟨(.bool false), _, rfl, rfl, rfl⟩, ?_⟩
 exact Shift.done ⟨rfl, rfl⟩

set_option maxHeartbeats 1000000 in
theorem c_M_139z (p0 : List (List Op)) (vp0 : SV) (p1 : List Event) (vp1 : SV) (p2 : Int) (p3 : Int) (y0 : Bool) (H : M_139z p0 p1 p2 p3 = some y0) (K : Kp) (G : List Ent) (hp0 : Slr (Ty.sl TyOp) K (sv vp0) p0) (hp1 : Slr TyEvent K (sv vp1) p1) :
  Fc Try.prog 77 #[(sv vp0), (sv vp1), (.int .i64 p2), (.int .i64 p3)] K (G) (fun v K' G' => v = (.bool y0) ∧ G = G') := by
 refine Fc_body Try.func77 rfl Try.ntmps77 Try.results77 rfl ?_
 unfold M_139z at H
 refine Cw_seq<|Cw_region<|Ow_q rfl rfl rfl (Qt_assign rfl)<|Ow_nil<|?_
 refine Cw_join (fun env' K' G' => [] = env' ∧ G = G' ∧ M_176z = some y0) ?_ ?_
 ·skip
  refine Cw_seq<|Cw_region<|Ow_q rfl rfl rfl (Qt_assign rfl)<|Ow_nil<|Cw_block<|?_
  refine Cw_loopM (fun n417 env' K' G' => ∃ (i416 : Int), [(0, (sv vp0)), (1, (sv vp1)), (2, (.int .i64 p2)), (3, (.int .i64 p3)), (9, (.int .i64 i416))] = env' ∧ K = K' ∧ G = G' ∧ lp1 (M_177z p0 p1 p2 p3) n417 i416 = some y0) BIG ?_ ?_
  ·skip
   exact Shift.done ⟨_, by exact ⟨rfl, rfl, rfl, rfl, rfl, trivial⟩, 0, rfl, rfl, rfl, H⟩
  rintro n417 _ _ _ - ⟨i416, rfl, rfl, rfl, H⟩
  obtain ⟨m418, k419, rfl, hkk420, H⟩ := lps1 H
  unfold M_177z at H
  refine Cw_seq<|Cw_seq<|Cw_region<|Ow_q rfl rfl rfl (Qt_move rfl)<|Ow_q rfl rfl rfl (Qt_move rfl)<|Ow_q rfl rfl rfl (Qt_cmp rfl rfl rfl)<|Ow_nil<|?_
  refine Cw_cond rfl ?_ ?_
  ·intro h422
   have h422 := dcd_t (h422)
   have H := ift h422 H
   refine Cw_skip<|Cw_seq<|Cw_block<|Cw_seq<|?_
   obtain ⟨x530, hx531, H⟩ := bnd H
   obtain ⟨x535, hx536, H⟩ := bnd H
   obtain ⟨x542, hx543, H⟩ := bnd H
   obtain ⟨x547, hx548, H⟩ := bnd H
   refine Cw_region_any [] rfl Inc.nil<|Awq 0 rfl (by kernel_rfl) rfl rfl rfl (Qt_move rfl)<|Awq 1 rfl (by kernel_rfl) rfl rfl rfl (Qt_move rfl)<|Awq 2 rfl (by kernel_rfl) rfl rfl rfl (Qt_move rfl)<|?_
   obtain ⟨r557, hr558, hk559⟩ := Slr.at hp1 hx531
   obtain rfl := hr558
   refine Awq 3 rfl (by kernel_rfl) rfl rfl rfl (Q_ix (T := TyEvent) hp1 hx531 rfl rfl rfl rfl rfl)<|Awq 4 rfl (by kernel_rfl) rfl rfl rfl (Qt_fieldAddr (m := 0) rfl rfl rfl rfl rfl)<|Awq 5 rfl (by kernel_rfl) rfl rfl rfl (Qt_load1 (v := (.int .i64 x530.thread)) rfl rfl rfl (Rdc.k hk559 rfl))<|?_
   obtain ⟨r560, hr561, hk562⟩ := Slr.at hp0 hx536
   obtain ⟨v563, rfl, hs564⟩ := hr561
   refine Awq 6 rfl (by kernel_rfl) rfl rfl rfl (Q_ix (T := (Ty.sl TyOp)) hp0 hx536 rfl rfl rfl rfl rfl)<|Awq 7 rfl (by kernel_rfl) rfl rfl rfl (Qt_load1 (v := (sv v563)) rfl rfl rfl (Rdc.k hk562 rfl))<|Awq 8 rfl (by kernel_rfl) rfl rfl rfl (Qt_move rfl)<|Awq 9 rfl (by kernel_rfl) rfl rfl rfl (Qt_move rfl)<|?_
   obtain ⟨r565, hr566, hk567⟩ := Slr.at hp1 hx543
   obtain rfl := hr566
   refine Awq 10 rfl (by kernel_rfl) rfl rfl rfl (Q_ix (T := TyEvent) hp1 hx543 rfl rfl rfl rfl rfl)<|Awq 11 rfl (by kernel_rfl) rfl rfl rfl (Qt_fieldAddr (m := 1) rfl rfl rfl rfl rfl)<|Awq 12 rfl (by kernel_rfl) rfl rfl rfl (Qt_load1 (v := (.int .i64 x542.op)) rfl rfl rfl (Rdc.k hk567 rfl))<|?_
   obtain ⟨r568, hr569, hk570⟩ := Slr.at hs564 hx548
   obtain ⟨v571, v572, rfl, hs573, hs574⟩ := hr569
   refine Awq 13 rfl (by kernel_rfl) rfl rfl rfl (Q_ix (T := TyOp) hs564 hx548 rfl rfl rfl rfl rfl)<|Awq 14 rfl (by kernel_rfl) rfl rfl rfl (Qt_loadA (m := 7) (cs := (Op.cells x547 v571 v572)) rfl rfl rfl rfl ⟨rfl, Rdc.k hk570 rfl⟩)<|?_
   refine Aw_one 15 (by kernel_rfl) (Ax_mk rfl rfl ?_)
   refine OpW_alloc (cs := (Op.cells (Op.mk 0 0 0 0 0 [] []) nilS nilS)) rfl rfl rfl rfl (fun b575 => ⟨Inc.nil, ?_⟩)
   refine Aw_one 16 (by kernel_rfl) (Ax_mk rfl rfl ?_)
   refine OpW_store (vs := (Op.cells x547 v571 v572)) (all' := (Op.cells x547 v571 v572)) rfl rfl rfl rfl rfl .here rfl rfl rfl ⟨Inc.nil, ?_⟩
   refine Aw_done (by kernel_rfl) ?_
   refine Cw_join (fun env' K' G' => ∃ (t589 : Bool), [(0, (sv vp0)), (1, (sv vp1)), (2, (.int .i64 p2)), (3, (.int .i64 p3)), (9, (.int .i64 i416)), (55, (.bool t589))] = env' ∧ K = K' ∧ G = G' ∧ M_25z p0 p1 p2 p3 i416 k419 t589 = some y0) ?_ ?_
   ·skip
    refine Cw_region<|Ow_q rfl rfl rfl (Qt_move rfl)<|Ow_q rfl rfl rfl (Qt_move rfl)<|?_
    obtain ⟨x590, hx591, H⟩ := bnd H
    obtain ⟨r592, hr593, hk594⟩ := Slr.at hp1 hx591
    obtain rfl := hr593
    refine Ow_q rfl rfl rfl (Q_ix (T := TyEvent) hp1 hx591 rfl rfl rfl rfl rfl)<|Ow_q rfl rfl rfl (Qt_fieldAddr (m := 2) rfl rfl rfl rfl rfl)<|Ow_q rfl rfl rfl (Qt_load1 (v := (.bool x590.ret)) rfl rfl rfl (Rdc.k hk594 rfl))<|Ow_q rfl rfl rfl (Qt_move rfl)<|?_
    refine Ow_caseG rfl rfl rfl ?_ ?_
    ·intro h595
     have H := ift h595 H
     refine Ow_qw rfl rfl rfl rfl rfl rfl (Qt_fieldAddr (m := 0) rfl rfl rfl rfl rfl)<|Ow_qw rfl rfl rfl rfl rfl rfl (Qt_load1 (v := (.int .i64 x547.kind)) rfl rfl rfl (Rdc.blk Mb0 rfl))<|Ow_qw rfl rfl rfl rfl rfl rfl (Qt_cmp rfl rfl rfl)<|Ow_q rfl rfl rfl (Qt_pick_t rfl rfl)<|Ow_q rfl rfl rfl (Qt_move rfl)<|?_
     refine Ow_caseG rfl rfl rfl ?_ ?_
     ·intro h596
      have h596 := dcd_t (h596)
      have H := ift h596 H
      refine Ow_qw rfl rfl rfl rfl rfl rfl (Qt_fieldAddr (m := 2) rfl rfl rfl rfl rfl)<|Ow_qw rfl rfl rfl rfl rfl rfl (Qt_load1 (v := (.int .i64 x547.channel)) rfl rfl rfl (Rdc.blk Mb0 rfl))<|Ow_qw rfl rfl rfl rfl rfl rfl (Qt_move rfl)<|Ow_qw rfl rfl rfl rfl rfl rfl (Qt_cmp rfl rfl rfl)<|Ow_q rfl rfl rfl (Qt_pick_t rfl rfl)<|Ow_q rfl rfl rfl (Qt_move rfl)<|?_
      refine Ow_caseG rfl rfl rfl ?_ ?_
      ·intro h597
       have h597 := dcd_t (h597)
       have H := ift h597 H
       refine Ow_qw rfl rfl rfl rfl rfl rfl (Qt_move rfl)<|Ow_qw rfl rfl rfl rfl rfl rfl (Qt_move rfl)<|?_
       obtain ⟨x598, hx599, H⟩ := bnd H
       obtain ⟨r600, hr601, hk602⟩ := Slr.at hp1 hx599
       obtain rfl := hr601
       refine Ow_qw rfl rfl rfl rfl rfl rfl (Q_ix (T := TyEvent) hp1 hx599 rfl rfl rfl rfl rfl)<|Ow_qw rfl rfl rfl rfl rfl rfl (Qt_fieldAddr (m := 3) rfl rfl rfl rfl rfl)<|Ow_qw rfl rfl rfl rfl rfl rfl (Qt_fieldAddr (m := 3) rfl rfl rfl rfl rfl)<|Ow_qw rfl rfl rfl rfl rfl rfl (Qt_load1 (v := (.int .i64 x598.result.kind)) rfl rfl rfl (Rdc.k hk602 rfl))<|Ow_qw rfl rfl rfl rfl rfl rfl (Qt_cmp rfl rfl rfl)<|Ow_q rfl rfl rfl (Qt_pick_t rfl rfl)<|Ow_nil<|Re0<|Shift.done<|?_
       exact ⟨_, by exact ⟨rfl, rfl, rfl, rfl, rfl, rfl, trivial⟩, (dcd (x598.result.kind = 6)), rfl, rfl, rfl, H⟩
      ·intro h597
       have h597 := dcd_f (h597)
       have H := iff_ h597 H
       refine Ow_pass rfl rfl rfl rfl rfl rfl rfl<|Ow_pass rfl rfl rfl rfl rfl rfl rfl<|Ow_pass rfl rfl rfl rfl rfl rfl rfl<|Ow_pass rfl rfl rfl rfl rfl rfl rfl<|Ow_pass rfl rfl rfl rfl rfl rfl rfl<|Ow_pass rfl rfl rfl rfl rfl rfl rfl<|Ow_pass rfl rfl rfl rfl rfl rfl rfl<|Ow_q rfl rfl rfl (Qt_pick_f rfl rfl)<|Ow_nil<|Re0<|?_
       exact Shift.done ⟨_, by exact ⟨rfl, rfl, rfl, rfl, rfl, rfl, trivial⟩, false, rfl, rfl, rfl, H⟩
     ·intro h596
      have h596 := dcd_f (h596)
      have H := iff_ h596 H
      refine Ow_pass rfl rfl rfl rfl rfl rfl rfl<|Ow_pass rfl rfl rfl rfl rfl rfl rfl<|Ow_pass rfl rfl rfl rfl rfl rfl rfl<|Ow_pass rfl rfl rfl rfl rfl rfl rfl<|Ow_q rfl rfl rfl (Qt_pick_f rfl rfl)<|Ow_q rfl rfl rfl (Qt_move rfl)<|Ow_pass rfl rfl rfl rfl rfl rfl rfl<|Ow_pass rfl rfl rfl rfl rfl rfl rfl<|Ow_pass rfl rfl rfl rfl rfl rfl rfl<|Ow_pass rfl rfl rfl rfl rfl rfl rfl<|?_
      refine Ow_pass rfl rfl rfl rfl rfl rfl rfl<|Ow_pass rfl rfl rfl rfl rfl rfl rfl<|Ow_pass rfl rfl rfl rfl rfl rfl rfl<|Ow_q rfl rfl rfl (Qt_pick_f rfl rfl)<|Ow_nil<|Re0<|Shift.done<|?_
      exact ⟨_, by exact ⟨rfl, rfl, rfl, rfl, rfl, rfl, trivial⟩, false, rfl, rfl, rfl, H⟩
    ·intro h595
     have H := iff_ (btf h595) H
     refine Ow_pass rfl rfl rfl rfl rfl rfl rfl<|Ow_pass rfl rfl rfl rfl rfl rfl rfl<|Ow_pass rfl rfl rfl rfl rfl rfl rfl<|Ow_q rfl rfl rfl (Qt_pick_f rfl rfl)<|Ow_q rfl rfl rfl (Qt_move rfl)<|Ow_pass rfl rfl rfl rfl rfl rfl rfl<|Ow_pass rfl rfl rfl rfl rfl rfl rfl<|Ow_pass rfl rfl rfl rfl rfl rfl rfl<|Ow_pass rfl rfl rfl rfl rfl rfl rfl<|Ow_q rfl rfl rfl (Qt_pick_f rfl rfl)<|?_
     refine Ow_q rfl rfl rfl (Qt_move rfl)<|Ow_pass rfl rfl rfl rfl rfl rfl rfl<|Ow_pass rfl rfl rfl rfl rfl rfl rfl<|Ow_pass rfl rfl rfl rfl rfl rfl rfl<|Ow_pass rfl rfl rfl rfl rfl rfl rfl<|Ow_pass rfl rfl rfl rfl rfl rfl rfl<|Ow_pass rfl rfl rfl rfl rfl rfl rfl<|Ow_pass rfl rfl rfl rfl rfl rfl rfl<|Ow_q rfl rfl rfl (Qt_pick_f rfl rfl)<|Ow_nil<|?_
     refine Re0<|Shift.done<|?_
     exact ⟨_, by exact ⟨rfl, rfl, rfl, rfl, rfl, rfl, trivial⟩, false, rfl, rfl, rfl, H⟩
   rintro _ _ _ - ⟨t589, rfl, rfl, rfl, H⟩
   unfold M_25z at H
   refine Cw_cond rfl ?_ ?_
   ·intro h603
    have H := ift h603 H
    refine Cw_seq<|Cw_region<|Ow_q rfl rfl rfl (Qt_assign rfl)<|Ow_nil<|Cw_ret<|?_
    obtain ey0 := inj1 H
    subst y0
    refine ⟨(by first | exact .inl rfl | exact .inr rfl), [(.bool true)], ⟨(.bool true), _, rfl, rfl, rfl⟩, ?_⟩
    exact Shift.done ⟨rfl, rfl⟩
   ·intro h603
    have H := iff_ (btf h603) H
    refine Cw_skip<|Cw_region<|Ow_q rfl rfl rfl (Qt_move rfl)<|Ow_q rfl rfl rfl (Qt_arith (e := wI (i416 + 1)) rfl rfl rfl rfl)<|Ow_q rfl rfl rfl (Qt_assign rfl)<|Ow_nil<|Shift.done<|?_
    exact ⟨_, by exact ⟨rfl, rfl, rfl, rfl, rfl, trivial⟩, _, Nat.lt_succ_self _, (wI (i416 + 1)), rfl, rfl, rfl, (hkk420 ▸ H)⟩
  ·intro h422
   have h422 := dcd_f (h422)
   have H := iff_ h422 H
   refine Cw_exit<|Shift.done<|?_
   exact ⟨[], trivial, rfl, rfl, H⟩
 rintro _ K604 _ hK605 ⟨rfl, rfl, H⟩
 unfold M_176z at H
 refine Cw_seq<|Cw_region<|Ow_q rfl rfl rfl (Qt_assign rfl)<|Ow_nil<|Cw_ret<|?_
 obtain ey0 := inj1 H
 subst y0
 refine ⟨(by first | exact .inl rfl | exact .inr rfl), [(.bool false)], ⟨(.bool false), _, rfl, rfl, rfl⟩, ?_⟩
 exact Shift.done ⟨rfl, rfl⟩



end Go.Hx

namespace Go.Hx
open Go Go.Proofs
set_option linter.unusedSimpArgs false
set_option linter.unusedVariables false
set_option maxRecDepth 10000
set_option maxHeartbeats 1000000 in
theorem c_M_141z (p0 : Config) (vp0_capacities : SV) (vp0_starts : SV) (p1 : List (List Op)) (vp1 : SV) (p2 : List Event) (vp2 : SV) (y0 : Bool) (H : M_141z p0 p1 p2 = some y0) (K : Kp) (G : List Ent) (hp0_capacities : Slr Ty.i64 K (sv vp0_capacities) p0.capacities) (hp0_starts : Slr Ty.u64 K (sv vp0_starts) p0.starts) (hp1 : Slr (Ty.sl TyOp) K (sv vp1) p1) (hp2 : Slr TyEvent K (sv vp2) p2) :
  Fc Try.prog 33 #[(.agg (Config.cells p0 vp0_capacities vp0_starts).toArray), (sv vp1), (sv vp2)] K (G) (fun v K' G' => v = (.bool y0) ∧ G = G') := by
 refine Fc_body Try.func33 rfl Try.ntmps33 Try.results33 rfl ?_
 unfold M_141z at H
 refine Cw_seq<|Cw_region<|?_
 refine Ow_cons rfl (OpW_box (cs := (Config.cells p0 vp0_capacities vp0_starts)) rfl rfl rfl (fun b488 => ?_))
 refine Ow_q rfl rfl rfl (Qt_assign rfl)<|Ow_nil<|Cw_seq<|Cw_region<|Ow_q rfl rfl rfl (Qt_move rfl)<|?_
 obtain ⟨x489, hx490, H⟩ := bnd H
 refine Ow_cons rfl (OpW_call rfl Try.call71 rfl rfl (c_M_79z p2 vp2 x489 hx490 _ _ hp2) ?_)
 rintro _ K492 _ hK493 ⟨v491, rfl, rfl, hs494⟩
 refine Ow_q rfl rfl rfl (Qt_assign rfl)<|Ow_nil<|?_
 refine Cw_join (fun env' K' G' => [] = env' ∧ G = G' ∧ M_178z = some y0) ?_ ?_
 ·skip
  refine Cw_seq<|Cw_region<|Ow_q rfl rfl rfl (Qt_assign rfl)<|Ow_nil<|Cw_block<|?_
  refine Cw_loopM (fun n1431 env' K' G' => ∃ (i1430 : Int), [(1, (sv vp1)), (2, (sv vp2)), (3, (.pointer (some ((⟨b488, 0, none⟩ : Addr).add 0)))), (7, (sv v491)), (8, (.int .i64 i1430))] = env' ∧ (.blk b488 34 (Config.cells p0 vp0_capacities vp0_starts)) :: (.tok 115 2 [(sv v491)]) :: G = G' ∧ lp1 (M_181z p1 p2 x489 p0) n1431 i1430 = some y0) BIG ?_ ?_
  ·skip
   refine Pu1<|Shift.done<|?_
   exact ⟨_, by exact ⟨rfl, rfl, rfl, rfl, rfl, trivial⟩, 0, rfl, rfl, H⟩
  rintro n1431 _ K1432 _ hK1433 ⟨i1430, rfl, rfl, H⟩
  obtain ⟨m1434, k1435, rfl, hkk1436, H⟩ := lps1 H
  unfold M_181z at H
  refine Cw_seq<|Cw_seq<|Cw_region<|Ow_q rfl rfl rfl (Qt_move rfl)<|Ow_q rfl rfl rfl (Qt_move rfl)<|?_
  have hs1439 := ((hp2).mono hK493).mono hK1433
  refine Ow_q rfl rfl rfl (Q_len (T := TyEvent) hs1439 rfl rfl)<|Ow_q rfl rfl rfl (Qt_cmp rfl rfl rfl)<|Ow_nil<|?_
  refine Cw_cond rfl ?_ ?_
  ·intro h1440
   have h1440 := dcd_t (h1440)
   have H := ift h1440 H
   refine Cw_skip ?_
   refine Cw_join (fun env' K' G' => [(1, (sv vp1)), (2, (sv vp2)), (3, (.pointer (some ((⟨b488, 0, none⟩ : Addr).add 0)))), (7, (sv v491)), (8, (.int .i64 i1430))] = env' ∧ (.blk b488 34 (Config.cells p0 vp0_capacities vp0_starts)) :: (.tok 115 2 [(sv v491)]) :: G = G' ∧ M_26z p1 p2 x489 i1430 p0 k1435 = some y0) ?_ ?_
   ·skip
    refine Cw_block<|Cw_seq<|Cw_region<|Ow_q rfl rfl rfl (Qt_move rfl)<|Ow_q rfl rfl rfl (Qt_move rfl)<|?_
    obtain ⟨x1668, hx1669, H⟩ := bnd H
    obtain ⟨r1670, hr1671, hk1672⟩ := Slr.at hs1439 hx1669
    obtain rfl := hr1671
    refine Ow_q rfl rfl rfl (Q_ix (T := TyEvent) hs1439 hx1669 rfl rfl rfl rfl rfl)<|Ow_q rfl rfl rfl (Qt_loadA (m := 8) (cs := (Event.cells x1668)) rfl rfl rfl rfl ⟨rfl, Rdc.k hk1672 rfl⟩)<|?_
    refine Ow_cons rfl (OpW_alloc (cs := (Event.cells (Event.mk 0 0 false (Result.mk 0 0 0 false 0)))) rfl rfl rfl rfl (fun b1673 => ?_))
    refine Ow_cons rfl (OpW_store (vs := (Event.cells x1668)) (all' := (Event.cells x1668)) rfl rfl rfl rfl rfl .here rfl rfl rfl ?_)
    refine Ow_nil<|Cw_seq<|Cw_seq<|Cw_region<|Ow_q rfl rfl rfl (Qt_fieldAddr (m := 2) rfl rfl rfl rfl rfl)<|Ow_q rfl rfl rfl (Qt_load1 (v := (.bool x1668.ret)) rfl rfl rfl (Rdc.blk Mb0 rfl))<|Ow_q rfl rfl rfl (Qt_not rfl)<|Ow_nil<|?_
    refine Cw_cond rfl ?_ ?_
    ·intro h1675
     have h1675 := nt_t (h1675)
     have H := iff_ (btf h1675) H
     refine Cw_exit<|Pu2<|Pu2<|Re2<|Shift.done<|?_
     exact ⟨_, by exact ⟨rfl, rfl, rfl, rfl, rfl, trivial⟩, rfl, rfl, H⟩
    ·intro h1675
     have h1675 := nt_f (h1675)
     have H := ift h1675 H
     refine Cw_skip ?_
     refine Cw_join (fun env' K' G' => ∃ (b1712 : Nat) (t1713 : Bool) (t1714 : Bool) (i1715 : Int) (i1716 : Int), [(1, (sv vp1)), (2, (sv vp2)), (3, (.pointer (some ((⟨b488, 0, none⟩ : Addr).add 0)))), (7, (sv v491)), (8, (.int .i64 i1430)), (9, (.pointer (some ((⟨b1673, 0, none⟩ : Addr).add 0)))), (10, (.pointer (some ((⟨b1712, 0, none⟩ : Addr).add 0)))), (11, (.bool t1713))] = env' ∧ K1432 = K' ∧ (.blk b1712 73 (Case.cells (Case.mk t1714 i1715 i1716))) :: (.blk b1673 65 (Event.cells x1668)) :: (.blk b488 34 (Config.cells p0 vp0_capacities vp0_starts)) :: (.tok 115 2 [(sv v491)]) :: G = G' ∧ M_140z p1 p2 x489 i1430 x1668 p0 k1435 t1713 t1714 i1715 i1716 = some y0) ?_ ?_
     ·skip
      obtain ⟨x1717, hx1718, H⟩ := bnd H
      obtain ⟨x1725, hx1726, H⟩ := bnd H
      obtain ⟨x1734, x1735, hx1736, H⟩ := bnd2 H
      refine Cw_region_any [.blk b1673 65 (Event.cells x1668), .blk b488 34 (Config.cells p0 vp0_capacities vp0_starts), .tok 115 2 [(sv v491)]] rfl (Inc.cons Mb0 (Inc.cons Mb1 (Inc.cons Mb2 Inc.nil)))<|Awq 0 rfl (by kernel_rfl) rfl rfl rfl (Qt_move rfl)<|Awq 1 rfl (by kernel_rfl) rfl rfl rfl (Qt_fieldAddr (m := 0) rfl rfl rfl rfl rfl)<|Awq 2 rfl (by kernel_rfl) rfl rfl rfl (Qt_load1 (v := (.int .i64 x1668.thread)) rfl rfl rfl (Rdc.blk Mb0 rfl))<|?_
      have hs1738 := ((hp1).mono hK493).mono hK1433
      obtain ⟨r1739, hr1740, hk1741⟩ := Slr.at hs1738 hx1718
      obtain ⟨v1742, rfl, hs1743⟩ := hr1740
      refine Awq 3 rfl (by kernel_rfl) rfl rfl rfl (Q_ix (T := (Ty.sl TyOp)) hs1738 hx1718 rfl rfl rfl rfl rfl)<|Awq 4 rfl (by kernel_rfl) rfl rfl rfl (Qt_load1 (v := (sv v1742)) rfl rfl rfl (Rdc.k hk1741 rfl))<|Awq 5 rfl (by kernel_rfl) rfl rfl rfl (Qt_fieldAddr (m := 1) rfl rfl rfl rfl rfl)<|Awq 6 rfl (by kernel_rfl) rfl rfl rfl (Qt_load1 (v := (.int .i64 x1668.op)) rfl rfl rfl (Rdc.blk Mb0 rfl))<|?_
      obtain ⟨r1744, hr1745, hk1746⟩ := Slr.at hs1743 hx1726
      obtain ⟨v1747, v1748, rfl, hs1749, hs1750⟩ := hr1745
      refine Awq 7 rfl (by kernel_rfl) rfl rfl rfl (Q_ix (T := TyOp) hs1743 hx1726 rfl rfl rfl rfl rfl)<|Awq 8 rfl (by kernel_rfl) rfl rfl rfl (Qt_loadA (m := 7) (cs := (Op.cells x1725 v1747 v1748)) rfl rfl rfl rfl ⟨rfl, Rdc.k hk1746 rfl⟩)<|Awq 9 rfl (by kernel_rfl) rfl rfl rfl (Qt_fieldAddr (m := 3) rfl rfl rfl rfl rfl)<|Awq 10 rfl (by kernel_rfl) rfl rfl rfl (Qt_loadA (m := 5) (cs := (Result.cells x1668.result)) rfl rfl rfl rfl ⟨rfl, Rdc.blk Mb0 rfl⟩)<|?_
      refine Aw_two 11 15 (by kernel_rfl) ?_ ?_
      ·skip
       refine id (Ax_mk rfl rfl ?_)
       refine OpW_call rfl Try.call72 rfl rfl (c_M_43z x1725 v1747 v1748 x1668.result x1734 x1735 hx1736 _ _ hs1749 hs1750) ?_
       rintro _ _ _ - ⟨rfl, rfl, rfl⟩
       refine ⟨(Inc.cons Mb0 (Inc.cons Mb1 (Inc.cons Mb2 Inc.nil))), ?_⟩
       refine Awq 12 rfl (by kernel_rfl) rfl rfl rfl (Qt_move rfl)<|Awq 13 rfl (by kernel_rfl) rfl rfl rfl (Qt_extract rfl rfl)<|Awq 14 rfl (by kernel_rfl) rfl rfl rfl (Qt_extract rfl rfl)<|?_
       refine Aw_one 15 (by kernel_rfl) (Ax_mk rfl rfl ?_)
       refine OpW_alloc (cs := (Case.cells (Case.mk false 0 0))) rfl rfl rfl rfl (fun b1751 => ⟨(Inc.cons Mb1 (Inc.cons Mb2 (Inc.cons Mb3 Inc.nil))), ?_⟩)
       refine Aw_one 16 (by kernel_rfl) (Ax_mk rfl rfl ?_)
       refine OpW_store (vs := (Case.cells x1734)) (all' := (Case.cells x1734)) rfl rfl rfl rfl rfl .here rfl rfl rfl ⟨(Inc.cons Mb1 (Inc.cons Mb2 (Inc.cons Mb3 Inc.nil))), ?_⟩
       refine Awq 17 rfl (by kernel_rfl) rfl rfl rfl (Qt_assign rfl)<|Aw_done (by kernel_rfl)<|Pu3<|Pu3<|Pu3<|Pu3<|Shift.done<|?_
       exact ⟨_, by exact ⟨rfl, rfl, rfl, rfl, rfl, rfl, rfl, rfl, trivial⟩, b1751, x1735, x1734.send, x1734.channel, x1734.value, rfl, rfl, rfl, H⟩
      ·skip
       refine id (Ax_mk rfl rfl ?_)
       refine OpW_alloc (cs := (Case.cells (Case.mk false 0 0))) rfl rfl rfl rfl (fun b1752 => ⟨(Inc.cons Mb1 (Inc.cons Mb2 (Inc.cons Mb3 Inc.nil))), ?_⟩)
       refine Aw_one 11 (by kernel_rfl) (Ax_mk rfl rfl ?_)
       refine OpW_call rfl Try.call72 rfl rfl (c_M_43z x1725 v1747 v1748 x1668.result x1734 x1735 hx1736 _ _ hs1749 hs1750) ?_
       rintro _ _ _ - ⟨rfl, rfl, rfl⟩
       refine ⟨(Inc.cons Mb1 (Inc.cons Mb2 (Inc.cons Mb3 Inc.nil))), ?_⟩
       refine Awq 12 rfl (by kernel_rfl) rfl rfl rfl (Qt_move rfl)<|Awq 13 rfl (by kernel_rfl) rfl rfl rfl (Qt_extract rfl rfl)<|Awq 14 rfl (by kernel_rfl) rfl rfl rfl (Qt_extract rfl rfl)<|?_
       refine Aw_one 16 (by kernel_rfl) (Ax_mk rfl rfl ?_)
       refine OpW_store (vs := (Case.cells x1734)) (all' := (Case.cells x1734)) rfl rfl rfl rfl rfl .here rfl rfl rfl ⟨(Inc.cons Mb1 (Inc.cons Mb2 (Inc.cons Mb3 Inc.nil))), ?_⟩
       refine Awq 17 rfl (by kernel_rfl) rfl rfl rfl (Qt_assign rfl)<|Aw_done (by kernel_rfl)<|Pu3<|Pu3<|Pu3<|Pu3<|Shift.done<|?_
       exact ⟨_, by exact ⟨rfl, rfl, rfl, rfl, rfl, rfl, rfl, rfl, trivial⟩, b1752, x1735, x1734.send, x1734.channel, x1734.value, rfl, rfl, rfl, H⟩
     rintro _ _ _ - ⟨b1712, t1713, t1714, i1715, i1716, rfl, rfl, rfl, H⟩
     unfold M_140z at H
     refine Cw_seq ?_
     refine Cw_join (fun env' K' G' => ∃ (t1765 : Bool), [(1, (sv vp1)), (2, (sv vp2)), (3, (.pointer (some ((⟨b488, 0, none⟩ : Addr).add 0)))), (7, (sv v491)), (8, (.int .i64 i1430)), (9, (.pointer (some ((⟨b1673, 0, none⟩ : Addr).add 0)))), (10, (.pointer (some ((⟨b1712, 0, none⟩ : Addr).add 0)))), (53, (.bool t1765))] = env' ∧ K1432 = K' ∧ (.blk b1712 73 (Case.cells (Case.mk t1714 i1715 i1716))) :: (.blk b1673 65 (Event.cells x1668)) :: (.blk b488 34 (Config.cells p0 vp0_capacities vp0_starts)) :: (.tok 115 2 [(sv v491)]) :: G = G' ∧ M_87z p1 p2 x489 i1430 t1714 i1715 i1716 x1668 p0 k1435 t1765 = some y0) ?_ ?_
     ·skip
      refine Cw_region<|Ow_q rfl rfl rfl (Qt_move rfl)<|Ow_q rfl rfl rfl (Qt_not rfl)<|Ow_q rfl rfl rfl (Qt_move rfl)<|?_
      refine Ow_caseG rfl rfl rfl ?_ ?_
      ·intro h1766
       have h1766 := nt_t (h1766)
       have H := iff_ (btf h1766) H
       refine Ow_pass rfl rfl rfl rfl rfl rfl rfl<|Ow_pass rfl rfl rfl rfl rfl rfl rfl<|Ow_pass rfl rfl rfl rfl rfl rfl rfl<|Ow_pass rfl rfl rfl rfl rfl rfl rfl<|Ow_pass rfl rfl rfl rfl rfl rfl rfl<|Ow_q rfl rfl rfl (Qt_pick_t rfl rfl)<|Ow_nil<|Pu3<|Pu3<|Pu3<|?_
       refine Pu3<|Shift.done<|?_
       exact ⟨_, by exact ⟨rfl, rfl, rfl, rfl, rfl, rfl, rfl, rfl, trivial⟩, true, rfl, rfl, rfl, H⟩
      ·intro h1766
       have h1766 := nt_f (h1766)
       have H := ift h1766 H
       refine Ow_qw rfl rfl rfl rfl rfl rfl (Qt_loadA (m := 3) (cs := (Config.cells p0 vp0_capacities vp0_starts)) rfl rfl rfl rfl ⟨rfl, Rdc.blk Mb2 rfl⟩)<|Ow_qw rfl rfl rfl rfl rfl rfl (Qt_fieldAddr (m := 1) rfl rfl rfl rfl rfl)<|Ow_qw rfl rfl rfl rfl rfl rfl (Qt_load1 (v := (.int .i64 i1715)) rfl rfl rfl (Rdc.blk Mb0 rfl))<|?_
       obtain ⟨x1767, hx1768, H⟩ := bnd H
       have hs1769 := ((hp0_capacities).mono hK493).mono hK1433
       have hs1770 := ((hp0_starts).mono hK493).mono hK1433
       refine Ow_want rfl rfl rfl rfl (OpW_call rfl Try.call73 rfl rfl (c_M_134z p0 vp0_capacities vp0_starts i1715 x1767 hx1768 _ _ hs1769 hs1770) ?_)
       rintro _ _ _ - ⟨rfl, rfl, rfl⟩
       refine Ow_qw rfl rfl rfl rfl rfl rfl (Qt_not rfl)<|Ow_q rfl rfl rfl (Qt_pick_f rfl rfl)<|Ow_nil<|Pu3<|Pu3<|Pu3<|Pu3<|Shift.done<|?_
       exact ⟨_, by exact ⟨rfl, rfl, rfl, rfl, rfl, rfl, rfl, rfl, trivial⟩, (!(x1767)), rfl, rfl, rfl, H⟩
     rintro _ _ _ - ⟨t1765, rfl, rfl, rfl, H⟩
     unfold M_87z at H
     refine Cw_cond rfl ?_ ?_
     ·intro h1771
      have H := ift h1771 H
      refine Cw_exit<|Pu3<|Pu3<|Re2<|Re2<|Shift.done<|?_
      exact ⟨_, by exact ⟨rfl, rfl, rfl, rfl, rfl, trivial⟩, rfl, rfl, H⟩
     ·intro h1771
      have H := iff_ (btf h1771) H
      refine Cw_skip ?_
      refine Cw_join (fun env' K' G' => [(1, (sv vp1)), (2, (sv vp2)), (3, (.pointer (some ((⟨b488, 0, none⟩ : Addr).add 0)))), (7, (sv v491)), (8, (.int .i64 i1430)), (9, (.pointer (some ((⟨b1673, 0, none⟩ : Addr).add 0)))), (10, (.pointer (some ((⟨b1712, 0, none⟩ : Addr).add 0))))] = env' ∧ (.blk b1712 73 (Case.cells (Case.mk t1714 i1715 i1716))) :: (.blk b1673 65 (Event.cells x1668)) :: (.blk b488 34 (Config.cells p0 vp0_capacities vp0_starts)) :: (.tok 115 2 [(sv v491)]) :: G = G' ∧ M_84z p1 p2 x489 i1430 t1714 i1715 i1716 x1668 p0 k1435 = some y0) ?_ ?_
      ·skip
       refine Cw_join (fun env' K' G' => ∃ (t1907 : Bool), [(1, (sv vp1)), (2, (sv vp2)), (3, (.pointer (some ((⟨b488, 0, none⟩ : Addr).add 0)))), (7, (sv v491)), (8, (.int .i64 i1430)), (9, (.pointer (some ((⟨b1673, 0, none⟩ : Addr).add 0)))), (10, (.pointer (some ((⟨b1712, 0, none⟩ : Addr).add 0)))), (67, (.bool t1907))] = env' ∧ K1432 = K' ∧ (.blk b1712 73 (Case.cells (Case.mk t1714 i1715 i1716))) :: (.blk b1673 65 (Event.cells x1668)) :: (.blk b488 34 (Config.cells p0 vp0_capacities vp0_starts)) :: (.tok 115 2 [(sv v491)]) :: G = G' ∧ M_28z p1 p2 x489 i1430 t1714 i1715 i1716 x1668 p0 k1435 t1907 = some y0) ?_ ?_
       ·skip
        refine Cw_region<|Ow_q rfl rfl rfl (Qt_fieldAddr (m := 3) rfl rfl rfl rfl rfl)<|Ow_q rfl rfl rfl (Qt_fieldAddr (m := 3) rfl rfl rfl rfl rfl)<|Ow_q rfl rfl rfl (Qt_load1 (v := (.int .i64 x1668.result.kind)) rfl rfl rfl (Rdc.blk Mb1 rfl))<|Ow_q rfl rfl rfl (Qt_cmp rfl rfl rfl)<|Ow_q rfl rfl rfl (Qt_move rfl)<|?_
        refine Ow_caseG rfl rfl rfl ?_ ?_
        ·intro h1908
         have h1908 := dcd_t (h1908)
         have H := ift h1908 H
         refine Ow_qw rfl rfl rfl rfl rfl rfl (Qt_fieldAddr (m := 3) rfl rfl rfl rfl rfl)<|Ow_qw rfl rfl rfl rfl rfl rfl (Qt_fieldAddr (m := 6) rfl rfl rfl rfl rfl)<|Ow_qw rfl rfl rfl rfl rfl rfl (Qt_load1 (v := (.bool x1668.result.ok)) rfl rfl rfl (Rdc.blk Mb1 rfl))<|Ow_q rfl rfl rfl (Qt_pick_t rfl rfl)<|Ow_q rfl rfl rfl (Qt_move rfl)<|?_
         refine Ow_caseG rfl rfl rfl ?_ ?_
         ·intro h1909
          have H := ift h1909 H
          refine Ow_qw rfl rfl rfl rfl rfl rfl (Qt_fieldAddr (m := 0) rfl rfl rfl rfl rfl)<|Ow_qw rfl rfl rfl rfl rfl rfl (Qt_load1 (v := (.bool t1714)) rfl rfl rfl (Rdc.blk Mb0 rfl))<|Ow_qw rfl rfl rfl rfl rfl rfl (Qt_not rfl)<|Ow_q rfl rfl rfl (Qt_pick_t rfl rfl)<|Ow_nil<|Pu3<|Pu3<|Pu3<|Pu3<|Shift.done<|?_
          exact ⟨_, by exact ⟨rfl, rfl, rfl, rfl, rfl, rfl, rfl, rfl, trivial⟩, (!(t1714)), rfl, rfl, rfl, H⟩
         ·intro h1909
          have H := iff_ (btf h1909) H
          refine Ow_pass rfl rfl rfl rfl rfl rfl rfl<|Ow_pass rfl rfl rfl rfl rfl rfl rfl<|Ow_pass rfl rfl rfl rfl rfl rfl rfl<|Ow_q rfl rfl rfl (Qt_pick_f rfl rfl)<|Ow_nil<|Pu3<|Pu3<|Pu3<|Pu3<|Shift.done<|?_
          exact ⟨_, by exact ⟨rfl, rfl, rfl, rfl, rfl, rfl, rfl, rfl, trivial⟩, false, rfl, rfl, rfl, H⟩
        ·intro h1908
         have h1908 := dcd_f (h1908)
         have H := iff_ h1908 H
         refine Ow_pass rfl rfl rfl rfl rfl rfl rfl<|Ow_pass rfl rfl rfl rfl rfl rfl rfl<|Ow_pass rfl rfl rfl rfl rfl rfl rfl<|Ow_q rfl rfl rfl (Qt_pick_f rfl rfl)<|Ow_q rfl rfl rfl (Qt_move rfl)<|Ow_pass rfl rfl rfl rfl rfl rfl rfl<|Ow_pass rfl rfl rfl rfl rfl rfl rfl<|Ow_pass rfl rfl rfl rfl rfl rfl rfl<|Ow_q rfl rfl rfl (Qt_pick_f rfl rfl)<|Ow_nil<|?_
         refine Pu3<|Pu3<|Pu3<|Pu3<|Shift.done<|?_
         exact ⟨_, by exact ⟨rfl, rfl, rfl, rfl, rfl, rfl, rfl, rfl, trivial⟩, false, rfl, rfl, rfl, H⟩
       rintro _ _ _ - ⟨t1907, rfl, rfl, rfl, H⟩
       unfold M_28z at H
       refine Cw_cond rfl ?_ ?_
       ·intro h1910
        have H := ift h1910 H
        refine Cw_seq<|Cw_region<|Ow_q rfl rfl rfl (Qt_assign rfl)<|Ow_q rfl rfl rfl (Qt_assign rfl)<|Ow_nil<|?_
        refine Cw_join (fun env' K' G' => ∃ (i2011 : Int) (i2012 : Int), [(1, (sv vp1)), (2, (sv vp2)), (3, (.pointer (some ((⟨b488, 0, none⟩ : Addr).add 0)))), (7, (sv v491)), (8, (.int .i64 i1430)), (9, (.pointer (some ((⟨b1673, 0, none⟩ : Addr).add 0)))), (10, (.pointer (some ((⟨b1712, 0, none⟩ : Addr).add 0)))), (12, (.int .i64 i2011)), (13, (.int .i64 i2012))] = env' ∧ (.blk b1712 73 (Case.cells (Case.mk t1714 i1715 i1716))) :: (.blk b1673 65 (Event.cells x1668)) :: (.blk b488 34 (Config.cells p0 vp0_capacities vp0_starts)) :: (.tok 115 2 [(sv v491)]) :: G = G' ∧ M_179z p1 p2 x489 i1430 t1714 i1715 i1716 x1668 p0 k1435 i2011 i2012 = some y0) ?_ ?_
        ·skip
         refine Cw_seq<|Cw_region<|Ow_q rfl rfl rfl (Qt_assign rfl)<|Ow_nil<|Cw_block<|?_
         refine Cw_loopM (fun n2113 env' K' G' => ∃ (i2110 : Int) (i2111 : Int) (i2112 : Int), [(1, (sv vp1)), (2, (sv vp2)), (3, (.pointer (some ((⟨b488, 0, none⟩ : Addr).add 0)))), (7, (sv v491)), (8, (.int .i64 i1430)), (9, (.pointer (some ((⟨b1673, 0, none⟩ : Addr).add 0)))), (10, (.pointer (some ((⟨b1712, 0, none⟩ : Addr).add 0)))), (12, (.int .i64 i2110)), (13, (.int .i64 i2111)), (14, (.int .i64 i2112))] = env' ∧ (.blk b1712 73 (Case.cells (Case.mk t1714 i1715 i1716))) :: (.blk b1673 65 (Event.cells x1668)) :: (.blk b488 34 (Config.cells p0 vp0_capacities vp0_starts)) :: (.tok 115 2 [(sv v491)]) :: G = G' ∧ lp3 (M_180z p1 p2 x489 i1430 t1714 i1715 i1716 x1668 p0 k1435) n2113 i2110 i2111 i2112 = some y0) BIG ?_ ?_
         ·skip
          refine Pu3<|Pu3<|Pu3<|Pu3<|Shift.done<|?_
          exact ⟨_, by exact ⟨rfl, rfl, rfl, rfl, rfl, rfl, rfl, rfl, rfl, rfl, trivial⟩, 0, 0, 0, rfl, rfl, H⟩
         rintro n2113 _ K2114 _ hK2115 ⟨i2110, i2111, i2112, rfl, rfl, H⟩
         obtain ⟨m2116, k2117, rfl, hkk2118, H⟩ := lps3 H
         unfold M_180z at H
         refine Cw_seq<|Cw_seq<|Cw_region<|Ow_q rfl rfl rfl (Qt_move rfl)<|Ow_q rfl rfl rfl (Qt_move rfl)<|?_
         have hs2121 := ((hs494).mono hK1433).mono hK2115
         refine Ow_q rfl rfl rfl (Q_len (T := TyA2Int) hs2121 rfl rfl)<|Ow_q rfl rfl rfl (Qt_cmp rfl rfl rfl)<|Ow_nil<|?_
         refine Cw_cond rfl ?_ ?_
         ·intro h2122
          have h2122 := dcd_t (h2122)
          have H := ift h2122 H
          refine Cw_skip<|Cw_seq<|Cw_block<|?_
          refine Cw_join (fun env' K' G' => ∃ (i2185 : Int), [(1, (sv vp1)), (2, (sv vp2)), (3, (.pointer (some ((⟨b488, 0, none⟩ : Addr).add 0)))), (7, (sv v491)), (8, (.int .i64 i1430)), (9, (.pointer (some ((⟨b1673, 0, none⟩ : Addr).add 0)))), (10, (.pointer (some ((⟨b1712, 0, none⟩ : Addr).add 0)))), (12, (.int .i64 i2185)), (13, (.int .i64 i2111)), (14, (.int .i64 i2112))] = env' ∧ (.blk b1712 73 (Case.cells (Case.mk t1714 i1715 i1716))) :: (.blk b1673 65 (Event.cells x1668)) :: (.blk b488 34 (Config.cells p0 vp0_capacities vp0_starts)) :: (.tok 115 2 [(sv v491)]) :: G = G' ∧ M_86z p1 p2 x489 i1430 i2111 i2112 t1714 i1715 i1716 x1668 p0 k1435 k2117 i2185 = some y0) ?_ ?_
          ·skip
           refine Cw_seq ?_
           obtain ⟨x2186, hx2187, H⟩ := bnd H
           obtain ⟨x2191, hx2192, H⟩ := bnd H
           refine Cw_region_any [.blk b1712 73 (Case.cells (Case.mk t1714 i1715 i1716)), .blk b1673 65 (Event.cells x1668), .blk b488 34 (Config.cells p0 vp0_capacities vp0_starts), .tok 115 2 [(sv v491)]] rfl (Inc.cons Mb0 (Inc.cons Mb1 (Inc.cons Mb2 (Inc.cons Mb3 Inc.nil))))<|Awq 0 rfl (by kernel_rfl) rfl rfl rfl (Qt_move rfl)<|Awq 1 rfl (by kernel_rfl) rfl rfl rfl (Qt_move rfl)<|Awq 2 rfl (by kernel_rfl) rfl rfl rfl (Qt_move rfl)<|Awq 3 rfl (by kernel_rfl) rfl rfl rfl (Qt_move rfl)<|?_
           obtain ⟨r2197, hr2198, hk2199⟩ := Slr.at hs2121 hx2187
           obtain rfl := hr2198
           refine Awq 4 rfl (by kernel_rfl) rfl rfl rfl (Q_ix (T := TyA2Int) hs2121 hx2187 rfl rfl rfl rfl rfl)<|Awq 5 rfl (by kernel_rfl) rfl rfl rfl (Qt_loadA (m := 2) (cs := (A2Int.cells x2186)) rfl rfl rfl rfl ⟨rfl, Rdc.k hk2199 rfl⟩)<|Awq 6 rfl (by kernel_rfl) rfl rfl rfl (Qt_fieldAddr (m := 1) rfl rfl rfl rfl rfl)<|Awq 7 rfl (by kernel_rfl) rfl rfl rfl (Qt_load1 (v := (.int .i64 i1715)) rfl rfl rfl (Rdc.blk Mb0 rfl))<|Awq 8 rfl (by kernel_rfl) rfl rfl rfl (Qt_fieldAddr (m := 3) rfl rfl rfl rfl rfl)<|Awq 9 rfl (by kernel_rfl) rfl rfl rfl (Qt_fieldAddr (m := 5) rfl rfl rfl rfl rfl)<|Awq 10 rfl (by kernel_rfl) rfl rfl rfl (Qt_load1 (v := (.int .u64 x1668.result.value)) rfl rfl rfl (Rdc.blk Mb1 rfl))<|Awq 11 rfl (by kernel_rfl) rfl rfl rfl (Qt_move rfl)<|?_
           refine Aw_one 12 (by kernel_rfl) (Ax_mk rfl rfl ?_)
           have hs2200 := (((hp1).mono hK493).mono hK1433).mono hK2115
           have hs2201 := (hs1439).mono hK2115
           refine OpW_call rfl Try.call74 rfl rfl (c_M_83z p1 vp1 p2 vp2 x2186 i1715 x1668.result.value i1430 x2191 hx2192 _ _ hs2200 hs2201) ?_
           rintro _ K2202 _ hK2203 ⟨rfl, rfl⟩
           refine ⟨(Inc.cons Mb0 (Inc.cons Mb1 (Inc.cons Mb2 (Inc.cons Mb3 Inc.nil)))), ?_⟩
           refine Aw_done (by kernel_rfl) ?_
           refine Cw_cond rfl ?_ ?_
           ·intro h2204
            have H := ift h2204 H
            refine Cw_region<|Ow_q rfl rfl rfl (Qt_move rfl)<|Ow_q rfl rfl rfl (Qt_arith (e := wI (i2110 + 1)) rfl rfl rfl rfl)<|Ow_q rfl rfl rfl (Qt_assign rfl)<|Ow_nil<|Pu3<|Pu3<|Pu3<|Pu3<|Shift.done<|?_
            exact ⟨_, by exact ⟨rfl, rfl, rfl, rfl, rfl, rfl, rfl, rfl, rfl, rfl, trivial⟩, (wI (i2110 + 1)), rfl, rfl, H⟩
           ·intro h2204
            have H := iff_ (btf h2204) H
            refine Cw_skip<|Pu3<|Pu3<|Pu3<|Pu3<|Shift.done<|?_
            exact ⟨_, by exact ⟨rfl, rfl, rfl, rfl, rfl, rfl, rfl, rfl, rfl, rfl, trivial⟩, i2110, rfl, rfl, H⟩
          rintro _ K2205 _ hK2206 ⟨i2185, rfl, rfl, H⟩
          unfold M_86z at H
          refine Cw_seq ?_
          obtain ⟨x2207, hx2208, H⟩ := bnd H
          obtain ⟨x2214, hx2215, H⟩ := bnd H
          refine Cw_region_any [.blk b1712 73 (Case.cells (Case.mk t1714 i1715 i1716)), .blk b1673 65 (Event.cells x1668), .blk b488 34 (Config.cells p0 vp0_capacities vp0_starts), .tok 115 2 [(sv v491)]] rfl (Inc.cons Mb0 (Inc.cons Mb1 (Inc.cons Mb2 (Inc.cons Mb3 Inc.nil))))<|Awq 0 rfl (by kernel_rfl) rfl rfl rfl (Qt_move rfl)<|Awq 1 rfl (by kernel_rfl) rfl rfl rfl (Qt_move rfl)<|Awq 2 rfl (by kernel_rfl) rfl rfl rfl (Qt_move rfl)<|Awq 3 rfl (by kernel_rfl) rfl rfl rfl (Qt_move rfl)<|?_
          have hs2219 := (hs2121).mono hK2206
          obtain ⟨r2220, hr2221, hk2222⟩ := Slr.at hs2219 hx2208
          obtain rfl := hr2221
          refine Awq 4 rfl (by kernel_rfl) rfl rfl rfl (Q_ix (T := TyA2Int) hs2219 hx2208 rfl rfl rfl rfl rfl)<|Awq 5 rfl (by kernel_rfl) rfl rfl rfl (Qt_loadA (m := 2) (cs := (A2Int.cells x2207)) rfl rfl rfl rfl ⟨rfl, Rdc.k hk2222 rfl⟩)<|Awq 6 rfl (by kernel_rfl) rfl rfl rfl (Qt_fieldAddr (m := 1) rfl rfl rfl rfl rfl)<|Awq 7 rfl (by kernel_rfl) rfl rfl rfl (Qt_load1 (v := (.int .i64 i1715)) rfl rfl rfl (Rdc.blk Mb0 rfl))<|Awq 8 rfl (by kernel_rfl) rfl rfl rfl (Qt_fieldAddr (m := 3) rfl rfl rfl rfl rfl)<|Awq 9 rfl (by kernel_rfl) rfl rfl rfl (Qt_fieldAddr (m := 5) rfl rfl rfl rfl rfl)<|Awq 10 rfl (by kernel_rfl) rfl rfl rfl (Qt_load1 (v := (.int .u64 x1668.result.value)) rfl rfl rfl (Rdc.blk Mb1 rfl))<|Awq 11 rfl (by kernel_rfl) rfl rfl rfl (Qt_move rfl)<|?_
          have hs2223 := ((hs1439).mono hK2115).mono hK2206
          refine Awq 12 rfl (by kernel_rfl) rfl rfl rfl (Q_len (T := TyEvent) hs2223 rfl rfl) ?_
          refine Aw_one 13 (by kernel_rfl) (Ax_mk rfl rfl ?_)
          have hs2224 := ((((hp1).mono hK493).mono hK1433).mono hK2115).mono hK2206
          refine OpW_call rfl Try.call74 rfl rfl (c_M_83z p1 vp1 p2 vp2 x2207 i1715 x1668.result.value (p2.length : Int) x2214 hx2215 _ _ hs2224 hs2223) ?_
          rintro _ K2225 _ hK2226 ⟨rfl, rfl⟩
          refine ⟨(Inc.cons Mb0 (Inc.cons Mb1 (Inc.cons Mb2 (Inc.cons Mb3 Inc.nil)))), ?_⟩
          refine Aw_done (by kernel_rfl) ?_
          refine Cw_cond rfl ?_ ?_
          ·intro h2227
           have H := ift h2227 H
           refine Cw_region<|Ow_q rfl rfl rfl (Qt_move rfl)<|Ow_q rfl rfl rfl (Qt_arith (e := wI (i2111 + 1)) rfl rfl rfl rfl)<|Ow_q rfl rfl rfl (Qt_assign rfl)<|Ow_nil<|Cw_region<|Ow_q rfl rfl rfl (Qt_move rfl)<|Ow_q rfl rfl rfl (Qt_arith (e := wI (i2112 + 1)) rfl rfl rfl rfl)<|Ow_q rfl rfl rfl (Qt_assign rfl)<|Ow_nil<|?_
           refine Pu3<|Pu3<|Pu3<|Pu3<|Shift.done<|?_
           exact ⟨_, by exact ⟨rfl, rfl, rfl, rfl, rfl, rfl, rfl, rfl, rfl, rfl, trivial⟩, _, Nat.lt_succ_self _, i2185, (wI (i2111 + 1)), (wI (i2112 + 1)), rfl, rfl, (hkk2118 ▸ H)⟩
          ·intro h2227
           have H := iff_ (btf h2227) H
           refine Cw_skip<|Cw_region<|Ow_q rfl rfl rfl (Qt_move rfl)<|Ow_q rfl rfl rfl (Qt_arith (e := wI (i2112 + 1)) rfl rfl rfl rfl)<|Ow_q rfl rfl rfl (Qt_assign rfl)<|Ow_nil<|Pu3<|Pu3<|Pu3<|Pu3<|?_
           exact Shift.done ⟨_, by exact ⟨rfl, rfl, rfl, rfl, rfl, rfl, rfl, rfl, rfl, rfl, trivial⟩, _, Nat.lt_succ_self _, i2185, i2111, (wI (i2112 + 1)), rfl, rfl, (hkk2118 ▸ H)⟩
         ·intro h2122
          have h2122 := dcd_f (h2122)
          have H := iff_ h2122 H
          refine Cw_exit<|Pu3<|Pu3<|Pu3<|Pu3<|Shift.done<|?_
          exact ⟨_, by exact ⟨rfl, rfl, rfl, rfl, rfl, rfl, rfl, rfl, rfl, trivial⟩, i2110, i2111, rfl, rfl, H⟩
        rintro _ K2228 _ hK2229 ⟨i2011, i2012, rfl, rfl, H⟩
        unfold M_179z at H
        refine Cw_join (fun env' K' G' => ∃ (t2251 : Bool), [(1, (sv vp1)), (2, (sv vp2)), (3, (.pointer (some ((⟨b488, 0, none⟩ : Addr).add 0)))), (7, (sv v491)), (8, (.int .i64 i1430)), (9, (.pointer (some ((⟨b1673, 0, none⟩ : Addr).add 0)))), (10, (.pointer (some ((⟨b1712, 0, none⟩ : Addr).add 0)))), (119, (.bool t2251))] = env' ∧ (.blk b1712 73 (Case.cells (Case.mk t1714 i1715 i1716))) :: (.blk b1673 65 (Event.cells x1668)) :: (.blk b488 34 (Config.cells p0 vp0_capacities vp0_starts)) :: (.tok 115 2 [(sv v491)]) :: G = G' ∧ M_85z p1 p2 x489 i1430 t1714 i1715 i1716 x1668 p0 k1435 t2251 = some y0) ?_ ?_
        ·skip
         rcases bool_ct (dcd (i2011 = 0)) with hb_ | hb_ <;> revert hb_
         ·intro h2252
          have h2252 := dcd_t (h2252)
          have H := ift h2252 H
          refine Cw_region_any [.blk b1712 73 (Case.cells (Case.mk t1714 i1715 i1716)), .blk b1673 65 (Event.cells x1668), .blk b488 34 (Config.cells p0 vp0_capacities vp0_starts), .tok 115 2 [(sv v491)]] rfl (Inc.cons Mb0 (Inc.cons Mb1 (Inc.cons Mb2 (Inc.cons Mb3 Inc.nil))))<|Awq 0 rfl (by kernel_rfl) rfl rfl rfl (Qt_move rfl)<|Awq 1 rfl (by kernel_rfl) rfl rfl rfl (Qt_cmp rfl rfl rfl)<|Awq 2 rfl (by kernel_rfl) rfl rfl rfl (Qt_move rfl)<|Aw.known (d := 107) rfl (dcd_pos h2252)<|Awps 3 rfl (by kernel_rfl) rfl rfl rfl rfl rfl rfl rfl<|Awps 4 rfl (by kernel_rfl) rfl rfl rfl rfl rfl rfl rfl<|Awps 5 rfl (by kernel_rfl) rfl rfl rfl rfl rfl rfl rfl<|Awps 6 rfl (by kernel_rfl) rfl rfl rfl rfl rfl rfl rfl<|Awps 7 rfl (by kernel_rfl) rfl rfl rfl rfl rfl rfl rfl<|?_
          refine Awps 8 rfl (by kernel_rfl) rfl rfl rfl rfl rfl rfl rfl<|Awps 9 rfl (by kernel_rfl) rfl rfl rfl rfl rfl rfl rfl<|Awps 10 rfl (by kernel_rfl) rfl rfl rfl rfl rfl rfl rfl<|Awps 11 rfl (by kernel_rfl) rfl rfl rfl rfl rfl rfl rfl<|Awps 12 rfl (by kernel_rfl) rfl rfl rfl rfl rfl rfl rfl<|Awps 13 rfl (by kernel_rfl) rfl rfl rfl rfl rfl rfl rfl<|Awq 14 rfl (by kernel_rfl) rfl rfl rfl (Qt_pick_t rfl rfl)<|Aw_done (by kernel_rfl)<|Pu3<|Pu3<|?_
          refine Pu3<|Pu3<|Shift.done<|?_
          exact ⟨_, by exact ⟨rfl, rfl, rfl, rfl, rfl, rfl, rfl, rfl, trivial⟩, true, rfl, rfl, H⟩
         ·intro h2252
          have h2252 := dcd_f (h2252)
          have H := iff_ h2252 H
          obtain ⟨x2253, hx2254, H⟩ := bnd H
          obtain ⟨x2261, hx2262, H⟩ := bnd H
          refine Cw_region_any [.blk b1712 73 (Case.cells (Case.mk t1714 i1715 i1716)), .blk b1673 65 (Event.cells x1668), .blk b488 34 (Config.cells p0 vp0_capacities vp0_starts), .tok 115 2 [(sv v491)]] rfl (Inc.cons Mb0 (Inc.cons Mb1 (Inc.cons Mb2 (Inc.cons Mb3 Inc.nil))))<|Awq 0 rfl (by kernel_rfl) rfl rfl rfl (Qt_move rfl)<|Awq 1 rfl (by kernel_rfl) rfl rfl rfl (Qt_cmp rfl rfl rfl)<|Awq 2 rfl (by kernel_rfl) rfl rfl rfl (Qt_move rfl)<|Aw.known (d := 107) rfl (dcd_neg h2252)<|Awqw 3 rfl (by kernel_rfl) rfl rfl rfl rfl rfl rfl (Qt_move rfl)<|Awqw 4 rfl (by kernel_rfl) rfl rfl rfl rfl rfl rfl (Qt_move rfl)<|Awqw 5 rfl (by kernel_rfl) rfl rfl rfl rfl rfl rfl (Qt_fieldAddr (m := 1) rfl rfl rfl rfl rfl)<|Awqw 6 rfl (by kernel_rfl) rfl rfl rfl rfl rfl rfl (Qt_load1 (v := (.int .i64 i1715)) rfl rfl rfl (Rdc.blk Mb0 rfl))<|Awqw 8 rfl (by kernel_rfl) rfl rfl rfl rfl rfl rfl (Qt_fieldAddr (m := 3) rfl rfl rfl rfl rfl)<|?_
          refine Awqw 9 rfl (by kernel_rfl) rfl rfl rfl rfl rfl rfl (Qt_fieldAddr (m := 5) rfl rfl rfl rfl rfl)<|Awqw 10 rfl (by kernel_rfl) rfl rfl rfl rfl rfl rfl (Qt_load1 (v := (.int .u64 x1668.result.value)) rfl rfl rfl (Rdc.blk Mb1 rfl))<|Awqw 12 rfl (by kernel_rfl) rfl rfl rfl rfl rfl rfl (Qt_move rfl)<|?_
          refine Aw_one 7 (by kernel_rfl) (Ax_mkw rfl rfl rfl rfl rfl ?_)
          have hs2265 := (((hp1).mono hK493).mono hK1433).mono hK2229
          have hs2266 := (hs1439).mono hK2229
          refine OpW_call rfl Try.call38 rfl rfl (c_M_132z p1 vp1 p2 vp2 i1715 false x2253 hx2254 _ _ hs2265 hs2266) ?_
          rintro _ K2268 _ hK2269 ⟨v2267, rfl, rfl, hs2270⟩
          refine ⟨(Inc.cons Mb1 (Inc.cons Mb2 (Inc.cons Mb3 (Inc.cons Mb4 Inc.nil)))), ?_⟩
          refine Aw_one 11 (by kernel_rfl) (Ax_mkw rfl rfl rfl rfl rfl ?_)
          refine OpW_call rfl Try.call75 rfl rfl (c_M_137z x2253 v2267 x1668.result.value x2261 hx2262 _ _ hs2270) ?_
          rintro _ K2271 _ hK2272 ⟨rfl, rfl⟩
          refine ⟨(Inc.cons Mb1 (Inc.cons Mb2 (Inc.cons Mb3 (Inc.cons Mb4 Inc.nil)))), ?_⟩
          refine Awqw 13 rfl (by kernel_rfl) rfl rfl rfl rfl rfl rfl (Qt_cmp rfl rfl rfl)<|Awq 14 rfl (by kernel_rfl) rfl rfl rfl (Qt_pick_f rfl rfl)<|Aw_done (by kernel_rfl)<|Pu4<|Pu4<|Pu4<|Pu4<|Re4<|Shift.done<|?_
          exact ⟨_, by exact ⟨rfl, rfl, rfl, rfl, rfl, rfl, rfl, rfl, trivial⟩, (dcd (x2261 > i2012)), rfl, rfl, H⟩
        rintro _ K2273 _ hK2274 ⟨t2251, rfl, rfl, H⟩
        unfold M_85z at H
        refine Cw_cond rfl ?_ ?_
        ·intro h2275
         have H := ift h2275 H
         refine Cw_seq<|Cw_region<|Ow_q rfl rfl rfl (Qt_assign rfl)<|Ow_nil<|Cw_ret<|?_
         obtain ey0 := inj1 H
         subst y0
         refine ⟨(by first | exact .inl rfl | exact .inr rfl), [(.bool false)], ⟨(.bool false), _, rfl, rfl, rfl⟩, ?_⟩
         refine Re0<|Re0<|Re0<|Re0<|Shift.done<|?_
         exact ⟨rfl, rfl⟩
        ·intro h2275
         have H := iff_ (btf h2275) H
         refine Cw_skip<|Pu3<|Pu3<|Pu3<|Pu3<|Shift.done<|?_
         exact ⟨_, by exact ⟨rfl, rfl, rfl, rfl, rfl, rfl, rfl, trivial⟩, rfl, rfl, H⟩
       ·intro h1910
        have H := iff_ (btf h1910) H
        refine Cw_skip<|Pu3<|Pu3<|Pu3<|Pu3<|Shift.done<|?_
        exact ⟨_, by exact ⟨rfl, rfl, rfl, rfl, rfl, rfl, rfl, trivial⟩, rfl, rfl, H⟩
      rintro _ K2276 _ hK2277 ⟨rfl, rfl, H⟩
      unfold M_84z at H
      refine Cw_seq ?_
      refine Cw_join (fun env' K' G' => ∃ (t2300 : Bool), [(1, (sv vp1)), (2, (sv vp2)), (3, (.pointer (some ((⟨b488, 0, none⟩ : Addr).add 0)))), (7, (sv v491)), (8, (.int .i64 i1430)), (9, (.pointer (some ((⟨b1673, 0, none⟩ : Addr).add 0)))), (10, (.pointer (some ((⟨b1712, 0, none⟩ : Addr).add 0)))), (143, (.bool t2300))] = env' ∧ (.blk b1712 73 (Case.cells (Case.mk t1714 i1715 i1716))) :: (.blk b1673 65 (Event.cells x1668)) :: (.blk b488 34 (Config.cells p0 vp0_capacities vp0_starts)) :: (.tok 115 2 [(sv v491)]) :: G = G' ∧ M_27z p1 p2 x489 i1430 t1714 i1715 i1716 x1668 p0 k1435 t2300 = some y0) ?_ ?_
      ·skip
       refine Cw_region<|Ow_q rfl rfl rfl (Qt_fieldAddr (m := 3) rfl rfl rfl rfl rfl)<|Ow_q rfl rfl rfl (Qt_fieldAddr (m := 3) rfl rfl rfl rfl rfl)<|Ow_q rfl rfl rfl (Qt_load1 (v := (.int .i64 x1668.result.kind)) rfl rfl rfl (Rdc.blk Mb1 rfl))<|Ow_q rfl rfl rfl (Qt_cmp rfl rfl rfl)<|Ow_q rfl rfl rfl (Qt_move rfl)<|?_
       refine Ow_caseG rfl rfl rfl ?_ ?_
       ·intro h2301
        have h2301 := dcd_t (h2301)
        have H := ift h2301 H
        refine Ow_qw rfl rfl rfl rfl rfl rfl (Qt_fieldAddr (m := 3) rfl rfl rfl rfl rfl)<|Ow_qw rfl rfl rfl rfl rfl rfl (Qt_fieldAddr (m := 6) rfl rfl rfl rfl rfl)<|Ow_qw rfl rfl rfl rfl rfl rfl (Qt_load1 (v := (.bool x1668.result.ok)) rfl rfl rfl (Rdc.blk Mb1 rfl))<|Ow_qw rfl rfl rfl rfl rfl rfl (Qt_not rfl)<|Ow_q rfl rfl rfl (Qt_pick_t rfl rfl)<|Ow_q rfl rfl rfl (Qt_move rfl)<|?_
        refine Ow_caseG rfl rfl rfl ?_ ?_
        ·intro h2302
         have h2302 := nt_t (h2302)
         have H := iff_ (btf h2302) H
         refine Ow_qw rfl rfl rfl rfl rfl rfl (Qt_fieldAddr (m := 0) rfl rfl rfl rfl rfl)<|Ow_qw rfl rfl rfl rfl rfl rfl (Qt_load1 (v := (.bool t1714)) rfl rfl rfl (Rdc.blk Mb0 rfl))<|Ow_qw rfl rfl rfl rfl rfl rfl (Qt_not rfl)<|Ow_q rfl rfl rfl (Qt_pick_t rfl rfl)<|Ow_q rfl rfl rfl (Qt_move rfl)<|?_
         refine Ow_caseG rfl rfl rfl ?_ ?_
         ·intro h2303
          have h2303 := nt_t (h2303)
          have H := iff_ (btf h2303) H
          refine Ow_qw rfl rfl rfl rfl rfl rfl (Qt_move rfl)<|Ow_qw rfl rfl rfl rfl rfl rfl (Qt_move rfl)<|Ow_qw rfl rfl rfl rfl rfl rfl (Qt_fieldAddr (m := 1) rfl rfl rfl rfl rfl)<|Ow_qw rfl rfl rfl rfl rfl rfl (Qt_load1 (v := (.int .i64 i1715)) rfl rfl rfl (Rdc.blk Mb0 rfl))<|Ow_qw rfl rfl rfl rfl rfl rfl (Qt_move rfl)<|?_
          obtain ⟨x2304, hx2305, H⟩ := bnd H
          have hs2306 := (((hp1).mono hK493).mono hK1433).mono hK2277
          have hs2307 := (hs1439).mono hK2277
          refine Ow_want rfl rfl rfl rfl (OpW_call rfl Try.call76 rfl rfl (c_M_138z p1 vp1 p2 vp2 i1715 i1430 x2304 hx2305 _ _ hs2306 hs2307) ?_)
          rintro _ K2308 _ hK2309 ⟨rfl, rfl⟩
          refine Ow_qw rfl rfl rfl rfl rfl rfl (Qt_not rfl)<|Ow_q rfl rfl rfl (Qt_pick_t rfl rfl)<|Ow_nil<|Pu3<|Pu3<|Pu3<|Pu3<|Shift.done<|?_
          exact ⟨_, by exact ⟨rfl, rfl, rfl, rfl, rfl, rfl, rfl, rfl, trivial⟩, (!(x2304)), rfl, rfl, H⟩
         ·intro h2303
          have h2303 := nt_f (h2303)
          have H := ift h2303 H
          refine Ow_pass rfl rfl rfl rfl rfl rfl rfl<|Ow_pass rfl rfl rfl rfl rfl rfl rfl<|Ow_pass rfl rfl rfl rfl rfl rfl rfl<|Ow_pass rfl rfl rfl rfl rfl rfl rfl<|Ow_pass rfl rfl rfl rfl rfl rfl rfl<|Ow_pass rfl rfl rfl rfl rfl rfl rfl<|Ow_pass rfl rfl rfl rfl rfl rfl rfl<|Ow_q rfl rfl rfl (Qt_pick_f rfl rfl)<|Ow_nil<|Pu3<|?_
          refine Pu3<|Pu3<|Pu3<|Shift.done<|?_
          exact ⟨_, by exact ⟨rfl, rfl, rfl, rfl, rfl, rfl, rfl, rfl, trivial⟩, false, rfl, rfl, H⟩
        ·intro h2302
         have h2302 := nt_f (h2302)
         have H := ift h2302 H
         refine Ow_pass rfl rfl rfl rfl rfl rfl rfl<|Ow_pass rfl rfl rfl rfl rfl rfl rfl<|Ow_pass rfl rfl rfl rfl rfl rfl rfl<|Ow_q rfl rfl rfl (Qt_pick_f rfl rfl)<|Ow_q rfl rfl rfl (Qt_move rfl)<|Ow_pass rfl rfl rfl rfl rfl rfl rfl<|Ow_pass rfl rfl rfl rfl rfl rfl rfl<|Ow_pass rfl rfl rfl rfl rfl rfl rfl<|Ow_pass rfl rfl rfl rfl rfl rfl rfl<|Ow_pass rfl rfl rfl rfl rfl rfl rfl<|?_
         refine Ow_pass rfl rfl rfl rfl rfl rfl rfl<|Ow_pass rfl rfl rfl rfl rfl rfl rfl<|Ow_q rfl rfl rfl (Qt_pick_f rfl rfl)<|Ow_nil<|Pu3<|Pu3<|Pu3<|Pu3<|Shift.done<|?_
         exact ⟨_, by exact ⟨rfl, rfl, rfl, rfl, rfl, rfl, rfl, rfl, trivial⟩, false, rfl, rfl, H⟩
       ·intro h2301
        have h2301 := dcd_f (h2301)
        have H := iff_ h2301 H
        refine Ow_pass rfl rfl rfl rfl rfl rfl rfl<|Ow_pass rfl rfl rfl rfl rfl rfl rfl<|Ow_pass rfl rfl rfl rfl rfl rfl rfl<|Ow_pass rfl rfl rfl rfl rfl rfl rfl<|Ow_q rfl rfl rfl (Qt_pick_f rfl rfl)<|Ow_q rfl rfl rfl (Qt_move rfl)<|Ow_pass rfl rfl rfl rfl rfl rfl rfl<|Ow_pass rfl rfl rfl rfl rfl rfl rfl<|Ow_pass rfl rfl rfl rfl rfl rfl rfl<|Ow_q rfl rfl rfl (Qt_pick_f rfl rfl)<|?_
        refine Ow_q rfl rfl rfl (Qt_move rfl)<|Ow_pass rfl rfl rfl rfl rfl rfl rfl<|Ow_pass rfl rfl rfl rfl rfl rfl rfl<|Ow_pass rfl rfl rfl rfl rfl rfl rfl<|Ow_pass rfl rfl rfl rfl rfl rfl rfl<|Ow_pass rfl rfl rfl rfl rfl rfl rfl<|Ow_pass rfl rfl rfl rfl rfl rfl rfl<|Ow_pass rfl rfl rfl rfl rfl rfl rfl<|Ow_q rfl rfl rfl (Qt_pick_f rfl rfl)<|Ow_nil<|?_
        refine Pu3<|Pu3<|Pu3<|Pu3<|Shift.done<|?_
        exact ⟨_, by exact ⟨rfl, rfl, rfl, rfl, rfl, rfl, rfl, rfl, trivial⟩, false, rfl, rfl, H⟩
      rintro _ K2310 _ hK2311 ⟨t2300, rfl, rfl, H⟩
      unfold M_27z at H
      refine Cw_cond rfl ?_ ?_
      ·intro h2312
       have H := ift h2312 H
       refine Cw_seq<|Cw_region<|Ow_q rfl rfl rfl (Qt_assign rfl)<|Ow_nil<|Cw_ret<|?_
       obtain ey0 := inj1 H
       subst y0
       refine ⟨(by first | exact .inl rfl | exact .inr rfl), [(.bool false)], ⟨(.bool false), _, rfl, rfl, rfl⟩, ?_⟩
       refine Re0<|Re0<|Re0<|Re0<|Shift.done<|?_
       exact ⟨rfl, rfl⟩
      ·intro h2312
       have H := iff_ (btf h2312) H
       refine Cw_skip ?_
       refine Cw_join (fun env' K' G' => ∃ (t2333 : Bool), [(1, (sv vp1)), (2, (sv vp2)), (3, (.pointer (some ((⟨b488, 0, none⟩ : Addr).add 0)))), (7, (sv v491)), (8, (.int .i64 i1430)), (164, (.bool t2333))] = env' ∧ (.blk b488 34 (Config.cells p0 vp0_capacities vp0_starts)) :: (.tok 115 2 [(sv v491)]) :: G = G' ∧ M_49z p1 p2 x489 i1430 p0 k1435 t2333 = some y0) ?_ ?_
       ·skip
        rcases bool_ct (dcd (x1668.result.kind = 1)) with hb_ | hb_ <;> revert hb_
        ·intro h2334
         have h2334 := dcd_t (h2334)
         have H := ift h2334 H
         rcases bool_ct t1714 with hb_ | hb_ <;> revert hb_
         ·intro h2335
          have H := ift h2335 H
          obtain ⟨x2336, hx2337, H⟩ := bnd H
          obtain ⟨x2341, hx2342, H⟩ := bnd H
          refine Cw_region_any [.blk b1712 73 (Case.cells (Case.mk t1714 i1715 i1716)), .blk b1673 65 (Event.cells x1668), .blk b488 34 (Config.cells p0 vp0_capacities vp0_starts), .tok 115 2 [(sv v491)]] rfl (Inc.cons Mb0 (Inc.cons Mb1 (Inc.cons Mb2 (Inc.cons Mb3 Inc.nil))))<|Awq 0 rfl (by kernel_rfl) rfl rfl rfl (Qt_fieldAddr (m := 3) rfl rfl rfl rfl rfl)<|Awq 1 rfl (by kernel_rfl) rfl rfl rfl (Qt_fieldAddr (m := 3) rfl rfl rfl rfl rfl)<|Awq 2 rfl (by kernel_rfl) rfl rfl rfl (Qt_load1 (v := (.int .i64 x1668.result.kind)) rfl rfl rfl (Rdc.blk Mb1 rfl))<|Awq 3 rfl (by kernel_rfl) rfl rfl rfl (Qt_cmp rfl rfl rfl)<|Awq 4 rfl (by kernel_rfl) rfl rfl rfl (Qt_move rfl)<|Aw.known (d := 148) rfl (dcd_pos h2334)<|Awqw 5 rfl (by kernel_rfl) rfl rfl rfl rfl rfl rfl (Qt_fieldAddr (m := 0) rfl rfl rfl rfl rfl)<|Awqw 6 rfl (by kernel_rfl) rfl rfl rfl rfl rfl rfl (Qt_load1 (v := (.bool t1714)) rfl rfl rfl (Rdc.blk Mb0 rfl))<|Awq 7 rfl (by kernel_rfl) rfl rfl rfl (Qt_pick_t rfl rfl)<|?_
          refine Awq 8 rfl (by kernel_rfl) rfl rfl rfl (Qt_move rfl)<|Aw.known (d := 152) rfl (h2335)<|Awqw 9 rfl (by kernel_rfl) rfl rfl rfl rfl rfl rfl (Qt_move rfl)<|Awqw 10 rfl (by kernel_rfl) rfl rfl rfl rfl rfl rfl (Qt_move rfl)<|Awqw 11 rfl (by kernel_rfl) rfl rfl rfl rfl rfl rfl (Qt_fieldAddr (m := 1) rfl rfl rfl rfl rfl)<|Awqw 12 rfl (by kernel_rfl) rfl rfl rfl rfl rfl rfl (Qt_load1 (v := (.int .i64 i1715)) rfl rfl rfl (Rdc.blk Mb0 rfl))<|Awqw 13 rfl (by kernel_rfl) rfl rfl rfl rfl rfl rfl (Qt_move rfl)<|Awqw 14 rfl (by kernel_rfl) rfl rfl rfl rfl rfl rfl (Qt_fieldAddr (m := 0) rfl rfl rfl rfl rfl)<|Awqw 15 rfl (by kernel_rfl) rfl rfl rfl rfl rfl rfl (Qt_load1 (v := (.int .i64 x1668.thread)) rfl rfl rfl (Rdc.blk Mb1 rfl))<|Awqw 16 rfl (by kernel_rfl) rfl rfl rfl rfl rfl rfl (Qt_fieldAddr (m := 1) rfl rfl rfl rfl rfl)<|?_
          refine Awqw 17 rfl (by kernel_rfl) rfl rfl rfl rfl rfl rfl (Qt_load1 (v := (.int .i64 x1668.op)) rfl rfl rfl (Rdc.blk Mb1 rfl)) ?_
          refine Aw_one 18 (by kernel_rfl) (Ax_mkw rfl rfl rfl rfl rfl ?_)
          have hs2347 := ((hs1439).mono hK2277).mono hK2311
          refine OpW_call rfl Try.call78 rfl rfl (c_M_82z p2 vp2 x1668.thread x1668.op x2336 hx2337 _ _ hs2347) ?_
          rintro _ K2348 _ hK2349 ⟨rfl, rfl⟩
          refine ⟨(Inc.cons Mb0 (Inc.cons Mb1 (Inc.cons Mb2 (Inc.cons Mb3 Inc.nil)))), ?_⟩
          refine Aw_one 19 (by kernel_rfl) (Ax_mkw rfl rfl rfl rfl rfl ?_)
          have hs2350 := (((((hp1).mono hK493).mono hK1433).mono hK2277).mono hK2311).mono hK2349
          have hs2351 := (hs2347).mono hK2349
          refine OpW_call rfl Try.call77 rfl rfl (c_M_139z p1 vp1 p2 vp2 i1715 x2336 x2341 hx2342 _ _ hs2350 hs2351) ?_
          rintro _ K2352 _ hK2353 ⟨rfl, rfl⟩
          refine ⟨(Inc.cons Mb0 (Inc.cons Mb1 (Inc.cons Mb2 (Inc.cons Mb3 Inc.nil)))), ?_⟩
          refine Awq 20 rfl (by kernel_rfl) rfl rfl rfl (Qt_pick_t rfl rfl)<|Aw_done (by kernel_rfl)<|Pu3<|Pu3<|Re2<|Re2<|Shift.done<|?_
          exact ⟨_, by exact ⟨rfl, rfl, rfl, rfl, rfl, rfl, trivial⟩, x2341, rfl, rfl, H⟩
         ·intro h2335
          have H := iff_ (btf h2335) H
          refine Cw_region_any [.blk b1712 73 (Case.cells (Case.mk t1714 i1715 i1716)), .blk b1673 65 (Event.cells x1668), .blk b488 34 (Config.cells p0 vp0_capacities vp0_starts), .tok 115 2 [(sv v491)]] rfl (Inc.cons Mb0 (Inc.cons Mb1 (Inc.cons Mb2 (Inc.cons Mb3 Inc.nil))))<|Awq 0 rfl (by kernel_rfl) rfl rfl rfl (Qt_fieldAddr (m := 3) rfl rfl rfl rfl rfl)<|Awq 1 rfl (by kernel_rfl) rfl rfl rfl (Qt_fieldAddr (m := 3) rfl rfl rfl rfl rfl)<|Awq 2 rfl (by kernel_rfl) rfl rfl rfl (Qt_load1 (v := (.int .i64 x1668.result.kind)) rfl rfl rfl (Rdc.blk Mb1 rfl))<|Awq 3 rfl (by kernel_rfl) rfl rfl rfl (Qt_cmp rfl rfl rfl)<|Awq 4 rfl (by kernel_rfl) rfl rfl rfl (Qt_move rfl)<|Aw.known (d := 148) rfl (dcd_pos h2334)<|Awqw 5 rfl (by kernel_rfl) rfl rfl rfl rfl rfl rfl (Qt_fieldAddr (m := 0) rfl rfl rfl rfl rfl)<|Awqw 6 rfl (by kernel_rfl) rfl rfl rfl rfl rfl rfl (Qt_load1 (v := (.bool t1714)) rfl rfl rfl (Rdc.blk Mb0 rfl))<|Awq 7 rfl (by kernel_rfl) rfl rfl rfl (Qt_pick_t rfl rfl)<|?_
          refine Awq 8 rfl (by kernel_rfl) rfl rfl rfl (Qt_move rfl)<|Aw.known (d := 152) rfl (h2335)<|Awps 9 rfl (by kernel_rfl) rfl rfl rfl rfl rfl rfl rfl<|Awps 10 rfl (by kernel_rfl) rfl rfl rfl rfl rfl rfl rfl<|Awps 11 rfl (by kernel_rfl) rfl rfl rfl rfl rfl rfl rfl<|Awps 12 rfl (by kernel_rfl) rfl rfl rfl rfl rfl rfl rfl<|Awps 13 rfl (by kernel_rfl) rfl rfl rfl rfl rfl rfl rfl<|Awps 14 rfl (by kernel_rfl) rfl rfl rfl rfl rfl rfl rfl<|Awps 15 rfl (by kernel_rfl) rfl rfl rfl rfl rfl rfl rfl<|Awps 16 rfl (by kernel_rfl) rfl rfl rfl rfl rfl rfl rfl<|?_
          refine Awps 17 rfl (by kernel_rfl) rfl rfl rfl rfl rfl rfl rfl<|Awps 18 rfl (by kernel_rfl) rfl rfl rfl rfl rfl rfl rfl<|Awps 19 rfl (by kernel_rfl) rfl rfl rfl rfl rfl rfl rfl<|Awq 20 rfl (by kernel_rfl) rfl rfl rfl (Qt_pick_f rfl rfl)<|Aw_done (by kernel_rfl)<|Pu3<|Pu3<|Re2<|Re2<|Shift.done<|?_
          exact ⟨_, by exact ⟨rfl, rfl, rfl, rfl, rfl, rfl, trivial⟩, false, rfl, rfl, H⟩
        ·intro h2334
         have h2334 := dcd_f (h2334)
         have H := iff_ h2334 H
         refine Cw_region_any [.blk b1712 73 (Case.cells (Case.mk t1714 i1715 i1716)), .blk b1673 65 (Event.cells x1668), .blk b488 34 (Config.cells p0 vp0_capacities vp0_starts), .tok 115 2 [(sv v491)]] rfl (Inc.cons Mb0 (Inc.cons Mb1 (Inc.cons Mb2 (Inc.cons Mb3 Inc.nil))))<|Awq 0 rfl (by kernel_rfl) rfl rfl rfl (Qt_fieldAddr (m := 3) rfl rfl rfl rfl rfl)<|Awq 1 rfl (by kernel_rfl) rfl rfl rfl (Qt_fieldAddr (m := 3) rfl rfl rfl rfl rfl)<|Awq 2 rfl (by kernel_rfl) rfl rfl rfl (Qt_load1 (v := (.int .i64 x1668.result.kind)) rfl rfl rfl (Rdc.blk Mb1 rfl))<|Awq 3 rfl (by kernel_rfl) rfl rfl rfl (Qt_cmp rfl rfl rfl)<|Awq 4 rfl (by kernel_rfl) rfl rfl rfl (Qt_move rfl)<|Aw.known (d := 148) rfl (dcd_neg h2334)<|Awps 5 rfl (by kernel_rfl) rfl rfl rfl rfl rfl rfl rfl<|Awps 6 rfl (by kernel_rfl) rfl rfl rfl rfl rfl rfl rfl<|Awq 7 rfl (by kernel_rfl) rfl rfl rfl (Qt_pick_f rfl rfl)<|?_
         refine Awq 8 rfl (by kernel_rfl) rfl rfl rfl (Qt_move rfl)<|Awps 9 rfl (by kernel_rfl) rfl rfl rfl rfl rfl rfl rfl<|Awps 10 rfl (by kernel_rfl) rfl rfl rfl rfl rfl rfl rfl<|Awps 11 rfl (by kernel_rfl) rfl rfl rfl rfl rfl rfl rfl<|Awps 12 rfl (by kernel_rfl) rfl rfl rfl rfl rfl rfl rfl<|Awps 13 rfl (by kernel_rfl) rfl rfl rfl rfl rfl rfl rfl<|Awps 14 rfl (by kernel_rfl) rfl rfl rfl rfl rfl rfl rfl<|Awps 15 rfl (by kernel_rfl) rfl rfl rfl rfl rfl rfl rfl<|Awps 16 rfl (by kernel_rfl) rfl rfl rfl rfl rfl rfl rfl<|Awps 17 rfl (by kernel_rfl) rfl rfl rfl rfl rfl rfl rfl<|?_
         refine Awps 18 rfl (by kernel_rfl) rfl rfl rfl rfl rfl rfl rfl<|Awps 19 rfl (by kernel_rfl) rfl rfl rfl rfl rfl rfl rfl<|Awq 20 rfl (by kernel_rfl) rfl rfl rfl (Qt_pick_f rfl rfl)<|Aw_done (by kernel_rfl)<|Pu3<|Pu3<|Re2<|Re2<|Shift.done<|?_
         exact ⟨_, by exact ⟨rfl, rfl, rfl, rfl, rfl, rfl, trivial⟩, false, rfl, rfl, H⟩
       rintro _ K2354 _ hK2355 ⟨t2333, rfl, rfl, H⟩
       unfold M_49z at H
       refine Cw_cond rfl ?_ ?_
       ·intro h2356
        have H := ift h2356 H
        refine Cw_seq<|Cw_region<|Ow_q rfl rfl rfl (Qt_assign rfl)<|Ow_nil<|Cw_ret<|?_
        obtain ey0 := inj1 H
        subst y0
        refine ⟨(by first | exact .inl rfl | exact .inr rfl), [(.bool false)], ⟨(.bool false), _, rfl, rfl, rfl⟩, ?_⟩
        refine Re0<|Re0<|Shift.done<|?_
        exact ⟨rfl, rfl⟩
       ·intro h2356
        have H := iff_ (btf h2356) H
        refine Cw_skip<|Pu1<|Pu1<|Shift.done<|?_
        exact ⟨_, by exact ⟨rfl, rfl, rfl, rfl, rfl, trivial⟩, rfl, rfl, H⟩
   rintro _ K2357 _ hK2358 ⟨rfl, rfl, H⟩
   unfold M_26z at H
   refine Cw_region<|Ow_q rfl rfl rfl (Qt_move rfl)<|Ow_q rfl rfl rfl (Qt_arith (e := wI (i1430 + 1)) rfl rfl rfl rfl)<|Ow_q rfl rfl rfl (Qt_assign rfl)<|Ow_nil<|Pu1<|Pu1<|Shift.done<|?_
   exact ⟨_, by exact ⟨rfl, rfl, rfl, rfl, rfl, trivial⟩, _, Nat.lt_succ_self _, (wI (i1430 + 1)), rfl, rfl, (hkk1436 ▸ H)⟩
  ·intro h1440
   have h1440 := dcd_f (h1440)
   have H := iff_ h1440 H
   refine Cw_exit<|Re0<|Re0<|Shift.done<|?_
   exact ⟨[], trivial, rfl, rfl, H⟩
 rintro _ K2359 _ hK2360 ⟨rfl, rfl, H⟩
 unfold M_178z at H
 refine Cw_seq<|Cw_region<|Ow_q rfl rfl rfl (Qt_assign rfl)<|Ow_nil<|Cw_ret<|?_
 obtain ey0 := inj1 H
 subst y0
 refine ⟨(by first | exact .inl rfl | exact .inr rfl), [(.bool true)], ⟨(.bool true), _, rfl, rfl, rfl⟩, ?_⟩
 exact Shift.done ⟨rfl, rfl⟩



end Go.Hx
