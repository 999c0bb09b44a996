/- Printed by program. -/
import Derived.Test.YtgkmiemclhaahaaXAM
import Derived.Test.YtgkmiemclhaahaaXAWDraw
import Derived.Test.YtgkmiemclhaahaaXAWLaw6
import Derived.Test.YtgkmiemclhaahaaXAWRef4
import Derived.Test.YtgkmiemclhaahaaXAWRef41
import Derived.Test.YtgkmiemclhaahaaXAWTrace
namespace Go.Hx
open Go Go.Proofs
set_option linter.unusedSimpArgs false
set_option linter.unusedVariables false
set_option maxRecDepth 10000
set_option maxHeartbeats 1000000 in
theorem c_M_law6_TraceReplays (p0 : List Int) (vp0 : SV) (p1 : Int) (p2 : Int) (p3 : Int) (y0 : Bool) (H : M_law6_TraceReplays p0 p1 p2 p3 = some y0) (K : Kp) (G : List Ent) (hp0 : Slr Ty.u8 K (sv vp0) p0) :
    Fc Try.prog 12 #[(sv vp0), (.int .i64 p1), (.int .i64 p2), (.int .u8 p3)] K (G) (fun v K' G' => v = (.bool y0) ∧ G = G') := by
  refine Fc_body Try.func12 rfl Try.ntmps12 Try.results12 rfl ?_
  unfold M_law6_TraceReplays at H
  refine Cw_seq ?_
  refine Cw_region ?_
  refine Ow_q rfl rfl rfl (Qt_assign rfl) ?_
  refine Ow_nil ?_
  refine Cw_seq ?_
  refine Cw_seq ?_
  refine Cw_region ?_
  obtain ⟨x378, hx379, H⟩ := bnd H
  refine Ow_cons rfl (OpW_call rfl Try.call13 rfl rfl (c_M_law6_awake  x378 hx379 _ _ ) ?_)
  rintro _ _ _ - ⟨rfl, rfl, rfl⟩
  refine Ow_q rfl rfl rfl (Qt_not rfl) ?_
  refine Ow_nil ?_
  refine Cw_cond rfl ?_ ?_
  · intro h380
    have h380 := nt_t (h380)
    have H := iff_ (btf h380) H
    refine Cw_seq ?_
    refine Cw_region ?_
    refine Ow_q rfl rfl rfl (Qt_assign rfl) ?_
    refine Ow_nil ?_
    refine Cw_ret ?_
    obtain ey0 := inj1 H
    subst y0
    refine ⟨(by first | exact .inl rfl | exact .inr rfl), [(.bool false)], ⟨(.bool false), _, rfl, rfl, rfl⟩, ?_⟩
    refine Shift.done ?_
    exact ⟨rfl, rfl⟩
  · intro h380
    have h380 := nt_f (h380)
    have H := ift h380 H
    refine Cw_skip ?_
    refine Cw_seq ?_
    refine Cw_region ?_
    refine Ow_q rfl rfl rfl (Qt_move rfl) ?_
    obtain ⟨x381, hx382, H⟩ := bnd H
    refine Ow_cons rfl (OpW_call rfl Try.call14 rfl rfl (c_M_draw_New p0 vp0 160 x381 hx382 _ _ hp0) ?_)
    rintro _ _ _ - ⟨b383, v384, rfl, rfl, rfl, hs385⟩
    refine Ow_q rfl rfl rfl (Qt_assign rfl) ?_
    refine Ow_nil ?_
    refine Cw_seq ?_
    refine Cw_region ?_
    refine Ow_q rfl rfl rfl (Qt_move rfl) ?_
    obtain ⟨x386, x387, x388, hx389, H⟩ := bnd3 H
    refine Ow_cons rfl (OpW_call rfl Try.call32 rfl rfl (c_M_draw_Codes_Memory b383 x381 v384 x386 x387 x388 hx389 _ _ hs385) ?_)
    rintro _ K392 _ hK393 ⟨v390, v391, rfl, rfl, hs394, hs395⟩
    refine Ow_cons rfl (OpW_alloc (cs := (Memory.cells (Memory.mk [] [] 0) nilS nilS)) rfl rfl rfl rfl (fun b396 => ?_))
    refine Ow_cons rfl (OpW_store (vs := (Memory.cells x386 v390 v391)) (all' := (Memory.cells x386 v390 v391)) rfl rfl rfl rfl rfl .here rfl rfl rfl ?_)
    refine Ow_nil ?_
    refine Cw_seq ?_
    refine Cw_region ?_
    refine Ow_q rfl rfl rfl (Qt_loadA (m := 3) (cs := (Memory.cells x386 v390 v391)) rfl rfl rfl rfl ⟨rfl, Rdc.blk (.head _) rfl⟩) ?_
    refine Ow_cons rfl (OpW_alloc (cs := (Memory.cells (Memory.mk [] [] 0) nilS nilS)) rfl rfl rfl rfl (fun b397 => ?_))
    refine Ow_cons rfl (OpW_store (vs := (Memory.cells x386 v390 v391)) (all' := (Memory.cells x386 v390 v391)) rfl rfl rfl rfl rfl .here rfl rfl rfl ?_)
    refine Ow_nil ?_
    refine Cw_seq ?_
    refine Cw_region ?_
    refine Ow_q rfl rfl rfl (Qt_assign rfl) ?_
    refine Ow_nil ?_
    refine Cw_join (fun env' K' G' => ∃ (v517 : SV) (l518 : List Item) (rs520 : List (List Value)) (v521 : SV) (l522 : List Int) (v524 : SV) (l525 : List (List Int)) (i527 : Int), [(1, (.int .i64 p1)), (2, (.int .i64 p2)), (3, (.int .u8 p3)), (10, (.pointer (some ((⟨b396, 0, none⟩ : Addr).add 0)))), (11, (.pointer (some ((⟨b397, 0, none⟩ : Addr).add 0)))), (12, (sv v517))] = env' ∧ (.blk b397 49 (Memory.cells x386 v390 v391)) :: (.blk b396 49 (Memory.cells (Memory.mk l522 l525 i527) v521 v524)) :: (.row (sv v517) 26 8 rs520.flatten) :: (.tok 22 1 [(sv v390)]) :: (.tok 38 1 [(sv v391)]) :: G = G' ∧ M_law6_TraceReplays_J1 p1 p2 p3 x386 l518 l522 l525 i527 = some y0 ∧ RowR TyItem K' rs520 l518 ∧ Slr Ty.u64 K' (sv v521) l522 ∧ Slr (Ty.sl Ty.i64) K' (sv v524) l525) ?_ ?_
    · skip
      refine Cw_seq ?_
      refine Cw_region ?_
      refine Ow_q rfl rfl rfl (Qt_assign rfl) ?_
      refine Ow_nil ?_
      refine Cw_block ?_
      refine Cw_loopM (fun n647 env' K' G' => ∃ (v633 : SV) (l634 : List Item) (rs636 : List (List Value)) (i637 : Int) (v638 : SV) (l639 : List Int) (v641 : SV) (l642 : List (List Int)) (i644 : Int) (i645 : Int) (i646 : Int), [(1, (.int .i64 p1)), (2, (.int .i64 p2)), (3, (.int .u8 p3)), (9, (.pointer (some ((⟨b383, 0, none⟩ : Addr).add 0)))), (10, (.pointer (some ((⟨b396, 0, none⟩ : Addr).add 0)))), (11, (.pointer (some ((⟨b397, 0, none⟩ : Addr).add 0)))), (12, (sv v633)), (13, (.int .i64 i637))] = env' ∧ (.blk b397 49 (Memory.cells x386 v390 v391)) :: (.blk b396 49 (Memory.cells (Memory.mk l639 l642 i644) v638 v641)) :: (.blk b383 70 (Draw_Codes.cells (Draw_Codes.mk x381.list i645 i646) v384)) :: (.row (sv v633) 26 8 rs636.flatten) :: (.tok 22 1 [(sv v390)]) :: (.tok 38 1 [(sv v391)]) :: G = G' ∧ lp7 (M_law6_TraceReplays_L1 p1 p2 p3 x386 x381) n647 l634 i637 l639 l642 i644 i645 i646 = some y0 ∧ RowR TyItem K' rs636 l634 ∧ Slr Ty.u64 K' (sv v638) l639 ∧ Slr (Ty.sl Ty.i64) K' (sv v641) l642) BIG ?_ ?_
      · skip
        have hR648 : RowR TyItem K392 [] [] := RowR.nil
        refine Shift.nilRow 26 8 ?_
        refine Shift.pull (.there (.there (.there (.there (.there .here))))) ?_
        refine Shift.pull (.there (.there (.there (.there (.there .here))))) ?_
        refine Shift.pull (.there (.there .here)) ?_
        refine Shift.pull (.there (.there (.there (.there (.there .here))))) ?_
        refine Shift.pull (.there (.there (.there (.there (.there .here))))) ?_
        refine Shift.pull (.there (.there (.there (.there (.there .here))))) ?_
        refine Shift.done ?_
        exact ⟨[(1, (.int .i64 p1)), (2, (.int .i64 p2)), (3, (.int .u8 p3)), (9, (.pointer (some ((⟨b383, 0, none⟩ : Addr).add 0)))), (10, (.pointer (some ((⟨b396, 0, none⟩ : Addr).add 0)))), (11, (.pointer (some ((⟨b397, 0, none⟩ : Addr).add 0)))), (12, (sv nilS)), (13, (.int .i64 0))], ⟨rfl, rfl, rfl, rfl, rfl, rfl, rfl, rfl, trivial⟩, nilS, ([] : List Item), ([] : List (List Value)), 0, v390, x386.words, v391, x386.lists, x386.tick, x387, x388, rfl, rfl, H, hR648, hs394, hs395⟩
      rintro n647 _ K649 _ hK650 ⟨v633, l634, rs636, i637, v638, l639, v641, l642, i644, i645, i646, rfl, rfl, H, hR635, hs640, hs643⟩
      obtain ⟨m651, k652, rfl, hkk653, H⟩ := lps7 H
      unfold M_law6_TraceReplays_L1 at H
      refine Cw_seq ?_
      refine Cw_seq ?_
      refine Cw_region ?_
      refine Ow_q rfl rfl rfl (Qt_move rfl) ?_
      refine Ow_q rfl rfl rfl (Qt_cmp rfl rfl rfl) ?_
      refine Ow_nil ?_
      refine Cw_cond rfl ?_ ?_
      · intro h655
        have h655 := dcd_t (h655)
        have H := ift h655 H
        refine Cw_skip ?_
        refine Cw_seq ?_
        refine Cw_block ?_
        refine Cw_seq ?_
        refine Cw_region ?_
        refine Ow_q rfl rfl rfl (Qt_move rfl) ?_
        refine Ow_q rfl rfl rfl (Qt_loadA (m := 3) (cs := (Memory.cells (Memory.mk l639 l642 i644) v638 v641)) rfl rfl rfl rfl ⟨rfl, Rdc.blk (.tail _ (.head _)) rfl⟩) ?_
        obtain ⟨x698, x699, x700, hx701, H⟩ := bnd3 H
        refine Ow.shift (Shift.pull (.there (.there .here)) (Shift.done ?_))
        have hs702 := ((hs385).mono hK393).mono hK650
        refine Ow_cons rfl (OpW_call rfl Try.call33 rfl rfl (c_M_draw_Codes_Access b383 (Draw_Codes.mk x381.list i645 i646) v384 (Memory.mk l639 l642 i644) v638 v641 x698 x699 x700 hx701 _ _ hs702 hs640 hs643) ?_)
        rintro _ _ _ - ⟨rfl, rfl, rfl⟩
        refine Ow_cons rfl (OpW_alloc (cs := (Access.cells (Access.mk 0 0 0 0 0))) rfl rfl rfl rfl (fun b703 => ?_))
        refine Ow_cons rfl (OpW_store (vs := (Access.cells x698)) (all' := (Access.cells x698)) rfl rfl rfl rfl rfl .here rfl rfl rfl ?_)
        refine Ow_nil ?_
        refine Cw_seq ?_
        refine Cw_region ?_
        refine Ow_q rfl rfl rfl (Qt_loadA (m := 3) (cs := (Memory.cells (Memory.mk l639 l642 i644) v638 v641)) rfl rfl rfl rfl ⟨rfl, Rdc.blk (.tail _ (.tail _ (.tail _ (.head _)))) rfl⟩) ?_
        refine Ow_q rfl rfl rfl (Qt_loadA (m := 5) (cs := (Access.cells x698)) rfl rfl rfl rfl ⟨rfl, Rdc.blk (.head _) rfl⟩) ?_
        obtain ⟨x704, x705, x706, hx707, H⟩ := bnd3 H
        refine Ow_cons rfl (OpW_call rfl Try.call35 rfl rfl (c_M_ref4_Apply (Memory.mk l639 l642 i644) v638 v641 x698 x704 x705 x706 hx707 _ _ hs640 hs643) ?_)
        rintro _ K711 _ hK712 ⟨v708, v709, v710, rfl, rfl, hs713, hs714, hs715⟩
        refine Ow_q rfl rfl rfl (Qt_move rfl) ?_
        refine Ow_q rfl rfl rfl (Qt_extract rfl rfl) ?_
        refine Ow_q rfl rfl rfl (Qt_extract rfl rfl) ?_
        refine Ow_q rfl rfl rfl (Qt_extract rfl rfl) ?_
        refine Ow_cons rfl (OpW_alloc (cs := (Memory.cells (Memory.mk [] [] 0) nilS nilS)) rfl rfl rfl rfl (fun b716 => ?_))
        refine Ow_cons rfl (OpW_alloc (cs := (Answer.cells (Answer.mk 0 false false []) nilS)) rfl rfl rfl rfl (fun b717 => ?_))
        refine Ow_cons rfl (OpW_store (vs := (Memory.cells x704 v708 v709)) (all' := (Memory.cells x704 v708 v709)) rfl rfl rfl rfl rfl (.there .here) rfl rfl rfl ?_)
        refine Ow_cons rfl (OpW_store (vs := (Answer.cells x705 v710)) (all' := (Answer.cells x705 v710)) rfl rfl rfl rfl rfl .here rfl rfl rfl ?_)
        refine Ow_q rfl rfl rfl (Qt_assign rfl) ?_
        refine Ow_nil ?_
        refine Cw_seq ?_
        refine Cw_region ?_
        refine Ow_q rfl rfl rfl (Qt_move rfl) ?_
        refine Ow_nil ?_
        refine Cw_cond rfl ?_ ?_
        · intro h718
          have H := ift h718 H
          refine Cw_seq ?_
          obtain ⟨x740, x741, hx742, H⟩ := bnd2 H
          obtain ⟨x744, hx745, H⟩ := bnd H
          obtain ⟨x748, hx749, H⟩ := bnd H
          refine Cw_region_any [.blk b717 40 (Answer.cells x705 v710), .blk b716 49 (Memory.cells x704 v708 v709), .blk b703 24 (Access.cells x698), .blk b397 49 (Memory.cells x386 v390 v391), .blk b396 49 (Memory.cells (Memory.mk l639 l642 i644) v638 v641), .tok 22 1 [(sv v390)], .tok 38 1 [(sv v391)]] rfl (Inc.cons (.head _) (Inc.cons (.tail _ (.head _)) (Inc.cons (.tail _ (.tail _ (.head _))) (Inc.cons (.tail _ (.tail _ (.tail _ (.tail _ (.head _))))) (Inc.cons (.tail _ (.tail _ (.tail _ (.tail _ (.tail _ (.head _)))))) (Inc.cons (.tail _ (.tail _ (.tail _ (.tail _ (.tail _ (.tail _ (.tail _ (.head _)))))))) (Inc.cons (.tail _ (.tail _ (.tail _ (.tail _ (.tail _ (.tail _ (.tail _ (.tail _ (.head _))))))))) Inc.nil))))))) ?_
          refine Aw_q 0 rfl (by kernel_rfl) (by kernel_rfl) (by kernel_rfl) rfl rfl rfl (Qt_move rfl) ?_
          refine Aw_q 1 rfl (by kernel_rfl) (by kernel_rfl) (by kernel_rfl) rfl rfl rfl (Qt_move rfl) ?_
          refine Aw_q 3 rfl (by kernel_rfl) (by kernel_rfl) (by kernel_rfl) rfl rfl rfl (Qt_loadA (m := 5) (cs := (Access.cells x698)) rfl rfl rfl rfl ⟨rfl, Rdc.blk (.tail _ (.tail _ (.head _))) rfl⟩) ?_
          refine Aw_q 4 rfl (by kernel_rfl) (by kernel_rfl) (by kernel_rfl) rfl rfl rfl (Qt_loadA (m := 4) (cs := (Answer.cells x705 v710)) rfl rfl rfl rfl ⟨rfl, Rdc.blk (.head _) rfl⟩) ?_
          refine Aw_one 2 (by kernel_rfl) (Ax_mk rfl rfl ?_)
          refine OpW.shift (Shift.pull (.there (.there (.there .here))) (Shift.done ?_))
          have hs754 := (hs702).mono hK712
          refine OpW_call rfl Try.call40 rfl rfl (c_M_draw_Codes_Next b383 (Draw_Codes.mk x381.list x699 x700) v384 3 x740 x741 hx742 _ _ hs754) ?_
          rintro _ _ _ - ⟨rfl, rfl, rfl⟩
          refine ⟨(Inc.cons (.tail _ (.head _)) (Inc.cons (.tail _ (.tail _ (.head _))) (Inc.cons (.tail _ (.tail _ (.tail _ (.head _)))) (Inc.cons (.tail _ (.tail _ (.tail _ (.tail _ (.head _))))) (Inc.cons (.tail _ (.tail _ (.tail _ (.tail _ (.tail _ (.head _)))))) (Inc.cons (.tail _ (.tail _ (.tail _ (.tail _ (.tail _ (.tail _ (.tail _ (.head _)))))))) (Inc.cons (.tail _ (.tail _ (.tail _ (.tail _ (.tail _ (.tail _ (.tail _ (.tail _ (.head _))))))))) Inc.nil))))))), ?_⟩
          refine Aw_one 5 (by kernel_rfl) (Ax_mk rfl rfl ?_)
          refine OpW_call rfl Try.call22 rfl rfl (c_M_ref4_Item x740 x698 x705 v710 x744 hx745 _ _ hs715) ?_
          rintro _ _ _ - ⟨rfl, rfl, rfl⟩
          refine ⟨(Inc.cons (.tail _ (.head _)) (Inc.cons (.tail _ (.tail _ (.head _))) (Inc.cons (.tail _ (.tail _ (.tail _ (.head _)))) (Inc.cons (.tail _ (.tail _ (.tail _ (.tail _ (.head _))))) (Inc.cons (.tail _ (.tail _ (.tail _ (.tail _ (.tail _ (.head _)))))) (Inc.cons (.tail _ (.tail _ (.tail _ (.tail _ (.tail _ (.tail _ (.tail _ (.head _)))))))) (Inc.cons (.tail _ (.tail _ (.tail _ (.tail _ (.tail _ (.tail _ (.tail _ (.tail _ (.head _))))))))) Inc.nil))))))), ?_⟩
          refine Aw_one 6 (by kernel_rfl) (Ax_mk rfl rfl ?_)
          have hR756 : RowR TyItem K711 [(Item.cells x744)] [x744] := RowR.cons rfl (RowR.nil)
          refine O_lit (T := TyItem) (rows := [(Item.cells x744)]) (l := [x744]) rfl rfl rfl hR756 rfl rfl rfl rfl rfl rfl rfl rfl (fun v755 => ⟨(Inc.cons (.tail _ (.tail _ (.head _))) (Inc.cons (.tail _ (.tail _ (.tail _ (.head _)))) (Inc.cons (.tail _ (.tail _ (.tail _ (.tail _ (.head _))))) (Inc.cons (.tail _ (.tail _ (.tail _ (.tail _ (.tail _ (.head _)))))) (Inc.cons (.tail _ (.tail _ (.tail _ (.tail _ (.tail _ (.tail _ (.head _))))))) (Inc.cons (.tail _ (.tail _ (.tail _ (.tail _ (.tail _ (.tail _ (.tail _ (.tail _ (.head _))))))))) (Inc.cons (.tail _ (.tail _ (.tail _ (.tail _ (.tail _ (.tail _ (.tail _ (.tail _ (.tail _ (.head _)))))))))) Inc.nil))))))), ?_⟩)
          refine Aw_one 7 (by kernel_rfl) (Ax_mk rfl rfl ?_)
          have hs760 := (hR635).mono hK712
          refine O_appRow (T := TyItem) (bytes := 64) rfl rfl rfl (.tail _ (.tail _ (.tail _ (.tail _ (.tail _ (.tail _ (.tail _ (.head _)))))))) hs760 (SrcT.row (.head _) hR756 rfl) hx749 rfl rfl rfl rfl rfl rfl rfl rfl (fun v757 rs758 hR759 => ⟨_, (.there (.there (.there (.there (.there (.there (.there .here))))))), ⟨(Inc.cons (.tail _ (.tail _ (.head _))) (Inc.cons (.tail _ (.tail _ (.tail _ (.head _)))) (Inc.cons (.tail _ (.tail _ (.tail _ (.tail _ (.head _))))) (Inc.cons (.tail _ (.tail _ (.tail _ (.tail _ (.tail _ (.head _)))))) (Inc.cons (.tail _ (.tail _ (.tail _ (.tail _ (.tail _ (.tail _ (.head _))))))) (Inc.cons (.tail _ (.tail _ (.tail _ (.tail _ (.tail _ (.tail _ (.tail _ (.tail _ (.head _))))))))) (Inc.cons (.tail _ (.tail _ (.tail _ (.tail _ (.tail _ (.tail _ (.tail _ (.tail _ (.tail _ (.head _)))))))))) Inc.nil))))))), ?_⟩⟩)
          refine Aw.shift (Shift.rem .here (Shift.done ⟨(Inc.cons (.tail _ (.head _)) (Inc.cons (.tail _ (.tail _ (.head _))) (Inc.cons (.tail _ (.tail _ (.tail _ (.head _)))) (Inc.cons (.tail _ (.tail _ (.tail _ (.tail _ (.head _))))) (Inc.cons (.tail _ (.tail _ (.tail _ (.tail _ (.tail _ (.head _)))))) (Inc.cons (.tail _ (.tail _ (.tail _ (.tail _ (.tail _ (.tail _ (.tail _ (.head _)))))))) (Inc.cons (.tail _ (.tail _ (.tail _ (.tail _ (.tail _ (.tail _ (.tail _ (.tail _ (.head _))))))))) Inc.nil))))))), ?_⟩))
          refine Aw_q 8 rfl (by kernel_rfl) (by kernel_rfl) (by kernel_rfl) rfl rfl rfl (Qt_assign rfl) ?_
          refine Aw_done (by kernel_rfl) ?_
          refine Cw_region ?_
          refine Ow_q rfl rfl rfl (Qt_loadA (m := 3) (cs := (Memory.cells x704 v708 v709)) rfl rfl rfl rfl ⟨rfl, Rdc.blk (.tail _ (.tail _ (.head _))) rfl⟩) ?_
          refine Ow_cons rfl (OpW_store (vs := (Memory.cells x704 v708 v709)) (all' := (Memory.cells x704 v708 v709)) rfl rfl rfl rfl rfl (.there (.there (.there (.there (.there .here))))) rfl rfl rfl ?_)
          refine Ow_nil ?_
          refine Cw_region ?_
          refine Ow_q rfl rfl rfl (Qt_move rfl) ?_
          refine Ow_q rfl rfl rfl (Qt_arith (e := wI (i637 + 1)) rfl rfl rfl rfl) ?_
          refine Ow_q rfl rfl rfl (Qt_assign rfl) ?_
          refine Ow_nil ?_
          refine Shift.pull (.there (.there (.there (.there (.there (.there (.there (.there .here)))))))) ?_
          refine Shift.pull (.there (.there (.there (.there (.there (.there (.there (.there .here)))))))) ?_
          refine Shift.pull (.there (.there (.there (.there (.there (.there (.there (.there .here)))))))) ?_
          refine Shift.pull (.there (.there (.there .here))) ?_
          refine Shift.pull (.there (.there (.there (.there (.there (.there (.there (.there .here)))))))) ?_
          refine Shift.pull (.there (.there (.there (.there (.there (.there (.there (.there .here)))))))) ?_
          refine Shift.rem (.there (.there (.there (.there (.there (.there .here)))))) ?_
          refine Shift.rem (.there (.there (.there (.there (.there (.there .here)))))) ?_
          refine Shift.rem (.there (.there (.there (.there (.there (.there .here)))))) ?_
          refine Shift.done ?_
          exact ⟨[(1, (.int .i64 p1)), (2, (.int .i64 p2)), (3, (.int .u8 p3)), (9, (.pointer (some ((⟨b383, 0, none⟩ : Addr).add 0)))), (10, (.pointer (some ((⟨b396, 0, none⟩ : Addr).add 0)))), (11, (.pointer (some ((⟨b397, 0, none⟩ : Addr).add 0)))), (12, (sv v757)), (13, (.int .i64 (wI (i637 + 1))))], ⟨rfl, rfl, rfl, rfl, rfl, rfl, rfl, rfl, trivial⟩, _, Nat.lt_succ_self _, v757, x748, rs758, (wI (i637 + 1)), v708, x704.words, v709, x704.lists, x704.tick, x741, ((Draw_Codes.mk x381.list x699 x700).value), rfl, rfl, (hkk653 ▸ H), hR759, hs713, hs714⟩
        · intro h718
          have H := iff_ (btf h718) H
          refine Cw_skip ?_
          refine Cw_region ?_
          refine Ow_q rfl rfl rfl (Qt_move rfl) ?_
          refine Ow_q rfl rfl rfl (Qt_arith (e := wI (i637 + 1)) rfl rfl rfl rfl) ?_
          refine Ow_q rfl rfl rfl (Qt_assign rfl) ?_
          refine Ow_nil ?_
          refine Shift.pull (.there (.there (.there (.there (.there (.there (.there (.there .here)))))))) ?_
          refine Shift.pull (.there (.there (.there (.there (.there (.there (.there (.there .here)))))))) ?_
          refine Shift.pull (.there (.there (.there (.there (.there (.there (.there (.there .here)))))))) ?_
          refine Shift.pull (.there (.there (.there (.there (.there (.there .here)))))) ?_
          refine Shift.pull (.there (.there (.there (.there (.there (.there (.there (.there .here)))))))) ?_
          refine Shift.pull (.there (.there (.there (.there (.there (.there (.there (.there .here)))))))) ?_
          refine Shift.rem (.there (.there (.there (.there (.there (.there .here)))))) ?_
          refine Shift.rem (.there (.there (.there (.there (.there (.there .here)))))) ?_
          refine Shift.rem (.there (.there (.there (.there (.there (.there .here)))))) ?_
          have hs761 := (hR635).mono hK712
          have hs762 := (hs640).mono hK712
          have hs763 := (hs643).mono hK712
          refine Shift.done ?_
          exact ⟨[(1, (.int .i64 p1)), (2, (.int .i64 p2)), (3, (.int .u8 p3)), (9, (.pointer (some ((⟨b383, 0, none⟩ : Addr).add 0)))), (10, (.pointer (some ((⟨b396, 0, none⟩ : Addr).add 0)))), (11, (.pointer (some ((⟨b397, 0, none⟩ : Addr).add 0)))), (12, (sv v633)), (13, (.int .i64 (wI (i637 + 1))))], ⟨rfl, rfl, rfl, rfl, rfl, rfl, rfl, rfl, trivial⟩, _, Nat.lt_succ_self _, v633, l634, rs636, (wI (i637 + 1)), v638, l639, v641, l642, i644, x699, x700, rfl, rfl, (hkk653 ▸ H), hs761, hs762, hs763⟩
      · intro h655
        have h655 := dcd_f (h655)
        have H := iff_ h655 H
        refine Cw_exit ?_
        refine Shift.pull (.there (.there (.there (.there (.there .here))))) ?_
        refine Shift.pull (.there (.there (.there (.there (.there .here))))) ?_
        refine Shift.pull (.there (.there (.there (.there (.there .here))))) ?_
        refine Shift.pull (.there (.there (.there (.there .here)))) ?_
        refine Shift.pull (.there (.there (.there (.there .here)))) ?_
        refine Shift.rem (.there (.there (.there (.there (.there .here))))) ?_
        refine Shift.done ?_
        exact ⟨[(1, (.int .i64 p1)), (2, (.int .i64 p2)), (3, (.int .u8 p3)), (10, (.pointer (some ((⟨b396, 0, none⟩ : Addr).add 0)))), (11, (.pointer (some ((⟨b397, 0, none⟩ : Addr).add 0)))), (12, (sv v633))], ⟨rfl, rfl, rfl, rfl, rfl, rfl, trivial⟩, v633, l634, rs636, v638, l639, v641, l642, i644, rfl, rfl, H, hR635, hs640, hs643⟩
    rintro _ K764 _ hK765 ⟨v517, l518, rs520, v521, l522, v524, l525, i527, rfl, rfl, H, hR519, hs523, hs526⟩
    unfold M_law6_TraceReplays_J1 at H
    refine Cw_seq ?_
    refine Cw_region ?_
    refine Ow_q rfl rfl rfl (Qt_loadA (m := 3) (cs := (Memory.cells x386 v390 v391)) rfl rfl rfl rfl ⟨rfl, Rdc.blk (.head _) rfl⟩) ?_
    refine Ow_q rfl rfl rfl (Qt_move rfl) ?_
    refine Ow.shift (Shift.settle (T := TyItem) (.there (.there .here)) hR519 rfl (fun K766 hK767 hs768 => Shift.done ?_))
    obtain ⟨x769, x770, hx771, H⟩ := bnd2 H
    have hs772 := ((hs394).mono hK765).mono hK767
    have hs773 := ((hs395).mono hK765).mono hK767
    refine Ow_cons rfl (OpW_call rfl Try.call48 rfl rfl (c_M_trace_Replay x386 v390 v391 l518 v517 x769 x770 hx771 _ _ hs772 hs773 hs768) ?_)
    rintro _ K776 _ hK777 ⟨v774, v775, rfl, rfl, hs778, hs779⟩
    refine Ow_q rfl rfl rfl (Qt_move rfl) ?_
    refine Ow_q rfl rfl rfl (Qt_extract rfl rfl) ?_
    refine Ow_q rfl rfl rfl (Qt_extract rfl rfl) ?_
    refine Ow_cons rfl (OpW_alloc (cs := (Memory.cells (Memory.mk [] [] 0) nilS nilS)) rfl rfl rfl rfl (fun b780 => ?_))
    refine Ow_cons rfl (OpW_store (vs := (Memory.cells x769 v774 v775)) (all' := (Memory.cells x769 v774 v775)) rfl rfl rfl rfl rfl .here rfl rfl rfl ?_)
    refine Ow_q rfl rfl rfl (Qt_assign rfl) ?_
    refine Ow_nil ?_
    refine Cw_seq ?_
    refine Cw_join (fun env' K' G' => ∃ (t799 : Bool), [(1, (.int .i64 p1)), (2, (.int .i64 p2)), (3, (.int .u8 p3)), (10, (.pointer (some ((⟨b396, 0, none⟩ : Addr).add 0)))), (11, (.pointer (some ((⟨b397, 0, none⟩ : Addr).add 0)))), (12, (sv v517)), (75, (.bool t799))] = env' ∧ (.blk b397 49 (Memory.cells x386 v390 v391)) :: (.blk b396 49 (Memory.cells (Memory.mk l522 l525 i527) v521 v524)) :: (.tok 26 8 [(sv v517)]) :: (.tok 22 1 [(sv v390)]) :: (.tok 38 1 [(sv v391)]) :: G = G' ∧ M_law6_TraceReplays_J2 p1 p2 p3 l518 x386 l522 l525 i527 t799 = some y0) ?_ ?_
    · skip
      refine Cw_region ?_
      refine Ow_q rfl rfl rfl (Qt_move rfl) ?_
      refine Ow_q rfl rfl rfl (Qt_not rfl) ?_
      refine Ow_q rfl rfl rfl (Qt_move rfl) ?_
      refine Ow_caseG rfl rfl rfl ?_ ?_
      · intro h800
        have h800 := nt_t (h800)
        have H := iff_ (btf h800) H
        refine Ow_pass rfl rfl rfl rfl rfl rfl rfl ?_
        refine Ow_pass rfl rfl rfl rfl rfl rfl rfl ?_
        refine Ow_pass rfl rfl rfl rfl rfl rfl rfl ?_
        refine Ow_pass rfl rfl rfl rfl rfl rfl rfl ?_
        refine Ow_q rfl rfl rfl (Qt_pick_t rfl rfl) ?_
        refine Ow_nil ?_
        refine Shift.pull (.there (.there (.there (.there (.there .here))))) ?_
        refine Shift.pull (.there (.there (.there (.there (.there .here))))) ?_
        refine Shift.pull (.there (.there (.there (.there (.there .here))))) ?_
        refine Shift.pull (.there (.there (.there (.there (.there .here))))) ?_
        refine Shift.pull (.there (.there (.there (.there (.there .here))))) ?_
        refine Shift.rem (.there (.there (.there (.there (.there .here))))) ?_
        refine Shift.done ?_
        exact ⟨[(1, (.int .i64 p1)), (2, (.int .i64 p2)), (3, (.int .u8 p3)), (10, (.pointer (some ((⟨b396, 0, none⟩ : Addr).add 0)))), (11, (.pointer (some ((⟨b397, 0, none⟩ : Addr).add 0)))), (12, (sv v517)), (75, (.bool true))], ⟨rfl, rfl, rfl, rfl, rfl, rfl, rfl, trivial⟩, true, rfl, rfl, H⟩
      · intro h800
        have h800 := nt_f (h800)
        have H := ift h800 H
        refine Ow_qw rfl rfl rfl rfl rfl rfl (Qt_loadA (m := 3) (cs := (Memory.cells x769 v774 v775)) rfl rfl rfl rfl ⟨rfl, Rdc.blk (.head _) rfl⟩) ?_
        refine Ow_qw rfl rfl rfl rfl rfl rfl (Qt_loadA (m := 3) (cs := (Memory.cells (Memory.mk l522 l525 i527) v521 v524)) rfl rfl rfl rfl ⟨rfl, Rdc.blk (.tail _ (.tail _ (.head _))) rfl⟩) ?_
        obtain ⟨x801, hx802, H⟩ := bnd H
        have hs803 := ((hs523).mono hK767).mono hK777
        have hs804 := ((hs526).mono hK767).mono hK777
        refine Ow_want rfl rfl rfl rfl (OpW_call rfl Try.call38 rfl rfl (c_M_ref4_Same x769 v774 v775 (Memory.mk l522 l525 i527) v521 v524 x801 hx802 _ _ hs778 hs779 hs803 hs804) ?_)
        rintro _ K805 _ hK806 ⟨rfl, rfl⟩
        refine Ow_qw rfl rfl rfl rfl rfl rfl (Qt_not rfl) ?_
        refine Ow_q rfl rfl rfl (Qt_pick_f rfl rfl) ?_
        refine Ow_nil ?_
        refine Shift.pull (.there (.there (.there (.there (.there .here))))) ?_
        refine Shift.pull (.there (.there (.there (.there (.there .here))))) ?_
        refine Shift.pull (.there (.there (.there (.there (.there .here))))) ?_
        refine Shift.pull (.there (.there (.there (.there (.there .here))))) ?_
        refine Shift.pull (.there (.there (.there (.there (.there .here))))) ?_
        refine Shift.rem (.there (.there (.there (.there (.there .here))))) ?_
        refine Shift.done ?_
        exact ⟨[(1, (.int .i64 p1)), (2, (.int .i64 p2)), (3, (.int .u8 p3)), (10, (.pointer (some ((⟨b396, 0, none⟩ : Addr).add 0)))), (11, (.pointer (some ((⟨b397, 0, none⟩ : Addr).add 0)))), (12, (sv v517)), (75, (.bool (!(x801))))], ⟨rfl, rfl, rfl, rfl, rfl, rfl, rfl, trivial⟩, (!(x801)), rfl, rfl, H⟩
    rintro _ K807 _ hK808 ⟨t799, rfl, rfl, H⟩
    unfold M_law6_TraceReplays_J2 at H
    refine Cw_cond rfl ?_ ?_
    · intro h809
      have H := ift h809 H
      refine Cw_seq ?_
      refine Cw_region ?_
      refine Ow_q rfl rfl rfl (Qt_assign rfl) ?_
      refine Ow_nil ?_
      refine Cw_ret ?_
      obtain ey0 := inj1 H
      subst y0
      refine ⟨(by first | exact .inl rfl | exact .inr rfl), [(.bool false)], ⟨(.bool false), _, rfl, rfl, rfl⟩, ?_⟩
      refine Shift.rem .here ?_
      refine Shift.rem .here ?_
      refine Shift.rem .here ?_
      refine Shift.rem .here ?_
      refine Shift.rem .here ?_
      refine Shift.done ?_
      exact ⟨rfl, rfl⟩
    · intro h809
      have H := iff_ (btf h809) H
      refine Cw_skip ?_
      refine Cw_seq ?_
      refine Cw_region ?_
      refine Ow_q rfl rfl rfl (Qt_move rfl) ?_
      refine Ow_q rfl rfl rfl (Qt_move rfl) ?_
      have hs810 := ((hs768).mono hK777).mono hK808
      refine Ow_q rfl rfl rfl (Q_len (T := TyItem) hs810 rfl rfl) ?_
      refine Ow_q rfl rfl rfl (Qt_arith (e := wI ((l518.length : Int) + 1)) rfl rfl rfl rfl) ?_
      obtain ⟨x811, hx812, H⟩ := bnd H
      refine Ow_cons rfl (OpW_call rfl Try.call23 rfl rfl (c_M_draw_Mod p2 (wI ((l518.length : Int) + 1)) x811 hx812 _ _ ) ?_)
      rintro _ _ _ - ⟨rfl, rfl, rfl⟩
      refine Ow_q rfl rfl rfl (Qt_assign rfl) ?_
      refine Ow_nil ?_
      refine Cw_join (fun env' K' G' => ∃ (b847 : Nat) (t848 : Bool) (v849 : SV) (l850 : List Int) (v852 : SV) (l853 : List (List Int)) (i855 : Int), [(1, (.int .i64 p1)), (3, (.int .u8 p3)), (10, (.pointer (some ((⟨b396, 0, none⟩ : Addr).add 0)))), (11, (.pointer (some ((⟨b397, 0, none⟩ : Addr).add 0)))), (12, (sv v517)), (20, (.int .i64 x811)), (21, (.pointer (some ((⟨b847, 0, none⟩ : Addr).add 0)))), (22, (.bool t848))] = env' ∧ (.blk b847 49 (Memory.cells (Memory.mk l850 l853 i855) v849 v852)) :: (.blk b397 49 (Memory.cells x386 v390 v391)) :: (.blk b396 49 (Memory.cells (Memory.mk l522 l525 i527) v521 v524)) :: (.tok 26 8 [(sv v517)]) :: (.tok 22 1 [(sv v390)]) :: (.tok 38 1 [(sv v391)]) :: G = G' ∧ M_law6_TraceReplays_J3 p1 p3 l518 x811 x386 l522 l525 i527 t848 l850 l853 i855 = some y0 ∧ Slr Ty.u64 K' (sv v849) l850 ∧ Slr (Ty.sl Ty.i64) K' (sv v852) l853) ?_ ?_
      · skip
        obtain ⟨x856, hx857, H⟩ := bnd H
        obtain ⟨x859, x860, hx861, H⟩ := bnd2 H
        refine Cw_region_any [.blk b397 49 (Memory.cells x386 v390 v391), .blk b396 49 (Memory.cells (Memory.mk l522 l525 i527) v521 v524), .tok 26 8 [(sv v517)], .tok 22 1 [(sv v390)], .tok 38 1 [(sv v391)]] rfl (Inc.cons (.head _) (Inc.cons (.tail _ (.head _)) (Inc.cons (.tail _ (.tail _ (.head _))) (Inc.cons (.tail _ (.tail _ (.tail _ (.head _)))) (Inc.cons (.tail _ (.tail _ (.tail _ (.tail _ (.head _))))) Inc.nil))))) ?_
        refine Aw_q 0 rfl (by kernel_rfl) (by kernel_rfl) (by kernel_rfl) rfl rfl rfl (Qt_loadA (m := 3) (cs := (Memory.cells x386 v390 v391)) rfl rfl rfl rfl ⟨rfl, Rdc.blk (.head _) rfl⟩) ?_
        refine Aw_q 1 rfl (by kernel_rfl) (by kernel_rfl) (by kernel_rfl) rfl rfl rfl (Qt_move rfl) ?_
        refine Aw_q 2 rfl (by kernel_rfl) (by kernel_rfl) (by kernel_rfl) rfl rfl rfl (Qt_move rfl) ?_
        have hs871 := Slr.cut hs810 hx857
        refine Aw_q 3 rfl (by kernel_rfl) (by kernel_rfl) (by kernel_rfl) rfl rfl rfl (Q_cutH (T := TyItem) hs810 hx857 rfl rfl rfl rfl) ?_
        refine Aw_two 4 8 (by kernel_rfl) ?_ ?_
        · skip
          refine id (Ax_mk rfl rfl ?_)
          have hs872 := ((hs772).mono hK777).mono hK808
          have hs873 := ((hs773).mono hK777).mono hK808
          refine OpW_call rfl Try.call48 rfl rfl (c_M_trace_Replay x386 v390 v391 x856 (cutS v517 8 0 x811.toNat) x859 x860 hx861 _ _ hs872 hs873 hs871) ?_
          rintro _ K876 _ hK877 ⟨v874, v875, rfl, rfl, hs878, hs879⟩
          refine ⟨(Inc.cons (.head _) (Inc.cons (.tail _ (.head _)) (Inc.cons (.tail _ (.tail _ (.head _))) (Inc.cons (.tail _ (.tail _ (.tail _ (.head _)))) (Inc.cons (.tail _ (.tail _ (.tail _ (.tail _ (.head _))))) Inc.nil))))), ?_⟩
          refine Aw_q 5 rfl (by kernel_rfl) (by kernel_rfl) (by kernel_rfl) rfl rfl rfl (Qt_move rfl) ?_
          refine Aw_q 6 rfl (by kernel_rfl) (by kernel_rfl) (by kernel_rfl) rfl rfl rfl (Qt_extract rfl rfl) ?_
          refine Aw_q 7 rfl (by kernel_rfl) (by kernel_rfl) (by kernel_rfl) rfl rfl rfl (Qt_extract rfl rfl) ?_
          refine Aw_one 8 (by kernel_rfl) (Ax_mk rfl rfl ?_)
          refine OpW_alloc (cs := (Memory.cells (Memory.mk [] [] 0) nilS nilS)) rfl rfl rfl rfl (fun b880 => ⟨(Inc.cons (.tail _ (.head _)) (Inc.cons (.tail _ (.tail _ (.head _))) (Inc.cons (.tail _ (.tail _ (.tail _ (.head _)))) (Inc.cons (.tail _ (.tail _ (.tail _ (.tail _ (.head _))))) (Inc.cons (.tail _ (.tail _ (.tail _ (.tail _ (.tail _ (.head _)))))) Inc.nil))))), ?_⟩)
          refine Aw_one 9 (by kernel_rfl) (Ax_mk rfl rfl ?_)
          refine OpW_store (vs := (Memory.cells x859 v874 v875)) (all' := (Memory.cells x859 v874 v875)) rfl rfl rfl rfl rfl .here rfl rfl rfl ⟨(Inc.cons (.tail _ (.head _)) (Inc.cons (.tail _ (.tail _ (.head _))) (Inc.cons (.tail _ (.tail _ (.tail _ (.head _)))) (Inc.cons (.tail _ (.tail _ (.tail _ (.tail _ (.head _))))) (Inc.cons (.tail _ (.tail _ (.tail _ (.tail _ (.tail _ (.head _)))))) Inc.nil))))), ?_⟩
          refine Aw_q 10 rfl (by kernel_rfl) (by kernel_rfl) (by kernel_rfl) rfl rfl rfl (Qt_assign rfl) ?_
          refine Aw_done (by kernel_rfl) ?_
          refine Shift.pull (.there (.there (.there (.there (.there .here))))) ?_
          refine Shift.pull (.there (.there (.there (.there (.there .here))))) ?_
          refine Shift.pull (.there (.there (.there (.there (.there .here))))) ?_
          refine Shift.pull (.there (.there (.there (.there (.there .here))))) ?_
          refine Shift.pull (.there (.there (.there (.there (.there .here))))) ?_
          refine Shift.pull (.there (.there (.there (.there (.there .here))))) ?_
          refine Shift.done ?_
          exact ⟨[(1, (.int .i64 p1)), (3, (.int .u8 p3)), (10, (.pointer (some ((⟨b396, 0, none⟩ : Addr).add 0)))), (11, (.pointer (some ((⟨b397, 0, none⟩ : Addr).add 0)))), (12, (sv v517)), (20, (.int .i64 x811)), (21, (.pointer (some ((⟨b880, 0, none⟩ : Addr).add 0)))), (22, (.bool x860))], ⟨rfl, rfl, rfl, rfl, rfl, rfl, rfl, rfl, trivial⟩, b880, x860, v874, x859.words, v875, x859.lists, x859.tick, rfl, rfl, H, hs878, hs879⟩
        · skip
          refine id (Ax_mk rfl rfl ?_)
          refine OpW_alloc (cs := (Memory.cells (Memory.mk [] [] 0) nilS nilS)) rfl rfl rfl rfl (fun b881 => ⟨(Inc.cons (.tail _ (.head _)) (Inc.cons (.tail _ (.tail _ (.head _))) (Inc.cons (.tail _ (.tail _ (.tail _ (.head _)))) (Inc.cons (.tail _ (.tail _ (.tail _ (.tail _ (.head _))))) (Inc.cons (.tail _ (.tail _ (.tail _ (.tail _ (.tail _ (.head _)))))) Inc.nil))))), ?_⟩)
          refine Aw_one 4 (by kernel_rfl) (Ax_mk rfl rfl ?_)
          have hs882 := ((hs772).mono hK777).mono hK808
          have hs883 := ((hs773).mono hK777).mono hK808
          refine OpW_call rfl Try.call48 rfl rfl (c_M_trace_Replay x386 v390 v391 x856 (cutS v517 8 0 x811.toNat) x859 x860 hx861 _ _ hs882 hs883 hs871) ?_
          rintro _ K886 _ hK887 ⟨v884, v885, rfl, rfl, hs888, hs889⟩
          refine ⟨(Inc.cons (.tail _ (.head _)) (Inc.cons (.tail _ (.tail _ (.head _))) (Inc.cons (.tail _ (.tail _ (.tail _ (.head _)))) (Inc.cons (.tail _ (.tail _ (.tail _ (.tail _ (.head _))))) (Inc.cons (.tail _ (.tail _ (.tail _ (.tail _ (.tail _ (.head _)))))) Inc.nil))))), ?_⟩
          refine Aw_q 5 rfl (by kernel_rfl) (by kernel_rfl) (by kernel_rfl) rfl rfl rfl (Qt_move rfl) ?_
          refine Aw_q 6 rfl (by kernel_rfl) (by kernel_rfl) (by kernel_rfl) rfl rfl rfl (Qt_extract rfl rfl) ?_
          refine Aw_q 7 rfl (by kernel_rfl) (by kernel_rfl) (by kernel_rfl) rfl rfl rfl (Qt_extract rfl rfl) ?_
          refine Aw_one 9 (by kernel_rfl) (Ax_mk rfl rfl ?_)
          refine OpW_store (vs := (Memory.cells x859 v884 v885)) (all' := (Memory.cells x859 v884 v885)) rfl rfl rfl rfl rfl .here rfl rfl rfl ⟨(Inc.cons (.tail _ (.head _)) (Inc.cons (.tail _ (.tail _ (.head _))) (Inc.cons (.tail _ (.tail _ (.tail _ (.head _)))) (Inc.cons (.tail _ (.tail _ (.tail _ (.tail _ (.head _))))) (Inc.cons (.tail _ (.tail _ (.tail _ (.tail _ (.tail _ (.head _)))))) Inc.nil))))), ?_⟩
          refine Aw_q 10 rfl (by kernel_rfl) (by kernel_rfl) (by kernel_rfl) rfl rfl rfl (Qt_assign rfl) ?_
          refine Aw_done (by kernel_rfl) ?_
          refine Shift.pull (.there (.there (.there (.there (.there .here))))) ?_
          refine Shift.pull (.there (.there (.there (.there (.there .here))))) ?_
          refine Shift.pull (.there (.there (.there (.there (.there .here))))) ?_
          refine Shift.pull (.there (.there (.there (.there (.there .here))))) ?_
          refine Shift.pull (.there (.there (.there (.there (.there .here))))) ?_
          refine Shift.pull (.there (.there (.there (.there (.there .here))))) ?_
          refine Shift.done ?_
          exact ⟨[(1, (.int .i64 p1)), (3, (.int .u8 p3)), (10, (.pointer (some ((⟨b396, 0, none⟩ : Addr).add 0)))), (11, (.pointer (some ((⟨b397, 0, none⟩ : Addr).add 0)))), (12, (sv v517)), (20, (.int .i64 x811)), (21, (.pointer (some ((⟨b881, 0, none⟩ : Addr).add 0)))), (22, (.bool x860))], ⟨rfl, rfl, rfl, rfl, rfl, rfl, rfl, rfl, trivial⟩, b881, x860, v884, x859.words, v885, x859.lists, x859.tick, rfl, rfl, H, hs888, hs889⟩
      rintro _ K890 _ hK891 ⟨b847, t848, v849, l850, v852, l853, i855, rfl, rfl, H, hs851, hs854⟩
      unfold M_law6_TraceReplays_J3 at H
      refine Cw_join (fun env' K' G' => ∃ (b922 : Nat) (t923 : Bool) (v924 : SV) (l925 : List Int) (v927 : SV) (l928 : List (List Int)) (i930 : Int), [(1, (.int .i64 p1)), (3, (.int .u8 p3)), (10, (.pointer (some ((⟨b396, 0, none⟩ : Addr).add 0)))), (11, (.pointer (some ((⟨b397, 0, none⟩ : Addr).add 0)))), (12, (sv v517)), (22, (.bool t848)), (23, (.pointer (some ((⟨b922, 0, none⟩ : Addr).add 0)))), (24, (.bool t923))] = env' ∧ (.blk b922 49 (Memory.cells (Memory.mk l925 l928 i930) v924 v927)) :: (.blk b397 49 (Memory.cells x386 v390 v391)) :: (.blk b396 49 (Memory.cells (Memory.mk l522 l525 i527) v521 v524)) :: (.tok 26 8 [(sv v517)]) :: (.tok 22 1 [(sv v390)]) :: (.tok 38 1 [(sv v391)]) :: G = G' ∧ M_law6_TraceReplays_J4 p1 p3 l518 t848 x386 l522 l525 i527 t923 l925 l928 i930 = some y0 ∧ Slr Ty.u64 K' (sv v924) l925 ∧ Slr (Ty.sl Ty.i64) K' (sv v927) l928) ?_ ?_
      · skip
        obtain ⟨x931, hx932, H⟩ := bnd H
        obtain ⟨x935, x936, hx937, H⟩ := bnd2 H
        refine Cw_region_any [.blk b847 49 (Memory.cells (Memory.mk l850 l853 i855) v849 v852), .blk b397 49 (Memory.cells x386 v390 v391), .blk b396 49 (Memory.cells (Memory.mk l522 l525 i527) v521 v524), .tok 26 8 [(sv v517)], .tok 22 1 [(sv v390)], .tok 38 1 [(sv v391)]] rfl (Inc.cons (.head _) (Inc.cons (.tail _ (.head _)) (Inc.cons (.tail _ (.tail _ (.head _))) (Inc.cons (.tail _ (.tail _ (.tail _ (.head _)))) (Inc.cons (.tail _ (.tail _ (.tail _ (.tail _ (.head _))))) (Inc.cons (.tail _ (.tail _ (.tail _ (.tail _ (.tail _ (.head _)))))) Inc.nil)))))) ?_
        refine Aw_q 0 rfl (by kernel_rfl) (by kernel_rfl) (by kernel_rfl) rfl rfl rfl (Qt_loadA (m := 3) (cs := (Memory.cells (Memory.mk l850 l853 i855) v849 v852)) rfl rfl rfl rfl ⟨rfl, Rdc.blk (.head _) rfl⟩) ?_
        refine Aw_q 1 rfl (by kernel_rfl) (by kernel_rfl) (by kernel_rfl) rfl rfl rfl (Qt_move rfl) ?_
        refine Aw_q 2 rfl (by kernel_rfl) (by kernel_rfl) (by kernel_rfl) rfl rfl rfl (Qt_move rfl) ?_
        have hs945 := (hs810).mono hK891
        have hs946 := Slr.cutL hs945 hx932
        refine Aw_q 3 rfl (by kernel_rfl) (by kernel_rfl) (by kernel_rfl) rfl rfl rfl (Q_cutL (T := TyItem) hs945 hx932 rfl rfl rfl rfl rfl) ?_
        refine Aw_two 4 8 (by kernel_rfl) ?_ ?_
        · skip
          refine id (Ax_mk rfl rfl ?_)
          refine OpW_call rfl Try.call48 rfl rfl (c_M_trace_Replay (Memory.mk l850 l853 i855) v849 v852 x931 (cutS v517 8 x811.toNat l518.length) x935 x936 hx937 _ _ hs851 hs854 hs946) ?_
          rintro _ K949 _ hK950 ⟨v947, v948, rfl, rfl, hs951, hs952⟩
          refine ⟨(Inc.cons (.head _) (Inc.cons (.tail _ (.head _)) (Inc.cons (.tail _ (.tail _ (.head _))) (Inc.cons (.tail _ (.tail _ (.tail _ (.head _)))) (Inc.cons (.tail _ (.tail _ (.tail _ (.tail _ (.head _))))) (Inc.cons (.tail _ (.tail _ (.tail _ (.tail _ (.tail _ (.head _)))))) Inc.nil)))))), ?_⟩
          refine Aw_q 5 rfl (by kernel_rfl) (by kernel_rfl) (by kernel_rfl) rfl rfl rfl (Qt_move rfl) ?_
          refine Aw_q 6 rfl (by kernel_rfl) (by kernel_rfl) (by kernel_rfl) rfl rfl rfl (Qt_extract rfl rfl) ?_
          refine Aw_q 7 rfl (by kernel_rfl) (by kernel_rfl) (by kernel_rfl) rfl rfl rfl (Qt_extract rfl rfl) ?_
          refine Aw_one 8 (by kernel_rfl) (Ax_mk rfl rfl ?_)
          refine OpW_alloc (cs := (Memory.cells (Memory.mk [] [] 0) nilS nilS)) rfl rfl rfl rfl (fun b953 => ⟨(Inc.cons (.tail _ (.head _)) (Inc.cons (.tail _ (.tail _ (.head _))) (Inc.cons (.tail _ (.tail _ (.tail _ (.head _)))) (Inc.cons (.tail _ (.tail _ (.tail _ (.tail _ (.head _))))) (Inc.cons (.tail _ (.tail _ (.tail _ (.tail _ (.tail _ (.head _)))))) (Inc.cons (.tail _ (.tail _ (.tail _ (.tail _ (.tail _ (.tail _ (.head _))))))) Inc.nil)))))), ?_⟩)
          refine Aw_one 9 (by kernel_rfl) (Ax_mk rfl rfl ?_)
          refine OpW_store (vs := (Memory.cells x935 v947 v948)) (all' := (Memory.cells x935 v947 v948)) rfl rfl rfl rfl rfl .here rfl rfl rfl ⟨(Inc.cons (.tail _ (.head _)) (Inc.cons (.tail _ (.tail _ (.head _))) (Inc.cons (.tail _ (.tail _ (.tail _ (.head _)))) (Inc.cons (.tail _ (.tail _ (.tail _ (.tail _ (.head _))))) (Inc.cons (.tail _ (.tail _ (.tail _ (.tail _ (.tail _ (.head _)))))) (Inc.cons (.tail _ (.tail _ (.tail _ (.tail _ (.tail _ (.tail _ (.head _))))))) Inc.nil)))))), ?_⟩
          refine Aw_q 10 rfl (by kernel_rfl) (by kernel_rfl) (by kernel_rfl) rfl rfl rfl (Qt_assign rfl) ?_
          refine Aw_done (by kernel_rfl) ?_
          refine Shift.pull (.there (.there (.there (.there (.there (.there .here)))))) ?_
          refine Shift.pull (.there (.there (.there (.there (.there (.there .here)))))) ?_
          refine Shift.pull (.there (.there (.there (.there (.there (.there .here)))))) ?_
          refine Shift.pull (.there (.there (.there (.there (.there (.there .here)))))) ?_
          refine Shift.pull (.there (.there (.there (.there (.there (.there .here)))))) ?_
          refine Shift.pull (.there (.there (.there (.there (.there .here))))) ?_
          refine Shift.rem (.there (.there (.there (.there (.there (.there .here)))))) ?_
          refine Shift.done ?_
          exact ⟨[(1, (.int .i64 p1)), (3, (.int .u8 p3)), (10, (.pointer (some ((⟨b396, 0, none⟩ : Addr).add 0)))), (11, (.pointer (some ((⟨b397, 0, none⟩ : Addr).add 0)))), (12, (sv v517)), (22, (.bool t848)), (23, (.pointer (some ((⟨b953, 0, none⟩ : Addr).add 0)))), (24, (.bool x936))], ⟨rfl, rfl, rfl, rfl, rfl, rfl, rfl, rfl, trivial⟩, b953, x936, v947, x935.words, v948, x935.lists, x935.tick, rfl, rfl, H, hs951, hs952⟩
        · skip
          refine id (Ax_mk rfl rfl ?_)
          refine OpW_alloc (cs := (Memory.cells (Memory.mk [] [] 0) nilS nilS)) rfl rfl rfl rfl (fun b954 => ⟨(Inc.cons (.tail _ (.head _)) (Inc.cons (.tail _ (.tail _ (.head _))) (Inc.cons (.tail _ (.tail _ (.tail _ (.head _)))) (Inc.cons (.tail _ (.tail _ (.tail _ (.tail _ (.head _))))) (Inc.cons (.tail _ (.tail _ (.tail _ (.tail _ (.tail _ (.head _)))))) (Inc.cons (.tail _ (.tail _ (.tail _ (.tail _ (.tail _ (.tail _ (.head _))))))) Inc.nil)))))), ?_⟩)
          refine Aw_one 4 (by kernel_rfl) (Ax_mk rfl rfl ?_)
          refine OpW_call rfl Try.call48 rfl rfl (c_M_trace_Replay (Memory.mk l850 l853 i855) v849 v852 x931 (cutS v517 8 x811.toNat l518.length) x935 x936 hx937 _ _ hs851 hs854 hs946) ?_
          rintro _ K957 _ hK958 ⟨v955, v956, rfl, rfl, hs959, hs960⟩
          refine ⟨(Inc.cons (.tail _ (.head _)) (Inc.cons (.tail _ (.tail _ (.head _))) (Inc.cons (.tail _ (.tail _ (.tail _ (.head _)))) (Inc.cons (.tail _ (.tail _ (.tail _ (.tail _ (.head _))))) (Inc.cons (.tail _ (.tail _ (.tail _ (.tail _ (.tail _ (.head _)))))) (Inc.cons (.tail _ (.tail _ (.tail _ (.tail _ (.tail _ (.tail _ (.head _))))))) Inc.nil)))))), ?_⟩
          refine Aw_q 5 rfl (by kernel_rfl) (by kernel_rfl) (by kernel_rfl) rfl rfl rfl (Qt_move rfl) ?_
          refine Aw_q 6 rfl (by kernel_rfl) (by kernel_rfl) (by kernel_rfl) rfl rfl rfl (Qt_extract rfl rfl) ?_
          refine Aw_q 7 rfl (by kernel_rfl) (by kernel_rfl) (by kernel_rfl) rfl rfl rfl (Qt_extract rfl rfl) ?_
          refine Aw_one 9 (by kernel_rfl) (Ax_mk rfl rfl ?_)
          refine OpW_store (vs := (Memory.cells x935 v955 v956)) (all' := (Memory.cells x935 v955 v956)) rfl rfl rfl rfl rfl .here rfl rfl rfl ⟨(Inc.cons (.tail _ (.head _)) (Inc.cons (.tail _ (.tail _ (.head _))) (Inc.cons (.tail _ (.tail _ (.tail _ (.head _)))) (Inc.cons (.tail _ (.tail _ (.tail _ (.tail _ (.head _))))) (Inc.cons (.tail _ (.tail _ (.tail _ (.tail _ (.tail _ (.head _)))))) (Inc.cons (.tail _ (.tail _ (.tail _ (.tail _ (.tail _ (.tail _ (.head _))))))) Inc.nil)))))), ?_⟩
          refine Aw_q 10 rfl (by kernel_rfl) (by kernel_rfl) (by kernel_rfl) rfl rfl rfl (Qt_assign rfl) ?_
          refine Aw_done (by kernel_rfl) ?_
          refine Shift.pull (.there (.there (.there (.there (.there (.there .here)))))) ?_
          refine Shift.pull (.there (.there (.there (.there (.there (.there .here)))))) ?_
          refine Shift.pull (.there (.there (.there (.there (.there (.there .here)))))) ?_
          refine Shift.pull (.there (.there (.there (.there (.there (.there .here)))))) ?_
          refine Shift.pull (.there (.there (.there (.there (.there (.there .here)))))) ?_
          refine Shift.pull (.there (.there (.there (.there (.there .here))))) ?_
          refine Shift.rem (.there (.there (.there (.there (.there (.there .here)))))) ?_
          refine Shift.done ?_
          exact ⟨[(1, (.int .i64 p1)), (3, (.int .u8 p3)), (10, (.pointer (some ((⟨b396, 0, none⟩ : Addr).add 0)))), (11, (.pointer (some ((⟨b397, 0, none⟩ : Addr).add 0)))), (12, (sv v517)), (22, (.bool t848)), (23, (.pointer (some ((⟨b954, 0, none⟩ : Addr).add 0)))), (24, (.bool x936))], ⟨rfl, rfl, rfl, rfl, rfl, rfl, rfl, rfl, trivial⟩, b954, x936, v955, x935.words, v956, x935.lists, x935.tick, rfl, rfl, H, hs959, hs960⟩
      rintro _ K961 _ hK962 ⟨b922, t923, v924, l925, v927, l928, i930, rfl, rfl, H, hs926, hs929⟩
      unfold M_law6_TraceReplays_J4 at H
      refine Cw_seq ?_
      refine Cw_join (fun env' K' G' => ∃ (t983 : Bool), [(1, (.int .i64 p1)), (3, (.int .u8 p3)), (11, (.pointer (some ((⟨b397, 0, none⟩ : Addr).add 0)))), (12, (sv v517)), (108, (.bool t983))] = env' ∧ (.blk b397 49 (Memory.cells x386 v390 v391)) :: (.tok 26 8 [(sv v517)]) :: (.tok 22 1 [(sv v390)]) :: (.tok 38 1 [(sv v391)]) :: G = G' ∧ M_law6_TraceReplays_J5 p1 p3 l518 x386 t983 = some y0) ?_ ?_
      · skip
        refine Cw_region ?_
        refine Ow_q rfl rfl rfl (Qt_move rfl) ?_
        refine Ow_q rfl rfl rfl (Qt_not rfl) ?_
        refine Ow_q rfl rfl rfl (Qt_move rfl) ?_
        refine Ow_caseG rfl rfl rfl ?_ ?_
        · intro h984
          have h984 := nt_t (h984)
          have H := iff_ (btf h984) H
          refine Ow_pass rfl rfl rfl rfl rfl rfl rfl ?_
          refine Ow_pass rfl rfl rfl rfl rfl rfl rfl ?_
          refine Ow_q rfl rfl rfl (Qt_pick_t rfl rfl) ?_
          refine Ow_q rfl rfl rfl (Qt_move rfl) ?_
          refine Ow_pass rfl rfl rfl rfl rfl rfl rfl ?_
          refine Ow_pass rfl rfl rfl rfl rfl rfl rfl ?_
          refine Ow_pass rfl rfl rfl rfl rfl rfl rfl ?_
          refine Ow_pass rfl rfl rfl rfl rfl rfl rfl ?_
          refine Ow_q rfl rfl rfl (Qt_pick_t rfl rfl) ?_
          refine Ow_nil ?_
          refine Shift.pull (.there (.there (.there (.there (.there .here))))) ?_
          refine Shift.pull (.there (.there (.there (.there (.there .here))))) ?_
          refine Shift.pull (.there (.there (.there (.there (.there .here))))) ?_
          refine Shift.pull (.there (.there (.there (.there .here)))) ?_
          refine Shift.rem (.there (.there (.there (.there .here)))) ?_
          refine Shift.rem (.there (.there (.there (.there .here)))) ?_
          refine Shift.done ?_
          exact ⟨[(1, (.int .i64 p1)), (3, (.int .u8 p3)), (11, (.pointer (some ((⟨b397, 0, none⟩ : Addr).add 0)))), (12, (sv v517)), (108, (.bool true))], ⟨rfl, rfl, rfl, rfl, rfl, trivial⟩, true, rfl, rfl, H⟩
        · intro h984
          have h984 := nt_f (h984)
          have H := ift h984 H
          refine Ow_qw rfl rfl rfl rfl rfl rfl (Qt_move rfl) ?_
          refine Ow_qw rfl rfl rfl rfl rfl rfl (Qt_not rfl) ?_
          refine Ow_q rfl rfl rfl (Qt_pick_f rfl rfl) ?_
          refine Ow_q rfl rfl rfl (Qt_move rfl) ?_
          refine Ow_caseG rfl rfl rfl ?_ ?_
          · intro h985
            have h985 := nt_t (h985)
            have H := iff_ (btf h985) H
            refine Ow_pass rfl rfl rfl rfl rfl rfl rfl ?_
            refine Ow_pass rfl rfl rfl rfl rfl rfl rfl ?_
            refine Ow_pass rfl rfl rfl rfl rfl rfl rfl ?_
            refine Ow_pass rfl rfl rfl rfl rfl rfl rfl ?_
            refine Ow_q rfl rfl rfl (Qt_pick_t rfl rfl) ?_
            refine Ow_nil ?_
            refine Shift.pull (.there (.there (.there (.there (.there .here))))) ?_
            refine Shift.pull (.there (.there (.there (.there (.there .here))))) ?_
            refine Shift.pull (.there (.there (.there (.there (.there .here))))) ?_
            refine Shift.pull (.there (.there (.there (.there .here)))) ?_
            refine Shift.rem (.there (.there (.there (.there .here)))) ?_
            refine Shift.rem (.there (.there (.there (.there .here)))) ?_
            refine Shift.done ?_
            exact ⟨[(1, (.int .i64 p1)), (3, (.int .u8 p3)), (11, (.pointer (some ((⟨b397, 0, none⟩ : Addr).add 0)))), (12, (sv v517)), (108, (.bool true))], ⟨rfl, rfl, rfl, rfl, rfl, trivial⟩, true, rfl, rfl, H⟩
          · intro h985
            have h985 := nt_f (h985)
            have H := ift h985 H
            refine Ow_qw rfl rfl rfl rfl rfl rfl (Qt_loadA (m := 3) (cs := (Memory.cells (Memory.mk l925 l928 i930) v924 v927)) rfl rfl rfl rfl ⟨rfl, Rdc.blk (.head _) rfl⟩) ?_
            refine Ow_qw rfl rfl rfl rfl rfl rfl (Qt_loadA (m := 3) (cs := (Memory.cells (Memory.mk l522 l525 i527) v521 v524)) rfl rfl rfl rfl ⟨rfl, Rdc.blk (.tail _ (.tail _ (.head _))) rfl⟩) ?_
            obtain ⟨x986, hx987, H⟩ := bnd H
            have hs988 := (((((hs523).mono hK767).mono hK777).mono hK808).mono hK891).mono hK962
            have hs989 := (((((hs526).mono hK767).mono hK777).mono hK808).mono hK891).mono hK962
            refine Ow_want rfl rfl rfl rfl (OpW_call rfl Try.call38 rfl rfl (c_M_ref4_Same (Memory.mk l925 l928 i930) v924 v927 (Memory.mk l522 l525 i527) v521 v524 x986 hx987 _ _ hs926 hs929 hs988 hs989) ?_)
            rintro _ K990 _ hK991 ⟨rfl, rfl⟩
            refine Ow_qw rfl rfl rfl rfl rfl rfl (Qt_not rfl) ?_
            refine Ow_q rfl rfl rfl (Qt_pick_f rfl rfl) ?_
            refine Ow_nil ?_
            refine Shift.pull (.there (.there (.there (.there (.there .here))))) ?_
            refine Shift.pull (.there (.there (.there (.there (.there .here))))) ?_
            refine Shift.pull (.there (.there (.there (.there (.there .here))))) ?_
            refine Shift.pull (.there (.there (.there (.there .here)))) ?_
            refine Shift.rem (.there (.there (.there (.there .here)))) ?_
            refine Shift.rem (.there (.there (.there (.there .here)))) ?_
            refine Shift.done ?_
            exact ⟨[(1, (.int .i64 p1)), (3, (.int .u8 p3)), (11, (.pointer (some ((⟨b397, 0, none⟩ : Addr).add 0)))), (12, (sv v517)), (108, (.bool (!(x986))))], ⟨rfl, rfl, rfl, rfl, rfl, trivial⟩, (!(x986)), rfl, rfl, H⟩
      rintro _ K992 _ hK993 ⟨t983, rfl, rfl, H⟩
      unfold M_law6_TraceReplays_J5 at H
      refine Cw_cond rfl ?_ ?_
      · intro h994
        have H := ift h994 H
        refine Cw_seq ?_
        refine Cw_region ?_
        refine Ow_q rfl rfl rfl (Qt_assign rfl) ?_
        refine Ow_nil ?_
        refine Cw_ret ?_
        obtain ey0 := inj1 H
        subst y0
        refine ⟨(by first | exact .inl rfl | exact .inr rfl), [(.bool false)], ⟨(.bool false), _, rfl, rfl, rfl⟩, ?_⟩
        refine Shift.rem .here ?_
        refine Shift.rem .here ?_
        refine Shift.rem .here ?_
        refine Shift.rem .here ?_
        refine Shift.done ?_
        exact ⟨rfl, rfl⟩
      · intro h994
        have H := iff_ (btf h994) H
        refine Cw_skip ?_
        refine Cw_seq ?_
        refine Cw_seq ?_
        refine Cw_region ?_
        refine Ow_q rfl rfl rfl (Qt_move rfl) ?_
        have hs997 := (((hs810).mono hK891).mono hK962).mono hK993
        refine Ow_q rfl rfl rfl (Q_len (T := TyItem) hs997 rfl rfl) ?_
        refine Ow_q rfl rfl rfl (Qt_cmp rfl rfl rfl) ?_
        refine Ow_nil ?_
        refine Cw_cond rfl ?_ ?_
        · intro h998
          have h998 := dcd_t (h998)
          have H := ift h998 H
          refine Cw_seq ?_
          refine Cw_region ?_
          refine Ow_q rfl rfl rfl (Qt_assign rfl) ?_
          refine Ow_nil ?_
          refine Cw_ret ?_
          obtain ey0 := inj1 H
          subst y0
          refine ⟨(by first | exact .inl rfl | exact .inr rfl), [(.bool true)], ⟨(.bool true), _, rfl, rfl, rfl⟩, ?_⟩
          refine Shift.rem .here ?_
          refine Shift.rem .here ?_
          refine Shift.rem .here ?_
          refine Shift.rem .here ?_
          refine Shift.done ?_
          exact ⟨rfl, rfl⟩
        · intro h998
          have h998 := dcd_f (h998)
          have H := iff_ h998 H
          refine Cw_skip ?_
          refine Cw_seq ?_
          refine Cw_region ?_
          refine Ow_q rfl rfl rfl (Qt_move rfl) ?_
          refine Ow_q rfl rfl rfl (Qt_move rfl) ?_
          refine Ow_q rfl rfl rfl (Q_len (T := TyItem) hs997 rfl rfl) ?_
          obtain ⟨x999, hx1000, H⟩ := bnd H
          refine Ow_cons rfl (OpW_call rfl Try.call23 rfl rfl (c_M_draw_Mod p1 (l518.length : Int) x999 hx1000 _ _ ) ?_)
          rintro _ _ _ - ⟨rfl, rfl, rfl⟩
          refine Ow_q rfl rfl rfl (Qt_assign rfl) ?_
          refine Ow_nil ?_
          refine Cw_seq ?_
          refine Cw_region ?_
          refine Ow_q rfl rfl rfl (Qt_move rfl) ?_
          have hR1001 : RowR TyItem K992 [] [] := RowR.nil
          refine Ow.shift (Shift.nilRow 26 8 (Shift.done ?_))
          obtain ⟨x1002, hx1003, H⟩ := bnd H
          refine Ow_cons rfl (O_appRow (T := TyItem) (bytes := 64) rfl rfl rfl (.head _) hR1001 (SrcT.sl hs997) hx1003 rfl rfl rfl rfl rfl rfl rfl rfl (fun v1004 rs1005 hR1006 => ⟨_, .here, ?_⟩))
          refine Ow_q rfl rfl rfl (Qt_assign rfl) ?_
          refine Ow_nil ?_
          refine Cw_join (fun env' K' G' => ∃ (l1054 : List Item) (rs1056 : List (List Value)), [(11, (.pointer (some ((⟨b397, 0, none⟩ : Addr).add 0)))), (26, (sv v1004))] = env' ∧ K992 = K' ∧ (.blk b397 49 (Memory.cells x386 v390 v391)) :: (.row (sv v1004) 26 8 rs1056.flatten) :: (.tok 22 1 [(sv v390)]) :: (.tok 38 1 [(sv v391)]) :: G = G' ∧ M_law6_TraceReplays_J6 x386 l1054 = some y0 ∧ RowR TyItem K' rs1056 l1054) ?_ ?_
          · skip
            refine Cw_seq ?_
            refine Cw_region ?_
            refine Ow_q rfl rfl rfl (Qt_move rfl) ?_
            refine Ow_q rfl rfl rfl (Qt_rem rfl rfl (by decide)) ?_
            refine Ow_nil ?_
            refine Cw_block ?_
            refine Cw_seq ?_
            refine Cw_region ?_
            refine Ow_q rfl rfl rfl (Qt_cmp rfl rfl rfl) ?_
            refine Ow_q rfl rfl rfl (Qt_assign rfl) ?_
            refine Ow_nil ?_
            refine Cw_cond rfl ?_ ?_
            · intro h1057
              have h1057 := dcd_t (h1057)
              have H := ift h1057 H
              refine Cw_region ?_
              refine Ow_q rfl rfl rfl (Qt_move rfl) ?_
              refine Ow_q rfl rfl rfl (Qt_move rfl) ?_
              obtain ⟨x1058, hx1059, H⟩ := bnd H
              obtain ⟨r1060, hq1061, hr1062⟩ := RowR.at hR1006 hx1059
              obtain rfl := hr1062
              refine Ow_q rfl rfl rfl (Q_ixR (T := TyItem) (.head _) hR1006 hq1061 (getI_ix hx1059).1 rfl rfl rfl rfl rfl) ?_
              refine Ow_q rfl rfl rfl (Qt_fieldAddr (m := 6) rfl rfl rfl rfl rfl) ?_
              refine Ow_q rfl rfl rfl (Qt_load1 (v := (.int .u64 x1058.value)) rfl rfl rfl (Rd_row (T := TyItem) (.head _) hR1006 hq1061 rfl rfl)) ?_
              refine Ow_q rfl rfl rfl (Qt_move rfl) ?_
              refine Ow_q rfl rfl rfl (Qt_conv (c := wU p3) rfl rfl rfl rfl) ?_
              refine Ow_q rfl rfl rfl (Qt_arith (e := wU (x1058.value + (wU p3))) rfl rfl rfl rfl) ?_
              obtain ⟨x1063, hx1064, H⟩ := bnd H
              obtain ⟨r1065, hq1066, hr1067⟩ := RowR.at hR1006 hx1064
              obtain rfl := hr1067
              refine Ow_q rfl rfl rfl (Q_ixR (T := TyItem) (.head _) hR1006 hq1066 (getI_ix hx1064).1 rfl rfl rfl rfl rfl) ?_
              refine Ow_q rfl rfl rfl (Qt_fieldAddr (m := 6) rfl rfl rfl rfl rfl) ?_
              refine Ow_cons rfl (O_storeR (T := TyItem) (vs := [(.int .u64 (wU (x1058.value + (wU p3))))]) (r' := (Item.cells (Item.mk x1063.thread x1063.access (wU (x1058.value + (wU p3))) x1063.ok))) (l' := (setI x1002 x999 (Item.mk x1063.thread x1063.access (wU (x1058.value + (wU p3))) x1063.ok))) rfl rfl rfl rfl rfl .here hR1006 hq1066 rfl rfl rfl (RowR.set x999 hR1006 rfl) (fun hR1068 => ?_))
              have hE1069 := set_at hq1066 (v := (Item.cells (Item.mk x1063.thread x1063.access (wU (x1058.value + (wU p3))) x1063.ok)))
              refine Ow_nil ?_
              refine Shift.pull (.there (.there (.there (.there .here)))) ?_
              refine Shift.pull (.there (.there (.there (.there .here)))) ?_
              refine Shift.pull (.there (.there .here)) ?_
              refine Shift.pull (.there (.there (.there .here))) ?_
              refine Shift.rem (.there (.there (.there (.there .here)))) ?_
              refine Shift.done ?_
              exact ⟨[(11, (.pointer (some ((⟨b397, 0, none⟩ : Addr).add 0)))), (26, (sv v1004))], ⟨rfl, rfl, trivial⟩, (setI x1002 x999 (Item.mk x1063.thread x1063.access (wU (x1058.value + (wU p3))) x1063.ok)), (rs1005.set x999.toNat (Item.cells (Item.mk x1063.thread x1063.access (wU (x1058.value + (wU p3))) x1063.ok))), rfl, rfl, rfl, H, hR1068⟩
            · intro h1057
              have h1057 := dcd_f (h1057)
              have H := iff_ h1057 H
              refine Cw_seq ?_
              refine Cw_region ?_
              refine Ow_q rfl rfl rfl (Qt_cmp rfl rfl rfl) ?_
              refine Ow_q rfl rfl rfl (Qt_assign rfl) ?_
              refine Ow_nil ?_
              refine Cw_cond rfl ?_ ?_
              · intro h1070
                have h1070 := dcd_t (h1070)
                have H := ift h1070 H
                refine Cw_region ?_
                refine Ow_q rfl rfl rfl (Qt_move rfl) ?_
                refine Ow_q rfl rfl rfl (Qt_move rfl) ?_
                refine Ow_q rfl rfl rfl (Qt_move rfl) ?_
                refine Ow_q rfl rfl rfl (Qt_move rfl) ?_
                obtain ⟨x1071, hx1072, H⟩ := bnd H
                obtain ⟨r1073, hq1074, hr1075⟩ := RowR.at hR1006 hx1072
                obtain rfl := hr1075
                refine Ow_q rfl rfl rfl (Q_ixR (T := TyItem) (.head _) hR1006 hq1074 (getI_ix hx1072).1 rfl rfl rfl rfl rfl) ?_
                refine Ow_q rfl rfl rfl (Qt_fieldAddr (m := 7) rfl rfl rfl rfl rfl) ?_
                refine Ow_q rfl rfl rfl (Qt_load1 (v := (.bool x1071.ok)) rfl rfl rfl (Rd_row (T := TyItem) (.head _) hR1006 hq1074 rfl rfl)) ?_
                refine Ow_q rfl rfl rfl (Qt_not rfl) ?_
                obtain ⟨x1076, hx1077, H⟩ := bnd H
                obtain ⟨r1078, hq1079, hr1080⟩ := RowR.at hR1006 hx1077
                obtain rfl := hr1080
                refine Ow_q rfl rfl rfl (Q_ixR (T := TyItem) (.head _) hR1006 hq1079 (getI_ix hx1077).1 rfl rfl rfl rfl rfl) ?_
                refine Ow_q rfl rfl rfl (Qt_fieldAddr (m := 7) rfl rfl rfl rfl rfl) ?_
                refine Ow_cons rfl (O_storeR (T := TyItem) (vs := [(.bool (!(x1071.ok)))]) (r' := (Item.cells (Item.mk x1076.thread x1076.access x1076.value (!(x1071.ok))))) (l' := (setI x1002 x999 (Item.mk x1076.thread x1076.access x1076.value (!(x1071.ok))))) rfl rfl rfl rfl rfl .here hR1006 hq1079 rfl rfl rfl (RowR.set x999 hR1006 rfl) (fun hR1081 => ?_))
                have hE1082 := set_at hq1079 (v := (Item.cells (Item.mk x1076.thread x1076.access x1076.value (!(x1071.ok)))))
                refine Ow_nil ?_
                refine Shift.pull (.there (.there (.there (.there .here)))) ?_
                refine Shift.pull (.there (.there (.there (.there .here)))) ?_
                refine Shift.pull (.there (.there .here)) ?_
                refine Shift.pull (.there (.there (.there .here))) ?_
                refine Shift.rem (.there (.there (.there (.there .here)))) ?_
                refine Shift.done ?_
                exact ⟨[(11, (.pointer (some ((⟨b397, 0, none⟩ : Addr).add 0)))), (26, (sv v1004))], ⟨rfl, rfl, trivial⟩, (setI x1002 x999 (Item.mk x1076.thread x1076.access x1076.value (!(x1071.ok)))), (rs1005.set x999.toNat (Item.cells (Item.mk x1076.thread x1076.access x1076.value (!(x1071.ok))))), rfl, rfl, rfl, H, hR1081⟩
              · intro h1070
                have h1070 := dcd_f (h1070)
                have H := iff_ h1070 H
                refine Cw_seq ?_
                refine Cw_region ?_
                refine Ow_q rfl rfl rfl (Qt_cmp rfl rfl rfl) ?_
                refine Ow_q rfl rfl rfl (Qt_assign rfl) ?_
                refine Ow_nil ?_
                refine Cw_cond rfl ?_ ?_
                · intro h1083
                  have h1083 := dcd_t (h1083)
                  have H := ift h1083 H
                  refine Cw_region ?_
                  refine Ow_q rfl rfl rfl (Qt_move rfl) ?_
                  refine Ow_q rfl rfl rfl (Qt_move rfl) ?_
                  obtain ⟨x1084, hx1085, H⟩ := bnd H
                  obtain ⟨r1086, hq1087, hr1088⟩ := RowR.at hR1006 hx1085
                  obtain rfl := hr1088
                  refine Ow_q rfl rfl rfl (Q_ixR (T := TyItem) (.head _) hR1006 hq1087 (getI_ix hx1085).1 rfl rfl rfl rfl rfl) ?_
                  refine Ow_q rfl rfl rfl (Qt_fieldAddr (m := 1) rfl rfl rfl rfl rfl) ?_
                  refine Ow_q rfl rfl rfl (Qt_fieldAddr (m := 4) rfl rfl rfl rfl rfl) ?_
                  refine Ow_q rfl rfl rfl (Qt_load1 (v := (.int .u64 x1084.access.new)) rfl rfl rfl (Rd_row (T := TyItem) (.head _) hR1006 hq1087 rfl rfl)) ?_
                  refine Ow_q rfl rfl rfl (Qt_move rfl) ?_
                  refine Ow_q rfl rfl rfl (Qt_conv (c := wU p3) rfl rfl rfl rfl) ?_
                  refine Ow_q rfl rfl rfl (Qt_arith (e := wU (x1084.access.new + (wU p3))) rfl rfl rfl rfl) ?_
                  obtain ⟨x1089, hx1090, H⟩ := bnd H
                  obtain ⟨r1091, hq1092, hr1093⟩ := RowR.at hR1006 hx1090
                  obtain rfl := hr1093
                  refine Ow_q rfl rfl rfl (Q_ixR (T := TyItem) (.head _) hR1006 hq1092 (getI_ix hx1090).1 rfl rfl rfl rfl rfl) ?_
                  refine Ow_q rfl rfl rfl (Qt_fieldAddr (m := 1) rfl rfl rfl rfl rfl) ?_
                  refine Ow_q rfl rfl rfl (Qt_fieldAddr (m := 4) rfl rfl rfl rfl rfl) ?_
                  refine Ow_cons rfl (O_storeR (T := TyItem) (vs := [(.int .u64 (wU (x1084.access.new + (wU p3))))]) (r' := (Item.cells (Item.mk x1089.thread (Access.mk x1089.access.kind x1089.access.address x1089.access.old (wU (x1084.access.new + (wU p3))) x1089.access.until_) x1089.value x1089.ok))) (l' := (setI x1002 x999 (Item.mk x1089.thread (Access.mk x1089.access.kind x1089.access.address x1089.access.old (wU (x1084.access.new + (wU p3))) x1089.access.until_) x1089.value x1089.ok))) rfl rfl rfl rfl rfl .here hR1006 hq1092 rfl rfl rfl (RowR.set x999 hR1006 rfl) (fun hR1094 => ?_))
                  have hE1095 := set_at hq1092 (v := (Item.cells (Item.mk x1089.thread (Access.mk x1089.access.kind x1089.access.address x1089.access.old (wU (x1084.access.new + (wU p3))) x1089.access.until_) x1089.value x1089.ok)))
                  refine Ow_nil ?_
                  refine Shift.pull (.there (.there (.there (.there .here)))) ?_
                  refine Shift.pull (.there (.there (.there (.there .here)))) ?_
                  refine Shift.pull (.there (.there .here)) ?_
                  refine Shift.pull (.there (.there (.there .here))) ?_
                  refine Shift.rem (.there (.there (.there (.there .here)))) ?_
                  refine Shift.done ?_
                  exact ⟨[(11, (.pointer (some ((⟨b397, 0, none⟩ : Addr).add 0)))), (26, (sv v1004))], ⟨rfl, rfl, trivial⟩, (setI x1002 x999 (Item.mk x1089.thread (Access.mk x1089.access.kind x1089.access.address x1089.access.old (wU (x1084.access.new + (wU p3))) x1089.access.until_) x1089.value x1089.ok)), (rs1005.set x999.toNat (Item.cells (Item.mk x1089.thread (Access.mk x1089.access.kind x1089.access.address x1089.access.old (wU (x1084.access.new + (wU p3))) x1089.access.until_) x1089.value x1089.ok))), rfl, rfl, rfl, H, hR1094⟩
                · intro h1083
                  have h1083 := dcd_f (h1083)
                  have H := iff_ h1083 H
                  refine Cw_seq ?_
                  refine Cw_region ?_
                  refine Ow_q rfl rfl rfl (Qt_cmp rfl rfl rfl) ?_
                  refine Ow_q rfl rfl rfl (Qt_assign rfl) ?_
                  refine Ow_nil ?_
                  refine Cw_cond rfl ?_ ?_
                  · intro h1096
                    have h1096 := dcd_t (h1096)
                    have H := ift h1096 H
                    refine Cw_region ?_
                    refine Ow_q rfl rfl rfl (Qt_move rfl) ?_
                    refine Ow_q rfl rfl rfl (Qt_move rfl) ?_
                    refine Ow_q rfl rfl rfl (Qt_move rfl) ?_
                    refine Ow_q rfl rfl rfl (Qt_conv (c := wI p3) rfl rfl rfl rfl) ?_
                    refine Ow_q rfl rfl rfl (Qt_quo rfl rfl (by decide)) ?_
                    refine Ow_q rfl rfl rfl (Qt_rem rfl rfl (by decide)) ?_
                    obtain ⟨x1097, hx1098, H⟩ := bnd H
                    obtain ⟨r1099, hq1100, hr1101⟩ := RowR.at hR1006 hx1098
                    obtain rfl := hr1101
                    refine Ow_q rfl rfl rfl (Q_ixR (T := TyItem) (.head _) hR1006 hq1100 (getI_ix hx1098).1 rfl rfl rfl rfl rfl) ?_
                    refine Ow_q rfl rfl rfl (Qt_fieldAddr (m := 1) rfl rfl rfl rfl rfl) ?_
                    refine Ow_q rfl rfl rfl (Qt_fieldAddr (m := 2) rfl rfl rfl rfl rfl) ?_
                    refine Ow_cons rfl (O_storeR (T := TyItem) (vs := [(.int .i64 (Int.tmod (wI (Int.tdiv (wI p3) 4)) 8))]) (r' := (Item.cells (Item.mk x1097.thread (Access.mk x1097.access.kind (Int.tmod (wI (Int.tdiv (wI p3) 4)) 8) x1097.access.old x1097.access.new x1097.access.until_) x1097.value x1097.ok))) (l' := (setI x1002 x999 (Item.mk x1097.thread (Access.mk x1097.access.kind (Int.tmod (wI (Int.tdiv (wI p3) 4)) 8) x1097.access.old x1097.access.new x1097.access.until_) x1097.value x1097.ok))) rfl rfl rfl rfl rfl .here hR1006 hq1100 rfl rfl rfl (RowR.set x999 hR1006 rfl) (fun hR1102 => ?_))
                    have hE1103 := set_at hq1100 (v := (Item.cells (Item.mk x1097.thread (Access.mk x1097.access.kind (Int.tmod (wI (Int.tdiv (wI p3) 4)) 8) x1097.access.old x1097.access.new x1097.access.until_) x1097.value x1097.ok)))
                    refine Ow_nil ?_
                    refine Shift.pull (.there (.there (.there (.there .here)))) ?_
                    refine Shift.pull (.there (.there (.there (.there .here)))) ?_
                    refine Shift.pull (.there (.there .here)) ?_
                    refine Shift.pull (.there (.there (.there .here))) ?_
                    refine Shift.rem (.there (.there (.there (.there .here)))) ?_
                    refine Shift.done ?_
                    exact ⟨[(11, (.pointer (some ((⟨b397, 0, none⟩ : Addr).add 0)))), (26, (sv v1004))], ⟨rfl, rfl, trivial⟩, (setI x1002 x999 (Item.mk x1097.thread (Access.mk x1097.access.kind (Int.tmod (wI (Int.tdiv (wI p3) 4)) 8) x1097.access.old x1097.access.new x1097.access.until_) x1097.value x1097.ok)), (rs1005.set x999.toNat (Item.cells (Item.mk x1097.thread (Access.mk x1097.access.kind (Int.tmod (wI (Int.tdiv (wI p3) 4)) 8) x1097.access.old x1097.access.new x1097.access.until_) x1097.value x1097.ok))), rfl, rfl, rfl, H, hR1102⟩
                  · intro h1096
                    have h1096 := dcd_f (h1096)
                    have H := iff_ h1096 H
                    refine Cw_skip ?_
                    refine Shift.pull (.there (.there (.there (.there .here)))) ?_
                    refine Shift.pull (.there (.there (.there (.there .here)))) ?_
                    refine Shift.pull (.there (.there .here)) ?_
                    refine Shift.pull (.there (.there (.there .here))) ?_
                    refine Shift.rem (.there (.there (.there (.there .here)))) ?_
                    refine Shift.done ?_
                    exact ⟨[(11, (.pointer (some ((⟨b397, 0, none⟩ : Addr).add 0)))), (26, (sv v1004))], ⟨rfl, rfl, trivial⟩, x1002, rs1005, rfl, rfl, rfl, H, hR1006⟩
          rintro _ _ _ - ⟨l1054, rs1056, rfl, rfl, rfl, H, hR1055⟩
          unfold M_law6_TraceReplays_J6 at H
          refine Cw_seq ?_
          refine Cw_region ?_
          refine Ow_q rfl rfl rfl (Qt_loadA (m := 3) (cs := (Memory.cells x386 v390 v391)) rfl rfl rfl rfl ⟨rfl, Rdc.blk (.head _) rfl⟩) ?_
          refine Ow_q rfl rfl rfl (Qt_move rfl) ?_
          refine Ow.shift (Shift.settle (T := TyItem) (.there .here) hR1055 rfl (fun K1104 hK1105 hs1106 => Shift.done ?_))
          obtain ⟨x1107, x1108, hx1109, H⟩ := bnd2 H
          have hs1110 := ((((((hs772).mono hK777).mono hK808).mono hK891).mono hK962).mono hK993).mono hK1105
          have hs1111 := ((((((hs773).mono hK777).mono hK808).mono hK891).mono hK962).mono hK993).mono hK1105
          refine Ow_cons rfl (OpW_call rfl Try.call48 rfl rfl (c_M_trace_Replay x386 v390 v391 l1054 v1004 x1107 x1108 hx1109 _ _ hs1110 hs1111 hs1106) ?_)
          rintro _ K1114 _ hK1115 ⟨v1112, v1113, rfl, rfl, hs1116, hs1117⟩
          refine Ow_q rfl rfl rfl (Qt_move rfl) ?_
          refine Ow_q rfl rfl rfl (Qt_extract rfl rfl) ?_
          refine Ow_q rfl rfl rfl (Qt_extract rfl rfl) ?_
          refine Ow_cons rfl (OpW_alloc (cs := (Memory.cells (Memory.mk [] [] 0) nilS nilS)) rfl rfl rfl rfl (fun b1118 => ?_))
          refine Ow_cons rfl (OpW_store (vs := (Memory.cells x1107 v1112 v1113)) (all' := (Memory.cells x1107 v1112 v1113)) rfl rfl rfl rfl rfl .here rfl rfl rfl ?_)
          refine Ow_q rfl rfl rfl (Qt_assign rfl) ?_
          refine Ow_nil ?_
          refine Cw_seq ?_
          refine Cw_region ?_
          refine Ow_q rfl rfl rfl (Qt_loadA (m := 3) (cs := (Memory.cells x386 v390 v391)) rfl rfl rfl rfl ⟨rfl, Rdc.blk (.tail _ (.head _)) rfl⟩) ?_
          refine Ow_q rfl rfl rfl (Qt_move rfl) ?_
          obtain ⟨x1119, x1120, hx1121, H⟩ := bnd2 H
          have hs1122 := (hs1110).mono hK1115
          have hs1123 := (hs1111).mono hK1115
          have hs1124 := (hs1106).mono hK1115
          refine Ow_cons rfl (OpW_call rfl Try.call49 rfl rfl (c_M_ref4_Replay x386 v390 v391 l1054 v1004 x1119 x1120 hx1121 _ _ hs1122 hs1123 hs1124) ?_)
          rintro _ K1127 _ hK1128 ⟨v1125, v1126, rfl, rfl, hs1129, hs1130⟩
          refine Ow_q rfl rfl rfl (Qt_move rfl) ?_
          refine Ow_q rfl rfl rfl (Qt_extract rfl rfl) ?_
          refine Ow_q rfl rfl rfl (Qt_extract rfl rfl) ?_
          refine Ow_cons rfl (OpW_alloc (cs := (Memory.cells (Memory.mk [] [] 0) nilS nilS)) rfl rfl rfl rfl (fun b1131 => ?_))
          refine Ow_cons rfl (OpW_store (vs := (Memory.cells x1119 v1125 v1126)) (all' := (Memory.cells x1119 v1125 v1126)) rfl rfl rfl rfl rfl .here rfl rfl rfl ?_)
          refine Ow_q rfl rfl rfl (Qt_assign rfl) ?_
          refine Ow_nil ?_
          refine Cw_seq ?_
          refine Cw_region ?_
          refine Ow_q rfl rfl rfl (Qt_move rfl) ?_
          refine Ow_q rfl rfl rfl (Qt_move rfl) ?_
          refine Ow_q rfl rfl rfl (Qt_eqB rfl rfl rfl) ?_
          refine Ow_q rfl rfl rfl (Qt_move rfl) ?_
          refine Ow_caseG rfl rfl rfl ?_ ?_
          · intro h1139
            have H := ift h1139 H
            refine Ow_qw rfl rfl rfl rfl rfl rfl (Qt_loadA (m := 3) (cs := (Memory.cells x1107 v1112 v1113)) rfl rfl rfl rfl ⟨rfl, Rdc.blk (.tail _ (.head _)) rfl⟩) ?_
            refine Ow_qw rfl rfl rfl rfl rfl rfl (Qt_loadA (m := 3) (cs := (Memory.cells x1119 v1125 v1126)) rfl rfl rfl rfl ⟨rfl, Rdc.blk (.head _) rfl⟩) ?_
            obtain ⟨x1140, hx1141, H⟩ := bnd H
            have hs1142 := (hs1116).mono hK1128
            have hs1143 := (hs1117).mono hK1128
            refine Ow_want rfl rfl rfl rfl (OpW_call rfl Try.call38 rfl rfl (c_M_ref4_Same x1107 v1112 v1113 x1119 v1125 v1126 x1140 hx1141 _ _ hs1142 hs1143 hs1129 hs1130) ?_)
            rintro _ K1144 _ hK1145 ⟨rfl, rfl⟩
            refine Ow_q rfl rfl rfl (Qt_pick_t rfl rfl) ?_
            refine Ow_q rfl rfl rfl (Qt_assign rfl) ?_
            refine Ow_nil ?_
            refine Cw_ret ?_
            obtain ey0 := inj1 H
            subst y0
            refine ⟨(by first | exact .inl rfl | exact .inr rfl), [(.bool x1140)], ⟨(.bool x1140), _, rfl, rfl, rfl⟩, ?_⟩
            refine Shift.rem .here ?_
            refine Shift.rem .here ?_
            refine Shift.rem .here ?_
            refine Shift.rem .here ?_
            refine Shift.rem .here ?_
            refine Shift.rem .here ?_
            refine Shift.done ?_
            exact ⟨rfl, rfl⟩
          · intro h1139
            have H := iff_ (btf h1139) H
            refine Ow_pass rfl rfl rfl rfl rfl rfl rfl ?_
            refine Ow_pass rfl rfl rfl rfl rfl rfl rfl ?_
            refine Ow_pass rfl rfl rfl rfl rfl rfl rfl ?_
            refine Ow_q rfl rfl rfl (Qt_pick_f rfl rfl) ?_
            refine Ow_q rfl rfl rfl (Qt_assign rfl) ?_
            refine Ow_nil ?_
            refine Cw_ret ?_
            obtain ey0 := inj1 H
            subst y0
            refine ⟨(by first | exact .inl rfl | exact .inr rfl), [(.bool false)], ⟨(.bool false), _, rfl, rfl, rfl⟩, ?_⟩
            refine Shift.rem .here ?_
            refine Shift.rem .here ?_
            refine Shift.rem .here ?_
            refine Shift.rem .here ?_
            refine Shift.rem .here ?_
            refine Shift.rem .here ?_
            refine Shift.done ?_
            exact ⟨rfl, rfl⟩


end Go.Hx
