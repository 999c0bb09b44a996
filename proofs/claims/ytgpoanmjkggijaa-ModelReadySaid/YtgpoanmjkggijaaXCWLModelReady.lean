/- Printed by program. -/
import Derived.Test.YtgpoanmjkggijaaXCM
import Derived.Test.YtgpoanmjkggijaaXCWDraw
import Derived.Test.YtgpoanmjkggijaaXCWLaw14
import Derived.Test.YtgpoanmjkggijaaXCWLaw141
import Derived.Test.YtgpoanmjkggijaaXCWModel1
import Derived.Test.YtgpoanmjkggijaaXCWModel3
import Derived.Test.YtgpoanmjkggijaaXCWModel4
import Derived.Test.YtgpoanmjkggijaaXCWRef14
import Derived.Test.YtgpoanmjkggijaaXCWRef141
namespace Go.Hx
open Go Go.Proofs
set_option linter.unusedSimpArgs false
set_option linter.unusedVariables false
set_option maxRecDepth 10000
set_option maxHeartbeats 1000000 in
theorem c_M_law14_ModelReady (p0 : List Int) (vp0 : SV) (p1 : Int) (y0 : Bool) (H : M_law14_ModelReady p0 p1 = some y0) (K : Kp) (G : List Ent) (hp0 : Slr Ty.u8 K (sv vp0) p0) :
    Fc Try.prog 10 #[(sv vp0), (.int .i64 p1)] K (G) (fun v K' G' => v = (.bool y0) ∧ G = G') := by
  refine Fc_body Try.func10 rfl Try.ntmps10 Try.results10 rfl ?_
  unfold M_law14_ModelReady at H
  refine Cw_seq ?_
  refine Cw_region ?_
  refine Ow_q rfl rfl rfl (Qt_assign rfl) ?_
  refine Ow_nil ?_
  refine Cw_seq ?_
  refine Cw_seq ?_
  refine Cw_region ?_
  obtain ⟨x247, hx248, H⟩ := bnd H
  refine Ow_cons rfl (OpW_call rfl Try.call13 rfl rfl (c_M_law14_awake  x247 hx248 _ _ ) ?_)
  rintro _ K249 _ hK250 ⟨rfl, rfl⟩
  refine Ow_q rfl rfl rfl (Qt_not rfl) ?_
  refine Ow_nil ?_
  refine Cw_cond rfl ?_ ?_
  · intro h251
    have h251 := nt_t (h251)
    have H := iff_ (btf h251) H
    refine Cw_seq ?_
    refine Cw_region ?_
    refine Ow_q rfl rfl rfl (Qt_assign rfl) ?_
    refine Ow_nil ?_
    refine Cw_ret ?_
    obtain ey0 := inj1 H
    subst y0
    refine ⟨(by first | exact .inl rfl | exact .inr rfl), [(.bool false)], ⟨(.bool false), _, rfl, rfl, rfl⟩, ?_⟩
    refine Shift.done ?_
    exact ⟨rfl, rfl⟩
  · intro h251
    have h251 := nt_f (h251)
    have H := ift h251 H
    refine Cw_skip ?_
    refine Cw_seq ?_
    refine Cw_region ?_
    refine Ow_q rfl rfl rfl (Qt_move rfl) ?_
    obtain ⟨x252, hx253, H⟩ := bnd H
    have hs254 := (hp0).mono hK250
    refine Ow_cons rfl (OpW_call rfl Try.call14 rfl rfl (c_M_draw_New p0 vp0 200 x252 hx253 _ _ hs254) ?_)
    rintro _ _ _ - ⟨b255, v256, rfl, rfl, rfl, hs257⟩
    refine Ow_q rfl rfl rfl (Qt_assign rfl) ?_
    refine Ow_nil ?_
    refine Cw_seq ?_
    refine Cw_region ?_
    refine Ow_q rfl rfl rfl (Qt_move rfl) ?_
    obtain ⟨x258, x259, x260, hx261, H⟩ := bnd3 H
    refine Ow_cons rfl (OpW_call rfl Try.call40 rfl rfl (c_M_draw_Codes_Wide b255 x252 v256 x258 x259 x260 hx261 _ _ hs257) ?_)
    rintro _ K264 _ hK265 ⟨v262, v263, rfl, rfl, hs266, hs267⟩
    refine Ow_cons rfl (OpW_alloc (cs := (Config.cells (Config.mk [] [] 0) nilS nilS)) rfl rfl rfl rfl (fun b268 => ?_))
    refine Ow_cons rfl (OpW_store (vs := (Config.cells x258 v262 v263)) (all' := (Config.cells x258 v262 v263)) rfl rfl rfl rfl rfl .here rfl rfl rfl ?_)
    refine Ow_nil ?_
    refine Cw_seq ?_
    refine Cw_seq ?_
    obtain ⟨x350, hx351, H⟩ := bnd H
    obtain ⟨x356, hx357, H⟩ := bnd H
    obtain ⟨x368, hx369, H⟩ := bnd H
    refine Cw_region_any [.blk b268 34 (Config.cells x258 v262 v263), .blk b255 85 (Draw_Codes.cells (Draw_Codes.mk x252.list x259 x260) v256), .tok 3 1 [(sv v262)], .tok 23 1 [(sv v263)]] rfl (Inc.cons (.head _) (Inc.cons (.tail _ (.head _)) (Inc.cons (.tail _ (.tail _ (.head _))) (Inc.cons (.tail _ (.tail _ (.tail _ (.head _)))) Inc.nil)))) ?_
    refine Aw_q 0 rfl (by kernel_rfl) (by kernel_rfl) (by kernel_rfl) rfl rfl rfl (Qt_loadA (m := 3) (cs := (Config.cells x258 v262 v263)) rfl rfl rfl rfl ⟨rfl, Rdc.blk (.head _) rfl⟩) ?_
    refine Aw_q 2 rfl (by kernel_rfl) (by kernel_rfl) (by kernel_rfl) rfl rfl rfl (Qt_loadA (m := 3) (cs := (Config.cells x258 v262 v263)) rfl rfl rfl rfl ⟨rfl, Rdc.blk (.head _) rfl⟩) ?_
    refine Aw_one 1 (by kernel_rfl) (Ax_mk rfl rfl ?_)
    refine OpW_call rfl Try.call26 rfl rfl (c_M_model_New x258 v262 v263 x350 hx351 _ _ hs266 hs267) ?_
    rintro _ K374 _ hK375 ⟨v373, rfl, rfl, hs376⟩
    refine ⟨(Inc.cons (.tail _ (.head _)) (Inc.cons (.tail _ (.tail _ (.head _))) (Inc.cons (.tail _ (.tail _ (.tail _ (.head _)))) (Inc.cons (.tail _ (.tail _ (.tail _ (.tail _ (.head _))))) Inc.nil)))), ?_⟩
    refine Aw_one 3 (by kernel_rfl) (Ax_mk rfl rfl ?_)
    have hs377 := (hs266).mono hK375
    have hs378 := (hs267).mono hK375
    refine OpW_call rfl Try.call41 rfl rfl (c_M_ref14_New x258 v262 v263 x356 hx357 _ _ hs377 hs378) ?_
    rintro _ K381 _ hK382 ⟨v379, rs380, rfl, rfl, hs383⟩
    refine ⟨(Inc.cons (.tail _ (.tail _ (.tail _ (.head _)))) (Inc.cons (.tail _ (.tail _ (.tail _ (.tail _ (.head _))))) (Inc.cons (.tail _ (.tail _ (.tail _ (.tail _ (.tail _ (.head _)))))) (Inc.cons (.tail _ (.tail _ (.tail _ (.tail _ (.tail _ (.tail _ (.head _))))))) Inc.nil)))), ?_⟩
    refine Aw_one 4 (by kernel_rfl) (Ax_mk rfl rfl ?_)
    refine OpW.shift (Shift.settle (T := TyChan) .here hs383 rfl (fun K384 hK385 hs386 => Shift.done ?_))
    have hs387 := ((hs376).mono hK382).mono hK385
    refine OpW_call rfl Try.call21 rfl rfl (c_M_ref14_Same x350 v373 x356 v379 x368 hx369 _ _ hs387 hs386) ?_
    rintro _ K388 _ hK389 ⟨rfl, rfl⟩
    refine ⟨(Inc.cons (.tail _ (.tail _ (.tail _ (.head _)))) (Inc.cons (.tail _ (.tail _ (.tail _ (.tail _ (.head _))))) (Inc.cons (.tail _ (.tail _ (.tail _ (.tail _ (.tail _ (.head _)))))) (Inc.cons (.tail _ (.tail _ (.tail _ (.tail _ (.tail _ (.tail _ (.head _))))))) Inc.nil)))), ?_⟩
    refine Aw_q 5 rfl (by kernel_rfl) (by kernel_rfl) (by kernel_rfl) rfl rfl rfl (Qt_not rfl) ?_
    refine Aw_done (by kernel_rfl) ?_
    refine Cw_cond rfl ?_ ?_
    · intro h390
      have h390 := nt_t (h390)
      have H := iff_ (btf h390) H
      refine Cw_seq ?_
      refine Cw_region ?_
      refine Ow_q rfl rfl rfl (Qt_assign rfl) ?_
      refine Ow_nil ?_
      refine Cw_ret ?_
      obtain ey0 := inj1 H
      subst y0
      refine ⟨(by first | exact .inl rfl | exact .inr rfl), [(.bool false)], ⟨(.bool false), _, rfl, rfl, rfl⟩, ?_⟩
      refine Shift.rem .here ?_
      refine Shift.rem .here ?_
      refine Shift.rem .here ?_
      refine Shift.rem .here ?_
      refine Shift.rem .here ?_
      refine Shift.rem .here ?_
      refine Shift.rem .here ?_
      refine Shift.done ?_
      exact ⟨rfl, rfl⟩
    · intro h390
      have h390 := nt_f (h390)
      have H := ift h390 H
      refine Cw_skip ?_
      refine Cw_seq ?_
      refine Cw_region ?_
      refine Ow_q rfl rfl rfl (Qt_move rfl) ?_
      obtain ⟨x391, x392, x393, hx394, H⟩ := bnd3 H
      refine Ow.shift (Shift.pull (.there (.there (.there (.there .here)))) (Shift.done ?_))
      have hs395 := (((((hs257).mono hK265).mono hK375).mono hK382).mono hK385).mono hK389
      refine Ow_cons rfl (OpW_call rfl Try.call15 rfl rfl (c_M_law14_chans b255 (Draw_Codes.mk x252.list x259 x260) v256 x391 x392 x393 hx394 _ _ hs395) ?_)
      rintro _ K398 _ hK399 ⟨v396, rs397, rfl, rfl, hs400⟩
      refine Ow_q rfl rfl rfl (Qt_assign rfl) ?_
      refine Ow_nil ?_
      refine Cw_join (fun env' K' G' => [(5, (.pointer (some ((⟨b255, 0, none⟩ : Addr).add 0)))), (7, (sv v396))] = env' ∧ (.blk b255 85 (Draw_Codes.cells (Draw_Codes.mk x252.list x392 x393) v256)) :: (.tok 83 3 [(sv v396)]) :: G = G' ∧ M_law14_ModelReady_J1 x391 x252 x392 x393 = some y0 ∧ Slr TyChan K' (sv v396) x391) ?_ ?_
      · skip
        refine Cw_seq ?_
        refine Cw_region ?_
        refine Ow_q rfl rfl rfl (Qt_assign rfl) ?_
        refine Ow_nil ?_
        refine Cw_block ?_
        refine Cw_loopM (fun n672 env' K' G' => ∃ (i671 : Int), [(1, (.int .i64 p1)), (5, (.pointer (some ((⟨b255, 0, none⟩ : Addr).add 0)))), (7, (sv v396)), (8, (.int .i64 i671))] = env' ∧ (.blk b255 85 (Draw_Codes.cells (Draw_Codes.mk x252.list x392 x393) v256)) :: (.tok 83 3 [(sv v396)]) :: G = G' ∧ lp1 (M_law14_ModelReady_L1 p1 x391 x252 x392 x393) n672 i671 = some y0 ∧ Slr TyChan K' (sv v396) x391) BIG ?_ ?_
        · skip
          refine Shift.settle (T := TyChan) (.there .here) hs400 rfl ?_
          intro K673 hK674 hs675
          refine Shift.pull (.there .here) ?_
          refine Shift.pull (.there .here) ?_
          refine Shift.rem (.there (.there .here)) ?_
          refine Shift.rem (.there (.there .here)) ?_
          refine Shift.rem (.there (.there .here)) ?_
          refine Shift.rem (.there (.there .here)) ?_
          refine Shift.rem (.there (.there .here)) ?_
          refine Shift.rem (.there (.there .here)) ?_
          refine Shift.rem (.there (.there .here)) ?_
          refine Shift.done ?_
          exact ⟨[(1, (.int .i64 p1)), (5, (.pointer (some ((⟨b255, 0, none⟩ : Addr).add 0)))), (7, (sv v396)), (8, (.int .i64 (-1)))], ⟨rfl, rfl, rfl, rfl, trivial⟩, (-1), rfl, rfl, H, hs675⟩
        rintro n672 _ K676 _ hK677 ⟨i671, rfl, rfl, H, hs670⟩
        obtain ⟨m678, k679, rfl, hkk680, H⟩ := lps1 H
        unfold M_law14_ModelReady_L1 at H
        refine Cw_seq ?_
        refine Cw_seq ?_
        refine Cw_region ?_
        refine Ow_q rfl rfl rfl (Qt_move rfl) ?_
        refine Ow_q rfl rfl rfl (Qt_move rfl) ?_
        refine Ow_q rfl rfl rfl (Q_len (T := TyChan) hs670 rfl rfl) ?_
        refine Ow_q rfl rfl rfl (Qt_cmp rfl rfl rfl) ?_
        refine Ow_nil ?_
        refine Cw_cond rfl ?_ ?_
        · intro h682
          have h682 := dcd_t (h682)
          have H := ift h682 H
          refine Cw_skip ?_
          refine Cw_join (fun env' K' G' => [(1, (.int .i64 p1)), (5, (.pointer (some ((⟨b255, 0, none⟩ : Addr).add 0)))), (7, (sv v396)), (8, (.int .i64 i671))] = env' ∧ (.blk b255 85 (Draw_Codes.cells (Draw_Codes.mk x252.list x392 x393) v256)) :: (.tok 83 3 [(sv v396)]) :: G = G' ∧ M_law14_ModelReady_J2 p1 x391 i671 x252 x392 x393 k679 = some y0) ?_ ?_
          · skip
            refine Cw_block ?_
            refine Cw_seq ?_
            refine Cw_region ?_
            have hR738 : RowR Ty.bool K676 [[(.bool false)], [(.bool true)]] [false, true] := RowR.cons rfl (RowR.cons rfl (RowR.nil))
            refine Ow_cons rfl (O_lit (T := Ty.bool) (rows := [[(.bool false)], [(.bool true)]]) (l := [false, true]) rfl rfl rfl hR738 rfl rfl rfl rfl rfl rfl rfl rfl (fun v737 => ?_))
            refine Ow_q rfl rfl rfl (Q_lenR (T := Ty.bool) (.head _) hR738 rfl rfl rfl) ?_
            refine Ow_q rfl rfl rfl (Qt_move rfl) ?_
            refine Ow_nil ?_
            refine Cw_block ?_
            refine Cw_loopM (fun n791 env' K' G' => ∃ (i790 : Int), [(1, (.int .i64 p1)), (5, (.pointer (some ((⟨b255, 0, none⟩ : Addr).add 0)))), (7, (sv v396)), (8, (.int .i64 i671)), (34, (sv v737)), (35, (.int .i64 ([false, true].length : Int))), (36, (.int .i64 i790))] = env' ∧ K676 = K' ∧ (.blk b255 85 (Draw_Codes.cells (Draw_Codes.mk x252.list x392 x393) v256)) :: (.row (sv v737) 4 1 [[(.bool false)], [(.bool true)]].flatten) :: (.tok 83 3 [(sv v396)]) :: G = G' ∧ lp1 (M_law14_ModelReady_L2 p1 x391 i671 x252 x392 x393 k679) n791 i790 = some y0) BIG ?_ ?_
            · skip
              refine Shift.pull (.there (.there .here)) ?_
              refine Shift.pull (.there .here) ?_
              refine Shift.pull (.there (.there .here)) ?_
              refine Shift.done ?_
              exact ⟨[(1, (.int .i64 p1)), (5, (.pointer (some ((⟨b255, 0, none⟩ : Addr).add 0)))), (7, (sv v396)), (8, (.int .i64 i671)), (34, (sv v737)), (35, (.int .i64 ([false, true].length : Int))), (36, (.int .i64 0))], ⟨rfl, rfl, rfl, rfl, rfl, rfl, rfl, trivial⟩, 0, rfl, rfl, rfl, H⟩
            rintro n791 _ _ _ - ⟨i790, rfl, rfl, rfl, H⟩
            obtain ⟨m792, k793, rfl, hkk794, H⟩ := lps1 H
            unfold M_law14_ModelReady_L2 at H
            refine Cw_seq ?_
            refine Cw_region ?_
            refine Ow_q rfl rfl rfl (Qt_cmp rfl rfl rfl) ?_
            refine Ow_nil ?_
            refine Cw_seq ?_
            refine Cw_cond rfl ?_ ?_
            · intro h796
              have h796 := dcd_t (h796)
              have H := ift h796 H
              refine Cw_skip ?_
              refine Cw_seq ?_
              refine Cw_block ?_
              refine Cw_seq ?_
              refine Cw_region ?_
              obtain ⟨x815, hx816, H⟩ := bnd H
              obtain ⟨r817, hq818, hr819⟩ := RowR.at hR738 hx816
              obtain rfl := hr819
              refine Ow_q rfl rfl rfl (Q_ixR (T := Ty.bool) (.tail _ (.head _)) hR738 hq818 (getI_ix hx816).1 rfl rfl rfl rfl rfl) ?_
              refine Ow_q rfl rfl rfl (Qt_load1 (v := (.bool x815)) rfl rfl rfl (Rd_row (T := Ty.bool) (.tail _ (.head _)) hR738 hq818 rfl rfl)) ?_
              refine Ow_q rfl rfl rfl (Qt_assign rfl) ?_
              refine Ow_nil ?_
              refine Cw_seq ?_
              refine Cw_region ?_
              refine Ow_q rfl rfl rfl (Qt_move rfl) ?_
              refine Ow_q rfl rfl rfl (Qt_move rfl) ?_
              refine Ow_q rfl rfl rfl (Qt_build (cs := (Case.cells (Case.mk x815 i671 0))) rfl rfl rfl rfl rfl rfl) ?_
              refine Ow_cons rfl (OpW_alloc (cs := (Case.cells (Case.mk false 0 0))) rfl rfl rfl rfl (fun b820 => ?_))
              refine Ow_cons rfl (OpW_store (vs := (Case.cells (Case.mk x815 i671 0))) (all' := (Case.cells (Case.mk x815 i671 0))) rfl rfl rfl rfl rfl .here rfl rfl rfl ?_)
              refine Ow_nil ?_
              refine Cw_seq ?_
              refine Cw_region ?_
              refine Ow_q rfl rfl rfl (Qt_move rfl) ?_
              refine Ow_q rfl rfl rfl (Qt_move rfl) ?_
              refine Ow_q rfl rfl rfl (Qt_build (cs := (Case.cells (Case.mk x815 p1 0))) rfl rfl rfl rfl rfl rfl) ?_
              refine Ow_cons rfl (OpW_alloc (cs := (Case.cells (Case.mk false 0 0))) rfl rfl rfl rfl (fun b821 => ?_))
              refine Ow_cons rfl (OpW_store (vs := (Case.cells (Case.mk x815 p1 0))) (all' := (Case.cells (Case.mk x815 p1 0))) rfl rfl rfl rfl rfl .here rfl rfl rfl ?_)
              refine Ow_nil ?_
              refine Cw_join (fun env' K' G' => ∃ (t831 : Bool), [(1, (.int .i64 p1)), (5, (.pointer (some ((⟨b255, 0, none⟩ : Addr).add 0)))), (7, (sv v396)), (8, (.int .i64 i671)), (34, (sv v737)), (35, (.int .i64 ([false, true].length : Int))), (36, (.int .i64 i790)), (61, (.bool t831))] = env' ∧ K676 = K' ∧ (.blk b255 85 (Draw_Codes.cells (Draw_Codes.mk x252.list x392 x393) v256)) :: (.row (sv v737) 4 1 [[(.bool false)], [(.bool true)]].flatten) :: (.tok 83 3 [(sv v396)]) :: G = G' ∧ M_law14_ModelReady_J3 p1 x391 i671 i790 x252 x392 x393 k679 k793 t831 = some y0) ?_ ?_
              · skip
                obtain ⟨x832, hx833, H⟩ := bnd H
                obtain ⟨x834, hx835, H⟩ := bnd H
                rcases bool_ct (!((x832 == x834))) with hb_ | hb_ <;> revert hb_
                · intro h836
                  have h836 := nt_t (h836)
                  have H := iff_ (btf h836) H
                  refine Cw_region_any [.blk b821 73 (Case.cells (Case.mk x815 p1 0)), .blk b820 73 (Case.cells (Case.mk x815 i671 0)), .blk b255 85 (Draw_Codes.cells (Draw_Codes.mk x252.list x392 x393) v256), .row (sv v737) 4 1 [[(.bool false)], [(.bool true)]].flatten, .tok 83 3 [(sv v396)]] rfl (Inc.cons (.head _) (Inc.cons (.tail _ (.head _)) (Inc.cons (.tail _ (.tail _ (.head _))) (Inc.cons (.tail _ (.tail _ (.tail _ (.head _)))) (Inc.cons (.tail _ (.tail _ (.tail _ (.tail _ (.head _))))) Inc.nil))))) ?_
                  refine Aw_q 0 rfl (by kernel_rfl) (by kernel_rfl) (by kernel_rfl) rfl rfl rfl (Qt_move rfl) ?_
                  refine Aw_q 1 rfl (by kernel_rfl) (by kernel_rfl) (by kernel_rfl) rfl rfl rfl (Qt_loadA (m := 3) (cs := (Case.cells (Case.mk x815 i671 0))) rfl rfl rfl rfl ⟨rfl, Rdc.blk (.tail _ (.head _)) rfl⟩) ?_
                  refine Aw_q 3 rfl (by kernel_rfl) (by kernel_rfl) (by kernel_rfl) rfl rfl rfl (Qt_move rfl) ?_
                  refine Aw_q 4 rfl (by kernel_rfl) (by kernel_rfl) (by kernel_rfl) rfl rfl rfl (Qt_loadA (m := 3) (cs := (Case.cells (Case.mk x815 i671 0))) rfl rfl rfl rfl ⟨rfl, Rdc.blk (.tail _ (.head _)) rfl⟩) ?_
                  refine Aw_one 2 (by kernel_rfl) (Ax_mk rfl rfl ?_)
                  refine OpW_call rfl Try.call42 rfl rfl (c_M_model_Ready x391 v396 (Case.mk x815 i671 0) x832 hx833 _ _ hs670) ?_
                  rintro _ _ _ - ⟨rfl, rfl, rfl⟩
                  refine ⟨(Inc.cons (.head _) (Inc.cons (.tail _ (.head _)) (Inc.cons (.tail _ (.tail _ (.head _))) (Inc.cons (.tail _ (.tail _ (.tail _ (.head _)))) (Inc.cons (.tail _ (.tail _ (.tail _ (.tail _ (.head _))))) Inc.nil))))), ?_⟩
                  refine Aw_one 5 (by kernel_rfl) (Ax_mk rfl rfl ?_)
                  refine OpW_call rfl Try.call43 rfl rfl (c_M_ref14_Ready x391 v396 (Case.mk x815 i671 0) x834 hx835 _ _ hs670) ?_
                  rintro _ _ _ - ⟨rfl, rfl, rfl⟩
                  refine ⟨(Inc.cons (.head _) (Inc.cons (.tail _ (.head _)) (Inc.cons (.tail _ (.tail _ (.head _))) (Inc.cons (.tail _ (.tail _ (.tail _ (.head _)))) (Inc.cons (.tail _ (.tail _ (.tail _ (.tail _ (.head _))))) Inc.nil))))), ?_⟩
                  refine Aw_q 6 rfl (by kernel_rfl) (by kernel_rfl) (by kernel_rfl) rfl rfl rfl (Qt_neB rfl rfl rfl) ?_
                  refine Aw_q 7 rfl (by kernel_rfl) (by kernel_rfl) (by kernel_rfl) rfl rfl rfl (Qt_move rfl) ?_
                  refine Aw.known (d := 53) rfl (nt_mt (h836)) ?_
                  refine Aw_pass 8 rfl (by kernel_rfl) (by kernel_rfl) (by kernel_rfl) rfl rfl rfl rfl rfl rfl rfl ?_
                  refine Aw_pass 9 rfl (by kernel_rfl) (by kernel_rfl) (by kernel_rfl) rfl rfl rfl rfl rfl rfl rfl ?_
                  refine Aw_pass 10 rfl (by kernel_rfl) (by kernel_rfl) (by kernel_rfl) rfl rfl rfl rfl rfl rfl rfl ?_
                  refine Aw_pass 11 rfl (by kernel_rfl) (by kernel_rfl) (by kernel_rfl) rfl rfl rfl rfl rfl rfl rfl ?_
                  refine Aw_pass 12 rfl (by kernel_rfl) (by kernel_rfl) (by kernel_rfl) rfl rfl rfl rfl rfl rfl rfl ?_
                  refine Aw_pass 13 rfl (by kernel_rfl) (by kernel_rfl) (by kernel_rfl) rfl rfl rfl rfl rfl rfl rfl ?_
                  refine Aw_pass 14 rfl (by kernel_rfl) (by kernel_rfl) (by kernel_rfl) rfl rfl rfl rfl rfl rfl rfl ?_
                  refine Aw_q 15 rfl (by kernel_rfl) (by kernel_rfl) (by kernel_rfl) rfl rfl rfl (Qt_pick_t rfl rfl) ?_
                  refine Aw_done (by kernel_rfl) ?_
                  refine Shift.pull (.there (.there (.there (.there .here)))) ?_
                  refine Shift.pull (.there (.there (.there (.there .here)))) ?_
                  refine Shift.pull (.there (.there (.there (.there .here)))) ?_
                  refine Shift.rem (.there (.there (.there .here))) ?_
                  refine Shift.rem (.there (.there (.there .here))) ?_
                  refine Shift.done ?_
                  exact ⟨[(1, (.int .i64 p1)), (5, (.pointer (some ((⟨b255, 0, none⟩ : Addr).add 0)))), (7, (sv v396)), (8, (.int .i64 i671)), (34, (sv v737)), (35, (.int .i64 ([false, true].length : Int))), (36, (.int .i64 i790)), (61, (.bool true))], ⟨rfl, rfl, rfl, rfl, rfl, rfl, rfl, rfl, trivial⟩, true, rfl, rfl, rfl, H⟩
                · intro h836
                  have h836 := nt_f (h836)
                  have H := ift h836 H
                  obtain ⟨x837, hx838, H⟩ := bnd H
                  obtain ⟨x839, hx840, H⟩ := bnd H
                  refine Cw_region_any [.blk b821 73 (Case.cells (Case.mk x815 p1 0)), .blk b820 73 (Case.cells (Case.mk x815 i671 0)), .blk b255 85 (Draw_Codes.cells (Draw_Codes.mk x252.list x392 x393) v256), .row (sv v737) 4 1 [[(.bool false)], [(.bool true)]].flatten, .tok 83 3 [(sv v396)]] rfl (Inc.cons (.head _) (Inc.cons (.tail _ (.head _)) (Inc.cons (.tail _ (.tail _ (.head _))) (Inc.cons (.tail _ (.tail _ (.tail _ (.head _)))) (Inc.cons (.tail _ (.tail _ (.tail _ (.tail _ (.head _))))) Inc.nil))))) ?_
                  refine Aw_q 0 rfl (by kernel_rfl) (by kernel_rfl) (by kernel_rfl) rfl rfl rfl (Qt_move rfl) ?_
                  refine Aw_q 1 rfl (by kernel_rfl) (by kernel_rfl) (by kernel_rfl) rfl rfl rfl (Qt_loadA (m := 3) (cs := (Case.cells (Case.mk x815 i671 0))) rfl rfl rfl rfl ⟨rfl, Rdc.blk (.tail _ (.head _)) rfl⟩) ?_
                  refine Aw_q 3 rfl (by kernel_rfl) (by kernel_rfl) (by kernel_rfl) rfl rfl rfl (Qt_move rfl) ?_
                  refine Aw_q 4 rfl (by kernel_rfl) (by kernel_rfl) (by kernel_rfl) rfl rfl rfl (Qt_loadA (m := 3) (cs := (Case.cells (Case.mk x815 i671 0))) rfl rfl rfl rfl ⟨rfl, Rdc.blk (.tail _ (.head _)) rfl⟩) ?_
                  refine Aw_one 2 (by kernel_rfl) (Ax_mk rfl rfl ?_)
                  refine OpW_call rfl Try.call42 rfl rfl (c_M_model_Ready x391 v396 (Case.mk x815 i671 0) x832 hx833 _ _ hs670) ?_
                  rintro _ _ _ - ⟨rfl, rfl, rfl⟩
                  refine ⟨(Inc.cons (.head _) (Inc.cons (.tail _ (.head _)) (Inc.cons (.tail _ (.tail _ (.head _))) (Inc.cons (.tail _ (.tail _ (.tail _ (.head _)))) (Inc.cons (.tail _ (.tail _ (.tail _ (.tail _ (.head _))))) Inc.nil))))), ?_⟩
                  refine Aw_one 5 (by kernel_rfl) (Ax_mk rfl rfl ?_)
                  refine OpW_call rfl Try.call43 rfl rfl (c_M_ref14_Ready x391 v396 (Case.mk x815 i671 0) x834 hx835 _ _ hs670) ?_
                  rintro _ _ _ - ⟨rfl, rfl, rfl⟩
                  refine ⟨(Inc.cons (.head _) (Inc.cons (.tail _ (.head _)) (Inc.cons (.tail _ (.tail _ (.head _))) (Inc.cons (.tail _ (.tail _ (.tail _ (.head _)))) (Inc.cons (.tail _ (.tail _ (.tail _ (.tail _ (.head _))))) Inc.nil))))), ?_⟩
                  refine Aw_q 6 rfl (by kernel_rfl) (by kernel_rfl) (by kernel_rfl) rfl rfl rfl (Qt_neB rfl rfl rfl) ?_
                  refine Aw_q 7 rfl (by kernel_rfl) (by kernel_rfl) (by kernel_rfl) rfl rfl rfl (Qt_move rfl) ?_
                  refine Aw.known (d := 53) rfl (nt_mf (h836)) ?_
                  refine Aw_qw 8 rfl (by kernel_rfl) (by kernel_rfl) (by kernel_rfl) rfl rfl rfl rfl rfl rfl (Qt_move rfl) ?_
                  refine Aw_qw 9 rfl (by kernel_rfl) (by kernel_rfl) (by kernel_rfl) rfl rfl rfl rfl rfl rfl (Qt_loadA (m := 3) (cs := (Case.cells (Case.mk x815 p1 0))) rfl rfl rfl rfl ⟨rfl, Rdc.blk (.head _) rfl⟩) ?_
                  refine Aw_qw 11 rfl (by kernel_rfl) (by kernel_rfl) (by kernel_rfl) rfl rfl rfl rfl rfl rfl (Qt_move rfl) ?_
                  refine Aw_qw 12 rfl (by kernel_rfl) (by kernel_rfl) (by kernel_rfl) rfl rfl rfl rfl rfl rfl (Qt_loadA (m := 3) (cs := (Case.cells (Case.mk x815 p1 0))) rfl rfl rfl rfl ⟨rfl, Rdc.blk (.head _) rfl⟩) ?_
                  refine Aw_one 10 (by kernel_rfl) (Ax_mkw rfl rfl rfl rfl rfl ?_)
                  refine OpW_call rfl Try.call42 rfl rfl (c_M_model_Ready x391 v396 (Case.mk x815 p1 0) x837 hx838 _ _ hs670) ?_
                  rintro _ _ _ - ⟨rfl, rfl, rfl⟩
                  refine ⟨(Inc.cons (.head _) (Inc.cons (.tail _ (.head _)) (Inc.cons (.tail _ (.tail _ (.head _))) (Inc.cons (.tail _ (.tail _ (.tail _ (.head _)))) (Inc.cons (.tail _ (.tail _ (.tail _ (.tail _ (.head _))))) Inc.nil))))), ?_⟩
                  refine Aw_one 13 (by kernel_rfl) (Ax_mkw rfl rfl rfl rfl rfl ?_)
                  refine OpW_call rfl Try.call43 rfl rfl (c_M_ref14_Ready x391 v396 (Case.mk x815 p1 0) x839 hx840 _ _ hs670) ?_
                  rintro _ _ _ - ⟨rfl, rfl, rfl⟩
                  refine ⟨(Inc.cons (.head _) (Inc.cons (.tail _ (.head _)) (Inc.cons (.tail _ (.tail _ (.head _))) (Inc.cons (.tail _ (.tail _ (.tail _ (.head _)))) (Inc.cons (.tail _ (.tail _ (.tail _ (.tail _ (.head _))))) Inc.nil))))), ?_⟩
                  refine Aw_qw 14 rfl (by kernel_rfl) (by kernel_rfl) (by kernel_rfl) rfl rfl rfl rfl rfl rfl (Qt_neB rfl rfl rfl) ?_
                  refine Aw_q 15 rfl (by kernel_rfl) (by kernel_rfl) (by kernel_rfl) rfl rfl rfl (Qt_pick_f rfl rfl) ?_
                  refine Aw_done (by kernel_rfl) ?_
                  refine Shift.pull (.there (.there (.there (.there .here)))) ?_
                  refine Shift.pull (.there (.there (.there (.there .here)))) ?_
                  refine Shift.pull (.there (.there (.there (.there .here)))) ?_
                  refine Shift.rem (.there (.there (.there .here))) ?_
                  refine Shift.rem (.there (.there (.there .here))) ?_
                  refine Shift.done ?_
                  exact ⟨[(1, (.int .i64 p1)), (5, (.pointer (some ((⟨b255, 0, none⟩ : Addr).add 0)))), (7, (sv v396)), (8, (.int .i64 i671)), (34, (sv v737)), (35, (.int .i64 ([false, true].length : Int))), (36, (.int .i64 i790)), (61, (.bool (!((x837 == x839)))))], ⟨rfl, rfl, rfl, rfl, rfl, rfl, rfl, rfl, trivial⟩, (!((x837 == x839))), rfl, rfl, rfl, H⟩
              rintro _ _ _ - ⟨t831, rfl, rfl, rfl, H⟩
              unfold M_law14_ModelReady_J3 at H
              refine Cw_cond rfl ?_ ?_
              · intro h841
                have H := ift h841 H
                refine Cw_seq ?_
                refine Cw_region ?_
                refine Ow_q rfl rfl rfl (Qt_assign rfl) ?_
                refine Ow_nil ?_
                refine Cw_ret ?_
                obtain ey0 := inj1 H
                subst y0
                refine ⟨(by first | exact .inl rfl | exact .inr rfl), [(.bool false)], ⟨(.bool false), _, rfl, rfl, rfl⟩, ?_⟩
                refine Shift.rem .here ?_
                refine Shift.rem .here ?_
                refine Shift.rem .here ?_
                refine Shift.done ?_
                exact ⟨rfl, rfl⟩
              · intro h841
                have H := iff_ (btf h841) H
                refine Cw_skip ?_
                refine Cw_region ?_
                refine Ow_q rfl rfl rfl (Qt_arith (e := wI (i790 + 1)) rfl rfl rfl rfl) ?_
                refine Ow_q rfl rfl rfl (Qt_move rfl) ?_
                refine Ow_nil ?_
                refine Shift.pull (.there (.there .here)) ?_
                refine Shift.pull (.there (.there .here)) ?_
                refine Shift.pull (.there (.there .here)) ?_
                refine Shift.done ?_
                exact ⟨[(1, (.int .i64 p1)), (5, (.pointer (some ((⟨b255, 0, none⟩ : Addr).add 0)))), (7, (sv v396)), (8, (.int .i64 i671)), (34, (sv v737)), (35, (.int .i64 ([false, true].length : Int))), (36, (.int .i64 (wI (i790 + 1))))], ⟨rfl, rfl, rfl, rfl, rfl, rfl, rfl, trivial⟩, _, Nat.lt_succ_self _, (wI (i790 + 1)), rfl, rfl, rfl, (hkk794 ▸ H)⟩
            · intro h796
              have h796 := dcd_f (h796)
              have H := iff_ h796 H
              refine Cw_exit ?_
              refine Shift.pull (.there (.there .here)) ?_
              refine Shift.pull (.there .here) ?_
              refine Shift.rem (.there (.there .here)) ?_
              refine Shift.done ?_
              exact ⟨[(1, (.int .i64 p1)), (5, (.pointer (some ((⟨b255, 0, none⟩ : Addr).add 0)))), (7, (sv v396)), (8, (.int .i64 i671))], ⟨rfl, rfl, rfl, rfl, trivial⟩, rfl, rfl, H⟩
          rintro _ K842 _ hK843 ⟨rfl, rfl, H⟩
          unfold M_law14_ModelReady_J2 at H
          refine Cw_region ?_
          refine Ow_q rfl rfl rfl (Qt_move rfl) ?_
          refine Ow_q rfl rfl rfl (Qt_arith (e := wI (i671 + 1)) rfl rfl rfl rfl) ?_
          refine Ow_q rfl rfl rfl (Qt_assign rfl) ?_
          refine Ow_nil ?_
          refine Shift.pull (.there .here) ?_
          refine Shift.pull (.there .here) ?_
          have hs844 := (hs670).mono hK843
          refine Shift.done ?_
          exact ⟨[(1, (.int .i64 p1)), (5, (.pointer (some ((⟨b255, 0, none⟩ : Addr).add 0)))), (7, (sv v396)), (8, (.int .i64 (wI (i671 + 1))))], ⟨rfl, rfl, rfl, rfl, trivial⟩, _, Nat.lt_succ_self _, (wI (i671 + 1)), rfl, rfl, (hkk680 ▸ H), hs844⟩
        · intro h682
          have h682 := dcd_f (h682)
          have H := iff_ h682 H
          refine Cw_exit ?_
          refine Shift.pull (.there .here) ?_
          refine Shift.pull (.there .here) ?_
          refine Shift.done ?_
          exact ⟨[(5, (.pointer (some ((⟨b255, 0, none⟩ : Addr).add 0)))), (7, (sv v396))], ⟨rfl, rfl, trivial⟩, rfl, rfl, H, hs670⟩
      rintro _ K845 _ hK846 ⟨rfl, rfl, H, hs536⟩
      unfold M_law14_ModelReady_J1 at H
      refine Cw_seq ?_
      refine Cw_region ?_
      refine Ow_q rfl rfl rfl (Qt_move rfl) ?_
      obtain ⟨x847, x848, x849, hx850, H⟩ := bnd3 H
      have hs851 := ((hs395).mono hK399).mono hK846
      refine Ow_cons rfl (OpW_call rfl Try.call15 rfl rfl (c_M_law14_chans b255 (Draw_Codes.mk x252.list x392 x393) v256 x847 x848 x849 hx850 _ _ hs851) ?_)
      rintro _ K854 _ hK855 ⟨v852, rs853, rfl, rfl, hs856⟩
      refine Ow_q rfl rfl rfl (Qt_assign rfl) ?_
      refine Ow_nil ?_
      refine Cw_seq ?_
      refine Cw_region ?_
      refine Ow_q rfl rfl rfl (Qt_move rfl) ?_
      refine Ow_q rfl rfl rfl (Qt_move rfl) ?_
      refine Ow.shift (Shift.settle (T := TyChan) (.there .here) hs856 rfl (fun K877 hK878 hs879 => Shift.done ?_))
      obtain ⟨x880, hx881, H⟩ := bnd H
      have hs882 := ((hs536).mono hK855).mono hK878
      refine Ow_cons rfl (OpW_call rfl Try.call44 rfl rfl (c_M_model_Same x391 v396 x847 v852 x880 hx881 _ _ hs882 hs879) ?_)
      rintro _ K883 _ hK884 ⟨rfl, rfl⟩
      refine Ow_q rfl rfl rfl (Qt_move rfl) ?_
      refine Ow_q rfl rfl rfl (Qt_move rfl) ?_
      obtain ⟨x885, hx886, H⟩ := bnd H
      have hs887 := (hs882).mono hK884
      have hs888 := (hs879).mono hK884
      refine Ow_cons rfl (OpW_call rfl Try.call21 rfl rfl (c_M_ref14_Same x391 v396 x847 v852 x885 hx886 _ _ hs887 hs888) ?_)
      rintro _ K889 _ hK890 ⟨rfl, rfl⟩
      refine Ow_q rfl rfl rfl (Qt_eqB rfl rfl rfl) ?_
      refine Ow_q rfl rfl rfl (Qt_move rfl) ?_
      refine Ow_caseG rfl rfl rfl ?_ ?_
      · intro h891
        have H := ift h891 H
        refine Ow_qw rfl rfl rfl rfl rfl rfl (Qt_move rfl) ?_
        refine Ow_qw rfl rfl rfl rfl rfl rfl (Qt_move rfl) ?_
        obtain ⟨x892, hx893, H⟩ := bnd H
        have hs894 := (hs887).mono hK890
        refine Ow_want rfl rfl rfl rfl (OpW_call rfl Try.call44 rfl rfl (c_M_model_Same x391 v396 x391 v396 x892 hx893 _ _ hs894 hs894) ?_)
        rintro _ K895 _ hK896 ⟨rfl, rfl⟩
        refine Ow_q rfl rfl rfl (Qt_pick_t rfl rfl) ?_
        refine Ow_q rfl rfl rfl (Qt_assign rfl) ?_
        refine Ow_nil ?_
        refine Cw_ret ?_
        obtain ey0 := inj1 H
        subst y0
        refine ⟨(by first | exact .inl rfl | exact .inr rfl), [(.bool x892)], ⟨(.bool x892), _, rfl, rfl, rfl⟩, ?_⟩
        refine Shift.rem .here ?_
        refine Shift.rem .here ?_
        refine Shift.rem .here ?_
        refine Shift.rem .here ?_
        refine Shift.done ?_
        exact ⟨rfl, rfl⟩
      · intro h891
        have H := iff_ (btf h891) H
        refine Ow_pass rfl rfl rfl rfl rfl rfl rfl ?_
        refine Ow_pass rfl rfl rfl rfl rfl rfl rfl ?_
        refine Ow_pass rfl rfl rfl rfl rfl rfl rfl ?_
        refine Ow_q rfl rfl rfl (Qt_pick_f rfl rfl) ?_
        refine Ow_q rfl rfl rfl (Qt_assign rfl) ?_
        refine Ow_nil ?_
        refine Cw_ret ?_
        obtain ey0 := inj1 H
        subst y0
        refine ⟨(by first | exact .inl rfl | exact .inr rfl), [(.bool false)], ⟨(.bool false), _, rfl, rfl, rfl⟩, ?_⟩
        refine Shift.rem .here ?_
        refine Shift.rem .here ?_
        refine Shift.rem .here ?_
        refine Shift.rem .here ?_
        refine Shift.done ?_
        exact ⟨rfl, rfl⟩


end Go.Hx
