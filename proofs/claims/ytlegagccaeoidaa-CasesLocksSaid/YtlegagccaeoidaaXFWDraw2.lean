/- Printed by program. -/
import Derived.Test.YtlegagccaeoidaaXFM
import Derived.Test.YtlegagccaeoidaaXFWDraw
import Derived.Test.YtlegagccaeoidaaXFWDraw1
namespace Go.Hx
open Go Go.Proofs
set_option linter.unusedSimpArgs false
set_option linter.unusedVariables false
set_option maxRecDepth 10000
set_option maxHeartbeats 1000000 in
theorem c_M_draw_Codes_Spoil (bp0 : Nat) (p0 : Draw_Codes) (vp0_list : SV) (p1 : Op) (vp1_cases : SV) (vp1_draws : SV) (y0 : Op) (z0_at_ : Int) (z0_value : Int) (H : M_draw_Codes_Spoil p0 p1 = some (y0, z0_at_, z0_value)) (K : Kp) (G : List Ent) (hp0_list : Slr Ty.u8 K (sv vp0_list) p0.list) (hp1_cases : Slr TyCase K (sv vp1_cases) p1.cases) (hp1_draws : Slr Ty.i64 K (sv vp1_draws) p1.draws) :
    Fc Try.prog 13 #[(.pointer (some ((⟨bp0, 0, none⟩ : Addr).add 0))), (.agg (Op.cells p1 vp1_cases vp1_draws).toArray)] K ((.blk bp0 60 (Draw_Codes.cells p0 vp0_list)) :: G) (fun v K' G' => ∃ (wy0_cases : SV) (wy0_draws : SV) (rswy0_draws : List (List Value)), v = (.agg (Op.cells y0 wy0_cases wy0_draws).toArray) ∧ (.blk bp0 60 (Draw_Codes.cells (Draw_Codes.mk p0.list z0_at_ z0_value) vp0_list)) :: (.tok 56 3 [(sv wy0_cases)]) :: (.row (sv wy0_draws) 3 1 rswy0_draws.flatten) :: G = G' ∧ Slr TyCase K' (sv wy0_cases) y0.cases ∧ RowR Ty.i64 K' rswy0_draws y0.draws) := by
  refine Fc_body Try.func13 rfl Try.ntmps13 Try.results13 rfl ?_
  unfold M_draw_Codes_Spoil at H
  refine Cw_seq ?_
  refine Cw_region ?_
  refine Ow_cons rfl (OpW_box (cs := (Op.cells p1 vp1_cases vp1_draws)) rfl rfl rfl (fun b303 => ?_))
  refine Ow_cons rfl (OpW_alloc (cs := (Op.cells (Op.mk 0 0 0 0 0 [] []) nilS nilS)) rfl rfl rfl rfl (fun b304 => ?_))
  refine Ow_nil ?_
  refine Cw_seq ?_
  refine Cw_region ?_
  refine Ow_q rfl rfl rfl (Qt_fieldAddr (m := 5) rfl rfl rfl rfl rfl) ?_
  refine Ow_q rfl rfl rfl (Qt_load1 (v := (sv vp1_cases)) rfl rfl rfl (Rdc.blk (.tail _ (.head _)) rfl)) ?_
  refine Ow.shift (Shift.nilTok1 56 3 (Shift.done ?_))
  obtain ⟨x305, hx306, H⟩ := bnd H
  refine Ow_cons rfl (O_appTok (T := TyCase) (bytes := 24) (q := 0) rfl rfl rfl (Slr.nil TyCase _) (.head _) rfl (SrcT.sl hp1_cases) hx306 rfl rfl rfl rfl rfl rfl rfl rfl (fun v307 K308 hK309 hs310 => ⟨_, .here, ?_⟩))
  refine Ow_q rfl rfl rfl (Qt_fieldAddr (m := 5) rfl rfl rfl rfl rfl) ?_
  refine Ow_cons rfl (OpW_store (vs := [(sv v307)]) (all' := (Op.cells (Op.mk p1.kind p1.mode p1.channel p1.value p1.deadline x305 p1.draws) v307 vp1_draws)) rfl rfl rfl rfl rfl (.there (.there .here)) rfl rfl rfl ?_)
  refine Ow_nil ?_
  refine Cw_seq ?_
  refine Cw_region ?_
  refine Ow_q rfl rfl rfl (Qt_fieldAddr (m := 6) rfl rfl rfl rfl rfl) ?_
  refine Ow_q rfl rfl rfl (Qt_load1 (v := (sv vp1_draws)) rfl rfl rfl (Rdc.blk (.tail _ (.tail _ (.head _))) rfl)) ?_
  have hR311 : RowR Ty.i64 K308 [] [] := RowR.nil
  refine Ow.shift (Shift.nilRow 3 1 (Shift.done ?_))
  obtain ⟨x312, hx313, H⟩ := bnd H
  have hs314 := (hp1_draws).mono hK309
  refine Ow_cons rfl (O_appRow (T := Ty.i64) (bytes := 8) rfl rfl rfl (.head _) hR311 (SrcT.sl hs314) hx313 rfl rfl rfl rfl rfl rfl rfl rfl (fun v315 rs316 hR317 => ⟨_, .here, ?_⟩))
  refine Ow_q rfl rfl rfl (Qt_fieldAddr (m := 6) rfl rfl rfl rfl rfl) ?_
  refine Ow_cons rfl (OpW_store (vs := [(sv v315)]) (all' := (Op.cells (Op.mk p1.kind p1.mode p1.channel p1.value p1.deadline x305 x312) v307 v315)) rfl rfl rfl rfl rfl (.there (.there (.there .here))) rfl rfl rfl ?_)
  refine Ow_nil ?_
  refine Cw_join (fun env' K' G' => ∃ (i587 : Int) (i588 : Int) (i589 : Int) (i590 : Int) (i591 : Int) (i592 : Int) (i593 : Int) (v594 : SV) (l595 : List Case) (v597 : SV) (l598 : List Int) (rs600 : List (List Value)), [(3, (.pointer (some ((⟨b303, 0, none⟩ : Addr).add 0)))), (4, (.pointer (some ((⟨b304, 0, none⟩ : Addr).add 0))))] = env' ∧ (.blk bp0 60 (Draw_Codes.cells (Draw_Codes.mk p0.list i587 i588) vp0_list)) :: (.blk b304 26 (Op.cells (Op.mk 0 0 0 0 0 [] []) nilS nilS)) :: (.blk b303 26 (Op.cells (Op.mk i589 i590 i591 i592 i593 l595 l598) v594 v597)) :: (.tok 56 3 [(sv v594)]) :: (.row (sv v597) 3 1 rs600.flatten) :: G = G' ∧ M_draw_Codes_Spoil_J1 p0 i587 i588 i589 i590 i591 i592 i593 l595 l598 = some (y0, z0_at_, z0_value) ∧ Slr TyCase K' (sv v594) l595 ∧ RowR Ty.i64 K' rs600 l598) ?_ ?_
  · skip
    refine Cw_seq ?_
    refine Cw_region ?_
    refine Ow_q rfl rfl rfl (Qt_move rfl) ?_
    obtain ⟨x601, x602, hx603, H⟩ := bnd2 H
    refine Ow.shift (Shift.pull (.there (.there (.there (.there .here)))) (Shift.done ?_))
    have hs604 := (hp0_list).mono hK309
    refine Ow_cons rfl (OpW_call rfl Try.call29 rfl rfl (c_M_draw_Codes_Next bp0 p0 vp0_list 9 x601 x602 hx603 _ _ hs604) ?_)
    rintro _ _ _ - ⟨rfl, rfl, rfl⟩
    refine Ow_nil ?_
    refine Cw_block ?_
    refine Cw_seq ?_
    refine Cw_region ?_
    refine Ow_q rfl rfl rfl (Qt_cmp rfl rfl rfl) ?_
    refine Ow_q rfl rfl rfl (Qt_assign rfl) ?_
    refine Ow_nil ?_
    refine Cw_cond rfl ?_ ?_
    · intro h605
      have h605 := dcd_t (h605)
      have H := ift h605 H
      refine Cw_region ?_
      refine Ow_q rfl rfl rfl (Qt_move rfl) ?_
      obtain ⟨x606, x607, hx608, H⟩ := bnd2 H
      refine Ow_cons rfl (OpW_call rfl Try.call29 rfl rfl (c_M_draw_Codes_Next bp0 (Draw_Codes.mk p0.list x602 p0.value) vp0_list 9 x606 x607 hx608 _ _ hs604) ?_)
      rintro _ _ _ - ⟨rfl, rfl, rfl⟩
      refine Ow_q rfl rfl rfl (Qt_arith (e := wI (x606 - 1)) rfl rfl rfl rfl) ?_
      refine Ow_q rfl rfl rfl (Qt_fieldAddr (m := 0) rfl rfl rfl rfl rfl) ?_
      refine Ow_cons rfl (OpW_store (vs := [(.int .i64 (wI (x606 - 1)))]) (all' := (Op.cells (Op.mk (wI (x606 - 1)) p1.mode p1.channel p1.value p1.deadline x305 x312) v307 v315)) rfl rfl rfl rfl rfl (.there (.there (.there (.there .here)))) rfl rfl rfl ?_)
      refine Ow_nil ?_
      refine Shift.pull (.there .here) ?_
      refine Shift.pull (.there (.there .here)) ?_
      refine Shift.pull (.there (.there (.there (.there .here)))) ?_
      refine Shift.pull (.there (.there (.there (.there .here)))) ?_
      refine Shift.pull (.there (.there (.there (.there .here)))) ?_
      refine Shift.done ?_
      exact ⟨[(3, (.pointer (some ((⟨b303, 0, none⟩ : Addr).add 0)))), (4, (.pointer (some ((⟨b304, 0, none⟩ : Addr).add 0))))], ⟨rfl, rfl, trivial⟩, x607, ((Draw_Codes.mk p0.list x602 p0.value).value), (wI (x606 - 1)), p1.mode, p1.channel, p1.value, p1.deadline, v307, x305, v315, x312, rs316, rfl, rfl, H, hs310, hR317⟩
    · intro h605
      have h605 := dcd_f (h605)
      have H := iff_ h605 H
      refine Cw_seq ?_
      refine Cw_region ?_
      refine Ow_q rfl rfl rfl (Qt_cmp rfl rfl rfl) ?_
      refine Ow_q rfl rfl rfl (Qt_assign rfl) ?_
      refine Ow_nil ?_
      refine Cw_cond rfl ?_ ?_
      · intro h609
        have h609 := dcd_t (h609)
        have H := ift h609 H
        refine Cw_region ?_
        refine Ow_q rfl rfl rfl (Qt_move rfl) ?_
        obtain ⟨x610, x611, hx612, H⟩ := bnd2 H
        refine Ow_cons rfl (OpW_call rfl Try.call29 rfl rfl (c_M_draw_Codes_Next bp0 (Draw_Codes.mk p0.list x602 p0.value) vp0_list 5 x610 x611 hx612 _ _ hs604) ?_)
        rintro _ _ _ - ⟨rfl, rfl, rfl⟩
        refine Ow_q rfl rfl rfl (Qt_arith (e := wI (x610 - 1)) rfl rfl rfl rfl) ?_
        refine Ow_q rfl rfl rfl (Qt_fieldAddr (m := 1) rfl rfl rfl rfl rfl) ?_
        refine Ow_cons rfl (OpW_store (vs := [(.int .i64 (wI (x610 - 1)))]) (all' := (Op.cells (Op.mk p1.kind (wI (x610 - 1)) p1.channel p1.value p1.deadline x305 x312) v307 v315)) rfl rfl rfl rfl rfl (.there (.there (.there (.there .here)))) rfl rfl rfl ?_)
        refine Ow_nil ?_
        refine Shift.pull (.there .here) ?_
        refine Shift.pull (.there (.there .here)) ?_
        refine Shift.pull (.there (.there (.there (.there .here)))) ?_
        refine Shift.pull (.there (.there (.there (.there .here)))) ?_
        refine Shift.pull (.there (.there (.there (.there .here)))) ?_
        refine Shift.done ?_
        exact ⟨[(3, (.pointer (some ((⟨b303, 0, none⟩ : Addr).add 0)))), (4, (.pointer (some ((⟨b304, 0, none⟩ : Addr).add 0))))], ⟨rfl, rfl, trivial⟩, x611, ((Draw_Codes.mk p0.list x602 p0.value).value), p1.kind, (wI (x610 - 1)), p1.channel, p1.value, p1.deadline, v307, x305, v315, x312, rs316, rfl, rfl, H, hs310, hR317⟩
      · intro h609
        have h609 := dcd_f (h609)
        have H := iff_ h609 H
        refine Cw_seq ?_
        refine Cw_region ?_
        refine Ow_q rfl rfl rfl (Qt_cmp rfl rfl rfl) ?_
        refine Ow_q rfl rfl rfl (Qt_assign rfl) ?_
        refine Ow_nil ?_
        refine Cw_cond rfl ?_ ?_
        · intro h613
          have h613 := dcd_t (h613)
          have H := ift h613 H
          refine Cw_region ?_
          refine Ow_q rfl rfl rfl (Qt_move rfl) ?_
          obtain ⟨x614, x615, hx616, H⟩ := bnd2 H
          refine Ow_cons rfl (OpW_call rfl Try.call37 rfl rfl (c_M_draw_Codes_Number bp0 (Draw_Codes.mk p0.list x602 p0.value) vp0_list x614 x615 hx616 _ _ hs604) ?_)
          rintro _ _ _ - ⟨rfl, rfl, rfl⟩
          refine Ow_q rfl rfl rfl (Qt_fieldAddr (m := 2) rfl rfl rfl rfl rfl) ?_
          refine Ow_cons rfl (OpW_store (vs := [(.int .i64 x614)]) (all' := (Op.cells (Op.mk p1.kind p1.mode x614 p1.value p1.deadline x305 x312) v307 v315)) rfl rfl rfl rfl rfl (.there (.there (.there (.there .here)))) rfl rfl rfl ?_)
          refine Ow_nil ?_
          refine Shift.pull (.there .here) ?_
          refine Shift.pull (.there (.there .here)) ?_
          refine Shift.pull (.there (.there (.there (.there .here)))) ?_
          refine Shift.pull (.there (.there (.there (.there .here)))) ?_
          refine Shift.pull (.there (.there (.there (.there .here)))) ?_
          refine Shift.done ?_
          exact ⟨[(3, (.pointer (some ((⟨b303, 0, none⟩ : Addr).add 0)))), (4, (.pointer (some ((⟨b304, 0, none⟩ : Addr).add 0))))], ⟨rfl, rfl, trivial⟩, x615, ((Draw_Codes.mk p0.list x602 p0.value).value), p1.kind, p1.mode, x614, p1.value, p1.deadline, v307, x305, v315, x312, rs316, rfl, rfl, H, hs310, hR317⟩
        · intro h613
          have h613 := dcd_f (h613)
          have H := iff_ h613 H
          refine Cw_seq ?_
          refine Cw_region ?_
          refine Ow_q rfl rfl rfl (Qt_cmp rfl rfl rfl) ?_
          refine Ow_q rfl rfl rfl (Qt_assign rfl) ?_
          refine Ow_nil ?_
          refine Cw_cond rfl ?_ ?_
          · intro h617
            have h617 := dcd_t (h617)
            have H := ift h617 H
            refine Cw_region ?_
            refine Ow_q rfl rfl rfl (Qt_move rfl) ?_
            obtain ⟨x618, x619, hx620, H⟩ := bnd2 H
            refine Ow_cons rfl (OpW_call rfl Try.call37 rfl rfl (c_M_draw_Codes_Number bp0 (Draw_Codes.mk p0.list x602 p0.value) vp0_list x618 x619 hx620 _ _ hs604) ?_)
            rintro _ _ _ - ⟨rfl, rfl, rfl⟩
            refine Ow_q rfl rfl rfl (Qt_fieldAddr (m := 4) rfl rfl rfl rfl rfl) ?_
            refine Ow_cons rfl (OpW_store (vs := [(.int .i64 x618)]) (all' := (Op.cells (Op.mk p1.kind p1.mode p1.channel p1.value x618 x305 x312) v307 v315)) rfl rfl rfl rfl rfl (.there (.there (.there (.there .here)))) rfl rfl rfl ?_)
            refine Ow_nil ?_
            refine Shift.pull (.there .here) ?_
            refine Shift.pull (.there (.there .here)) ?_
            refine Shift.pull (.there (.there (.there (.there .here)))) ?_
            refine Shift.pull (.there (.there (.there (.there .here)))) ?_
            refine Shift.pull (.there (.there (.there (.there .here)))) ?_
            refine Shift.done ?_
            exact ⟨[(3, (.pointer (some ((⟨b303, 0, none⟩ : Addr).add 0)))), (4, (.pointer (some ((⟨b304, 0, none⟩ : Addr).add 0))))], ⟨rfl, rfl, trivial⟩, x619, ((Draw_Codes.mk p0.list x602 p0.value).value), p1.kind, p1.mode, p1.channel, p1.value, x618, v307, x305, v315, x312, rs316, rfl, rfl, H, hs310, hR317⟩
          · intro h617
            have h617 := dcd_f (h617)
            have H := iff_ h617 H
            refine Cw_seq ?_
            refine Cw_region ?_
            refine Ow_q rfl rfl rfl (Qt_cmp rfl rfl rfl) ?_
            refine Ow_q rfl rfl rfl (Qt_assign rfl) ?_
            refine Ow_nil ?_
            refine Cw_cond rfl ?_ ?_
            · intro h621
              have h621 := dcd_t (h621)
              have H := ift h621 H
              refine Cw_region ?_
              refine Ow_q rfl rfl rfl (Qt_move rfl) ?_
              obtain ⟨x622, x623, hx624, H⟩ := bnd2 H
              refine Ow_cons rfl (OpW_call rfl Try.call29 rfl rfl (c_M_draw_Codes_Next bp0 (Draw_Codes.mk p0.list x602 p0.value) vp0_list 3 x622 x623 hx624 _ _ hs604) ?_)
              rintro _ _ _ - ⟨rfl, rfl, rfl⟩
              refine Ow_q rfl rfl rfl (Qt_conv (c := wU x622) rfl rfl rfl rfl) ?_
              refine Ow_q rfl rfl rfl (Qt_fieldAddr (m := 3) rfl rfl rfl rfl rfl) ?_
              refine Ow_cons rfl (OpW_store (vs := [(.int .u64 (wU x622))]) (all' := (Op.cells (Op.mk p1.kind p1.mode p1.channel (wU x622) p1.deadline x305 x312) v307 v315)) rfl rfl rfl rfl rfl (.there (.there (.there (.there .here)))) rfl rfl rfl ?_)
              refine Ow_nil ?_
              refine Shift.pull (.there .here) ?_
              refine Shift.pull (.there (.there .here)) ?_
              refine Shift.pull (.there (.there (.there (.there .here)))) ?_
              refine Shift.pull (.there (.there (.there (.there .here)))) ?_
              refine Shift.pull (.there (.there (.there (.there .here)))) ?_
              refine Shift.done ?_
              exact ⟨[(3, (.pointer (some ((⟨b303, 0, none⟩ : Addr).add 0)))), (4, (.pointer (some ((⟨b304, 0, none⟩ : Addr).add 0))))], ⟨rfl, rfl, trivial⟩, x623, ((Draw_Codes.mk p0.list x602 p0.value).value), p1.kind, p1.mode, p1.channel, (wU x622), p1.deadline, v307, x305, v315, x312, rs316, rfl, rfl, H, hs310, hR317⟩
            · intro h621
              have h621 := dcd_f (h621)
              have H := iff_ h621 H
              refine Cw_seq ?_
              refine Cw_region ?_
              refine Ow_q rfl rfl rfl (Qt_cmp rfl rfl rfl) ?_
              refine Ow_q rfl rfl rfl (Qt_assign rfl) ?_
              refine Ow_nil ?_
              refine Cw_cond rfl ?_ ?_
              · intro h625
                have h625 := dcd_t (h625)
                have H := ift h625 H
                obtain ⟨x626, x627, hx628, H⟩ := bnd2 H
                obtain ⟨x629, x630, hx631, H⟩ := bnd2 H
                obtain ⟨x632, x633, hx634, H⟩ := bnd2 H
                obtain ⟨x637, hx638, H⟩ := bnd H
                refine Cw_region_any [.row (sv v315) 3 1 rs316.flatten, .blk b304 26 (Op.cells (Op.mk 0 0 0 0 0 [] []) nilS nilS)] rfl (Inc.cons (.tail _ (.head _)) (Inc.cons (.tail _ (.tail _ (.tail _ (.head _)))) Inc.nil)) ?_
                refine Aw_q 0 rfl (by kernel_rfl) (by kernel_rfl) (by kernel_rfl) rfl rfl rfl (Qt_fieldAddr (m := 5) rfl rfl rfl rfl rfl) ?_
                refine Aw_q 2 rfl (by kernel_rfl) (by kernel_rfl) (by kernel_rfl) rfl rfl rfl (Qt_move rfl) ?_
                refine Aw_q 5 rfl (by kernel_rfl) (by kernel_rfl) (by kernel_rfl) rfl rfl rfl (Qt_move rfl) ?_
                refine Aw_q 7 rfl (by kernel_rfl) (by kernel_rfl) (by kernel_rfl) rfl rfl rfl (Qt_move rfl) ?_
                refine Aw_two 1 3 (by kernel_rfl) ?_ ?_
                · skip
                  refine id (Ax_mk rfl rfl (OpW_of_Qt rfl rfl (Qt_load1 (v := (sv v307)) rfl rfl rfl (Rdc.blk (.tail _ (.tail _ (.tail _ (.tail _ (.head _))))) rfl)) ⟨(Inc.cons (.tail _ (.head _)) (Inc.cons (.tail _ (.tail _ (.tail _ (.head _)))) Inc.nil)), ?_⟩))
                  refine Aw_one 3 (by kernel_rfl) (Ax_mk rfl rfl ?_)
                  refine OpW_call rfl Try.call29 rfl rfl (c_M_draw_Codes_Next bp0 (Draw_Codes.mk p0.list x602 p0.value) vp0_list 2 x626 x627 hx628 _ _ hs604) ?_
                  rintro _ _ _ - ⟨rfl, rfl, rfl⟩
                  refine ⟨(Inc.cons (.tail _ (.head _)) (Inc.cons (.tail _ (.tail _ (.tail _ (.head _)))) Inc.nil)), ?_⟩
                  refine Aw_q 4 rfl (by kernel_rfl) (by kernel_rfl) (by kernel_rfl) rfl rfl rfl (Qt_cmp rfl rfl rfl) ?_
                  refine Aw_one 6 (by kernel_rfl) (Ax_mk rfl rfl ?_)
                  refine OpW_call rfl Try.call37 rfl rfl (c_M_draw_Codes_Number bp0 (Draw_Codes.mk p0.list x627 ((Draw_Codes.mk p0.list x602 p0.value).value)) vp0_list x629 x630 hx631 _ _ hs604) ?_
                  rintro _ _ _ - ⟨rfl, rfl, rfl⟩
                  refine ⟨(Inc.cons (.tail _ (.head _)) (Inc.cons (.tail _ (.tail _ (.tail _ (.head _)))) Inc.nil)), ?_⟩
                  refine Aw_one 8 (by kernel_rfl) (Ax_mk rfl rfl ?_)
                  refine OpW_call rfl Try.call29 rfl rfl (c_M_draw_Codes_Next bp0 (Draw_Codes.mk p0.list x630 ((Draw_Codes.mk p0.list x627 ((Draw_Codes.mk p0.list x602 p0.value).value)).value)) vp0_list 2 x632 x633 hx634 _ _ hs604) ?_
                  rintro _ _ _ - ⟨rfl, rfl, rfl⟩
                  refine ⟨(Inc.cons (.tail _ (.head _)) (Inc.cons (.tail _ (.tail _ (.tail _ (.head _)))) Inc.nil)), ?_⟩
                  refine Aw_q 9 rfl (by kernel_rfl) (by kernel_rfl) (by kernel_rfl) rfl rfl rfl (Qt_conv (c := wU x632) rfl rfl rfl rfl) ?_
                  refine Aw_q 10 rfl (by kernel_rfl) (by kernel_rfl) (by kernel_rfl) rfl rfl rfl (Qt_build (cs := (Case.cells (Case.mk (dcd (x626 = 1)) x629 (wU x632)))) rfl rfl rfl rfl rfl rfl) ?_
                  refine Aw_one 11 (by kernel_rfl) (Ax_mk rfl rfl ?_)
                  have hR644 : RowR TyCase K308 [(Case.cells (Case.mk (dcd (x626 = 1)) x629 (wU x632)))] [(Case.mk (dcd (x626 = 1)) x629 (wU x632))] := RowR.cons rfl (RowR.nil)
                  refine O_lit (T := TyCase) (rows := [(Case.cells (Case.mk (dcd (x626 = 1)) x629 (wU x632)))]) (l := [(Case.mk (dcd (x626 = 1)) x629 (wU x632))]) rfl rfl rfl hR644 rfl rfl rfl rfl rfl rfl rfl rfl (fun v643 => ⟨(Inc.cons (.tail _ (.tail _ (.head _))) (Inc.cons (.tail _ (.tail _ (.tail _ (.tail _ (.head _))))) Inc.nil)), ?_⟩)
                  refine Aw_one 12 (by kernel_rfl) (Ax_mk rfl rfl ?_)
                  refine O_appTok (T := TyCase) (bytes := 24) (q := 0) rfl rfl rfl hs310 (.tail _ (.tail _ (.tail _ (.head _)))) rfl (SrcT.row (.head _) hR644 rfl) hx638 rfl rfl rfl rfl rfl rfl rfl rfl (fun v645 K646 hK647 hs648 => ⟨_, (.there (.there (.there .here))), ⟨(Inc.cons (.tail _ (.tail _ (.head _))) (Inc.cons (.tail _ (.tail _ (.tail _ (.tail _ (.head _))))) Inc.nil)), ?_⟩⟩)
                  refine Aw.shift (Shift.rem .here (Shift.done ⟨(Inc.cons (.tail _ (.head _)) (Inc.cons (.tail _ (.tail _ (.tail _ (.head _)))) Inc.nil)), ?_⟩))
                  refine Aw_q 13 rfl (by kernel_rfl) (by kernel_rfl) (by kernel_rfl) rfl rfl rfl (Qt_fieldAddr (m := 5) rfl rfl rfl rfl rfl) ?_
                  refine Aw_one 14 (by kernel_rfl) (Ax_mk rfl rfl ?_)
                  refine OpW_store (vs := [(sv v645)]) (all' := (Op.cells (Op.mk p1.kind p1.mode p1.channel p1.value p1.deadline x637 x312) v645 v315)) rfl rfl rfl rfl rfl (.there (.there (.there (.there .here)))) rfl rfl rfl ⟨(Inc.cons (.tail _ (.head _)) (Inc.cons (.tail _ (.tail _ (.tail _ (.head _)))) Inc.nil)), ?_⟩
                  refine Aw_done (by kernel_rfl) ?_
                  refine Shift.pull (.there .here) ?_
                  refine Shift.pull (.there (.there .here)) ?_
                  refine Shift.pull (.there (.there (.there (.there .here)))) ?_
                  refine Shift.pull (.there (.there (.there (.there .here)))) ?_
                  refine Shift.pull (.there (.there (.there (.there .here)))) ?_
                  have hs649 := (hR317).mono hK647
                  refine Shift.done ?_
                  exact ⟨[(3, (.pointer (some ((⟨b303, 0, none⟩ : Addr).add 0)))), (4, (.pointer (some ((⟨b304, 0, none⟩ : Addr).add 0))))], ⟨rfl, rfl, trivial⟩, x633, ((Draw_Codes.mk p0.list x630 ((Draw_Codes.mk p0.list x627 ((Draw_Codes.mk p0.list x602 p0.value).value)).value)).value), p1.kind, p1.mode, p1.channel, p1.value, p1.deadline, v645, x637, v315, x312, rs316, rfl, rfl, H, hs648, hs649⟩
                · skip
                  refine id (Ax_mk rfl rfl ?_)
                  refine OpW_call rfl Try.call29 rfl rfl (c_M_draw_Codes_Next bp0 (Draw_Codes.mk p0.list x602 p0.value) vp0_list 2 x626 x627 hx628 _ _ hs604) ?_
                  rintro _ _ _ - ⟨rfl, rfl, rfl⟩
                  refine ⟨(Inc.cons (.tail _ (.head _)) (Inc.cons (.tail _ (.tail _ (.tail _ (.head _)))) Inc.nil)), ?_⟩
                  refine Aw_q 4 rfl (by kernel_rfl) (by kernel_rfl) (by kernel_rfl) rfl rfl rfl (Qt_cmp rfl rfl rfl) ?_
                  refine Aw_two 1 6 (by kernel_rfl) ?_ ?_
                  · skip
                    refine id (Ax_mk rfl rfl (OpW_of_Qt rfl rfl (Qt_load1 (v := (sv v307)) rfl rfl rfl (Rdc.blk (.tail _ (.tail _ (.tail _ (.tail _ (.head _))))) rfl)) ⟨(Inc.cons (.tail _ (.head _)) (Inc.cons (.tail _ (.tail _ (.tail _ (.head _)))) Inc.nil)), ?_⟩))
                    refine Aw_one 6 (by kernel_rfl) (Ax_mk rfl rfl ?_)
                    refine OpW_call rfl Try.call37 rfl rfl (c_M_draw_Codes_Number bp0 (Draw_Codes.mk p0.list x627 ((Draw_Codes.mk p0.list x602 p0.value).value)) vp0_list x629 x630 hx631 _ _ hs604) ?_
                    rintro _ _ _ - ⟨rfl, rfl, rfl⟩
                    refine ⟨(Inc.cons (.tail _ (.head _)) (Inc.cons (.tail _ (.tail _ (.tail _ (.head _)))) Inc.nil)), ?_⟩
                    refine Aw_one 8 (by kernel_rfl) (Ax_mk rfl rfl ?_)
                    refine OpW_call rfl Try.call29 rfl rfl (c_M_draw_Codes_Next bp0 (Draw_Codes.mk p0.list x630 ((Draw_Codes.mk p0.list x627 ((Draw_Codes.mk p0.list x602 p0.value).value)).value)) vp0_list 2 x632 x633 hx634 _ _ hs604) ?_
                    rintro _ _ _ - ⟨rfl, rfl, rfl⟩
                    refine ⟨(Inc.cons (.tail _ (.head _)) (Inc.cons (.tail _ (.tail _ (.tail _ (.head _)))) Inc.nil)), ?_⟩
                    refine Aw_q 9 rfl (by kernel_rfl) (by kernel_rfl) (by kernel_rfl) rfl rfl rfl (Qt_conv (c := wU x632) rfl rfl rfl rfl) ?_
                    refine Aw_q 10 rfl (by kernel_rfl) (by kernel_rfl) (by kernel_rfl) rfl rfl rfl (Qt_build (cs := (Case.cells (Case.mk (dcd (x626 = 1)) x629 (wU x632)))) rfl rfl rfl rfl rfl rfl) ?_
                    refine Aw_one 11 (by kernel_rfl) (Ax_mk rfl rfl ?_)
                    have hR651 : RowR TyCase K308 [(Case.cells (Case.mk (dcd (x626 = 1)) x629 (wU x632)))] [(Case.mk (dcd (x626 = 1)) x629 (wU x632))] := RowR.cons rfl (RowR.nil)
                    refine O_lit (T := TyCase) (rows := [(Case.cells (Case.mk (dcd (x626 = 1)) x629 (wU x632)))]) (l := [(Case.mk (dcd (x626 = 1)) x629 (wU x632))]) rfl rfl rfl hR651 rfl rfl rfl rfl rfl rfl rfl rfl (fun v650 => ⟨(Inc.cons (.tail _ (.tail _ (.head _))) (Inc.cons (.tail _ (.tail _ (.tail _ (.tail _ (.head _))))) Inc.nil)), ?_⟩)
                    refine Aw_one 12 (by kernel_rfl) (Ax_mk rfl rfl ?_)
                    refine O_appTok (T := TyCase) (bytes := 24) (q := 0) rfl rfl rfl hs310 (.tail _ (.tail _ (.tail _ (.head _)))) rfl (SrcT.row (.head _) hR651 rfl) hx638 rfl rfl rfl rfl rfl rfl rfl rfl (fun v652 K653 hK654 hs655 => ⟨_, (.there (.there (.there .here))), ⟨(Inc.cons (.tail _ (.tail _ (.head _))) (Inc.cons (.tail _ (.tail _ (.tail _ (.tail _ (.head _))))) Inc.nil)), ?_⟩⟩)
                    refine Aw.shift (Shift.rem .here (Shift.done ⟨(Inc.cons (.tail _ (.head _)) (Inc.cons (.tail _ (.tail _ (.tail _ (.head _)))) Inc.nil)), ?_⟩))
                    refine Aw_q 13 rfl (by kernel_rfl) (by kernel_rfl) (by kernel_rfl) rfl rfl rfl (Qt_fieldAddr (m := 5) rfl rfl rfl rfl rfl) ?_
                    refine Aw_one 14 (by kernel_rfl) (Ax_mk rfl rfl ?_)
                    refine OpW_store (vs := [(sv v652)]) (all' := (Op.cells (Op.mk p1.kind p1.mode p1.channel p1.value p1.deadline x637 x312) v652 v315)) rfl rfl rfl rfl rfl (.there (.there (.there (.there .here)))) rfl rfl rfl ⟨(Inc.cons (.tail _ (.head _)) (Inc.cons (.tail _ (.tail _ (.tail _ (.head _)))) Inc.nil)), ?_⟩
                    refine Aw_done (by kernel_rfl) ?_
                    refine Shift.pull (.there .here) ?_
                    refine Shift.pull (.there (.there .here)) ?_
                    refine Shift.pull (.there (.there (.there (.there .here)))) ?_
                    refine Shift.pull (.there (.there (.there (.there .here)))) ?_
                    refine Shift.pull (.there (.there (.there (.there .here)))) ?_
                    have hs656 := (hR317).mono hK654
                    refine Shift.done ?_
                    exact ⟨[(3, (.pointer (some ((⟨b303, 0, none⟩ : Addr).add 0)))), (4, (.pointer (some ((⟨b304, 0, none⟩ : Addr).add 0))))], ⟨rfl, rfl, trivial⟩, x633, ((Draw_Codes.mk p0.list x630 ((Draw_Codes.mk p0.list x627 ((Draw_Codes.mk p0.list x602 p0.value).value)).value)).value), p1.kind, p1.mode, p1.channel, p1.value, p1.deadline, v652, x637, v315, x312, rs316, rfl, rfl, H, hs655, hs656⟩
                  · skip
                    refine id (Ax_mk rfl rfl ?_)
                    refine OpW_call rfl Try.call37 rfl rfl (c_M_draw_Codes_Number bp0 (Draw_Codes.mk p0.list x627 ((Draw_Codes.mk p0.list x602 p0.value).value)) vp0_list x629 x630 hx631 _ _ hs604) ?_
                    rintro _ _ _ - ⟨rfl, rfl, rfl⟩
                    refine ⟨(Inc.cons (.tail _ (.head _)) (Inc.cons (.tail _ (.tail _ (.tail _ (.head _)))) Inc.nil)), ?_⟩
                    refine Aw_two 1 8 (by kernel_rfl) ?_ ?_
                    · skip
                      refine id (Ax_mk rfl rfl (OpW_of_Qt rfl rfl (Qt_load1 (v := (sv v307)) rfl rfl rfl (Rdc.blk (.tail _ (.tail _ (.tail _ (.tail _ (.head _))))) rfl)) ⟨(Inc.cons (.tail _ (.head _)) (Inc.cons (.tail _ (.tail _ (.tail _ (.head _)))) Inc.nil)), ?_⟩))
                      refine Aw_one 8 (by kernel_rfl) (Ax_mk rfl rfl ?_)
                      refine OpW_call rfl Try.call29 rfl rfl (c_M_draw_Codes_Next bp0 (Draw_Codes.mk p0.list x630 ((Draw_Codes.mk p0.list x627 ((Draw_Codes.mk p0.list x602 p0.value).value)).value)) vp0_list 2 x632 x633 hx634 _ _ hs604) ?_
                      rintro _ _ _ - ⟨rfl, rfl, rfl⟩
                      refine ⟨(Inc.cons (.tail _ (.head _)) (Inc.cons (.tail _ (.tail _ (.tail _ (.head _)))) Inc.nil)), ?_⟩
                      refine Aw_q 9 rfl (by kernel_rfl) (by kernel_rfl) (by kernel_rfl) rfl rfl rfl (Qt_conv (c := wU x632) rfl rfl rfl rfl) ?_
                      refine Aw_q 10 rfl (by kernel_rfl) (by kernel_rfl) (by kernel_rfl) rfl rfl rfl (Qt_build (cs := (Case.cells (Case.mk (dcd (x626 = 1)) x629 (wU x632)))) rfl rfl rfl rfl rfl rfl) ?_
                      refine Aw_one 11 (by kernel_rfl) (Ax_mk rfl rfl ?_)
                      have hR658 : RowR TyCase K308 [(Case.cells (Case.mk (dcd (x626 = 1)) x629 (wU x632)))] [(Case.mk (dcd (x626 = 1)) x629 (wU x632))] := RowR.cons rfl (RowR.nil)
                      refine O_lit (T := TyCase) (rows := [(Case.cells (Case.mk (dcd (x626 = 1)) x629 (wU x632)))]) (l := [(Case.mk (dcd (x626 = 1)) x629 (wU x632))]) rfl rfl rfl hR658 rfl rfl rfl rfl rfl rfl rfl rfl (fun v657 => ⟨(Inc.cons (.tail _ (.tail _ (.head _))) (Inc.cons (.tail _ (.tail _ (.tail _ (.tail _ (.head _))))) Inc.nil)), ?_⟩)
                      refine Aw_one 12 (by kernel_rfl) (Ax_mk rfl rfl ?_)
                      refine O_appTok (T := TyCase) (bytes := 24) (q := 0) rfl rfl rfl hs310 (.tail _ (.tail _ (.tail _ (.head _)))) rfl (SrcT.row (.head _) hR658 rfl) hx638 rfl rfl rfl rfl rfl rfl rfl rfl (fun v659 K660 hK661 hs662 => ⟨_, (.there (.there (.there .here))), ⟨(Inc.cons (.tail _ (.tail _ (.head _))) (Inc.cons (.tail _ (.tail _ (.tail _ (.tail _ (.head _))))) Inc.nil)), ?_⟩⟩)
                      refine Aw.shift (Shift.rem .here (Shift.done ⟨(Inc.cons (.tail _ (.head _)) (Inc.cons (.tail _ (.tail _ (.tail _ (.head _)))) Inc.nil)), ?_⟩))
                      refine Aw_q 13 rfl (by kernel_rfl) (by kernel_rfl) (by kernel_rfl) rfl rfl rfl (Qt_fieldAddr (m := 5) rfl rfl rfl rfl rfl) ?_
                      refine Aw_one 14 (by kernel_rfl) (Ax_mk rfl rfl ?_)
                      refine OpW_store (vs := [(sv v659)]) (all' := (Op.cells (Op.mk p1.kind p1.mode p1.channel p1.value p1.deadline x637 x312) v659 v315)) rfl rfl rfl rfl rfl (.there (.there (.there (.there .here)))) rfl rfl rfl ⟨(Inc.cons (.tail _ (.head _)) (Inc.cons (.tail _ (.tail _ (.tail _ (.head _)))) Inc.nil)), ?_⟩
                      refine Aw_done (by kernel_rfl) ?_
                      refine Shift.pull (.there .here) ?_
                      refine Shift.pull (.there (.there .here)) ?_
                      refine Shift.pull (.there (.there (.there (.there .here)))) ?_
                      refine Shift.pull (.there (.there (.there (.there .here)))) ?_
                      refine Shift.pull (.there (.there (.there (.there .here)))) ?_
                      have hs663 := (hR317).mono hK661
                      refine Shift.done ?_
                      exact ⟨[(3, (.pointer (some ((⟨b303, 0, none⟩ : Addr).add 0)))), (4, (.pointer (some ((⟨b304, 0, none⟩ : Addr).add 0))))], ⟨rfl, rfl, trivial⟩, x633, ((Draw_Codes.mk p0.list x630 ((Draw_Codes.mk p0.list x627 ((Draw_Codes.mk p0.list x602 p0.value).value)).value)).value), p1.kind, p1.mode, p1.channel, p1.value, p1.deadline, v659, x637, v315, x312, rs316, rfl, rfl, H, hs662, hs663⟩
                    · skip
                      refine id (Ax_mk rfl rfl ?_)
                      refine OpW_call rfl Try.call29 rfl rfl (c_M_draw_Codes_Next bp0 (Draw_Codes.mk p0.list x630 ((Draw_Codes.mk p0.list x627 ((Draw_Codes.mk p0.list x602 p0.value).value)).value)) vp0_list 2 x632 x633 hx634 _ _ hs604) ?_
                      rintro _ _ _ - ⟨rfl, rfl, rfl⟩
                      refine ⟨(Inc.cons (.tail _ (.head _)) (Inc.cons (.tail _ (.tail _ (.tail _ (.head _)))) Inc.nil)), ?_⟩
                      refine Aw_q 9 rfl (by kernel_rfl) (by kernel_rfl) (by kernel_rfl) rfl rfl rfl (Qt_conv (c := wU x632) rfl rfl rfl rfl) ?_
                      refine Aw_q 10 rfl (by kernel_rfl) (by kernel_rfl) (by kernel_rfl) rfl rfl rfl (Qt_build (cs := (Case.cells (Case.mk (dcd (x626 = 1)) x629 (wU x632)))) rfl rfl rfl rfl rfl rfl) ?_
                      refine Aw_two 1 11 (by kernel_rfl) ?_ ?_
                      · skip
                        refine id (Ax_mk rfl rfl (OpW_of_Qt rfl rfl (Qt_load1 (v := (sv v307)) rfl rfl rfl (Rdc.blk (.tail _ (.tail _ (.tail _ (.tail _ (.head _))))) rfl)) ⟨(Inc.cons (.tail _ (.head _)) (Inc.cons (.tail _ (.tail _ (.tail _ (.head _)))) Inc.nil)), ?_⟩))
                        refine Aw_one 11 (by kernel_rfl) (Ax_mk rfl rfl ?_)
                        have hR665 : RowR TyCase K308 [(Case.cells (Case.mk (dcd (x626 = 1)) x629 (wU x632)))] [(Case.mk (dcd (x626 = 1)) x629 (wU x632))] := RowR.cons rfl (RowR.nil)
                        refine O_lit (T := TyCase) (rows := [(Case.cells (Case.mk (dcd (x626 = 1)) x629 (wU x632)))]) (l := [(Case.mk (dcd (x626 = 1)) x629 (wU x632))]) rfl rfl rfl hR665 rfl rfl rfl rfl rfl rfl rfl rfl (fun v664 => ⟨(Inc.cons (.tail _ (.tail _ (.head _))) (Inc.cons (.tail _ (.tail _ (.tail _ (.tail _ (.head _))))) Inc.nil)), ?_⟩)
                        refine Aw_one 12 (by kernel_rfl) (Ax_mk rfl rfl ?_)
                        refine O_appTok (T := TyCase) (bytes := 24) (q := 0) rfl rfl rfl hs310 (.tail _ (.tail _ (.tail _ (.head _)))) rfl (SrcT.row (.head _) hR665 rfl) hx638 rfl rfl rfl rfl rfl rfl rfl rfl (fun v666 K667 hK668 hs669 => ⟨_, (.there (.there (.there .here))), ⟨(Inc.cons (.tail _ (.tail _ (.head _))) (Inc.cons (.tail _ (.tail _ (.tail _ (.tail _ (.head _))))) Inc.nil)), ?_⟩⟩)
                        refine Aw.shift (Shift.rem .here (Shift.done ⟨(Inc.cons (.tail _ (.head _)) (Inc.cons (.tail _ (.tail _ (.tail _ (.head _)))) Inc.nil)), ?_⟩))
                        refine Aw_q 13 rfl (by kernel_rfl) (by kernel_rfl) (by kernel_rfl) rfl rfl rfl (Qt_fieldAddr (m := 5) rfl rfl rfl rfl rfl) ?_
                        refine Aw_one 14 (by kernel_rfl) (Ax_mk rfl rfl ?_)
                        refine OpW_store (vs := [(sv v666)]) (all' := (Op.cells (Op.mk p1.kind p1.mode p1.channel p1.value p1.deadline x637 x312) v666 v315)) rfl rfl rfl rfl rfl (.there (.there (.there (.there .here)))) rfl rfl rfl ⟨(Inc.cons (.tail _ (.head _)) (Inc.cons (.tail _ (.tail _ (.tail _ (.head _)))) Inc.nil)), ?_⟩
                        refine Aw_done (by kernel_rfl) ?_
                        refine Shift.pull (.there .here) ?_
                        refine Shift.pull (.there (.there .here)) ?_
                        refine Shift.pull (.there (.there (.there (.there .here)))) ?_
                        refine Shift.pull (.there (.there (.there (.there .here)))) ?_
                        refine Shift.pull (.there (.there (.there (.there .here)))) ?_
                        have hs670 := (hR317).mono hK668
                        refine Shift.done ?_
                        exact ⟨[(3, (.pointer (some ((⟨b303, 0, none⟩ : Addr).add 0)))), (4, (.pointer (some ((⟨b304, 0, none⟩ : Addr).add 0))))], ⟨rfl, rfl, trivial⟩, x633, ((Draw_Codes.mk p0.list x630 ((Draw_Codes.mk p0.list x627 ((Draw_Codes.mk p0.list x602 p0.value).value)).value)).value), p1.kind, p1.mode, p1.channel, p1.value, p1.deadline, v666, x637, v315, x312, rs316, rfl, rfl, H, hs669, hs670⟩
                      · skip
                        refine id (Ax_mk rfl rfl ?_)
                        have hR672 : RowR TyCase K308 [(Case.cells (Case.mk (dcd (x626 = 1)) x629 (wU x632)))] [(Case.mk (dcd (x626 = 1)) x629 (wU x632))] := RowR.cons rfl (RowR.nil)
                        refine O_lit (T := TyCase) (rows := [(Case.cells (Case.mk (dcd (x626 = 1)) x629 (wU x632)))]) (l := [(Case.mk (dcd (x626 = 1)) x629 (wU x632))]) rfl rfl rfl hR672 rfl rfl rfl rfl rfl rfl rfl rfl (fun v671 => ⟨(Inc.cons (.tail _ (.tail _ (.head _))) (Inc.cons (.tail _ (.tail _ (.tail _ (.tail _ (.head _))))) Inc.nil)), ?_⟩)
                        refine Aw_one 1 (by kernel_rfl) (Ax_mk rfl rfl (OpW_of_Qt rfl rfl (Qt_load1 (v := (sv v307)) rfl rfl rfl (Rdc.blk (.tail _ (.tail _ (.tail _ (.tail _ (.tail _ (.head _)))))) rfl)) ⟨(Inc.cons (.tail _ (.tail _ (.head _))) (Inc.cons (.tail _ (.tail _ (.tail _ (.tail _ (.head _))))) Inc.nil)), ?_⟩))
                        refine Aw_one 12 (by kernel_rfl) (Ax_mk rfl rfl ?_)
                        refine O_appTok (T := TyCase) (bytes := 24) (q := 0) rfl rfl rfl hs310 (.tail _ (.tail _ (.tail _ (.head _)))) rfl (SrcT.row (.head _) hR672 rfl) hx638 rfl rfl rfl rfl rfl rfl rfl rfl (fun v673 K674 hK675 hs676 => ⟨_, (.there (.there (.there .here))), ⟨(Inc.cons (.tail _ (.tail _ (.head _))) (Inc.cons (.tail _ (.tail _ (.tail _ (.tail _ (.head _))))) Inc.nil)), ?_⟩⟩)
                        refine Aw.shift (Shift.rem .here (Shift.done ⟨(Inc.cons (.tail _ (.head _)) (Inc.cons (.tail _ (.tail _ (.tail _ (.head _)))) Inc.nil)), ?_⟩))
                        refine Aw_q 13 rfl (by kernel_rfl) (by kernel_rfl) (by kernel_rfl) rfl rfl rfl (Qt_fieldAddr (m := 5) rfl rfl rfl rfl rfl) ?_
                        refine Aw_one 14 (by kernel_rfl) (Ax_mk rfl rfl ?_)
                        refine OpW_store (vs := [(sv v673)]) (all' := (Op.cells (Op.mk p1.kind p1.mode p1.channel p1.value p1.deadline x637 x312) v673 v315)) rfl rfl rfl rfl rfl (.there (.there (.there (.there .here)))) rfl rfl rfl ⟨(Inc.cons (.tail _ (.head _)) (Inc.cons (.tail _ (.tail _ (.tail _ (.head _)))) Inc.nil)), ?_⟩
                        refine Aw_done (by kernel_rfl) ?_
                        refine Shift.pull (.there .here) ?_
                        refine Shift.pull (.there (.there .here)) ?_
                        refine Shift.pull (.there (.there (.there (.there .here)))) ?_
                        refine Shift.pull (.there (.there (.there (.there .here)))) ?_
                        refine Shift.pull (.there (.there (.there (.there .here)))) ?_
                        have hs677 := (hR317).mono hK675
                        refine Shift.done ?_
                        exact ⟨[(3, (.pointer (some ((⟨b303, 0, none⟩ : Addr).add 0)))), (4, (.pointer (some ((⟨b304, 0, none⟩ : Addr).add 0))))], ⟨rfl, rfl, trivial⟩, x633, ((Draw_Codes.mk p0.list x630 ((Draw_Codes.mk p0.list x627 ((Draw_Codes.mk p0.list x602 p0.value).value)).value)).value), p1.kind, p1.mode, p1.channel, p1.value, p1.deadline, v673, x637, v315, x312, rs316, rfl, rfl, H, hs676, hs677⟩
              · intro h625
                have h625 := dcd_f (h625)
                have H := iff_ h625 H
                refine Cw_seq ?_
                refine Cw_region ?_
                refine Ow_q rfl rfl rfl (Qt_cmp rfl rfl rfl) ?_
                refine Ow_q rfl rfl rfl (Qt_assign rfl) ?_
                refine Ow_nil ?_
                refine Cw_cond rfl ?_ ?_
                · intro h678
                  have h678 := dcd_t (h678)
                  have H := ift h678 H
                  obtain ⟨x679, x680, hx681, H⟩ := bnd2 H
                  obtain ⟨x684, hx685, H⟩ := bnd H
                  refine Cw_region_any [.tok 56 3 [(sv v307)], .blk b304 26 (Op.cells (Op.mk 0 0 0 0 0 [] []) nilS nilS)] rfl (Inc.cons (.tail _ (.tail _ (.head _))) (Inc.cons (.tail _ (.tail _ (.tail _ (.head _)))) Inc.nil)) ?_
                  refine Aw_q 0 rfl (by kernel_rfl) (by kernel_rfl) (by kernel_rfl) rfl rfl rfl (Qt_fieldAddr (m := 6) rfl rfl rfl rfl rfl) ?_
                  refine Aw_q 2 rfl (by kernel_rfl) (by kernel_rfl) (by kernel_rfl) rfl rfl rfl (Qt_move rfl) ?_
                  refine Aw_two 1 3 (by kernel_rfl) ?_ ?_
                  · skip
                    refine id (Ax_mk rfl rfl (OpW_of_Qt rfl rfl (Qt_load1 (v := (sv v315)) rfl rfl rfl (Rdc.blk (.tail _ (.tail _ (.tail _ (.tail _ (.head _))))) rfl)) ⟨(Inc.cons (.tail _ (.tail _ (.head _))) (Inc.cons (.tail _ (.tail _ (.tail _ (.head _)))) Inc.nil)), ?_⟩))
                    refine Aw_one 3 (by kernel_rfl) (Ax_mk rfl rfl ?_)
                    refine OpW_call rfl Try.call29 rfl rfl (c_M_draw_Codes_Next bp0 (Draw_Codes.mk p0.list x602 p0.value) vp0_list 9 x679 x680 hx681 _ _ hs604) ?_
                    rintro _ _ _ - ⟨rfl, rfl, rfl⟩
                    refine ⟨(Inc.cons (.tail _ (.tail _ (.head _))) (Inc.cons (.tail _ (.tail _ (.tail _ (.head _)))) Inc.nil)), ?_⟩
                    refine Aw_q 4 rfl (by kernel_rfl) (by kernel_rfl) (by kernel_rfl) rfl rfl rfl (Qt_arith (e := wI (x679 - 1)) rfl rfl rfl rfl) ?_
                    refine Aw_one 5 (by kernel_rfl) (Ax_mk rfl rfl ?_)
                    have hR690 : RowR Ty.i64 K308 [[(.int .i64 (wI (x679 - 1)))]] [wI (x679 - 1)] := RowR.cons rfl (RowR.nil)
                    refine O_lit (T := Ty.i64) (rows := [[(.int .i64 (wI (x679 - 1)))]]) (l := [wI (x679 - 1)]) rfl rfl rfl hR690 rfl rfl rfl rfl rfl rfl rfl rfl (fun v689 => ⟨(Inc.cons (.tail _ (.tail _ (.tail _ (.head _)))) (Inc.cons (.tail _ (.tail _ (.tail _ (.tail _ (.head _))))) Inc.nil)), ?_⟩)
                    refine Aw_one 6 (by kernel_rfl) (Ax_mk rfl rfl ?_)
                    refine O_appRow (T := Ty.i64) (bytes := 8) rfl rfl rfl (.tail _ (.tail _ (.head _))) hR317 (SrcT.row (.head _) hR690 rfl) hx685 rfl rfl rfl rfl rfl rfl rfl rfl (fun v691 rs692 hR693 => ⟨_, (.there (.there .here)), ⟨(Inc.cons (.tail _ (.tail _ (.tail _ (.head _)))) (Inc.cons (.tail _ (.tail _ (.tail _ (.tail _ (.head _))))) Inc.nil)), ?_⟩⟩)
                    refine Aw.shift (Shift.rem .here (Shift.done ⟨(Inc.cons (.tail _ (.tail _ (.head _))) (Inc.cons (.tail _ (.tail _ (.tail _ (.head _)))) Inc.nil)), ?_⟩))
                    refine Aw_q 7 rfl (by kernel_rfl) (by kernel_rfl) (by kernel_rfl) rfl rfl rfl (Qt_fieldAddr (m := 6) rfl rfl rfl rfl rfl) ?_
                    refine Aw_one 8 (by kernel_rfl) (Ax_mk rfl rfl ?_)
                    refine OpW_store (vs := [(sv v691)]) (all' := (Op.cells (Op.mk p1.kind p1.mode p1.channel p1.value p1.deadline x305 x684) v307 v691)) rfl rfl rfl rfl rfl (.there (.there (.there (.there .here)))) rfl rfl rfl ⟨(Inc.cons (.tail _ (.tail _ (.head _))) (Inc.cons (.tail _ (.tail _ (.tail _ (.head _)))) Inc.nil)), ?_⟩
                    refine Aw_done (by kernel_rfl) ?_
                    refine Shift.pull (.there .here) ?_
                    refine Shift.pull (.there (.there .here)) ?_
                    refine Shift.pull (.there (.there (.there (.there .here)))) ?_
                    refine Shift.pull (.there (.there (.there (.there .here)))) ?_
                    refine Shift.pull (.there (.there (.there (.there .here)))) ?_
                    refine Shift.done ?_
                    exact ⟨[(3, (.pointer (some ((⟨b303, 0, none⟩ : Addr).add 0)))), (4, (.pointer (some ((⟨b304, 0, none⟩ : Addr).add 0))))], ⟨rfl, rfl, trivial⟩, x680, ((Draw_Codes.mk p0.list x602 p0.value).value), p1.kind, p1.mode, p1.channel, p1.value, p1.deadline, v307, x305, v691, x684, rs692, rfl, rfl, H, hs310, hR693⟩
                  · skip
                    refine id (Ax_mk rfl rfl ?_)
                    refine OpW_call rfl Try.call29 rfl rfl (c_M_draw_Codes_Next bp0 (Draw_Codes.mk p0.list x602 p0.value) vp0_list 9 x679 x680 hx681 _ _ hs604) ?_
                    rintro _ _ _ - ⟨rfl, rfl, rfl⟩
                    refine ⟨(Inc.cons (.tail _ (.tail _ (.head _))) (Inc.cons (.tail _ (.tail _ (.tail _ (.head _)))) Inc.nil)), ?_⟩
                    refine Aw_q 4 rfl (by kernel_rfl) (by kernel_rfl) (by kernel_rfl) rfl rfl rfl (Qt_arith (e := wI (x679 - 1)) rfl rfl rfl rfl) ?_
                    refine Aw_two 1 5 (by kernel_rfl) ?_ ?_
                    · skip
                      refine id (Ax_mk rfl rfl (OpW_of_Qt rfl rfl (Qt_load1 (v := (sv v315)) rfl rfl rfl (Rdc.blk (.tail _ (.tail _ (.tail _ (.tail _ (.head _))))) rfl)) ⟨(Inc.cons (.tail _ (.tail _ (.head _))) (Inc.cons (.tail _ (.tail _ (.tail _ (.head _)))) Inc.nil)), ?_⟩))
                      refine Aw_one 5 (by kernel_rfl) (Ax_mk rfl rfl ?_)
                      have hR695 : RowR Ty.i64 K308 [[(.int .i64 (wI (x679 - 1)))]] [wI (x679 - 1)] := RowR.cons rfl (RowR.nil)
                      refine O_lit (T := Ty.i64) (rows := [[(.int .i64 (wI (x679 - 1)))]]) (l := [wI (x679 - 1)]) rfl rfl rfl hR695 rfl rfl rfl rfl rfl rfl rfl rfl (fun v694 => ⟨(Inc.cons (.tail _ (.tail _ (.tail _ (.head _)))) (Inc.cons (.tail _ (.tail _ (.tail _ (.tail _ (.head _))))) Inc.nil)), ?_⟩)
                      refine Aw_one 6 (by kernel_rfl) (Ax_mk rfl rfl ?_)
                      refine O_appRow (T := Ty.i64) (bytes := 8) rfl rfl rfl (.tail _ (.tail _ (.head _))) hR317 (SrcT.row (.head _) hR695 rfl) hx685 rfl rfl rfl rfl rfl rfl rfl rfl (fun v696 rs697 hR698 => ⟨_, (.there (.there .here)), ⟨(Inc.cons (.tail _ (.tail _ (.tail _ (.head _)))) (Inc.cons (.tail _ (.tail _ (.tail _ (.tail _ (.head _))))) Inc.nil)), ?_⟩⟩)
                      refine Aw.shift (Shift.rem .here (Shift.done ⟨(Inc.cons (.tail _ (.tail _ (.head _))) (Inc.cons (.tail _ (.tail _ (.tail _ (.head _)))) Inc.nil)), ?_⟩))
                      refine Aw_q 7 rfl (by kernel_rfl) (by kernel_rfl) (by kernel_rfl) rfl rfl rfl (Qt_fieldAddr (m := 6) rfl rfl rfl rfl rfl) ?_
                      refine Aw_one 8 (by kernel_rfl) (Ax_mk rfl rfl ?_)
                      refine OpW_store (vs := [(sv v696)]) (all' := (Op.cells (Op.mk p1.kind p1.mode p1.channel p1.value p1.deadline x305 x684) v307 v696)) rfl rfl rfl rfl rfl (.there (.there (.there (.there .here)))) rfl rfl rfl ⟨(Inc.cons (.tail _ (.tail _ (.head _))) (Inc.cons (.tail _ (.tail _ (.tail _ (.head _)))) Inc.nil)), ?_⟩
                      refine Aw_done (by kernel_rfl) ?_
                      refine Shift.pull (.there .here) ?_
                      refine Shift.pull (.there (.there .here)) ?_
                      refine Shift.pull (.there (.there (.there (.there .here)))) ?_
                      refine Shift.pull (.there (.there (.there (.there .here)))) ?_
                      refine Shift.pull (.there (.there (.there (.there .here)))) ?_
                      refine Shift.done ?_
                      exact ⟨[(3, (.pointer (some ((⟨b303, 0, none⟩ : Addr).add 0)))), (4, (.pointer (some ((⟨b304, 0, none⟩ : Addr).add 0))))], ⟨rfl, rfl, trivial⟩, x680, ((Draw_Codes.mk p0.list x602 p0.value).value), p1.kind, p1.mode, p1.channel, p1.value, p1.deadline, v307, x305, v696, x684, rs697, rfl, rfl, H, hs310, hR698⟩
                    · skip
                      refine id (Ax_mk rfl rfl ?_)
                      have hR700 : RowR Ty.i64 K308 [[(.int .i64 (wI (x679 - 1)))]] [wI (x679 - 1)] := RowR.cons rfl (RowR.nil)
                      refine O_lit (T := Ty.i64) (rows := [[(.int .i64 (wI (x679 - 1)))]]) (l := [wI (x679 - 1)]) rfl rfl rfl hR700 rfl rfl rfl rfl rfl rfl rfl rfl (fun v699 => ⟨(Inc.cons (.tail _ (.tail _ (.tail _ (.head _)))) (Inc.cons (.tail _ (.tail _ (.tail _ (.tail _ (.head _))))) Inc.nil)), ?_⟩)
                      refine Aw_one 1 (by kernel_rfl) (Ax_mk rfl rfl (OpW_of_Qt rfl rfl (Qt_load1 (v := (sv v315)) rfl rfl rfl (Rdc.blk (.tail _ (.tail _ (.tail _ (.tail _ (.tail _ (.head _)))))) rfl)) ⟨(Inc.cons (.tail _ (.tail _ (.tail _ (.head _)))) (Inc.cons (.tail _ (.tail _ (.tail _ (.tail _ (.head _))))) Inc.nil)), ?_⟩))
                      refine Aw_one 6 (by kernel_rfl) (Ax_mk rfl rfl ?_)
                      refine O_appRow (T := Ty.i64) (bytes := 8) rfl rfl rfl (.tail _ (.tail _ (.head _))) hR317 (SrcT.row (.head _) hR700 rfl) hx685 rfl rfl rfl rfl rfl rfl rfl rfl (fun v701 rs702 hR703 => ⟨_, (.there (.there .here)), ⟨(Inc.cons (.tail _ (.tail _ (.tail _ (.head _)))) (Inc.cons (.tail _ (.tail _ (.tail _ (.tail _ (.head _))))) Inc.nil)), ?_⟩⟩)
                      refine Aw.shift (Shift.rem .here (Shift.done ⟨(Inc.cons (.tail _ (.tail _ (.head _))) (Inc.cons (.tail _ (.tail _ (.tail _ (.head _)))) Inc.nil)), ?_⟩))
                      refine Aw_q 7 rfl (by kernel_rfl) (by kernel_rfl) (by kernel_rfl) rfl rfl rfl (Qt_fieldAddr (m := 6) rfl rfl rfl rfl rfl) ?_
                      refine Aw_one 8 (by kernel_rfl) (Ax_mk rfl rfl ?_)
                      refine OpW_store (vs := [(sv v701)]) (all' := (Op.cells (Op.mk p1.kind p1.mode p1.channel p1.value p1.deadline x305 x684) v307 v701)) rfl rfl rfl rfl rfl (.there (.there (.there (.there .here)))) rfl rfl rfl ⟨(Inc.cons (.tail _ (.tail _ (.head _))) (Inc.cons (.tail _ (.tail _ (.tail _ (.head _)))) Inc.nil)), ?_⟩
                      refine Aw_done (by kernel_rfl) ?_
                      refine Shift.pull (.there .here) ?_
                      refine Shift.pull (.there (.there .here)) ?_
                      refine Shift.pull (.there (.there (.there (.there .here)))) ?_
                      refine Shift.pull (.there (.there (.there (.there .here)))) ?_
                      refine Shift.pull (.there (.there (.there (.there .here)))) ?_
                      refine Shift.done ?_
                      exact ⟨[(3, (.pointer (some ((⟨b303, 0, none⟩ : Addr).add 0)))), (4, (.pointer (some ((⟨b304, 0, none⟩ : Addr).add 0))))], ⟨rfl, rfl, trivial⟩, x680, ((Draw_Codes.mk p0.list x602 p0.value).value), p1.kind, p1.mode, p1.channel, p1.value, p1.deadline, v307, x305, v701, x684, rs702, rfl, rfl, H, hs310, hR703⟩
                · intro h678
                  have h678 := dcd_f (h678)
                  have H := iff_ h678 H
                  refine Cw_seq ?_
                  refine Cw_region ?_
                  refine Ow_q rfl rfl rfl (Qt_cmp rfl rfl rfl) ?_
                  refine Ow_q rfl rfl rfl (Qt_assign rfl) ?_
                  refine Ow_nil ?_
                  refine Cw_cond rfl ?_ ?_
                  · intro h704
                    have h704 := dcd_t (h704)
                    have H := ift h704 H
                    refine Cw_seq ?_
                    refine Cw_region ?_
                    refine Ow_q rfl rfl rfl (Qt_fieldAddr (m := 6) rfl rfl rfl rfl rfl) ?_
                    refine Ow_q rfl rfl rfl (Qt_load1 (v := (sv v315)) rfl rfl rfl (Rdc.blk (.tail _ (.tail _ (.tail _ (.tail _ (.head _))))) rfl)) ?_
                    refine Ow_q rfl rfl rfl (Q_lenR (T := Ty.i64) (.tail _ (.head _)) hR317 rfl rfl rfl) ?_
                    refine Ow_q rfl rfl rfl (Qt_cmp rfl rfl rfl) ?_
                    refine Ow_nil ?_
                    refine Cw_cond rfl ?_ ?_
                    · intro h705
                      have h705 := dcd_t (h705)
                      have H := ift h705 H
                      obtain ⟨x706, x707, hx708, H⟩ := bnd2 H
                      obtain ⟨x709, x710, hx711, H⟩ := bnd2 H
                      obtain ⟨x712, hx713, H⟩ := bnd H
                      refine Cw_region_any [.tok 56 3 [(sv v307)], .blk b304 26 (Op.cells (Op.mk 0 0 0 0 0 [] []) nilS nilS)] rfl (Inc.cons (.tail _ (.tail _ (.head _))) (Inc.cons (.tail _ (.tail _ (.tail _ (.head _)))) Inc.nil)) ?_
                      refine Aw_q 0 rfl (by kernel_rfl) (by kernel_rfl) (by kernel_rfl) rfl rfl rfl (Qt_fieldAddr (m := 6) rfl rfl rfl rfl rfl) ?_
                      refine Aw_q 2 rfl (by kernel_rfl) (by kernel_rfl) (by kernel_rfl) rfl rfl rfl (Qt_move rfl) ?_
                      refine Aw_q 3 rfl (by kernel_rfl) (by kernel_rfl) (by kernel_rfl) rfl rfl rfl (Qt_fieldAddr (m := 6) rfl rfl rfl rfl rfl) ?_
                      refine Aw_q 7 rfl (by kernel_rfl) (by kernel_rfl) (by kernel_rfl) rfl rfl rfl (Qt_move rfl) ?_
                      refine Aw_two 1 4 (by kernel_rfl) ?_ ?_
                      · skip
                        refine id (Ax_mk rfl rfl (OpW_of_Qt rfl rfl (Qt_load1 (v := (sv v315)) rfl rfl rfl (Rdc.blk (.tail _ (.tail _ (.tail _ (.tail _ (.head _))))) rfl)) ⟨(Inc.cons (.tail _ (.tail _ (.head _))) (Inc.cons (.tail _ (.tail _ (.tail _ (.head _)))) Inc.nil)), ?_⟩))
                        refine Aw_one 4 (by kernel_rfl) (Ax_mk rfl rfl (OpW_of_Qt rfl rfl (Qt_load1 (v := (sv v315)) rfl rfl rfl (Rdc.blk (.tail _ (.tail _ (.tail _ (.tail _ (.head _))))) rfl)) ⟨(Inc.cons (.tail _ (.tail _ (.head _))) (Inc.cons (.tail _ (.tail _ (.tail _ (.head _)))) Inc.nil)), ?_⟩))
                        refine Aw_one 5 (by kernel_rfl) (Ax_mk rfl rfl (OpW_of_Qt rfl rfl (Q_lenR (T := Ty.i64) (.tail _ (.head _)) hR317 rfl rfl rfl) ⟨(Inc.cons (.tail _ (.tail _ (.head _))) (Inc.cons (.tail _ (.tail _ (.tail _ (.head _)))) Inc.nil)), ?_⟩))
                        refine Aw_one 6 (by kernel_rfl) (Ax_mk rfl rfl ?_)
                        refine OpW_call rfl Try.call29 rfl rfl (c_M_draw_Codes_Next bp0 (Draw_Codes.mk p0.list x602 p0.value) vp0_list (x312.length : Int) x706 x707 hx708 _ _ hs604) ?_
                        rintro _ _ _ - ⟨rfl, rfl, rfl⟩
                        refine ⟨(Inc.cons (.tail _ (.tail _ (.head _))) (Inc.cons (.tail _ (.tail _ (.tail _ (.head _)))) Inc.nil)), ?_⟩
                        refine Aw_one 8 (by kernel_rfl) (Ax_mk rfl rfl ?_)
                        refine OpW_call rfl Try.call37 rfl rfl (c_M_draw_Codes_Number bp0 (Draw_Codes.mk p0.list x707 ((Draw_Codes.mk p0.list x602 p0.value).value)) vp0_list x709 x710 hx711 _ _ hs604) ?_
                        rintro _ _ _ - ⟨rfl, rfl, rfl⟩
                        refine ⟨(Inc.cons (.tail _ (.tail _ (.head _))) (Inc.cons (.tail _ (.tail _ (.tail _ (.head _)))) Inc.nil)), ?_⟩
                        obtain ⟨r719, hq720, hr721⟩ := RowR.at hR317 hx713
                        obtain rfl := hr721
                        refine Aw_one 9 (by kernel_rfl) (Ax_mk rfl rfl (OpW_of_Qt rfl rfl (Q_ixR (T := Ty.i64) (.tail _ (.head _)) hR317 hq720 (getI_ix hx713).1 rfl rfl rfl rfl rfl) ⟨(Inc.cons (.tail _ (.tail _ (.head _))) (Inc.cons (.tail _ (.tail _ (.tail _ (.head _)))) Inc.nil)), ?_⟩))
                        refine Aw_one 10 (by kernel_rfl) (Ax_mk rfl rfl ?_)
                        refine O_storeR (T := Ty.i64) (vs := [(.int .i64 x709)]) (r' := [(.int .i64 x709)]) (l' := (setI x312 x706 x709)) rfl rfl rfl rfl rfl (.there .here) hR317 hq720 rfl rfl rfl (RowR.set x706 hR317 rfl) (fun hR722 => ⟨(Inc.cons (.tail _ (.tail _ (.head _))) (Inc.cons (.tail _ (.tail _ (.tail _ (.head _)))) Inc.nil)), ?_⟩)
                        have hE723 := set_at hq720 (v := [(.int .i64 x709)])
                        refine Aw_done (by kernel_rfl) ?_
                        refine Shift.pull (.there .here) ?_
                        refine Shift.pull (.there (.there .here)) ?_
                        refine Shift.pull (.there (.there (.there (.there .here)))) ?_
                        refine Shift.pull (.there (.there (.there (.there .here)))) ?_
                        refine Shift.pull (.there (.there (.there (.there .here)))) ?_
                        refine Shift.done ?_
                        exact ⟨[(3, (.pointer (some ((⟨b303, 0, none⟩ : Addr).add 0)))), (4, (.pointer (some ((⟨b304, 0, none⟩ : Addr).add 0))))], ⟨rfl, rfl, trivial⟩, x710, ((Draw_Codes.mk p0.list x707 ((Draw_Codes.mk p0.list x602 p0.value).value)).value), p1.kind, p1.mode, p1.channel, p1.value, p1.deadline, v307, x305, v315, (setI x312 x706 x709), (rs316.set x706.toNat [(.int .i64 x709)]), rfl, rfl, H, hs310, hR722⟩
                      · skip
                        refine id (Ax_mk rfl rfl (OpW_of_Qt rfl rfl (Qt_load1 (v := (sv v315)) rfl rfl rfl (Rdc.blk (.tail _ (.tail _ (.tail _ (.tail _ (.head _))))) rfl)) ⟨(Inc.cons (.tail _ (.tail _ (.head _))) (Inc.cons (.tail _ (.tail _ (.tail _ (.head _)))) Inc.nil)), ?_⟩))
                        refine Aw_two 1 5 (by kernel_rfl) ?_ ?_
                        · skip
                          refine id (Ax_mk rfl rfl (OpW_of_Qt rfl rfl (Qt_load1 (v := (sv v315)) rfl rfl rfl (Rdc.blk (.tail _ (.tail _ (.tail _ (.tail _ (.head _))))) rfl)) ⟨(Inc.cons (.tail _ (.tail _ (.head _))) (Inc.cons (.tail _ (.tail _ (.tail _ (.head _)))) Inc.nil)), ?_⟩))
                          refine Aw_one 5 (by kernel_rfl) (Ax_mk rfl rfl (OpW_of_Qt rfl rfl (Q_lenR (T := Ty.i64) (.tail _ (.head _)) hR317 rfl rfl rfl) ⟨(Inc.cons (.tail _ (.tail _ (.head _))) (Inc.cons (.tail _ (.tail _ (.tail _ (.head _)))) Inc.nil)), ?_⟩))
                          refine Aw_one 6 (by kernel_rfl) (Ax_mk rfl rfl ?_)
                          refine OpW_call rfl Try.call29 rfl rfl (c_M_draw_Codes_Next bp0 (Draw_Codes.mk p0.list x602 p0.value) vp0_list (x312.length : Int) x706 x707 hx708 _ _ hs604) ?_
                          rintro _ _ _ - ⟨rfl, rfl, rfl⟩
                          refine ⟨(Inc.cons (.tail _ (.tail _ (.head _))) (Inc.cons (.tail _ (.tail _ (.tail _ (.head _)))) Inc.nil)), ?_⟩
                          refine Aw_one 8 (by kernel_rfl) (Ax_mk rfl rfl ?_)
                          refine OpW_call rfl Try.call37 rfl rfl (c_M_draw_Codes_Number bp0 (Draw_Codes.mk p0.list x707 ((Draw_Codes.mk p0.list x602 p0.value).value)) vp0_list x709 x710 hx711 _ _ hs604) ?_
                          rintro _ _ _ - ⟨rfl, rfl, rfl⟩
                          refine ⟨(Inc.cons (.tail _ (.tail _ (.head _))) (Inc.cons (.tail _ (.tail _ (.tail _ (.head _)))) Inc.nil)), ?_⟩
                          obtain ⟨r724, hq725, hr726⟩ := RowR.at hR317 hx713
                          obtain rfl := hr726
                          refine Aw_one 9 (by kernel_rfl) (Ax_mk rfl rfl (OpW_of_Qt rfl rfl (Q_ixR (T := Ty.i64) (.tail _ (.head _)) hR317 hq725 (getI_ix hx713).1 rfl rfl rfl rfl rfl) ⟨(Inc.cons (.tail _ (.tail _ (.head _))) (Inc.cons (.tail _ (.tail _ (.tail _ (.head _)))) Inc.nil)), ?_⟩))
                          refine Aw_one 10 (by kernel_rfl) (Ax_mk rfl rfl ?_)
                          refine O_storeR (T := Ty.i64) (vs := [(.int .i64 x709)]) (r' := [(.int .i64 x709)]) (l' := (setI x312 x706 x709)) rfl rfl rfl rfl rfl (.there .here) hR317 hq725 rfl rfl rfl (RowR.set x706 hR317 rfl) (fun hR727 => ⟨(Inc.cons (.tail _ (.tail _ (.head _))) (Inc.cons (.tail _ (.tail _ (.tail _ (.head _)))) Inc.nil)), ?_⟩)
                          have hE728 := set_at hq725 (v := [(.int .i64 x709)])
                          refine Aw_done (by kernel_rfl) ?_
                          refine Shift.pull (.there .here) ?_
                          refine Shift.pull (.there (.there .here)) ?_
                          refine Shift.pull (.there (.there (.there (.there .here)))) ?_
                          refine Shift.pull (.there (.there (.there (.there .here)))) ?_
                          refine Shift.pull (.there (.there (.there (.there .here)))) ?_
                          refine Shift.done ?_
                          exact ⟨[(3, (.pointer (some ((⟨b303, 0, none⟩ : Addr).add 0)))), (4, (.pointer (some ((⟨b304, 0, none⟩ : Addr).add 0))))], ⟨rfl, rfl, trivial⟩, x710, ((Draw_Codes.mk p0.list x707 ((Draw_Codes.mk p0.list x602 p0.value).value)).value), p1.kind, p1.mode, p1.channel, p1.value, p1.deadline, v307, x305, v315, (setI x312 x706 x709), (rs316.set x706.toNat [(.int .i64 x709)]), rfl, rfl, H, hs310, hR727⟩
                        · skip
                          refine id (Ax_mk rfl rfl (OpW_of_Qt rfl rfl (Q_lenR (T := Ty.i64) (.tail _ (.head _)) hR317 rfl rfl rfl) ⟨(Inc.cons (.tail _ (.tail _ (.head _))) (Inc.cons (.tail _ (.tail _ (.tail _ (.head _)))) Inc.nil)), ?_⟩))
                          refine Aw_two 1 6 (by kernel_rfl) ?_ ?_
                          · skip
                            refine id (Ax_mk rfl rfl (OpW_of_Qt rfl rfl (Qt_load1 (v := (sv v315)) rfl rfl rfl (Rdc.blk (.tail _ (.tail _ (.tail _ (.tail _ (.head _))))) rfl)) ⟨(Inc.cons (.tail _ (.tail _ (.head _))) (Inc.cons (.tail _ (.tail _ (.tail _ (.head _)))) Inc.nil)), ?_⟩))
                            refine Aw_one 6 (by kernel_rfl) (Ax_mk rfl rfl ?_)
                            refine OpW_call rfl Try.call29 rfl rfl (c_M_draw_Codes_Next bp0 (Draw_Codes.mk p0.list x602 p0.value) vp0_list (x312.length : Int) x706 x707 hx708 _ _ hs604) ?_
                            rintro _ _ _ - ⟨rfl, rfl, rfl⟩
                            refine ⟨(Inc.cons (.tail _ (.tail _ (.head _))) (Inc.cons (.tail _ (.tail _ (.tail _ (.head _)))) Inc.nil)), ?_⟩
                            refine Aw_one 8 (by kernel_rfl) (Ax_mk rfl rfl ?_)
                            refine OpW_call rfl Try.call37 rfl rfl (c_M_draw_Codes_Number bp0 (Draw_Codes.mk p0.list x707 ((Draw_Codes.mk p0.list x602 p0.value).value)) vp0_list x709 x710 hx711 _ _ hs604) ?_
                            rintro _ _ _ - ⟨rfl, rfl, rfl⟩
                            refine ⟨(Inc.cons (.tail _ (.tail _ (.head _))) (Inc.cons (.tail _ (.tail _ (.tail _ (.head _)))) Inc.nil)), ?_⟩
                            obtain ⟨r729, hq730, hr731⟩ := RowR.at hR317 hx713
                            obtain rfl := hr731
                            refine Aw_one 9 (by kernel_rfl) (Ax_mk rfl rfl (OpW_of_Qt rfl rfl (Q_ixR (T := Ty.i64) (.tail _ (.head _)) hR317 hq730 (getI_ix hx713).1 rfl rfl rfl rfl rfl) ⟨(Inc.cons (.tail _ (.tail _ (.head _))) (Inc.cons (.tail _ (.tail _ (.tail _ (.head _)))) Inc.nil)), ?_⟩))
                            refine Aw_one 10 (by kernel_rfl) (Ax_mk rfl rfl ?_)
                            refine O_storeR (T := Ty.i64) (vs := [(.int .i64 x709)]) (r' := [(.int .i64 x709)]) (l' := (setI x312 x706 x709)) rfl rfl rfl rfl rfl (.there .here) hR317 hq730 rfl rfl rfl (RowR.set x706 hR317 rfl) (fun hR732 => ⟨(Inc.cons (.tail _ (.tail _ (.head _))) (Inc.cons (.tail _ (.tail _ (.tail _ (.head _)))) Inc.nil)), ?_⟩)
                            have hE733 := set_at hq730 (v := [(.int .i64 x709)])
                            refine Aw_done (by kernel_rfl) ?_
                            refine Shift.pull (.there .here) ?_
                            refine Shift.pull (.there (.there .here)) ?_
                            refine Shift.pull (.there (.there (.there (.there .here)))) ?_
                            refine Shift.pull (.there (.there (.there (.there .here)))) ?_
                            refine Shift.pull (.there (.there (.there (.there .here)))) ?_
                            refine Shift.done ?_
                            exact ⟨[(3, (.pointer (some ((⟨b303, 0, none⟩ : Addr).add 0)))), (4, (.pointer (some ((⟨b304, 0, none⟩ : Addr).add 0))))], ⟨rfl, rfl, trivial⟩, x710, ((Draw_Codes.mk p0.list x707 ((Draw_Codes.mk p0.list x602 p0.value).value)).value), p1.kind, p1.mode, p1.channel, p1.value, p1.deadline, v307, x305, v315, (setI x312 x706 x709), (rs316.set x706.toNat [(.int .i64 x709)]), rfl, rfl, H, hs310, hR732⟩
                          · skip
                            refine id (Ax_mk rfl rfl ?_)
                            refine OpW_call rfl Try.call29 rfl rfl (c_M_draw_Codes_Next bp0 (Draw_Codes.mk p0.list x602 p0.value) vp0_list (x312.length : Int) x706 x707 hx708 _ _ hs604) ?_
                            rintro _ _ _ - ⟨rfl, rfl, rfl⟩
                            refine ⟨(Inc.cons (.tail _ (.tail _ (.head _))) (Inc.cons (.tail _ (.tail _ (.tail _ (.head _)))) Inc.nil)), ?_⟩
                            refine Aw_two 1 8 (by kernel_rfl) ?_ ?_
                            · skip
                              refine id (Ax_mk rfl rfl (OpW_of_Qt rfl rfl (Qt_load1 (v := (sv v315)) rfl rfl rfl (Rdc.blk (.tail _ (.tail _ (.tail _ (.tail _ (.head _))))) rfl)) ⟨(Inc.cons (.tail _ (.tail _ (.head _))) (Inc.cons (.tail _ (.tail _ (.tail _ (.head _)))) Inc.nil)), ?_⟩))
                              refine Aw_one 8 (by kernel_rfl) (Ax_mk rfl rfl ?_)
                              refine OpW_call rfl Try.call37 rfl rfl (c_M_draw_Codes_Number bp0 (Draw_Codes.mk p0.list x707 ((Draw_Codes.mk p0.list x602 p0.value).value)) vp0_list x709 x710 hx711 _ _ hs604) ?_
                              rintro _ _ _ - ⟨rfl, rfl, rfl⟩
                              refine ⟨(Inc.cons (.tail _ (.tail _ (.head _))) (Inc.cons (.tail _ (.tail _ (.tail _ (.head _)))) Inc.nil)), ?_⟩
                              obtain ⟨r734, hq735, hr736⟩ := RowR.at hR317 hx713
                              obtain rfl := hr736
                              refine Aw_one 9 (by kernel_rfl) (Ax_mk rfl rfl (OpW_of_Qt rfl rfl (Q_ixR (T := Ty.i64) (.tail _ (.head _)) hR317 hq735 (getI_ix hx713).1 rfl rfl rfl rfl rfl) ⟨(Inc.cons (.tail _ (.tail _ (.head _))) (Inc.cons (.tail _ (.tail _ (.tail _ (.head _)))) Inc.nil)), ?_⟩))
                              refine Aw_one 10 (by kernel_rfl) (Ax_mk rfl rfl ?_)
                              refine O_storeR (T := Ty.i64) (vs := [(.int .i64 x709)]) (r' := [(.int .i64 x709)]) (l' := (setI x312 x706 x709)) rfl rfl rfl rfl rfl (.there .here) hR317 hq735 rfl rfl rfl (RowR.set x706 hR317 rfl) (fun hR737 => ⟨(Inc.cons (.tail _ (.tail _ (.head _))) (Inc.cons (.tail _ (.tail _ (.tail _ (.head _)))) Inc.nil)), ?_⟩)
                              have hE738 := set_at hq735 (v := [(.int .i64 x709)])
                              refine Aw_done (by kernel_rfl) ?_
                              refine Shift.pull (.there .here) ?_
                              refine Shift.pull (.there (.there .here)) ?_
                              refine Shift.pull (.there (.there (.there (.there .here)))) ?_
                              refine Shift.pull (.there (.there (.there (.there .here)))) ?_
                              refine Shift.pull (.there (.there (.there (.there .here)))) ?_
                              refine Shift.done ?_
                              exact ⟨[(3, (.pointer (some ((⟨b303, 0, none⟩ : Addr).add 0)))), (4, (.pointer (some ((⟨b304, 0, none⟩ : Addr).add 0))))], ⟨rfl, rfl, trivial⟩, x710, ((Draw_Codes.mk p0.list x707 ((Draw_Codes.mk p0.list x602 p0.value).value)).value), p1.kind, p1.mode, p1.channel, p1.value, p1.deadline, v307, x305, v315, (setI x312 x706 x709), (rs316.set x706.toNat [(.int .i64 x709)]), rfl, rfl, H, hs310, hR737⟩
                            · skip
                              refine id (Ax_mk rfl rfl ?_)
                              refine OpW_call rfl Try.call37 rfl rfl (c_M_draw_Codes_Number bp0 (Draw_Codes.mk p0.list x707 ((Draw_Codes.mk p0.list x602 p0.value).value)) vp0_list x709 x710 hx711 _ _ hs604) ?_
                              rintro _ _ _ - ⟨rfl, rfl, rfl⟩
                              refine ⟨(Inc.cons (.tail _ (.tail _ (.head _))) (Inc.cons (.tail _ (.tail _ (.tail _ (.head _)))) Inc.nil)), ?_⟩
                              refine Aw_one 1 (by kernel_rfl) (Ax_mk rfl rfl (OpW_of_Qt rfl rfl (Qt_load1 (v := (sv v315)) rfl rfl rfl (Rdc.blk (.tail _ (.tail _ (.tail _ (.tail _ (.head _))))) rfl)) ⟨(Inc.cons (.tail _ (.tail _ (.head _))) (Inc.cons (.tail _ (.tail _ (.tail _ (.head _)))) Inc.nil)), ?_⟩))
                              obtain ⟨r739, hq740, hr741⟩ := RowR.at hR317 hx713
                              obtain rfl := hr741
                              refine Aw_one 9 (by kernel_rfl) (Ax_mk rfl rfl (OpW_of_Qt rfl rfl (Q_ixR (T := Ty.i64) (.tail _ (.head _)) hR317 hq740 (getI_ix hx713).1 rfl rfl rfl rfl rfl) ⟨(Inc.cons (.tail _ (.tail _ (.head _))) (Inc.cons (.tail _ (.tail _ (.tail _ (.head _)))) Inc.nil)), ?_⟩))
                              refine Aw_one 10 (by kernel_rfl) (Ax_mk rfl rfl ?_)
                              refine O_storeR (T := Ty.i64) (vs := [(.int .i64 x709)]) (r' := [(.int .i64 x709)]) (l' := (setI x312 x706 x709)) rfl rfl rfl rfl rfl (.there .here) hR317 hq740 rfl rfl rfl (RowR.set x706 hR317 rfl) (fun hR742 => ⟨(Inc.cons (.tail _ (.tail _ (.head _))) (Inc.cons (.tail _ (.tail _ (.tail _ (.head _)))) Inc.nil)), ?_⟩)
                              have hE743 := set_at hq740 (v := [(.int .i64 x709)])
                              refine Aw_done (by kernel_rfl) ?_
                              refine Shift.pull (.there .here) ?_
                              refine Shift.pull (.there (.there .here)) ?_
                              refine Shift.pull (.there (.there (.there (.there .here)))) ?_
                              refine Shift.pull (.there (.there (.there (.there .here)))) ?_
                              refine Shift.pull (.there (.there (.there (.there .here)))) ?_
                              refine Shift.done ?_
                              exact ⟨[(3, (.pointer (some ((⟨b303, 0, none⟩ : Addr).add 0)))), (4, (.pointer (some ((⟨b304, 0, none⟩ : Addr).add 0))))], ⟨rfl, rfl, trivial⟩, x710, ((Draw_Codes.mk p0.list x707 ((Draw_Codes.mk p0.list x602 p0.value).value)).value), p1.kind, p1.mode, p1.channel, p1.value, p1.deadline, v307, x305, v315, (setI x312 x706 x709), (rs316.set x706.toNat [(.int .i64 x709)]), rfl, rfl, H, hs310, hR742⟩
                    · intro h705
                      have h705 := dcd_f (h705)
                      have H := iff_ h705 H
                      refine Cw_skip ?_
                      refine Shift.pull (.there .here) ?_
                      refine Shift.pull (.there (.there .here)) ?_
                      refine Shift.pull (.there (.there (.there (.there .here)))) ?_
                      refine Shift.pull (.there (.there (.there (.there .here)))) ?_
                      refine Shift.pull (.there (.there (.there (.there .here)))) ?_
                      refine Shift.done ?_
                      exact ⟨[(3, (.pointer (some ((⟨b303, 0, none⟩ : Addr).add 0)))), (4, (.pointer (some ((⟨b304, 0, none⟩ : Addr).add 0))))], ⟨rfl, rfl, trivial⟩, x602, p0.value, p1.kind, p1.mode, p1.channel, p1.value, p1.deadline, v307, x305, v315, x312, rs316, rfl, rfl, H, hs310, hR317⟩
                  · intro h704
                    have h704 := dcd_f (h704)
                    have H := iff_ h704 H
                    refine Cw_seq ?_
                    refine Cw_region ?_
                    refine Ow_q rfl rfl rfl (Qt_cmp rfl rfl rfl) ?_
                    refine Ow_q rfl rfl rfl (Qt_assign rfl) ?_
                    refine Ow_nil ?_
                    refine Cw_cond rfl ?_ ?_
                    · intro h744
                      have h744 := dcd_t (h744)
                      have H := ift h744 H
                      refine Cw_block ?_
                      refine Cw_loopM (fun n875 env' K' G' => ∃ (i866 : Int) (i867 : Int) (v868 : SV) (l869 : List Case) (v871 : SV) (l872 : List Int) (rs874 : List (List Value)), [(0, (.pointer (some ((⟨bp0, 0, none⟩ : Addr).add 0)))), (3, (.pointer (some ((⟨b303, 0, none⟩ : Addr).add 0)))), (4, (.pointer (some ((⟨b304, 0, none⟩ : Addr).add 0))))] = env' ∧ (.blk bp0 60 (Draw_Codes.cells (Draw_Codes.mk p0.list i866 i867) vp0_list)) :: (.blk b304 26 (Op.cells (Op.mk 0 0 0 0 0 [] []) nilS nilS)) :: (.blk b303 26 (Op.cells (Op.mk p1.kind p1.mode p1.channel p1.value p1.deadline l869 l872) v868 v871)) :: (.tok 56 3 [(sv v868)]) :: (.row (sv v871) 3 1 rs874.flatten) :: G = G' ∧ lp4 (M_draw_Codes_Spoil_L1 p0 p1) n875 i866 i867 l869 l872 = some (y0, z0_at_, z0_value) ∧ Slr TyCase K' (sv v868) l869 ∧ RowR Ty.i64 K' rs874 l872) BIG ?_ ?_
                      · skip
                        refine Shift.pull (.there .here) ?_
                        refine Shift.pull (.there (.there .here)) ?_
                        refine Shift.pull (.there (.there (.there (.there .here)))) ?_
                        refine Shift.pull (.there (.there (.there (.there .here)))) ?_
                        refine Shift.pull (.there (.there (.there (.there .here)))) ?_
                        refine Shift.done ?_
                        exact ⟨[(0, (.pointer (some ((⟨bp0, 0, none⟩ : Addr).add 0)))), (3, (.pointer (some ((⟨b303, 0, none⟩ : Addr).add 0)))), (4, (.pointer (some ((⟨b304, 0, none⟩ : Addr).add 0))))], ⟨rfl, rfl, rfl, trivial⟩, x602, p0.value, v307, x305, v315, x312, rs316, rfl, rfl, H, hs310, hR317⟩
                      rintro n875 _ K876 _ hK877 ⟨i866, i867, v868, l869, v871, l872, rs874, rfl, rfl, H, hs870, hR873⟩
                      obtain ⟨m878, k879, rfl, hkk880, H⟩ := lps4 H
                      unfold M_draw_Codes_Spoil_L1 at H
                      refine Cw_seq ?_
                      refine Cw_seq ?_
                      obtain ⟨x887, x888, hx889, H⟩ := bnd2 H
                      refine Cw_region_any [.blk b304 26 (Op.cells (Op.mk 0 0 0 0 0 [] []) nilS nilS), .blk b303 26 (Op.cells (Op.mk p1.kind p1.mode p1.channel p1.value p1.deadline l869 l872) v868 v871), .tok 56 3 [(sv v868)], .row (sv v871) 3 1 rs874.flatten] rfl (Inc.cons (.tail _ (.head _)) (Inc.cons (.tail _ (.tail _ (.head _))) (Inc.cons (.tail _ (.tail _ (.tail _ (.head _)))) (Inc.cons (.tail _ (.tail _ (.tail _ (.tail _ (.head _))))) Inc.nil)))) ?_
                      refine Aw_q 0 rfl (by kernel_rfl) (by kernel_rfl) (by kernel_rfl) rfl rfl rfl (Qt_fieldAddr (m := 5) rfl rfl rfl rfl rfl) ?_
                      refine Aw_q 1 rfl (by kernel_rfl) (by kernel_rfl) (by kernel_rfl) rfl rfl rfl (Qt_load1 (v := (sv v868)) rfl rfl rfl (Rdc.blk (.tail _ (.head _)) rfl)) ?_
                      refine Aw_q 2 rfl (by kernel_rfl) (by kernel_rfl) (by kernel_rfl) rfl rfl rfl (Q_len (T := TyCase) hs870 rfl rfl) ?_
                      refine Aw_q 3 rfl (by kernel_rfl) (by kernel_rfl) (by kernel_rfl) rfl rfl rfl (Qt_move rfl) ?_
                      refine Aw_one 4 (by kernel_rfl) (Ax_mk rfl rfl ?_)
                      have hs891 := (hs604).mono hK877
                      refine OpW_call rfl Try.call29 rfl rfl (c_M_draw_Codes_Next bp0 (Draw_Codes.mk p0.list i866 i867) vp0_list 2 x887 x888 hx889 _ _ hs891) ?_
                      rintro _ _ _ - ⟨rfl, rfl, rfl⟩
                      refine ⟨(Inc.cons (.tail _ (.head _)) (Inc.cons (.tail _ (.tail _ (.head _))) (Inc.cons (.tail _ (.tail _ (.tail _ (.head _)))) (Inc.cons (.tail _ (.tail _ (.tail _ (.tail _ (.head _))))) Inc.nil)))), ?_⟩
                      refine Aw_q 5 rfl (by kernel_rfl) (by kernel_rfl) (by kernel_rfl) rfl rfl rfl (Qt_arith (e := wI (6 + x887)) rfl rfl rfl rfl) ?_
                      refine Aw_q 6 rfl (by kernel_rfl) (by kernel_rfl) (by kernel_rfl) rfl rfl rfl (Qt_cmp rfl rfl rfl) ?_
                      refine Aw_done (by kernel_rfl) ?_
                      refine Cw_cond rfl ?_ ?_
                      · intro h892
                        have h892 := dcd_t (h892)
                        have H := ift h892 H
                        refine Cw_skip ?_
                        refine Cw_block ?_
                        refine Cw_seq ?_
                        refine Cw_region ?_
                        refine Ow_q rfl rfl rfl (Qt_fieldAddr (m := 5) rfl rfl rfl rfl rfl) ?_
                        refine Ow_q rfl rfl rfl (Qt_load1 (v := (sv v868)) rfl rfl rfl (Rdc.blk (.tail _ (.tail _ (.head _))) rfl)) ?_
                        refine Ow_q rfl rfl rfl (Qt_build (cs := (Case.cells (Case.mk false 0 0))) rfl rfl rfl rfl rfl rfl) ?_
                        have hR894 : RowR TyCase K876 [(Case.cells (Case.mk false 0 0))] [(Case.mk false 0 0)] := RowR.cons rfl (RowR.nil)
                        refine Ow_cons rfl (O_lit (T := TyCase) (rows := [(Case.cells (Case.mk false 0 0))]) (l := [(Case.mk false 0 0)]) rfl rfl rfl hR894 rfl rfl rfl rfl rfl rfl rfl rfl (fun v893 => ?_))
                        obtain ⟨x895, hx896, H⟩ := bnd H
                        refine Ow_cons rfl (O_appTok (T := TyCase) (bytes := 24) (q := 0) rfl rfl rfl hs870 (.tail _ (.tail _ (.tail _ (.tail _ (.head _))))) rfl (SrcT.row (.head _) hR894 rfl) hx896 rfl rfl rfl rfl rfl rfl rfl rfl (fun v897 K898 hK899 hs900 => ⟨_, (.there (.there (.there (.there .here)))), ?_⟩))
                        refine Ow.shift (Shift.rem .here (Shift.done ?_))
                        refine Ow_q rfl rfl rfl (Qt_fieldAddr (m := 5) rfl rfl rfl rfl rfl) ?_
                        refine Ow_cons rfl (OpW_store (vs := [(sv v897)]) (all' := (Op.cells (Op.mk p1.kind p1.mode p1.channel p1.value p1.deadline x895 l872) v897 v871)) rfl rfl rfl rfl rfl (.there (.there .here)) rfl rfl rfl ?_)
                        refine Ow_nil ?_
                        obtain ⟨x901, x902, hx903, H⟩ := bnd2 H
                        obtain ⟨x907, hx908, H⟩ := bnd H
                        refine Cw_region_any [.blk b304 26 (Op.cells (Op.mk 0 0 0 0 0 [] []) nilS nilS), .tok 56 3 [(sv v897)]] rfl (Inc.cons (.tail _ (.head _)) (Inc.cons (.tail _ (.tail _ (.tail _ (.head _)))) Inc.nil)) ?_
                        refine Aw_q 0 rfl (by kernel_rfl) (by kernel_rfl) (by kernel_rfl) rfl rfl rfl (Qt_fieldAddr (m := 6) rfl rfl rfl rfl rfl) ?_
                        refine Aw_q 2 rfl (by kernel_rfl) (by kernel_rfl) (by kernel_rfl) rfl rfl rfl (Qt_move rfl) ?_
                        refine Aw_q 3 rfl (by kernel_rfl) (by kernel_rfl) (by kernel_rfl) rfl rfl rfl (Qt_fieldAddr (m := 5) rfl rfl rfl rfl rfl) ?_
                        refine Aw_two 1 4 (by kernel_rfl) ?_ ?_
                        · skip
                          refine id (Ax_mk rfl rfl (OpW_of_Qt rfl rfl (Qt_load1 (v := (sv v871)) rfl rfl rfl (Rdc.blk (.tail _ (.tail _ (.head _))) rfl)) ⟨(Inc.cons (.tail _ (.head _)) (Inc.cons (.tail _ (.tail _ (.tail _ (.head _)))) Inc.nil)), ?_⟩))
                          refine Aw_one 4 (by kernel_rfl) (Ax_mk rfl rfl (OpW_of_Qt rfl rfl (Qt_load1 (v := (sv v897)) rfl rfl rfl (Rdc.blk (.tail _ (.tail _ (.head _))) rfl)) ⟨(Inc.cons (.tail _ (.head _)) (Inc.cons (.tail _ (.tail _ (.tail _ (.head _)))) Inc.nil)), ?_⟩))
                          refine Aw_q 5 rfl (by kernel_rfl) (by kernel_rfl) (by kernel_rfl) rfl rfl rfl (Q_len (T := TyCase) hs900 rfl rfl) ?_
                          refine Aw_one 6 (by kernel_rfl) (Ax_mk rfl rfl ?_)
                          have hs913 := (hs891).mono hK899
                          refine OpW_call rfl Try.call29 rfl rfl (c_M_draw_Codes_Next bp0 (Draw_Codes.mk p0.list x888 ((Draw_Codes.mk p0.list i866 i867).value)) vp0_list (x895.length : Int) x901 x902 hx903 _ _ hs913) ?_
                          rintro _ _ _ - ⟨rfl, rfl, rfl⟩
                          refine ⟨(Inc.cons (.tail _ (.head _)) (Inc.cons (.tail _ (.tail _ (.tail _ (.head _)))) Inc.nil)), ?_⟩
                          refine Aw_one 7 (by kernel_rfl) (Ax_mk rfl rfl ?_)
                          have hR915 : RowR Ty.i64 K898 [[(.int .i64 x901)]] [x901] := RowR.cons rfl (RowR.nil)
                          refine O_lit (T := Ty.i64) (rows := [[(.int .i64 x901)]]) (l := [x901]) rfl rfl rfl hR915 rfl rfl rfl rfl rfl rfl rfl rfl (fun v914 => ⟨(Inc.cons (.tail _ (.tail _ (.head _))) (Inc.cons (.tail _ (.tail _ (.tail _ (.tail _ (.head _))))) Inc.nil)), ?_⟩)
                          refine Aw_one 8 (by kernel_rfl) (Ax_mk rfl rfl ?_)
                          have hs919 := (hR873).mono hK899
                          refine O_appRow (T := Ty.i64) (bytes := 8) rfl rfl rfl (.tail _ (.tail _ (.tail _ (.tail _ (.tail _ (.head _)))))) hs919 (SrcT.row (.head _) hR915 rfl) hx908 rfl rfl rfl rfl rfl rfl rfl rfl (fun v916 rs917 hR918 => ⟨_, (.there (.there (.there (.there (.there .here))))), ⟨(Inc.cons (.tail _ (.tail _ (.head _))) (Inc.cons (.tail _ (.tail _ (.tail _ (.tail _ (.head _))))) Inc.nil)), ?_⟩⟩)
                          refine Aw.shift (Shift.rem .here (Shift.done ⟨(Inc.cons (.tail _ (.head _)) (Inc.cons (.tail _ (.tail _ (.tail _ (.head _)))) Inc.nil)), ?_⟩))
                          refine Aw_q 9 rfl (by kernel_rfl) (by kernel_rfl) (by kernel_rfl) rfl rfl rfl (Qt_fieldAddr (m := 6) rfl rfl rfl rfl rfl) ?_
                          refine Aw_one 10 (by kernel_rfl) (Ax_mk rfl rfl ?_)
                          refine OpW_store (vs := [(sv v916)]) (all' := (Op.cells (Op.mk p1.kind p1.mode p1.channel p1.value p1.deadline x895 x907) v897 v916)) rfl rfl rfl rfl rfl (.there (.there .here)) rfl rfl rfl ⟨(Inc.cons (.tail _ (.head _)) (Inc.cons (.tail _ (.tail _ (.tail _ (.head _)))) Inc.nil)), ?_⟩
                          refine Aw_done (by kernel_rfl) ?_
                          refine Shift.pull (.there (.there (.there (.there .here)))) ?_
                          refine Shift.pull (.there (.there (.there (.there .here)))) ?_
                          refine Shift.pull (.there (.there (.there (.there .here)))) ?_
                          refine Shift.pull (.there (.there (.there (.there .here)))) ?_
                          refine Shift.pull (.there (.there (.there (.there .here)))) ?_
                          refine Shift.done ?_
                          exact ⟨[(0, (.pointer (some ((⟨bp0, 0, none⟩ : Addr).add 0)))), (3, (.pointer (some ((⟨b303, 0, none⟩ : Addr).add 0)))), (4, (.pointer (some ((⟨b304, 0, none⟩ : Addr).add 0))))], ⟨rfl, rfl, rfl, trivial⟩, _, Nat.lt_succ_self _, x902, ((Draw_Codes.mk p0.list x888 ((Draw_Codes.mk p0.list i866 i867).value)).value), v897, x895, v916, x907, rs917, rfl, rfl, (hkk880 ▸ H), hs900, hR918⟩
                        · skip
                          refine id (Ax_mk rfl rfl (OpW_of_Qt rfl rfl (Qt_load1 (v := (sv v897)) rfl rfl rfl (Rdc.blk (.tail _ (.tail _ (.head _))) rfl)) ⟨(Inc.cons (.tail _ (.head _)) (Inc.cons (.tail _ (.tail _ (.tail _ (.head _)))) Inc.nil)), ?_⟩))
                          refine Aw_q 5 rfl (by kernel_rfl) (by kernel_rfl) (by kernel_rfl) rfl rfl rfl (Q_len (T := TyCase) hs900 rfl rfl) ?_
                          refine Aw_two 1 6 (by kernel_rfl) ?_ ?_
                          · skip
                            refine id (Ax_mk rfl rfl (OpW_of_Qt rfl rfl (Qt_load1 (v := (sv v871)) rfl rfl rfl (Rdc.blk (.tail _ (.tail _ (.head _))) rfl)) ⟨(Inc.cons (.tail _ (.head _)) (Inc.cons (.tail _ (.tail _ (.tail _ (.head _)))) Inc.nil)), ?_⟩))
                            refine Aw_one 6 (by kernel_rfl) (Ax_mk rfl rfl ?_)
                            have hs920 := (hs891).mono hK899
                            refine OpW_call rfl Try.call29 rfl rfl (c_M_draw_Codes_Next bp0 (Draw_Codes.mk p0.list x888 ((Draw_Codes.mk p0.list i866 i867).value)) vp0_list (x895.length : Int) x901 x902 hx903 _ _ hs920) ?_
                            rintro _ _ _ - ⟨rfl, rfl, rfl⟩
                            refine ⟨(Inc.cons (.tail _ (.head _)) (Inc.cons (.tail _ (.tail _ (.tail _ (.head _)))) Inc.nil)), ?_⟩
                            refine Aw_one 7 (by kernel_rfl) (Ax_mk rfl rfl ?_)
                            have hR922 : RowR Ty.i64 K898 [[(.int .i64 x901)]] [x901] := RowR.cons rfl (RowR.nil)
                            refine O_lit (T := Ty.i64) (rows := [[(.int .i64 x901)]]) (l := [x901]) rfl rfl rfl hR922 rfl rfl rfl rfl rfl rfl rfl rfl (fun v921 => ⟨(Inc.cons (.tail _ (.tail _ (.head _))) (Inc.cons (.tail _ (.tail _ (.tail _ (.tail _ (.head _))))) Inc.nil)), ?_⟩)
                            refine Aw_one 8 (by kernel_rfl) (Ax_mk rfl rfl ?_)
                            have hs926 := (hR873).mono hK899
                            refine O_appRow (T := Ty.i64) (bytes := 8) rfl rfl rfl (.tail _ (.tail _ (.tail _ (.tail _ (.tail _ (.head _)))))) hs926 (SrcT.row (.head _) hR922 rfl) hx908 rfl rfl rfl rfl rfl rfl rfl rfl (fun v923 rs924 hR925 => ⟨_, (.there (.there (.there (.there (.there .here))))), ⟨(Inc.cons (.tail _ (.tail _ (.head _))) (Inc.cons (.tail _ (.tail _ (.tail _ (.tail _ (.head _))))) Inc.nil)), ?_⟩⟩)
                            refine Aw.shift (Shift.rem .here (Shift.done ⟨(Inc.cons (.tail _ (.head _)) (Inc.cons (.tail _ (.tail _ (.tail _ (.head _)))) Inc.nil)), ?_⟩))
                            refine Aw_q 9 rfl (by kernel_rfl) (by kernel_rfl) (by kernel_rfl) rfl rfl rfl (Qt_fieldAddr (m := 6) rfl rfl rfl rfl rfl) ?_
                            refine Aw_one 10 (by kernel_rfl) (Ax_mk rfl rfl ?_)
                            refine OpW_store (vs := [(sv v923)]) (all' := (Op.cells (Op.mk p1.kind p1.mode p1.channel p1.value p1.deadline x895 x907) v897 v923)) rfl rfl rfl rfl rfl (.there (.there .here)) rfl rfl rfl ⟨(Inc.cons (.tail _ (.head _)) (Inc.cons (.tail _ (.tail _ (.tail _ (.head _)))) Inc.nil)), ?_⟩
                            refine Aw_done (by kernel_rfl) ?_
                            refine Shift.pull (.there (.there (.there (.there .here)))) ?_
                            refine Shift.pull (.there (.there (.there (.there .here)))) ?_
                            refine Shift.pull (.there (.there (.there (.there .here)))) ?_
                            refine Shift.pull (.there (.there (.there (.there .here)))) ?_
                            refine Shift.pull (.there (.there (.there (.there .here)))) ?_
                            refine Shift.done ?_
                            exact ⟨[(0, (.pointer (some ((⟨bp0, 0, none⟩ : Addr).add 0)))), (3, (.pointer (some ((⟨b303, 0, none⟩ : Addr).add 0)))), (4, (.pointer (some ((⟨b304, 0, none⟩ : Addr).add 0))))], ⟨rfl, rfl, rfl, trivial⟩, _, Nat.lt_succ_self _, x902, ((Draw_Codes.mk p0.list x888 ((Draw_Codes.mk p0.list i866 i867).value)).value), v897, x895, v923, x907, rs924, rfl, rfl, (hkk880 ▸ H), hs900, hR925⟩
                          · skip
                            refine id (Ax_mk rfl rfl ?_)
                            have hs927 := (hs891).mono hK899
                            refine OpW_call rfl Try.call29 rfl rfl (c_M_draw_Codes_Next bp0 (Draw_Codes.mk p0.list x888 ((Draw_Codes.mk p0.list i866 i867).value)) vp0_list (x895.length : Int) x901 x902 hx903 _ _ hs927) ?_
                            rintro _ _ _ - ⟨rfl, rfl, rfl⟩
                            refine ⟨(Inc.cons (.tail _ (.head _)) (Inc.cons (.tail _ (.tail _ (.tail _ (.head _)))) Inc.nil)), ?_⟩
                            refine Aw_two 1 7 (by kernel_rfl) ?_ ?_
                            · skip
                              refine id (Ax_mk rfl rfl (OpW_of_Qt rfl rfl (Qt_load1 (v := (sv v871)) rfl rfl rfl (Rdc.blk (.tail _ (.tail _ (.head _))) rfl)) ⟨(Inc.cons (.tail _ (.head _)) (Inc.cons (.tail _ (.tail _ (.tail _ (.head _)))) Inc.nil)), ?_⟩))
                              refine Aw_one 7 (by kernel_rfl) (Ax_mk rfl rfl ?_)
                              have hR929 : RowR Ty.i64 K898 [[(.int .i64 x901)]] [x901] := RowR.cons rfl (RowR.nil)
                              refine O_lit (T := Ty.i64) (rows := [[(.int .i64 x901)]]) (l := [x901]) rfl rfl rfl hR929 rfl rfl rfl rfl rfl rfl rfl rfl (fun v928 => ⟨(Inc.cons (.tail _ (.tail _ (.head _))) (Inc.cons (.tail _ (.tail _ (.tail _ (.tail _ (.head _))))) Inc.nil)), ?_⟩)
                              refine Aw_one 8 (by kernel_rfl) (Ax_mk rfl rfl ?_)
                              have hs933 := (hR873).mono hK899
                              refine O_appRow (T := Ty.i64) (bytes := 8) rfl rfl rfl (.tail _ (.tail _ (.tail _ (.tail _ (.tail _ (.head _)))))) hs933 (SrcT.row (.head _) hR929 rfl) hx908 rfl rfl rfl rfl rfl rfl rfl rfl (fun v930 rs931 hR932 => ⟨_, (.there (.there (.there (.there (.there .here))))), ⟨(Inc.cons (.tail _ (.tail _ (.head _))) (Inc.cons (.tail _ (.tail _ (.tail _ (.tail _ (.head _))))) Inc.nil)), ?_⟩⟩)
                              refine Aw.shift (Shift.rem .here (Shift.done ⟨(Inc.cons (.tail _ (.head _)) (Inc.cons (.tail _ (.tail _ (.tail _ (.head _)))) Inc.nil)), ?_⟩))
                              refine Aw_q 9 rfl (by kernel_rfl) (by kernel_rfl) (by kernel_rfl) rfl rfl rfl (Qt_fieldAddr (m := 6) rfl rfl rfl rfl rfl) ?_
                              refine Aw_one 10 (by kernel_rfl) (Ax_mk rfl rfl ?_)
                              refine OpW_store (vs := [(sv v930)]) (all' := (Op.cells (Op.mk p1.kind p1.mode p1.channel p1.value p1.deadline x895 x907) v897 v930)) rfl rfl rfl rfl rfl (.there (.there .here)) rfl rfl rfl ⟨(Inc.cons (.tail _ (.head _)) (Inc.cons (.tail _ (.tail _ (.tail _ (.head _)))) Inc.nil)), ?_⟩
                              refine Aw_done (by kernel_rfl) ?_
                              refine Shift.pull (.there (.there (.there (.there .here)))) ?_
                              refine Shift.pull (.there (.there (.there (.there .here)))) ?_
                              refine Shift.pull (.there (.there (.there (.there .here)))) ?_
                              refine Shift.pull (.there (.there (.there (.there .here)))) ?_
                              refine Shift.pull (.there (.there (.there (.there .here)))) ?_
                              refine Shift.done ?_
                              exact ⟨[(0, (.pointer (some ((⟨bp0, 0, none⟩ : Addr).add 0)))), (3, (.pointer (some ((⟨b303, 0, none⟩ : Addr).add 0)))), (4, (.pointer (some ((⟨b304, 0, none⟩ : Addr).add 0))))], ⟨rfl, rfl, rfl, trivial⟩, _, Nat.lt_succ_self _, x902, ((Draw_Codes.mk p0.list x888 ((Draw_Codes.mk p0.list i866 i867).value)).value), v897, x895, v930, x907, rs931, rfl, rfl, (hkk880 ▸ H), hs900, hR932⟩
                            · skip
                              refine id (Ax_mk rfl rfl ?_)
                              have hR935 : RowR Ty.i64 K898 [[(.int .i64 x901)]] [x901] := RowR.cons rfl (RowR.nil)
                              refine O_lit (T := Ty.i64) (rows := [[(.int .i64 x901)]]) (l := [x901]) rfl rfl rfl hR935 rfl rfl rfl rfl rfl rfl rfl rfl (fun v934 => ⟨(Inc.cons (.tail _ (.tail _ (.head _))) (Inc.cons (.tail _ (.tail _ (.tail _ (.tail _ (.head _))))) Inc.nil)), ?_⟩)
                              refine Aw_one 1 (by kernel_rfl) (Ax_mk rfl rfl (OpW_of_Qt rfl rfl (Qt_load1 (v := (sv v871)) rfl rfl rfl (Rdc.blk (.tail _ (.tail _ (.tail _ (.head _)))) rfl)) ⟨(Inc.cons (.tail _ (.tail _ (.head _))) (Inc.cons (.tail _ (.tail _ (.tail _ (.tail _ (.head _))))) Inc.nil)), ?_⟩))
                              refine Aw_one 8 (by kernel_rfl) (Ax_mk rfl rfl ?_)
                              have hs939 := (hR873).mono hK899
                              refine O_appRow (T := Ty.i64) (bytes := 8) rfl rfl rfl (.tail _ (.tail _ (.tail _ (.tail _ (.tail _ (.head _)))))) hs939 (SrcT.row (.head _) hR935 rfl) hx908 rfl rfl rfl rfl rfl rfl rfl rfl (fun v936 rs937 hR938 => ⟨_, (.there (.there (.there (.there (.there .here))))), ⟨(Inc.cons (.tail _ (.tail _ (.head _))) (Inc.cons (.tail _ (.tail _ (.tail _ (.tail _ (.head _))))) Inc.nil)), ?_⟩⟩)
                              refine Aw.shift (Shift.rem .here (Shift.done ⟨(Inc.cons (.tail _ (.head _)) (Inc.cons (.tail _ (.tail _ (.tail _ (.head _)))) Inc.nil)), ?_⟩))
                              refine Aw_q 9 rfl (by kernel_rfl) (by kernel_rfl) (by kernel_rfl) rfl rfl rfl (Qt_fieldAddr (m := 6) rfl rfl rfl rfl rfl) ?_
                              refine Aw_one 10 (by kernel_rfl) (Ax_mk rfl rfl ?_)
                              refine OpW_store (vs := [(sv v936)]) (all' := (Op.cells (Op.mk p1.kind p1.mode p1.channel p1.value p1.deadline x895 x907) v897 v936)) rfl rfl rfl rfl rfl (.there (.there .here)) rfl rfl rfl ⟨(Inc.cons (.tail _ (.head _)) (Inc.cons (.tail _ (.tail _ (.tail _ (.head _)))) Inc.nil)), ?_⟩
                              refine Aw_done (by kernel_rfl) ?_
                              refine Shift.pull (.there (.there (.there (.there .here)))) ?_
                              refine Shift.pull (.there (.there (.there (.there .here)))) ?_
                              refine Shift.pull (.there (.there (.there (.there .here)))) ?_
                              refine Shift.pull (.there (.there (.there (.there .here)))) ?_
                              refine Shift.pull (.there (.there (.there (.there .here)))) ?_
                              refine Shift.done ?_
                              exact ⟨[(0, (.pointer (some ((⟨bp0, 0, none⟩ : Addr).add 0)))), (3, (.pointer (some ((⟨b303, 0, none⟩ : Addr).add 0)))), (4, (.pointer (some ((⟨b304, 0, none⟩ : Addr).add 0))))], ⟨rfl, rfl, rfl, trivial⟩, _, Nat.lt_succ_self _, x902, ((Draw_Codes.mk p0.list x888 ((Draw_Codes.mk p0.list i866 i867).value)).value), v897, x895, v936, x907, rs937, rfl, rfl, (hkk880 ▸ H), hs900, hR938⟩
                      · intro h892
                        have h892 := dcd_f (h892)
                        have H := iff_ h892 H
                        refine Cw_exit ?_
                        refine Shift.pull (.there (.there (.there (.there .here)))) ?_
                        refine Shift.pull (.there (.there (.there (.there .here)))) ?_
                        refine Shift.pull (.there (.there (.there (.there .here)))) ?_
                        refine Shift.pull (.there (.there (.there (.there .here)))) ?_
                        refine Shift.pull (.there (.there (.there (.there .here)))) ?_
                        refine Shift.done ?_
                        exact ⟨[(3, (.pointer (some ((⟨b303, 0, none⟩ : Addr).add 0)))), (4, (.pointer (some ((⟨b304, 0, none⟩ : Addr).add 0))))], ⟨rfl, rfl, trivial⟩, x888, ((Draw_Codes.mk p0.list i866 i867).value), p1.kind, p1.mode, p1.channel, p1.value, p1.deadline, v868, l869, v871, l872, rs874, rfl, rfl, H, hs870, hR873⟩
                    · intro h744
                      have h744 := dcd_f (h744)
                      have H := iff_ h744 H
                      refine Cw_skip ?_
                      refine Shift.pull (.there .here) ?_
                      refine Shift.pull (.there (.there .here)) ?_
                      refine Shift.pull (.there (.there (.there (.there .here)))) ?_
                      refine Shift.pull (.there (.there (.there (.there .here)))) ?_
                      refine Shift.pull (.there (.there (.there (.there .here)))) ?_
                      refine Shift.done ?_
                      exact ⟨[(3, (.pointer (some ((⟨b303, 0, none⟩ : Addr).add 0)))), (4, (.pointer (some ((⟨b304, 0, none⟩ : Addr).add 0))))], ⟨rfl, rfl, trivial⟩, x602, p0.value, p1.kind, p1.mode, p1.channel, p1.value, p1.deadline, v307, x305, v315, x312, rs316, rfl, rfl, H, hs310, hR317⟩
  rintro _ K940 _ hK941 ⟨i587, i588, i589, i590, i591, i592, i593, v594, l595, v597, l598, rs600, rfl, rfl, H, hs596, hR599⟩
  unfold M_draw_Codes_Spoil_J1 at H
  refine Cw_seq ?_
  refine Cw_region ?_
  refine Ow_q rfl rfl rfl (Qt_loadA (m := 7) (cs := (Op.cells (Op.mk i589 i590 i591 i592 i593 l595 l598) v594 v597)) rfl rfl rfl rfl ⟨rfl, Rdc.blk (.tail _ (.tail _ (.head _))) rfl⟩) ?_
  refine Ow_cons rfl (OpW_store (vs := (Op.cells (Op.mk i589 i590 i591 i592 i593 l595 l598) v594 v597)) (all' := (Op.cells (Op.mk i589 i590 i591 i592 i593 l595 l598) v594 v597)) rfl rfl rfl rfl rfl (.there .here) rfl rfl rfl ?_)
  refine Ow_nil ?_
  refine Cw_ret ?_
  obtain ⟨ey0, ez0_at_, ez0_value⟩ := inj3 H
  subst y0 z0_at_ z0_value
  refine ⟨(by first | exact .inl rfl | exact .inr rfl), [(.agg (Op.cells (Op.mk i589 i590 i591 i592 i593 l595 l598) v594 v597).toArray)], ⟨(.agg (Op.cells (Op.mk i589 i590 i591 i592 i593 l595 l598) v594 v597).toArray), _, rfl, ⟨_, 7, (Op.cells (Op.mk i589 i590 i591 i592 i593 l595 l598) v594 v597), rfl, rfl, rfl, rfl, ⟨rfl, Rdc.blk (.tail _ (.head _)) rfl⟩, rfl⟩, rfl⟩, ?_⟩
  refine Shift.pull (.there (.there (.there (.there .here)))) ?_
  refine Shift.pull (.there (.there (.there (.there .here)))) ?_
  refine Shift.pull (.there (.there .here)) ?_
  refine Shift.rem (.there (.there (.there .here))) ?_
  refine Shift.rem (.there (.there (.there .here))) ?_
  refine Shift.done ?_
  exact ⟨v594, v597, rs600, rfl, rfl, hs596, hR599⟩

set_option maxHeartbeats 1000000 in
theorem c_M_draw_Mod (p0 : Int) (p1 : Int) (y0 : Int) (H : M_draw_Mod p0 p1 = some y0) (K : Kp) (G : List Ent)  :
    Fc Try.prog 19 #[(.int .i64 p0), (.int .i64 p1)] K (G) (fun v K' G' => v = (.int .i64 y0) ∧ K = K' ∧ G = G') := by
  refine Fc_body Try.func19 rfl Try.ntmps19 Try.results19 rfl ?_
  unfold M_draw_Mod at H
  refine Cw_seq ?_
  refine Cw_region ?_
  refine Ow_q rfl rfl rfl (Qt_assign rfl) ?_
  refine Ow_nil ?_
  refine Cw_seq ?_
  refine Cw_region ?_
  refine Ow_q rfl rfl rfl (Qt_move rfl) ?_
  refine Ow_q rfl rfl rfl (Qt_move rfl) ?_
  obtain ⟨x4, hx5, H⟩ := bnd H
  refine Ow_q rfl rfl rfl (Q_rem hx5 rfl rfl) ?_
  refine Ow_q rfl rfl rfl (Qt_assign rfl) ?_
  refine Ow_nil ?_
  refine Cw_seq ?_
  refine Cw_seq ?_
  refine Cw_region ?_
  refine Ow_q rfl rfl rfl (Qt_move rfl) ?_
  refine Ow_q rfl rfl rfl (Qt_cmp rfl rfl rfl) ?_
  refine Ow_nil ?_
  refine Cw_cond rfl ?_ ?_
  · intro h7
    have h7 := dcd_t (h7)
    have H := ift h7 H
    refine Cw_region ?_
    refine Ow_q rfl rfl rfl (Qt_move rfl) ?_
    refine Ow_q rfl rfl rfl (Qt_move rfl) ?_
    refine Ow_q rfl rfl rfl (Qt_arith (e := wI (x4 + p1)) rfl rfl rfl rfl) ?_
    refine Ow_q rfl rfl rfl (Qt_assign rfl) ?_
    refine Ow_nil ?_
    refine Cw_seq ?_
    refine Cw_region ?_
    refine Ow_q rfl rfl rfl (Qt_move rfl) ?_
    refine Ow_q rfl rfl rfl (Qt_assign rfl) ?_
    refine Ow_nil ?_
    refine Cw_ret ?_
    obtain ey0 := inj1 H
    subst y0
    refine ⟨(by first | exact .inl rfl | exact .inr rfl), [(.int .i64 (wI (x4 + p1)))], ⟨(.int .i64 (wI (x4 + p1))), _, rfl, rfl, rfl⟩, ?_⟩
    refine Shift.done ?_
    exact ⟨rfl, rfl, rfl⟩
  · intro h7
    have h7 := dcd_f (h7)
    have H := iff_ h7 H
    refine Cw_skip ?_
    refine Cw_seq ?_
    refine Cw_region ?_
    refine Ow_q rfl rfl rfl (Qt_move rfl) ?_
    refine Ow_q rfl rfl rfl (Qt_assign rfl) ?_
    refine Ow_nil ?_
    refine Cw_ret ?_
    obtain ey0 := inj1 H
    subst y0
    refine ⟨(by first | exact .inl rfl | exact .inr rfl), [(.int .i64 x4)], ⟨(.int .i64 x4), _, rfl, rfl, rfl⟩, ?_⟩
    refine Shift.done ?_
    exact ⟨rfl, rfl, rfl⟩


end Go.Hx
