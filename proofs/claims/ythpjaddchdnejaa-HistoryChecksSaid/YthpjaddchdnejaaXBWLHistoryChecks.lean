/- Printed by program. -/
import Derived.Test.YthpjaddchdnejaaXBM
import Derived.Test.YthpjaddchdnejaaXBWDraw2
import Derived.Test.YthpjaddchdnejaaXBWHistory
import Derived.Test.YthpjaddchdnejaaXBWLaw16
import Derived.Test.YthpjaddchdnejaaXBWLaw161
import Derived.Test.YthpjaddchdnejaaXBWRef16
namespace Go.Hx
open Go Go.Proofs
set_option linter.unusedSimpArgs false
set_option linter.unusedVariables false
set_option maxRecDepth 10000
set_option maxHeartbeats 1000000 in
theorem c_M_law16_HistoryChecks (p0 : List Int) (vp0 : SV) (p1 : List Event) (vp1 : SV) (p2 : Int) (p3 : Int) (p4 : Int) (y0 : Bool) (H : M_law16_HistoryChecks p0 p1 p2 p3 p4 = some y0) (K : Kp) (G : List Ent) (hp0 : Slr Ty.u8 K (sv vp0) p0) (hp1 : Slr TyEvent K (sv vp1) p1) :
    Fc Try.prog 3 #[(sv vp0), (sv vp1), (.int .i64 p2), (.int .u8 p3), (.int .u8 p4)] K (G) (fun v K' G' => v = (.bool y0) ∧ G = G') := by
  refine Fc_body Try.func3 rfl Try.ntmps3 Try.results3 rfl ?_
  unfold M_law16_HistoryChecks at H
  refine Cw_seq ?_
  refine Cw_region ?_
  refine Ow_q rfl rfl rfl (Qt_assign rfl) ?_
  refine Ow_nil ?_
  refine Cw_seq ?_
  refine Cw_seq ?_
  refine Cw_region ?_
  obtain ⟨x256, hx257, H⟩ := bnd H
  refine Ow_cons rfl (OpW_call rfl Try.call14 rfl rfl (c_M_law16_awake  x256 hx257 _ _ ) ?_)
  rintro _ K258 _ hK259 ⟨rfl, rfl⟩
  refine Ow_q rfl rfl rfl (Qt_not rfl) ?_
  refine Ow_nil ?_
  refine Cw_cond rfl ?_ ?_
  · intro h260
    have h260 := nt_t (h260)
    have H := iff_ (btf h260) H
    refine Cw_seq ?_
    refine Cw_region ?_
    refine Ow_q rfl rfl rfl (Qt_assign rfl) ?_
    refine Ow_nil ?_
    refine Cw_ret ?_
    obtain ey0 := inj1 H
    subst y0
    refine ⟨(by first | exact .inl rfl | exact .inr rfl), [(.bool false)], ⟨(.bool false), _, rfl, rfl, rfl⟩, ?_⟩
    refine Shift.done ?_
    exact ⟨rfl, rfl⟩
  · intro h260
    have h260 := nt_f (h260)
    have H := ift h260 H
    refine Cw_skip ?_
    refine Cw_seq ?_
    refine Cw_seq ?_
    refine Cw_region ?_
    refine Ow_q rfl rfl rfl (Qt_move rfl) ?_
    have hs263 := (hp1).mono hK259
    refine Ow_q rfl rfl rfl (Q_len (T := TyEvent) hs263 rfl rfl) ?_
    refine Ow_q rfl rfl rfl (Qt_cmp rfl rfl rfl) ?_
    refine Ow_nil ?_
    refine Cw_cond rfl ?_ ?_
    · intro h264
      have h264 := dcd_t (h264)
      have H := ift h264 H
      refine Cw_seq ?_
      refine Cw_region ?_
      refine Ow_q rfl rfl rfl (Qt_assign rfl) ?_
      refine Ow_nil ?_
      refine Cw_ret ?_
      obtain ey0 := inj1 H
      subst y0
      refine ⟨(by first | exact .inl rfl | exact .inr rfl), [(.bool true)], ⟨(.bool true), _, rfl, rfl, rfl⟩, ?_⟩
      refine Shift.done ?_
      exact ⟨rfl, rfl⟩
    · intro h264
      have h264 := dcd_f (h264)
      have H := iff_ h264 H
      refine Cw_skip ?_
      refine Cw_seq ?_
      refine Cw_region ?_
      refine Ow_q rfl rfl rfl (Qt_move rfl) ?_
      obtain ⟨x265, x266, hx267, H⟩ := bnd2 H
      have hs268 := (hp0).mono hK259
      refine Ow_cons rfl (OpW_call rfl Try.call15 rfl rfl (c_M_law16_made p0 vp0 x265 x266 hx267 _ _ hs268) ?_)
      rintro _ K272 _ hK273 ⟨v269, rs270, v271, rfl, rfl, hs274, hs275⟩
      refine Ow_q rfl rfl rfl (Qt_move rfl) ?_
      refine Ow_q rfl rfl rfl (Qt_extract rfl rfl) ?_
      refine Ow_q rfl rfl rfl (Qt_extract rfl rfl) ?_
      refine Ow_q rfl rfl rfl (Qt_assign rfl) ?_
      refine Ow_q rfl rfl rfl (Qt_assign rfl) ?_
      refine Ow_nil ?_
      refine Cw_seq ?_
      refine Cw_join (fun env' K' G' => ∃ (t324 : Bool), [(2, (.int .i64 p2)), (3, (.int .u8 p3)), (4, (.int .u8 p4)), (11, (sv v269)), (12, (sv v271)), (37, (.bool t324))] = env' ∧ (.tok 74 1 [(sv v269)]) :: (.tok 34 8 [(sv v271)]) :: G = G' ∧ M_law16_HistoryChecks_J1 p2 p3 p4 x265 x266 t324 = some y0 ∧ Slr (Ty.sl TyOp) K' (sv v269) x265) ?_ ?_
      · skip
        refine Cw_region ?_
        refine Ow_q rfl rfl rfl (Qt_move rfl) ?_
        refine Ow_q rfl rfl rfl (Qt_move rfl) ?_
        refine Ow.shift (Shift.settle (T := (Ty.sl TyOp)) .here hs274 rfl (fun K325 hK326 hs327 => Shift.done ?_))
        obtain ⟨x328, hx329, H⟩ := bnd H
        have hs330 := (hs275).mono hK326
        refine Ow_cons rfl (OpW_call rfl Try.call16 rfl rfl (c_M_history_Check x266 v271 x265 v269 x328 hx329 _ _ hs330 hs327) ?_)
        rintro _ K331 _ hK332 ⟨rfl, rfl⟩
        refine Ow_q rfl rfl rfl (Qt_not rfl) ?_
        refine Ow_q rfl rfl rfl (Qt_move rfl) ?_
        refine Ow_caseG rfl rfl rfl ?_ ?_
        · intro h333
          have h333 := nt_t (h333)
          have H := iff_ (btf h333) H
          refine Ow_pass rfl rfl rfl rfl rfl rfl rfl ?_
          refine Ow_pass rfl rfl rfl rfl rfl rfl rfl ?_
          refine Ow_pass rfl rfl rfl rfl rfl rfl rfl ?_
          refine Ow_pass rfl rfl rfl rfl rfl rfl rfl ?_
          refine Ow_pass rfl rfl rfl rfl rfl rfl rfl ?_
          refine Ow_pass rfl rfl rfl rfl rfl rfl rfl ?_
          refine Ow_pass rfl rfl rfl rfl rfl rfl rfl ?_
          refine Ow_q rfl rfl rfl (Qt_pick_t rfl rfl) ?_
          refine Ow_nil ?_
          refine Shift.pull (.there .here) ?_
          refine Shift.pull (.there .here) ?_
          have hs334 := (hs327).mono hK332
          refine Shift.done ?_
          exact ⟨[(2, (.int .i64 p2)), (3, (.int .u8 p3)), (4, (.int .u8 p4)), (11, (sv v269)), (12, (sv v271)), (37, (.bool true))], ⟨rfl, rfl, rfl, rfl, rfl, rfl, trivial⟩, true, rfl, rfl, H, hs334⟩
        · intro h333
          have h333 := nt_f (h333)
          have H := ift h333 H
          refine Ow_qw rfl rfl rfl rfl rfl rfl (Qt_move rfl) ?_
          refine Ow_qw rfl rfl rfl rfl rfl rfl (Qt_move rfl) ?_
          obtain ⟨x335, hx336, H⟩ := bnd H
          have hs337 := (((hs263).mono hK273).mono hK326).mono hK332
          have hs338 := (hs327).mono hK332
          refine Ow_want rfl rfl rfl rfl (OpW_call rfl Try.call16 rfl rfl (c_M_history_Check p1 vp1 x265 v269 x335 hx336 _ _ hs337 hs338) ?_)
          rintro _ K339 _ hK340 ⟨rfl, rfl⟩
          refine Ow_qw rfl rfl rfl rfl rfl rfl (Qt_move rfl) ?_
          refine Ow_qw rfl rfl rfl rfl rfl rfl (Qt_move rfl) ?_
          obtain ⟨x341, hx342, H⟩ := bnd H
          have hs343 := (hs337).mono hK340
          have hs344 := (hs338).mono hK340
          refine Ow_want rfl rfl rfl rfl (OpW_call rfl Try.call17 rfl rfl (c_M_ref16_Check p1 vp1 x265 v269 x341 hx342 _ _ hs343 hs344) ?_)
          rintro _ K345 _ hK346 ⟨rfl, rfl⟩
          refine Ow_qw rfl rfl rfl rfl rfl rfl (Qt_neB rfl rfl rfl) ?_
          refine Ow_q rfl rfl rfl (Qt_pick_f rfl rfl) ?_
          refine Ow_nil ?_
          refine Shift.pull (.there .here) ?_
          refine Shift.pull (.there .here) ?_
          have hs347 := (hs344).mono hK346
          refine Shift.done ?_
          exact ⟨[(2, (.int .i64 p2)), (3, (.int .u8 p3)), (4, (.int .u8 p4)), (11, (sv v269)), (12, (sv v271)), (37, (.bool (!((x335 == x341)))))], ⟨rfl, rfl, rfl, rfl, rfl, rfl, trivial⟩, (!((x335 == x341))), rfl, rfl, H, hs347⟩
      rintro _ K348 _ hK349 ⟨t324, rfl, rfl, H, hs323⟩
      unfold M_law16_HistoryChecks_J1 at H
      refine Cw_cond rfl ?_ ?_
      · intro h350
        have H := ift h350 H
        refine Cw_seq ?_
        refine Cw_region ?_
        refine Ow_q rfl rfl rfl (Qt_assign rfl) ?_
        refine Ow_nil ?_
        refine Cw_ret ?_
        obtain ey0 := inj1 H
        subst y0
        refine ⟨(by first | exact .inl rfl | exact .inr rfl), [(.bool false)], ⟨(.bool false), _, rfl, rfl, rfl⟩, ?_⟩
        refine Shift.rem .here ?_
        refine Shift.rem .here ?_
        refine Shift.done ?_
        exact ⟨rfl, rfl⟩
      · intro h350
        have H := iff_ (btf h350) H
        refine Cw_skip ?_
        refine Cw_seq ?_
        refine Cw_seq ?_
        refine Cw_region ?_
        refine Ow_q rfl rfl rfl (Qt_move rfl) ?_
        have hs353 := (hs275).mono hK349
        refine Ow_q rfl rfl rfl (Q_len (T := TyEvent) hs353 rfl rfl) ?_
        refine Ow_q rfl rfl rfl (Qt_cmp rfl rfl rfl) ?_
        refine Ow_nil ?_
        refine Cw_cond rfl ?_ ?_
        · intro h354
          have h354 := dcd_t (h354)
          have H := ift h354 H
          refine Cw_seq ?_
          refine Cw_region ?_
          refine Ow_q rfl rfl rfl (Qt_assign rfl) ?_
          refine Ow_nil ?_
          refine Cw_ret ?_
          obtain ey0 := inj1 H
          subst y0
          refine ⟨(by first | exact .inl rfl | exact .inr rfl), [(.bool true)], ⟨(.bool true), _, rfl, rfl, rfl⟩, ?_⟩
          refine Shift.rem .here ?_
          refine Shift.rem .here ?_
          refine Shift.done ?_
          exact ⟨rfl, rfl⟩
        · intro h354
          have h354 := dcd_f (h354)
          have H := iff_ h354 H
          refine Cw_skip ?_
          refine Cw_seq ?_
          refine Cw_region ?_
          refine Ow_q rfl rfl rfl (Qt_move rfl) ?_
          refine Ow_q rfl rfl rfl (Qt_move rfl) ?_
          refine Ow_q rfl rfl rfl (Q_len (T := TyEvent) hs353 rfl rfl) ?_
          obtain ⟨x355, hx356, H⟩ := bnd H
          refine Ow_cons rfl (OpW_call rfl Try.call18 rfl rfl (c_M_draw_Mod p2 (x266.length : Int) x355 hx356 _ _ ) ?_)
          rintro _ _ _ - ⟨rfl, rfl, rfl⟩
          refine Ow_q rfl rfl rfl (Qt_assign rfl) ?_
          refine Ow_nil ?_
          refine Cw_seq ?_
          refine Cw_region ?_
          refine Ow_q rfl rfl rfl (Qt_move rfl) ?_
          have hR357 : RowR TyEvent K348 [] [] := RowR.nil
          refine Ow.shift (Shift.nilRow 34 8 (Shift.done ?_))
          obtain ⟨x358, hx359, H⟩ := bnd H
          refine Ow_cons rfl (O_appRow (T := TyEvent) (bytes := 64) rfl rfl rfl (.head _) hR357 (SrcT.sl hs353) hx359 rfl rfl rfl rfl rfl rfl rfl rfl (fun v360 rs361 hR362 => ⟨_, .here, ?_⟩))
          refine Ow_q rfl rfl rfl (Qt_assign rfl) ?_
          refine Ow_nil ?_
          refine Cw_join (fun env' K' G' => ∃ (v540 : SV) (l541 : List Event) (rs543 : List (List Value)), [(11, (sv v269)), (14, (sv v540))] = env' ∧ K348 = K' ∧ (.row (sv v540) 34 8 rs543.flatten) :: (.tok 74 1 [(sv v269)]) :: G = G' ∧ M_law16_HistoryChecks_J2 x265 l541 = some y0 ∧ RowR TyEvent K' rs543 l541) ?_ ?_
          · skip
            refine Cw_seq ?_
            refine Cw_region ?_
            refine Ow_q rfl rfl rfl (Qt_move rfl) ?_
            refine Ow_q rfl rfl rfl (Qt_rem rfl rfl (by decide)) ?_
            refine Ow_nil ?_
            refine Cw_block ?_
            refine Cw_seq ?_
            refine Cw_region ?_
            refine Ow_q rfl rfl rfl (Qt_cmp rfl rfl rfl) ?_
            refine Ow_q rfl rfl rfl (Qt_assign rfl) ?_
            refine Ow_nil ?_
            refine Cw_cond rfl ?_ ?_
            · intro h544
              have h544 := dcd_t (h544)
              have H := ift h544 H
              refine Cw_region ?_
              refine Ow_q rfl rfl rfl (Qt_move rfl) ?_
              refine Ow_q rfl rfl rfl (Qt_move rfl) ?_
              refine Ow_q rfl rfl rfl (Qt_move rfl) ?_
              refine Ow_q rfl rfl rfl (Qt_conv (c := wI p4) rfl rfl rfl rfl) ?_
              refine Ow_q rfl rfl rfl (Qt_rem rfl rfl (by decide)) ?_
              refine Ow_q rfl rfl rfl (Qt_arith (e := wI ((Int.tmod (wI p4) 6) - 1)) rfl rfl rfl rfl) ?_
              obtain ⟨x545, hx546, H⟩ := bnd H
              obtain ⟨r547, hq548, hr549⟩ := RowR.at hR362 hx546
              obtain rfl := hr549
              refine Ow_q rfl rfl rfl (Q_ixR (T := TyEvent) (.head _) hR362 hq548 (getI_ix hx546).1 rfl rfl rfl rfl rfl) ?_
              refine Ow_q rfl rfl rfl (Qt_fieldAddr (m := 0) rfl rfl rfl rfl rfl) ?_
              refine Ow_cons rfl (O_storeR (T := TyEvent) (vs := [(.int .i64 (wI ((Int.tmod (wI p4) 6) - 1)))]) (r' := (Event.cells (Event.mk (wI ((Int.tmod (wI p4) 6) - 1)) x545.op x545.ret x545.result))) (l' := (setI x358 x355 (Event.mk (wI ((Int.tmod (wI p4) 6) - 1)) x545.op x545.ret x545.result))) rfl rfl rfl rfl rfl .here hR362 hq548 rfl rfl rfl (RowR.set x355 hR362 rfl) (fun hR550 => ?_))
              have hE551 := set_at hq548 (v := (Event.cells (Event.mk (wI ((Int.tmod (wI p4) 6) - 1)) x545.op x545.ret x545.result)))
              refine Ow_nil ?_
              refine Shift.pull (.there .here) ?_
              refine Shift.pull (.there .here) ?_
              refine Shift.rem (.there (.there .here)) ?_
              refine Shift.done ?_
              exact ⟨[(11, (sv v269)), (14, (sv v360))], ⟨rfl, rfl, trivial⟩, v360, (setI x358 x355 (Event.mk (wI ((Int.tmod (wI p4) 6) - 1)) x545.op x545.ret x545.result)), (rs361.set x355.toNat (Event.cells (Event.mk (wI ((Int.tmod (wI p4) 6) - 1)) x545.op x545.ret x545.result))), rfl, rfl, rfl, H, hR550⟩
            · intro h544
              have h544 := dcd_f (h544)
              have H := iff_ h544 H
              refine Cw_seq ?_
              refine Cw_region ?_
              refine Ow_q rfl rfl rfl (Qt_cmp rfl rfl rfl) ?_
              refine Ow_q rfl rfl rfl (Qt_assign rfl) ?_
              refine Ow_nil ?_
              refine Cw_cond rfl ?_ ?_
              · intro h552
                have h552 := dcd_t (h552)
                have H := ift h552 H
                refine Cw_region ?_
                refine Ow_q rfl rfl rfl (Qt_move rfl) ?_
                refine Ow_q rfl rfl rfl (Qt_move rfl) ?_
                obtain ⟨x553, hx554, H⟩ := bnd H
                obtain ⟨r555, hq556, hr557⟩ := RowR.at hR362 hx554
                obtain rfl := hr557
                refine Ow_q rfl rfl rfl (Q_ixR (T := TyEvent) (.head _) hR362 hq556 (getI_ix hx554).1 rfl rfl rfl rfl rfl) ?_
                refine Ow_q rfl rfl rfl (Qt_fieldAddr (m := 1) rfl rfl rfl rfl rfl) ?_
                refine Ow_q rfl rfl rfl (Qt_load1 (v := (.int .i64 x553.op)) rfl rfl rfl (Rd_row (T := TyEvent) (.head _) hR362 hq556 rfl rfl)) ?_
                refine Ow_q rfl rfl rfl (Qt_move rfl) ?_
                refine Ow_q rfl rfl rfl (Qt_conv (c := wI p4) rfl rfl rfl rfl) ?_
                refine Ow_q rfl rfl rfl (Qt_rem rfl rfl (by decide)) ?_
                refine Ow_q rfl rfl rfl (Qt_arith (e := wI ((Int.tmod (wI p4) 3) - 1)) rfl rfl rfl rfl) ?_
                refine Ow_q rfl rfl rfl (Qt_arith (e := wI (x553.op + (wI ((Int.tmod (wI p4) 3) - 1)))) rfl rfl rfl rfl) ?_
                obtain ⟨x558, hx559, H⟩ := bnd H
                obtain ⟨r560, hq561, hr562⟩ := RowR.at hR362 hx559
                obtain rfl := hr562
                refine Ow_q rfl rfl rfl (Q_ixR (T := TyEvent) (.head _) hR362 hq561 (getI_ix hx559).1 rfl rfl rfl rfl rfl) ?_
                refine Ow_q rfl rfl rfl (Qt_fieldAddr (m := 1) rfl rfl rfl rfl rfl) ?_
                refine Ow_cons rfl (O_storeR (T := TyEvent) (vs := [(.int .i64 (wI (x553.op + (wI ((Int.tmod (wI p4) 3) - 1)))))]) (r' := (Event.cells (Event.mk x558.thread (wI (x553.op + (wI ((Int.tmod (wI p4) 3) - 1)))) x558.ret x558.result))) (l' := (setI x358 x355 (Event.mk x558.thread (wI (x553.op + (wI ((Int.tmod (wI p4) 3) - 1)))) x558.ret x558.result))) rfl rfl rfl rfl rfl .here hR362 hq561 rfl rfl rfl (RowR.set x355 hR362 rfl) (fun hR563 => ?_))
                have hE564 := set_at hq561 (v := (Event.cells (Event.mk x558.thread (wI (x553.op + (wI ((Int.tmod (wI p4) 3) - 1)))) x558.ret x558.result)))
                refine Ow_nil ?_
                refine Shift.pull (.there .here) ?_
                refine Shift.pull (.there .here) ?_
                refine Shift.rem (.there (.there .here)) ?_
                refine Shift.done ?_
                exact ⟨[(11, (sv v269)), (14, (sv v360))], ⟨rfl, rfl, trivial⟩, v360, (setI x358 x355 (Event.mk x558.thread (wI (x553.op + (wI ((Int.tmod (wI p4) 3) - 1)))) x558.ret x558.result)), (rs361.set x355.toNat (Event.cells (Event.mk x558.thread (wI (x553.op + (wI ((Int.tmod (wI p4) 3) - 1)))) x558.ret x558.result))), rfl, rfl, rfl, H, hR563⟩
              · intro h552
                have h552 := dcd_f (h552)
                have H := iff_ h552 H
                refine Cw_seq ?_
                refine Cw_region ?_
                refine Ow_q rfl rfl rfl (Qt_cmp rfl rfl rfl) ?_
                refine Ow_q rfl rfl rfl (Qt_assign rfl) ?_
                refine Ow_nil ?_
                refine Cw_cond rfl ?_ ?_
                · intro h565
                  have h565 := dcd_t (h565)
                  have H := ift h565 H
                  refine Cw_region ?_
                  refine Ow_q rfl rfl rfl (Qt_move rfl) ?_
                  refine Ow_q rfl rfl rfl (Qt_move rfl) ?_
                  refine Ow_q rfl rfl rfl (Qt_move rfl) ?_
                  refine Ow_q rfl rfl rfl (Qt_move rfl) ?_
                  obtain ⟨x566, hx567, H⟩ := bnd H
                  obtain ⟨r568, hq569, hr570⟩ := RowR.at hR362 hx567
                  obtain rfl := hr570
                  refine Ow_q rfl rfl rfl (Q_ixR (T := TyEvent) (.head _) hR362 hq569 (getI_ix hx567).1 rfl rfl rfl rfl rfl) ?_
                  refine Ow_q rfl rfl rfl (Qt_fieldAddr (m := 2) rfl rfl rfl rfl rfl) ?_
                  refine Ow_q rfl rfl rfl (Qt_load1 (v := (.bool x566.ret)) rfl rfl rfl (Rd_row (T := TyEvent) (.head _) hR362 hq569 rfl rfl)) ?_
                  refine Ow_q rfl rfl rfl (Qt_not rfl) ?_
                  obtain ⟨x571, hx572, H⟩ := bnd H
                  obtain ⟨r573, hq574, hr575⟩ := RowR.at hR362 hx572
                  obtain rfl := hr575
                  refine Ow_q rfl rfl rfl (Q_ixR (T := TyEvent) (.head _) hR362 hq574 (getI_ix hx572).1 rfl rfl rfl rfl rfl) ?_
                  refine Ow_q rfl rfl rfl (Qt_fieldAddr (m := 2) rfl rfl rfl rfl rfl) ?_
                  refine Ow_cons rfl (O_storeR (T := TyEvent) (vs := [(.bool (!(x566.ret)))]) (r' := (Event.cells (Event.mk x571.thread x571.op (!(x566.ret)) x571.result))) (l' := (setI x358 x355 (Event.mk x571.thread x571.op (!(x566.ret)) x571.result))) rfl rfl rfl rfl rfl .here hR362 hq574 rfl rfl rfl (RowR.set x355 hR362 rfl) (fun hR576 => ?_))
                  have hE577 := set_at hq574 (v := (Event.cells (Event.mk x571.thread x571.op (!(x566.ret)) x571.result)))
                  refine Ow_nil ?_
                  refine Shift.pull (.there .here) ?_
                  refine Shift.pull (.there .here) ?_
                  refine Shift.rem (.there (.there .here)) ?_
                  refine Shift.done ?_
                  exact ⟨[(11, (sv v269)), (14, (sv v360))], ⟨rfl, rfl, trivial⟩, v360, (setI x358 x355 (Event.mk x571.thread x571.op (!(x566.ret)) x571.result)), (rs361.set x355.toNat (Event.cells (Event.mk x571.thread x571.op (!(x566.ret)) x571.result))), rfl, rfl, rfl, H, hR576⟩
                · intro h565
                  have h565 := dcd_f (h565)
                  have H := iff_ h565 H
                  refine Cw_seq ?_
                  refine Cw_region ?_
                  refine Ow_q rfl rfl rfl (Qt_cmp rfl rfl rfl) ?_
                  refine Ow_q rfl rfl rfl (Qt_assign rfl) ?_
                  refine Ow_nil ?_
                  refine Cw_cond rfl ?_ ?_
                  · intro h578
                    have h578 := dcd_t (h578)
                    have H := ift h578 H
                    obtain ⟨x579, hx580, H⟩ := bnd H
                    obtain ⟨x581, hx582, H⟩ := bnd H
                    obtain ⟨x583, hx584, H⟩ := bnd H
                    refine Cw_region_any [.tok 74 1 [(sv v269)], .tok 34 8 [(sv v271)]] rfl (Inc.cons (.tail _ (.head _)) (Inc.cons (.tail _ (.tail _ (.head _))) Inc.nil)) ?_
                    refine Aw_q 0 rfl (by kernel_rfl) (by kernel_rfl) (by kernel_rfl) rfl rfl rfl (Qt_move rfl) ?_
                    refine Aw_q 1 rfl (by kernel_rfl) (by kernel_rfl) (by kernel_rfl) rfl rfl rfl (Qt_move rfl) ?_
                    refine Aw_q 3 rfl (by kernel_rfl) (by kernel_rfl) (by kernel_rfl) rfl rfl rfl (Qt_move rfl) ?_
                    refine Aw_q 4 rfl (by kernel_rfl) (by kernel_rfl) (by kernel_rfl) rfl rfl rfl (Qt_move rfl) ?_
                    refine Aw_q 5 rfl (by kernel_rfl) (by kernel_rfl) (by kernel_rfl) rfl rfl rfl (Qt_arith (e := wI (x355 + 1)) rfl rfl rfl rfl) ?_
                    refine Aw_two 2 6 (by kernel_rfl) ?_ ?_
                    · skip
                      refine id (Ax_mk rfl rfl (OpW_of_Qt rfl rfl (Q_cutRH (T := TyEvent) (.head _) hR362 rfl hx580 rfl rfl rfl rfl) ⟨(Inc.cons (.tail _ (.head _)) (Inc.cons (.tail _ (.tail _ (.head _))) Inc.nil)), ?_⟩))
                      refine Aw_one 6 (by kernel_rfl) (Ax_mk rfl rfl (OpW_of_Qt rfl rfl (Q_cutRL (T := TyEvent) (.head _) hR362 rfl hx582 rfl rfl rfl rfl rfl) ⟨(Inc.cons (.tail _ (.head _)) (Inc.cons (.tail _ (.tail _ (.head _))) Inc.nil)), ?_⟩))
                      refine Aw_one 7 (by kernel_rfl) (Ax_mk rfl rfl (O_appCut (T := TyEvent) rfl rfl rfl (.head _) hR362 hx580 (SrcT.cutL (.head _) hR362 rfl hx582) ⟨_, _, _, rfl, cutS_some⟩ hx584 rfl rfl rfl rfl (fun hc589 hl590 rs591 hR592 => ⟨_, .here, ⟨(Inc.cons (.tail _ (.head _)) (Inc.cons (.tail _ (.tail _ (.head _))) Inc.nil)), ?_⟩⟩)))
                      refine Aw_q 8 rfl (by kernel_rfl) (by kernel_rfl) (by kernel_rfl) rfl rfl rfl (Qt_assign rfl) ?_
                      refine Aw_done (by kernel_rfl) ?_
                      refine Shift.pull (.there .here) ?_
                      refine Shift.pull (.there .here) ?_
                      refine Shift.rem (.there (.there .here)) ?_
                      refine Shift.done ?_
                      exact ⟨[(11, (sv v269)), (14, (sv (cutA v360 x583.length)))], ⟨rfl, rfl, trivial⟩, (cutA v360 x583.length), x583, rs591, rfl, rfl, rfl, H, hR592⟩
                    · skip
                      refine id (Ax_mk rfl rfl (OpW_of_Qt rfl rfl (Q_cutRL (T := TyEvent) (.head _) hR362 rfl hx582 rfl rfl rfl rfl rfl) ⟨(Inc.cons (.tail _ (.head _)) (Inc.cons (.tail _ (.tail _ (.head _))) Inc.nil)), ?_⟩))
                      refine Aw_one 2 (by kernel_rfl) (Ax_mk rfl rfl (OpW_of_Qt rfl rfl (Q_cutRH (T := TyEvent) (.head _) hR362 rfl hx580 rfl rfl rfl rfl) ⟨(Inc.cons (.tail _ (.head _)) (Inc.cons (.tail _ (.tail _ (.head _))) Inc.nil)), ?_⟩))
                      refine Aw_one 7 (by kernel_rfl) (Ax_mk rfl rfl (O_appCut (T := TyEvent) rfl rfl rfl (.head _) hR362 hx580 (SrcT.cutL (.head _) hR362 rfl hx582) ⟨_, _, _, rfl, cutS_some⟩ hx584 rfl rfl rfl rfl (fun hc593 hl594 rs595 hR596 => ⟨_, .here, ⟨(Inc.cons (.tail _ (.head _)) (Inc.cons (.tail _ (.tail _ (.head _))) Inc.nil)), ?_⟩⟩)))
                      refine Aw_q 8 rfl (by kernel_rfl) (by kernel_rfl) (by kernel_rfl) rfl rfl rfl (Qt_assign rfl) ?_
                      refine Aw_done (by kernel_rfl) ?_
                      refine Shift.pull (.there .here) ?_
                      refine Shift.pull (.there .here) ?_
                      refine Shift.rem (.there (.there .here)) ?_
                      refine Shift.done ?_
                      exact ⟨[(11, (sv v269)), (14, (sv (cutA v360 x583.length)))], ⟨rfl, rfl, trivial⟩, (cutA v360 x583.length), x583, rs595, rfl, rfl, rfl, H, hR596⟩
                  · intro h578
                    have h578 := dcd_f (h578)
                    have H := iff_ h578 H
                    refine Cw_seq ?_
                    refine Cw_region ?_
                    refine Ow_q rfl rfl rfl (Qt_cmp rfl rfl rfl) ?_
                    refine Ow_q rfl rfl rfl (Qt_assign rfl) ?_
                    refine Ow_nil ?_
                    refine Cw_cond rfl ?_ ?_
                    · intro h597
                      have h597 := dcd_t (h597)
                      have H := ift h597 H
                      refine Cw_region ?_
                      refine Ow_q rfl rfl rfl (Qt_move rfl) ?_
                      refine Ow_q rfl rfl rfl (Qt_move rfl) ?_
                      refine Ow_q rfl rfl rfl (Qt_move rfl) ?_
                      obtain ⟨x598, hx599, H⟩ := bnd H
                      obtain ⟨r600, hq601, hr602⟩ := RowR.at hR362 hx599
                      obtain rfl := hr602
                      refine Ow_q rfl rfl rfl (Q_ixR (T := TyEvent) (.head _) hR362 hq601 (getI_ix hx599).1 rfl rfl rfl rfl rfl) ?_
                      refine Ow_q rfl rfl rfl (Qt_loadA (m := 8) (cs := (Event.cells x598)) rfl rfl rfl rfl ⟨rfl, Rd_row (T := TyEvent) (.head _) hR362 hq601 rfl rfl⟩) ?_
                      have hR604 : RowR TyEvent K348 [(Event.cells x598)] [x598] := RowR.cons rfl (RowR.nil)
                      refine Ow_cons rfl (O_lit (T := TyEvent) (rows := [(Event.cells x598)]) (l := [x598]) rfl rfl rfl hR604 rfl rfl rfl rfl rfl rfl rfl rfl (fun v603 => ?_))
                      obtain ⟨x605, hx606, H⟩ := bnd H
                      refine Ow_cons rfl (O_appRow (T := TyEvent) (bytes := 64) rfl rfl rfl (.tail _ (.head _)) hR362 (SrcT.row (.head _) hR604 rfl) hx606 rfl rfl rfl rfl rfl rfl rfl rfl (fun v607 rs608 hR609 => ⟨_, (.there .here), ?_⟩))
                      refine Ow.shift (Shift.rem .here (Shift.done ?_))
                      refine Ow_q rfl rfl rfl (Qt_assign rfl) ?_
                      refine Ow_nil ?_
                      refine Shift.pull (.there .here) ?_
                      refine Shift.pull (.there .here) ?_
                      refine Shift.rem (.there (.there .here)) ?_
                      refine Shift.done ?_
                      exact ⟨[(11, (sv v269)), (14, (sv v607))], ⟨rfl, rfl, trivial⟩, v607, x605, rs608, rfl, rfl, rfl, H, hR609⟩
                    · intro h597
                      have h597 := dcd_f (h597)
                      have H := iff_ h597 H
                      refine Cw_seq ?_
                      refine Cw_region ?_
                      refine Ow_q rfl rfl rfl (Qt_cmp rfl rfl rfl) ?_
                      refine Ow_q rfl rfl rfl (Qt_assign rfl) ?_
                      refine Ow_nil ?_
                      refine Cw_cond rfl ?_ ?_
                      · intro h610
                        have h610 := dcd_t (h610)
                        have H := ift h610 H
                        refine Cw_region ?_
                        refine Ow_q rfl rfl rfl (Qt_move rfl) ?_
                        refine Ow_q rfl rfl rfl (Qt_move rfl) ?_
                        refine Ow_q rfl rfl rfl (Qt_move rfl) ?_
                        refine Ow_q rfl rfl rfl (Qt_conv (c := wI p4) rfl rfl rfl rfl) ?_
                        refine Ow_q rfl rfl rfl (Qt_rem rfl rfl (by decide)) ?_
                        obtain ⟨x611, hx612, H⟩ := bnd H
                        obtain ⟨r613, hq614, hr615⟩ := RowR.at hR362 hx612
                        obtain rfl := hr615
                        refine Ow_q rfl rfl rfl (Q_ixR (T := TyEvent) (.head _) hR362 hq614 (getI_ix hx612).1 rfl rfl rfl rfl rfl) ?_
                        refine Ow_q rfl rfl rfl (Qt_fieldAddr (m := 3) rfl rfl rfl rfl rfl) ?_
                        refine Ow_q rfl rfl rfl (Qt_fieldAddr (m := 3) rfl rfl rfl rfl rfl) ?_
                        refine Ow_cons rfl (O_storeR (T := TyEvent) (vs := [(.int .i64 (Int.tmod (wI p4) 3))]) (r' := (Event.cells (Event.mk x611.thread x611.op x611.ret (Result.mk (Int.tmod (wI p4) 3) x611.result.case_ x611.result.value x611.result.ok x611.result.number)))) (l' := (setI x358 x355 (Event.mk x611.thread x611.op x611.ret (Result.mk (Int.tmod (wI p4) 3) x611.result.case_ x611.result.value x611.result.ok x611.result.number)))) rfl rfl rfl rfl rfl .here hR362 hq614 rfl rfl rfl (RowR.set x355 hR362 rfl) (fun hR616 => ?_))
                        have hE617 := set_at hq614 (v := (Event.cells (Event.mk x611.thread x611.op x611.ret (Result.mk (Int.tmod (wI p4) 3) x611.result.case_ x611.result.value x611.result.ok x611.result.number))))
                        refine Ow_nil ?_
                        refine Shift.pull (.there .here) ?_
                        refine Shift.pull (.there .here) ?_
                        refine Shift.rem (.there (.there .here)) ?_
                        refine Shift.done ?_
                        exact ⟨[(11, (sv v269)), (14, (sv v360))], ⟨rfl, rfl, trivial⟩, v360, (setI x358 x355 (Event.mk x611.thread x611.op x611.ret (Result.mk (Int.tmod (wI p4) 3) x611.result.case_ x611.result.value x611.result.ok x611.result.number))), (rs361.set x355.toNat (Event.cells (Event.mk x611.thread x611.op x611.ret (Result.mk (Int.tmod (wI p4) 3) x611.result.case_ x611.result.value x611.result.ok x611.result.number)))), rfl, rfl, rfl, H, hR616⟩
                      · intro h610
                        have h610 := dcd_f (h610)
                        have H := iff_ h610 H
                        refine Cw_seq ?_
                        refine Cw_region ?_
                        refine Ow_q rfl rfl rfl (Qt_cmp rfl rfl rfl) ?_
                        refine Ow_q rfl rfl rfl (Qt_assign rfl) ?_
                        refine Ow_nil ?_
                        refine Cw_cond rfl ?_ ?_
                        · intro h618
                          have h618 := dcd_t (h618)
                          have H := ift h618 H
                          obtain ⟨x619, hx620, H⟩ := bnd H
                          obtain ⟨x624, hx625, H⟩ := bnd H
                          obtain ⟨x629, hx630, H⟩ := bnd H
                          obtain ⟨x636, hx637, H⟩ := bnd H
                          refine Cw_region_any [.tok 74 1 [(sv v269)], .tok 34 8 [(sv v271)]] rfl (Inc.cons (.tail _ (.head _)) (Inc.cons (.tail _ (.tail _ (.head _))) Inc.nil)) ?_
                          refine Aw_q 0 rfl (by kernel_rfl) (by kernel_rfl) (by kernel_rfl) rfl rfl rfl (Qt_move rfl) ?_
                          refine Aw_q 1 rfl (by kernel_rfl) (by kernel_rfl) (by kernel_rfl) rfl rfl rfl (Qt_move rfl) ?_
                          refine Aw_q 2 rfl (by kernel_rfl) (by kernel_rfl) (by kernel_rfl) rfl rfl rfl (Qt_move rfl) ?_
                          refine Aw_q 3 rfl (by kernel_rfl) (by kernel_rfl) (by kernel_rfl) rfl rfl rfl (Qt_move rfl) ?_
                          refine Aw_q 6 rfl (by kernel_rfl) (by kernel_rfl) (by kernel_rfl) rfl rfl rfl (Qt_move rfl) ?_
                          refine Aw_q 7 rfl (by kernel_rfl) (by kernel_rfl) (by kernel_rfl) rfl rfl rfl (Qt_move rfl) ?_
                          refine Aw_two 4 8 (by kernel_rfl) ?_ ?_
                          · skip
                            obtain ⟨r643, hq644, hr645⟩ := RowR.at hR362 hx620
                            obtain rfl := hr645
                            refine id (Ax_mk rfl rfl (OpW_of_Qt rfl rfl (Q_ixR (T := TyEvent) (.head _) hR362 hq644 (getI_ix hx620).1 rfl rfl rfl rfl rfl) ⟨(Inc.cons (.tail _ (.head _)) (Inc.cons (.tail _ (.tail _ (.head _))) Inc.nil)), ?_⟩))
                            refine Aw_two 5 8 (by kernel_rfl) ?_ ?_
                            · skip
                              refine id (Ax_mk rfl rfl (OpW_of_Qt rfl rfl (Qt_loadA (m := 8) (cs := (Event.cells x619)) rfl rfl rfl rfl ⟨rfl, Rd_row (T := TyEvent) (.head _) hR362 hq644 rfl rfl⟩) ⟨(Inc.cons (.tail _ (.head _)) (Inc.cons (.tail _ (.tail _ (.head _))) Inc.nil)), ?_⟩))
                              obtain ⟨r646, hq647, hr648⟩ := RowR.at hR362 hx625
                              obtain rfl := hr648
                              refine Aw_one 8 (by kernel_rfl) (Ax_mk rfl rfl (OpW_of_Qt rfl rfl (Q_ixR (T := TyEvent) (.head _) hR362 hq647 (getI_ix hx625).1 rfl rfl rfl rfl rfl) ⟨(Inc.cons (.tail _ (.head _)) (Inc.cons (.tail _ (.tail _ (.head _))) Inc.nil)), ?_⟩))
                              refine Aw_one 9 (by kernel_rfl) (Ax_mk rfl rfl (OpW_of_Qt rfl rfl (Qt_loadA (m := 8) (cs := (Event.cells x624)) rfl rfl rfl rfl ⟨rfl, Rd_row (T := TyEvent) (.head _) hR362 hq647 rfl rfl⟩) ⟨(Inc.cons (.tail _ (.head _)) (Inc.cons (.tail _ (.tail _ (.head _))) Inc.nil)), ?_⟩))
                              obtain ⟨r649, hq650, hr651⟩ := RowR.at hR362 hx630
                              obtain rfl := hr651
                              refine Aw_one 10 (by kernel_rfl) (Ax_mk rfl rfl (OpW_of_Qt rfl rfl (Q_ixR (T := TyEvent) (.head _) hR362 hq650 (getI_ix hx630).1 rfl rfl rfl rfl rfl) ⟨(Inc.cons (.tail _ (.head _)) (Inc.cons (.tail _ (.tail _ (.head _))) Inc.nil)), ?_⟩))
                              refine Aw_one 11 (by kernel_rfl) (Ax_mk rfl rfl (O_storeR (T := TyEvent) (vs := (Event.cells x619)) (r' := (Event.cells x619)) (l' := (setI x358 x355 x619)) rfl rfl rfl rfl rfl .here hR362 hq650 rfl rfl rfl (RowR.set x355 hR362 rfl) (fun hR652 => ⟨(Inc.cons (.tail _ (.head _)) (Inc.cons (.tail _ (.tail _ (.head _))) Inc.nil)), ?_⟩)))
                              have hE653 := set_at hq650 (v := (Event.cells x619))
                              obtain ⟨r654, hq655, hr656⟩ := RowR.at hR652 hx637
                              obtain rfl := hr656
                              refine Aw_one 12 (by kernel_rfl) (Ax_mk rfl rfl (OpW_of_Qt rfl rfl (Q_ixR (T := TyEvent) (.head _) hR652 hq655 (getI_ix hx637).1 rfl rfl rfl rfl rfl) ⟨(Inc.cons (.tail _ (.head _)) (Inc.cons (.tail _ (.tail _ (.head _))) Inc.nil)), ?_⟩))
                              refine Aw_one 13 (by kernel_rfl) (Ax_mk rfl rfl (O_storeR (T := TyEvent) (vs := (Event.cells x624)) (r' := (Event.cells x624)) (l' := (setI (setI x358 x355 x619) 0 x624)) rfl rfl rfl rfl rfl .here hR652 hq655 rfl rfl rfl (RowR.set 0 hR652 rfl) (fun hR657 => ⟨(Inc.cons (.tail _ (.head _)) (Inc.cons (.tail _ (.tail _ (.head _))) Inc.nil)), ?_⟩)))
                              have hE658 := set_at hq655 (v := (Event.cells x624))
                              refine Aw_done (by kernel_rfl) ?_
                              refine Shift.pull (.there .here) ?_
                              refine Shift.pull (.there .here) ?_
                              refine Shift.rem (.there (.there .here)) ?_
                              refine Shift.done ?_
                              exact ⟨[(11, (sv v269)), (14, (sv v360))], ⟨rfl, rfl, trivial⟩, v360, (setI (setI x358 x355 x619) 0 x624), ((rs361.set x355.toNat (Event.cells x619)).set ((0 : Int).toNat) (Event.cells x624)), rfl, rfl, rfl, H, hR657⟩
                            · skip
                              obtain ⟨r659, hq660, hr661⟩ := RowR.at hR362 hx625
                              obtain rfl := hr661
                              refine id (Ax_mk rfl rfl (OpW_of_Qt rfl rfl (Q_ixR (T := TyEvent) (.head _) hR362 hq660 (getI_ix hx625).1 rfl rfl rfl rfl rfl) ⟨(Inc.cons (.tail _ (.head _)) (Inc.cons (.tail _ (.tail _ (.head _))) Inc.nil)), ?_⟩))
                              refine Aw_two 5 9 (by kernel_rfl) ?_ ?_
                              · skip
                                refine id (Ax_mk rfl rfl (OpW_of_Qt rfl rfl (Qt_loadA (m := 8) (cs := (Event.cells x619)) rfl rfl rfl rfl ⟨rfl, Rd_row (T := TyEvent) (.head _) hR362 hq644 rfl rfl⟩) ⟨(Inc.cons (.tail _ (.head _)) (Inc.cons (.tail _ (.tail _ (.head _))) Inc.nil)), ?_⟩))
                                refine Aw_one 9 (by kernel_rfl) (Ax_mk rfl rfl (OpW_of_Qt rfl rfl (Qt_loadA (m := 8) (cs := (Event.cells x624)) rfl rfl rfl rfl ⟨rfl, Rd_row (T := TyEvent) (.head _) hR362 hq660 rfl rfl⟩) ⟨(Inc.cons (.tail _ (.head _)) (Inc.cons (.tail _ (.tail _ (.head _))) Inc.nil)), ?_⟩))
                                obtain ⟨r662, hq663, hr664⟩ := RowR.at hR362 hx630
                                obtain rfl := hr664
                                refine Aw_one 10 (by kernel_rfl) (Ax_mk rfl rfl (OpW_of_Qt rfl rfl (Q_ixR (T := TyEvent) (.head _) hR362 hq663 (getI_ix hx630).1 rfl rfl rfl rfl rfl) ⟨(Inc.cons (.tail _ (.head _)) (Inc.cons (.tail _ (.tail _ (.head _))) Inc.nil)), ?_⟩))
                                refine Aw_one 11 (by kernel_rfl) (Ax_mk rfl rfl (O_storeR (T := TyEvent) (vs := (Event.cells x619)) (r' := (Event.cells x619)) (l' := (setI x358 x355 x619)) rfl rfl rfl rfl rfl .here hR362 hq663 rfl rfl rfl (RowR.set x355 hR362 rfl) (fun hR665 => ⟨(Inc.cons (.tail _ (.head _)) (Inc.cons (.tail _ (.tail _ (.head _))) Inc.nil)), ?_⟩)))
                                have hE666 := set_at hq663 (v := (Event.cells x619))
                                obtain ⟨r667, hq668, hr669⟩ := RowR.at hR665 hx637
                                obtain rfl := hr669
                                refine Aw_one 12 (by kernel_rfl) (Ax_mk rfl rfl (OpW_of_Qt rfl rfl (Q_ixR (T := TyEvent) (.head _) hR665 hq668 (getI_ix hx637).1 rfl rfl rfl rfl rfl) ⟨(Inc.cons (.tail _ (.head _)) (Inc.cons (.tail _ (.tail _ (.head _))) Inc.nil)), ?_⟩))
                                refine Aw_one 13 (by kernel_rfl) (Ax_mk rfl rfl (O_storeR (T := TyEvent) (vs := (Event.cells x624)) (r' := (Event.cells x624)) (l' := (setI (setI x358 x355 x619) 0 x624)) rfl rfl rfl rfl rfl .here hR665 hq668 rfl rfl rfl (RowR.set 0 hR665 rfl) (fun hR670 => ⟨(Inc.cons (.tail _ (.head _)) (Inc.cons (.tail _ (.tail _ (.head _))) Inc.nil)), ?_⟩)))
                                have hE671 := set_at hq668 (v := (Event.cells x624))
                                refine Aw_done (by kernel_rfl) ?_
                                refine Shift.pull (.there .here) ?_
                                refine Shift.pull (.there .here) ?_
                                refine Shift.rem (.there (.there .here)) ?_
                                refine Shift.done ?_
                                exact ⟨[(11, (sv v269)), (14, (sv v360))], ⟨rfl, rfl, trivial⟩, v360, (setI (setI x358 x355 x619) 0 x624), ((rs361.set x355.toNat (Event.cells x619)).set ((0 : Int).toNat) (Event.cells x624)), rfl, rfl, rfl, H, hR670⟩
                              · skip
                                refine id (Ax_mk rfl rfl (OpW_of_Qt rfl rfl (Qt_loadA (m := 8) (cs := (Event.cells x624)) rfl rfl rfl rfl ⟨rfl, Rd_row (T := TyEvent) (.head _) hR362 hq660 rfl rfl⟩) ⟨(Inc.cons (.tail _ (.head _)) (Inc.cons (.tail _ (.tail _ (.head _))) Inc.nil)), ?_⟩))
                                refine Aw_one 5 (by kernel_rfl) (Ax_mk rfl rfl (OpW_of_Qt rfl rfl (Qt_loadA (m := 8) (cs := (Event.cells x619)) rfl rfl rfl rfl ⟨rfl, Rd_row (T := TyEvent) (.head _) hR362 hq644 rfl rfl⟩) ⟨(Inc.cons (.tail _ (.head _)) (Inc.cons (.tail _ (.tail _ (.head _))) Inc.nil)), ?_⟩))
                                obtain ⟨r672, hq673, hr674⟩ := RowR.at hR362 hx630
                                obtain rfl := hr674
                                refine Aw_one 10 (by kernel_rfl) (Ax_mk rfl rfl (OpW_of_Qt rfl rfl (Q_ixR (T := TyEvent) (.head _) hR362 hq673 (getI_ix hx630).1 rfl rfl rfl rfl rfl) ⟨(Inc.cons (.tail _ (.head _)) (Inc.cons (.tail _ (.tail _ (.head _))) Inc.nil)), ?_⟩))
                                refine Aw_one 11 (by kernel_rfl) (Ax_mk rfl rfl (O_storeR (T := TyEvent) (vs := (Event.cells x619)) (r' := (Event.cells x619)) (l' := (setI x358 x355 x619)) rfl rfl rfl rfl rfl .here hR362 hq673 rfl rfl rfl (RowR.set x355 hR362 rfl) (fun hR675 => ⟨(Inc.cons (.tail _ (.head _)) (Inc.cons (.tail _ (.tail _ (.head _))) Inc.nil)), ?_⟩)))
                                have hE676 := set_at hq673 (v := (Event.cells x619))
                                obtain ⟨r677, hq678, hr679⟩ := RowR.at hR675 hx637
                                obtain rfl := hr679
                                refine Aw_one 12 (by kernel_rfl) (Ax_mk rfl rfl (OpW_of_Qt rfl rfl (Q_ixR (T := TyEvent) (.head _) hR675 hq678 (getI_ix hx637).1 rfl rfl rfl rfl rfl) ⟨(Inc.cons (.tail _ (.head _)) (Inc.cons (.tail _ (.tail _ (.head _))) Inc.nil)), ?_⟩))
                                refine Aw_one 13 (by kernel_rfl) (Ax_mk rfl rfl (O_storeR (T := TyEvent) (vs := (Event.cells x624)) (r' := (Event.cells x624)) (l' := (setI (setI x358 x355 x619) 0 x624)) rfl rfl rfl rfl rfl .here hR675 hq678 rfl rfl rfl (RowR.set 0 hR675 rfl) (fun hR680 => ⟨(Inc.cons (.tail _ (.head _)) (Inc.cons (.tail _ (.tail _ (.head _))) Inc.nil)), ?_⟩)))
                                have hE681 := set_at hq678 (v := (Event.cells x624))
                                refine Aw_done (by kernel_rfl) ?_
                                refine Shift.pull (.there .here) ?_
                                refine Shift.pull (.there .here) ?_
                                refine Shift.rem (.there (.there .here)) ?_
                                refine Shift.done ?_
                                exact ⟨[(11, (sv v269)), (14, (sv v360))], ⟨rfl, rfl, trivial⟩, v360, (setI (setI x358 x355 x619) 0 x624), ((rs361.set x355.toNat (Event.cells x619)).set ((0 : Int).toNat) (Event.cells x624)), rfl, rfl, rfl, H, hR680⟩
                          · skip
                            obtain ⟨r682, hq683, hr684⟩ := RowR.at hR362 hx625
                            obtain rfl := hr684
                            refine id (Ax_mk rfl rfl (OpW_of_Qt rfl rfl (Q_ixR (T := TyEvent) (.head _) hR362 hq683 (getI_ix hx625).1 rfl rfl rfl rfl rfl) ⟨(Inc.cons (.tail _ (.head _)) (Inc.cons (.tail _ (.tail _ (.head _))) Inc.nil)), ?_⟩))
                            refine Aw_two 4 9 (by kernel_rfl) ?_ ?_
                            · skip
                              obtain ⟨r685, hq686, hr687⟩ := RowR.at hR362 hx620
                              obtain rfl := hr687
                              refine id (Ax_mk rfl rfl (OpW_of_Qt rfl rfl (Q_ixR (T := TyEvent) (.head _) hR362 hq686 (getI_ix hx620).1 rfl rfl rfl rfl rfl) ⟨(Inc.cons (.tail _ (.head _)) (Inc.cons (.tail _ (.tail _ (.head _))) Inc.nil)), ?_⟩))
                              refine Aw_two 5 9 (by kernel_rfl) ?_ ?_
                              · skip
                                refine id (Ax_mk rfl rfl (OpW_of_Qt rfl rfl (Qt_loadA (m := 8) (cs := (Event.cells x619)) rfl rfl rfl rfl ⟨rfl, Rd_row (T := TyEvent) (.head _) hR362 hq686 rfl rfl⟩) ⟨(Inc.cons (.tail _ (.head _)) (Inc.cons (.tail _ (.tail _ (.head _))) Inc.nil)), ?_⟩))
                                refine Aw_one 9 (by kernel_rfl) (Ax_mk rfl rfl (OpW_of_Qt rfl rfl (Qt_loadA (m := 8) (cs := (Event.cells x624)) rfl rfl rfl rfl ⟨rfl, Rd_row (T := TyEvent) (.head _) hR362 hq683 rfl rfl⟩) ⟨(Inc.cons (.tail _ (.head _)) (Inc.cons (.tail _ (.tail _ (.head _))) Inc.nil)), ?_⟩))
                                obtain ⟨r688, hq689, hr690⟩ := RowR.at hR362 hx630
                                obtain rfl := hr690
                                refine Aw_one 10 (by kernel_rfl) (Ax_mk rfl rfl (OpW_of_Qt rfl rfl (Q_ixR (T := TyEvent) (.head _) hR362 hq689 (getI_ix hx630).1 rfl rfl rfl rfl rfl) ⟨(Inc.cons (.tail _ (.head _)) (Inc.cons (.tail _ (.tail _ (.head _))) Inc.nil)), ?_⟩))
                                refine Aw_one 11 (by kernel_rfl) (Ax_mk rfl rfl (O_storeR (T := TyEvent) (vs := (Event.cells x619)) (r' := (Event.cells x619)) (l' := (setI x358 x355 x619)) rfl rfl rfl rfl rfl .here hR362 hq689 rfl rfl rfl (RowR.set x355 hR362 rfl) (fun hR691 => ⟨(Inc.cons (.tail _ (.head _)) (Inc.cons (.tail _ (.tail _ (.head _))) Inc.nil)), ?_⟩)))
                                have hE692 := set_at hq689 (v := (Event.cells x619))
                                obtain ⟨r693, hq694, hr695⟩ := RowR.at hR691 hx637
                                obtain rfl := hr695
                                refine Aw_one 12 (by kernel_rfl) (Ax_mk rfl rfl (OpW_of_Qt rfl rfl (Q_ixR (T := TyEvent) (.head _) hR691 hq694 (getI_ix hx637).1 rfl rfl rfl rfl rfl) ⟨(Inc.cons (.tail _ (.head _)) (Inc.cons (.tail _ (.tail _ (.head _))) Inc.nil)), ?_⟩))
                                refine Aw_one 13 (by kernel_rfl) (Ax_mk rfl rfl (O_storeR (T := TyEvent) (vs := (Event.cells x624)) (r' := (Event.cells x624)) (l' := (setI (setI x358 x355 x619) 0 x624)) rfl rfl rfl rfl rfl .here hR691 hq694 rfl rfl rfl (RowR.set 0 hR691 rfl) (fun hR696 => ⟨(Inc.cons (.tail _ (.head _)) (Inc.cons (.tail _ (.tail _ (.head _))) Inc.nil)), ?_⟩)))
                                have hE697 := set_at hq694 (v := (Event.cells x624))
                                refine Aw_done (by kernel_rfl) ?_
                                refine Shift.pull (.there .here) ?_
                                refine Shift.pull (.there .here) ?_
                                refine Shift.rem (.there (.there .here)) ?_
                                refine Shift.done ?_
                                exact ⟨[(11, (sv v269)), (14, (sv v360))], ⟨rfl, rfl, trivial⟩, v360, (setI (setI x358 x355 x619) 0 x624), ((rs361.set x355.toNat (Event.cells x619)).set ((0 : Int).toNat) (Event.cells x624)), rfl, rfl, rfl, H, hR696⟩
                              · skip
                                refine id (Ax_mk rfl rfl (OpW_of_Qt rfl rfl (Qt_loadA (m := 8) (cs := (Event.cells x624)) rfl rfl rfl rfl ⟨rfl, Rd_row (T := TyEvent) (.head _) hR362 hq683 rfl rfl⟩) ⟨(Inc.cons (.tail _ (.head _)) (Inc.cons (.tail _ (.tail _ (.head _))) Inc.nil)), ?_⟩))
                                refine Aw_one 5 (by kernel_rfl) (Ax_mk rfl rfl (OpW_of_Qt rfl rfl (Qt_loadA (m := 8) (cs := (Event.cells x619)) rfl rfl rfl rfl ⟨rfl, Rd_row (T := TyEvent) (.head _) hR362 hq686 rfl rfl⟩) ⟨(Inc.cons (.tail _ (.head _)) (Inc.cons (.tail _ (.tail _ (.head _))) Inc.nil)), ?_⟩))
                                obtain ⟨r698, hq699, hr700⟩ := RowR.at hR362 hx630
                                obtain rfl := hr700
                                refine Aw_one 10 (by kernel_rfl) (Ax_mk rfl rfl (OpW_of_Qt rfl rfl (Q_ixR (T := TyEvent) (.head _) hR362 hq699 (getI_ix hx630).1 rfl rfl rfl rfl rfl) ⟨(Inc.cons (.tail _ (.head _)) (Inc.cons (.tail _ (.tail _ (.head _))) Inc.nil)), ?_⟩))
                                refine Aw_one 11 (by kernel_rfl) (Ax_mk rfl rfl (O_storeR (T := TyEvent) (vs := (Event.cells x619)) (r' := (Event.cells x619)) (l' := (setI x358 x355 x619)) rfl rfl rfl rfl rfl .here hR362 hq699 rfl rfl rfl (RowR.set x355 hR362 rfl) (fun hR701 => ⟨(Inc.cons (.tail _ (.head _)) (Inc.cons (.tail _ (.tail _ (.head _))) Inc.nil)), ?_⟩)))
                                have hE702 := set_at hq699 (v := (Event.cells x619))
                                obtain ⟨r703, hq704, hr705⟩ := RowR.at hR701 hx637
                                obtain rfl := hr705
                                refine Aw_one 12 (by kernel_rfl) (Ax_mk rfl rfl (OpW_of_Qt rfl rfl (Q_ixR (T := TyEvent) (.head _) hR701 hq704 (getI_ix hx637).1 rfl rfl rfl rfl rfl) ⟨(Inc.cons (.tail _ (.head _)) (Inc.cons (.tail _ (.tail _ (.head _))) Inc.nil)), ?_⟩))
                                refine Aw_one 13 (by kernel_rfl) (Ax_mk rfl rfl (O_storeR (T := TyEvent) (vs := (Event.cells x624)) (r' := (Event.cells x624)) (l' := (setI (setI x358 x355 x619) 0 x624)) rfl rfl rfl rfl rfl .here hR701 hq704 rfl rfl rfl (RowR.set 0 hR701 rfl) (fun hR706 => ⟨(Inc.cons (.tail _ (.head _)) (Inc.cons (.tail _ (.tail _ (.head _))) Inc.nil)), ?_⟩)))
                                have hE707 := set_at hq704 (v := (Event.cells x624))
                                refine Aw_done (by kernel_rfl) ?_
                                refine Shift.pull (.there .here) ?_
                                refine Shift.pull (.there .here) ?_
                                refine Shift.rem (.there (.there .here)) ?_
                                refine Shift.done ?_
                                exact ⟨[(11, (sv v269)), (14, (sv v360))], ⟨rfl, rfl, trivial⟩, v360, (setI (setI x358 x355 x619) 0 x624), ((rs361.set x355.toNat (Event.cells x619)).set ((0 : Int).toNat) (Event.cells x624)), rfl, rfl, rfl, H, hR706⟩
                            · skip
                              refine id (Ax_mk rfl rfl (OpW_of_Qt rfl rfl (Qt_loadA (m := 8) (cs := (Event.cells x624)) rfl rfl rfl rfl ⟨rfl, Rd_row (T := TyEvent) (.head _) hR362 hq683 rfl rfl⟩) ⟨(Inc.cons (.tail _ (.head _)) (Inc.cons (.tail _ (.tail _ (.head _))) Inc.nil)), ?_⟩))
                              obtain ⟨r708, hq709, hr710⟩ := RowR.at hR362 hx620
                              obtain rfl := hr710
                              refine Aw_one 4 (by kernel_rfl) (Ax_mk rfl rfl (OpW_of_Qt rfl rfl (Q_ixR (T := TyEvent) (.head _) hR362 hq709 (getI_ix hx620).1 rfl rfl rfl rfl rfl) ⟨(Inc.cons (.tail _ (.head _)) (Inc.cons (.tail _ (.tail _ (.head _))) Inc.nil)), ?_⟩))
                              refine Aw_one 5 (by kernel_rfl) (Ax_mk rfl rfl (OpW_of_Qt rfl rfl (Qt_loadA (m := 8) (cs := (Event.cells x619)) rfl rfl rfl rfl ⟨rfl, Rd_row (T := TyEvent) (.head _) hR362 hq709 rfl rfl⟩) ⟨(Inc.cons (.tail _ (.head _)) (Inc.cons (.tail _ (.tail _ (.head _))) Inc.nil)), ?_⟩))
                              obtain ⟨r711, hq712, hr713⟩ := RowR.at hR362 hx630
                              obtain rfl := hr713
                              refine Aw_one 10 (by kernel_rfl) (Ax_mk rfl rfl (OpW_of_Qt rfl rfl (Q_ixR (T := TyEvent) (.head _) hR362 hq712 (getI_ix hx630).1 rfl rfl rfl rfl rfl) ⟨(Inc.cons (.tail _ (.head _)) (Inc.cons (.tail _ (.tail _ (.head _))) Inc.nil)), ?_⟩))
                              refine Aw_one 11 (by kernel_rfl) (Ax_mk rfl rfl (O_storeR (T := TyEvent) (vs := (Event.cells x619)) (r' := (Event.cells x619)) (l' := (setI x358 x355 x619)) rfl rfl rfl rfl rfl .here hR362 hq712 rfl rfl rfl (RowR.set x355 hR362 rfl) (fun hR714 => ⟨(Inc.cons (.tail _ (.head _)) (Inc.cons (.tail _ (.tail _ (.head _))) Inc.nil)), ?_⟩)))
                              have hE715 := set_at hq712 (v := (Event.cells x619))
                              obtain ⟨r716, hq717, hr718⟩ := RowR.at hR714 hx637
                              obtain rfl := hr718
                              refine Aw_one 12 (by kernel_rfl) (Ax_mk rfl rfl (OpW_of_Qt rfl rfl (Q_ixR (T := TyEvent) (.head _) hR714 hq717 (getI_ix hx637).1 rfl rfl rfl rfl rfl) ⟨(Inc.cons (.tail _ (.head _)) (Inc.cons (.tail _ (.tail _ (.head _))) Inc.nil)), ?_⟩))
                              refine Aw_one 13 (by kernel_rfl) (Ax_mk rfl rfl (O_storeR (T := TyEvent) (vs := (Event.cells x624)) (r' := (Event.cells x624)) (l' := (setI (setI x358 x355 x619) 0 x624)) rfl rfl rfl rfl rfl .here hR714 hq717 rfl rfl rfl (RowR.set 0 hR714 rfl) (fun hR719 => ⟨(Inc.cons (.tail _ (.head _)) (Inc.cons (.tail _ (.tail _ (.head _))) Inc.nil)), ?_⟩)))
                              have hE720 := set_at hq717 (v := (Event.cells x624))
                              refine Aw_done (by kernel_rfl) ?_
                              refine Shift.pull (.there .here) ?_
                              refine Shift.pull (.there .here) ?_
                              refine Shift.rem (.there (.there .here)) ?_
                              refine Shift.done ?_
                              exact ⟨[(11, (sv v269)), (14, (sv v360))], ⟨rfl, rfl, trivial⟩, v360, (setI (setI x358 x355 x619) 0 x624), ((rs361.set x355.toNat (Event.cells x619)).set ((0 : Int).toNat) (Event.cells x624)), rfl, rfl, rfl, H, hR719⟩
                        · intro h618
                          have h618 := dcd_f (h618)
                          have H := iff_ h618 H
                          refine Cw_skip ?_
                          refine Shift.pull (.there .here) ?_
                          refine Shift.pull (.there .here) ?_
                          refine Shift.rem (.there (.there .here)) ?_
                          refine Shift.done ?_
                          exact ⟨[(11, (sv v269)), (14, (sv v360))], ⟨rfl, rfl, trivial⟩, v360, x358, rs361, rfl, rfl, rfl, H, hR362⟩
          rintro _ _ _ - ⟨v540, l541, rs543, rfl, rfl, rfl, H, hR542⟩
          unfold M_law16_HistoryChecks_J2 at H
          refine Cw_seq ?_
          refine Cw_region ?_
          refine Ow_q rfl rfl rfl (Qt_move rfl) ?_
          refine Ow_q rfl rfl rfl (Qt_move rfl) ?_
          refine Ow.shift (Shift.settle (T := TyEvent) .here hR542 rfl (fun K721 hK722 hs723 => Shift.done ?_))
          obtain ⟨x724, hx725, H⟩ := bnd H
          have hs726 := (hs323).mono hK722
          refine Ow_cons rfl (OpW_call rfl Try.call16 rfl rfl (c_M_history_Check l541 v540 x265 v269 x724 hx725 _ _ hs723 hs726) ?_)
          rintro _ K727 _ hK728 ⟨rfl, rfl⟩
          refine Ow_q rfl rfl rfl (Qt_move rfl) ?_
          refine Ow_q rfl rfl rfl (Qt_move rfl) ?_
          obtain ⟨x729, hx730, H⟩ := bnd H
          have hs731 := (hs723).mono hK728
          have hs732 := (hs726).mono hK728
          refine Ow_cons rfl (OpW_call rfl Try.call17 rfl rfl (c_M_ref16_Check l541 v540 x265 v269 x729 hx730 _ _ hs731 hs732) ?_)
          rintro _ K733 _ hK734 ⟨rfl, rfl⟩
          refine Ow_q rfl rfl rfl (Qt_eqB rfl rfl rfl) ?_
          refine Ow_q rfl rfl rfl (Qt_assign rfl) ?_
          refine Ow_nil ?_
          refine Cw_ret ?_
          obtain ey0 := inj1 H
          subst y0
          refine ⟨(by first | exact .inl rfl | exact .inr rfl), [(.bool (x724 == x729))], ⟨(.bool (x724 == x729)), _, rfl, rfl, rfl⟩, ?_⟩
          refine Shift.rem .here ?_
          refine Shift.rem .here ?_
          refine Shift.done ?_
          exact ⟨rfl, rfl⟩


end Go.Hx
