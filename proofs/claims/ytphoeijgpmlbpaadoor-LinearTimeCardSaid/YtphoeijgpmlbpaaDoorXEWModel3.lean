/- Printed by program. -/
import Derived.Test.YtphoeijgpmlbpaaDoorXEM
import Derived.Test.YtphoeijgpmlbpaaDoorXEWDraw
namespace Go.Hx
open Go Go.Proofs
set_option linter.unusedSimpArgs false
set_option linter.unusedVariables false
set_option maxRecDepth 10000
set_option maxHeartbeats 1000000 in
theorem c_M_model_Apply (p0 : List Chan) (vp0 : SV) (p1 : Op) (vp1_cases : SV) (vp1_draws : SV) (p2 : Result) (y0 : List Chan) (y1 : Bool) (H : M_model_Apply p0 p1 p2 = some (y0, y1)) (K : Kp) (G : List Ent) (hp0 : Slr TyChan K (sv vp0) p0) (hp1_cases : Slr TyCase K (sv vp1_cases) p1.cases) (hp1_draws : Slr Ty.i64 K (sv vp1_draws) p1.draws) :
    Fc Tryd.prog 23 #[(sv vp0), (.agg (Op.cells p1 vp1_cases vp1_draws).toArray), (.agg (Result.cells p2).toArray)] K (G) (fun v K' G' => ∃ (wy0 : SV), v = (.tuple #[(sv wy0), (.bool y1)]) ∧ G = G' ∧ Slr TyChan K' (sv wy0) y0) := by
  refine Fc_body Tryd.func23 rfl Tryd.ntmps23 Tryd.results23 rfl ?_
  unfold M_model_Apply at H
  refine Cw_seq ?_
  refine Cw_region ?_
  refine Ow_cons rfl (OpW_box (cs := [(sv vp0)]) rfl rfl rfl (fun b181 => ?_))
  refine Ow_cons rfl (OpW_box (cs := (Op.cells p1 vp1_cases vp1_draws)) rfl rfl rfl (fun b182 => ?_))
  refine Ow_cons rfl (OpW_box (cs := (Result.cells p2)) rfl rfl rfl (fun b183 => ?_))
  refine Ow_q rfl rfl rfl (Qt_assign rfl) ?_
  refine Ow_q rfl rfl rfl (Qt_assign rfl) ?_
  refine Ow_nil ?_
  refine Cw_seq ?_
  refine Cw_region ?_
  refine Ow_q rfl rfl rfl (Qt_loadA (m := 7) (cs := (Op.cells p1 vp1_cases vp1_draws)) rfl rfl rfl rfl ⟨rfl, Rdc.blk (.tail _ (.head _)) rfl⟩) ?_
  refine Ow_q rfl rfl rfl (Qt_fieldAddr (m := 1) rfl rfl rfl rfl rfl) ?_
  refine Ow_q rfl rfl rfl (Qt_load1 (v := (.int .i64 p2.case_)) rfl rfl rfl (Rdc.blk (.head _) rfl)) ?_
  obtain ⟨x184, x185, hx186, H⟩ := bnd2 H
  refine Ow_cons rfl (OpW_call rfl Tryd.call37 rfl rfl (c_M_model_part p1 vp1_cases vp1_draws p2.case_ x184 x185 hx186 _ _ hp1_cases hp1_draws) ?_)
  rintro _ _ _ - ⟨rfl, rfl, rfl⟩
  refine Ow_q rfl rfl rfl (Qt_move rfl) ?_
  refine Ow_q rfl rfl rfl (Qt_extract rfl rfl) ?_
  refine Ow_q rfl rfl rfl (Qt_extract rfl rfl) ?_
  refine Ow_cons rfl (OpW_alloc (cs := (Case.cells (Case.mk false 0 0))) rfl rfl rfl rfl (fun b187 => ?_))
  refine Ow_cons rfl (OpW_store (vs := (Case.cells x184)) (all' := (Case.cells x184)) rfl rfl rfl rfl rfl .here rfl rfl rfl ?_)
  refine Ow_q rfl rfl rfl (Qt_assign rfl) ?_
  refine Ow_nil ?_
  refine Cw_join (fun env' K' G' => ∃ (t189 : Bool) (i190 : Int) (i191 : Int), [(3, (.pointer (some ((⟨b181, 0, none⟩ : Addr).add 0)))), (4, (.pointer (some ((⟨b182, 0, none⟩ : Addr).add 0)))), (5, (.pointer (some ((⟨b183, 0, none⟩ : Addr).add 0)))), (8, (.pointer (some ((⟨b187, 0, none⟩ : Addr).add 0)))), (9, (.bool x185))] = env' ∧ K = K' ∧ (.blk b187 92 (Case.cells (Case.mk t189 i190 i191))) :: (.blk b183 36 (Result.cells p2)) :: (.blk b182 43 (Op.cells p1 vp1_cases vp1_draws)) :: (.blk b181 50 [(sv vp0)]) :: G = G' ∧ M_model_Apply_J1 x185 p2 p1 p0 t189 i190 i191 = some (y0, y1)) ?_ ?_
  · skip
    refine Cw_seq ?_
    refine Cw_region ?_
    refine Ow_q rfl rfl rfl (Qt_fieldAddr (m := 0) rfl rfl rfl rfl rfl) ?_
    refine Ow_q rfl rfl rfl (Qt_load1 (v := (.int .i64 p1.kind)) rfl rfl rfl (Rdc.blk (.tail _ (.tail _ (.head _))) rfl)) ?_
    refine Ow_q rfl rfl rfl (Qt_cmp rfl rfl rfl) ?_
    refine Ow_nil ?_
    refine Cw_cond rfl ?_ ?_
    · intro h192
      have h192 := dcd_t (h192)
      have H := ift h192 H
      refine Cw_region ?_
      refine Ow_q rfl rfl rfl (Qt_fieldAddr (m := 2) rfl rfl rfl rfl rfl) ?_
      refine Ow_q rfl rfl rfl (Qt_load1 (v := (.int .i64 p1.channel)) rfl rfl rfl (Rdc.blk (.tail _ (.tail _ (.head _))) rfl)) ?_
      refine Ow_q rfl rfl rfl (Qt_build (cs := (Case.cells (Case.mk false p1.channel 0))) rfl rfl rfl rfl rfl rfl) ?_
      refine Ow_cons rfl (OpW_store (vs := (Case.cells (Case.mk false p1.channel 0))) (all' := (Case.cells (Case.mk false p1.channel 0))) rfl rfl rfl rfl rfl .here rfl rfl rfl ?_)
      refine Ow_nil ?_
      refine Shift.pull (.there (.there (.there .here))) ?_
      refine Shift.pull (.there (.there (.there .here))) ?_
      refine Shift.pull (.there (.there (.there .here))) ?_
      refine Shift.pull (.there (.there (.there .here))) ?_
      refine Shift.done ?_
      exact ⟨[(3, (.pointer (some ((⟨b181, 0, none⟩ : Addr).add 0)))), (4, (.pointer (some ((⟨b182, 0, none⟩ : Addr).add 0)))), (5, (.pointer (some ((⟨b183, 0, none⟩ : Addr).add 0)))), (8, (.pointer (some ((⟨b187, 0, none⟩ : Addr).add 0)))), (9, (.bool x185))], ⟨rfl, rfl, rfl, rfl, rfl, trivial⟩, false, p1.channel, 0, rfl, rfl, rfl, H⟩
    · intro h192
      have h192 := dcd_f (h192)
      have H := iff_ h192 H
      refine Cw_skip ?_
      refine Shift.pull (.there (.there (.there .here))) ?_
      refine Shift.pull (.there (.there (.there .here))) ?_
      refine Shift.pull (.there (.there (.there .here))) ?_
      refine Shift.pull (.there (.there (.there .here))) ?_
      refine Shift.done ?_
      exact ⟨[(3, (.pointer (some ((⟨b181, 0, none⟩ : Addr).add 0)))), (4, (.pointer (some ((⟨b182, 0, none⟩ : Addr).add 0)))), (5, (.pointer (some ((⟨b183, 0, none⟩ : Addr).add 0)))), (8, (.pointer (some ((⟨b187, 0, none⟩ : Addr).add 0)))), (9, (.bool x185))], ⟨rfl, rfl, rfl, rfl, rfl, trivial⟩, x184.send, x184.channel, x184.value, rfl, rfl, rfl, H⟩
  rintro _ _ _ - ⟨t189, i190, i191, rfl, rfl, rfl, H⟩
  unfold M_model_Apply_J1 at H
  refine Cw_seq ?_
  refine Cw_region ?_
  refine Ow_q rfl rfl rfl (Qt_load1 (v := (sv vp0)) rfl rfl rfl (Rdc.blk (.tail _ (.tail _ (.tail _ (.head _)))) rfl)) ?_
  refine Ow_q rfl rfl rfl (Qt_fieldAddr (m := 1) rfl rfl rfl rfl rfl) ?_
  refine Ow_q rfl rfl rfl (Qt_load1 (v := (.int .i64 i190)) rfl rfl rfl (Rdc.blk (.head _) rfl)) ?_
  obtain ⟨x193, x194, hx195, H⟩ := bnd2 H
  refine Ow_cons rfl (OpW_call rfl Tryd.call38 rfl rfl (c_M_model_find p0 vp0 i190 x193 x194 hx195 _ _ hp0) ?_)
  rintro _ _ _ - ⟨v196, rfl, rfl, rfl, hs197⟩
  refine Ow_q rfl rfl rfl (Qt_move rfl) ?_
  refine Ow_q rfl rfl rfl (Qt_extract rfl rfl) ?_
  refine Ow_q rfl rfl rfl (Qt_extract rfl rfl) ?_
  refine Ow_cons rfl (OpW_alloc (cs := (Chan.cells (Chan.mk 0 [] false) nilS)) rfl rfl rfl rfl (fun b198 => ?_))
  refine Ow_cons rfl (OpW_store (vs := (Chan.cells x193 v196)) (all' := (Chan.cells x193 v196)) rfl rfl rfl rfl rfl .here rfl rfl rfl ?_)
  refine Ow_q rfl rfl rfl (Qt_assign rfl) ?_
  refine Ow_nil ?_
  refine Cw_join (fun env' K' G' => [] = env' ∧ G = G' ∧ M_model_Apply_J2 = some (y0, y1)) ?_ ?_
  · skip
    refine Cw_seq ?_
    refine Cw_region ?_
    refine Ow_q rfl rfl rfl (Qt_loadA (m := 5) (cs := (Result.cells p2)) rfl rfl rfl rfl ⟨rfl, Rdc.blk (.tail _ (.tail _ (.head _))) rfl⟩) ?_
    refine Ow_nil ?_
    refine Cw_block ?_
    refine Cw_seq ?_
    refine Cw_region ?_
    refine Ow_q rfl rfl rfl (Qt_fieldAddr (m := 1) rfl rfl rfl rfl rfl) ?_
    refine Ow_q rfl rfl rfl (Qt_load1 (v := (.int .i64 p2.case_)) rfl rfl rfl (Rdc.blk (.tail _ (.tail _ (.head _))) rfl)) ?_
    refine Ow_q rfl rfl rfl (Qt_build (cs := (Result.cells (Result.mk 1 p2.case_ 0 false 0))) rfl rfl rfl rfl rfl rfl) ?_
    refine Ow_q rfl rfl rfl (Qt_eqS rfl rfl (fun w => Result.eqrun p2 (Result.mk 1 p2.case_ 0 false 0) w) (by kernel_rfl)) ?_
    refine Ow_q rfl rfl rfl (Qt_assign rfl) ?_
    refine Ow_nil ?_
    refine Cw_cond rfl ?_ ?_
    · intro h345
      have h345 := dcd_t (h345)
      have H := ift h345 H
      refine Cw_join (fun env' K' G' => ∃ (t351 : Bool), [(3, (.pointer (some ((⟨b181, 0, none⟩ : Addr).add 0)))), (8, (.pointer (some ((⟨b187, 0, none⟩ : Addr).add 0)))), (10, (.pointer (some ((⟨b198, 0, none⟩ : Addr).add 0)))), (51, (.bool t351))] = env' ∧ K = K' ∧ (.blk b198 74 (Chan.cells x193 v196)) :: (.blk b187 92 (Case.cells (Case.mk t189 i190 i191))) :: (.blk b181 50 [(sv vp0)]) :: G = G' ∧ M_model_Apply_J3 x193 t189 i190 i191 p0 t351 = some (y0, y1)) ?_ ?_
      · skip
        refine Cw_region ?_
        refine Ow_q rfl rfl rfl (Qt_move rfl) ?_
        refine Ow_q rfl rfl rfl (Qt_move rfl) ?_
        refine Ow_caseG rfl rfl rfl ?_ ?_
        · intro h352
          have H := ift h352 H
          refine Ow_qw rfl rfl rfl rfl rfl rfl (Qt_fieldAddr (m := 0) rfl rfl rfl rfl rfl) ?_
          refine Ow_qw rfl rfl rfl rfl rfl rfl (Qt_load1 (v := (.bool t189)) rfl rfl rfl (Rdc.blk (.tail _ (.head _)) rfl)) ?_
          refine Ow_q rfl rfl rfl (Qt_pick_t rfl rfl) ?_
          refine Ow_q rfl rfl rfl (Qt_move rfl) ?_
          refine Ow_caseG rfl rfl rfl ?_ ?_
          · intro h353
            have H := ift h353 H
            refine Ow_qw rfl rfl rfl rfl rfl rfl (Qt_move rfl) ?_
            refine Ow_q rfl rfl rfl (Qt_pick_t rfl rfl) ?_
            refine Ow_q rfl rfl rfl (Qt_move rfl) ?_
            refine Ow_caseG rfl rfl rfl ?_ ?_
            · intro h354
              have H := ift h354 H
              refine Ow_qw rfl rfl rfl rfl rfl rfl (Qt_loadA (m := 3) (cs := (Chan.cells x193 v196)) rfl rfl rfl rfl ⟨rfl, Rdc.blk (.head _) rfl⟩) ?_
              obtain ⟨x355, hx356, H⟩ := bnd H
              refine Ow_want rfl rfl rfl rfl (OpW_call rfl Tryd.call39 rfl rfl (c_M_model_room x193 v196 x355 hx356 _ _ hs197) ?_)
              rintro _ _ _ - ⟨rfl, rfl, rfl⟩
              refine Ow_q rfl rfl rfl (Qt_pick_t rfl rfl) ?_
              refine Ow_nil ?_
              refine Shift.pull (.there (.there (.there (.there .here)))) ?_
              refine Shift.pull (.there (.there .here)) ?_
              refine Shift.pull (.there (.there .here)) ?_
              refine Shift.rem (.there (.there (.there .here))) ?_
              refine Shift.rem (.there (.there (.there .here))) ?_
              refine Shift.done ?_
              exact ⟨[(3, (.pointer (some ((⟨b181, 0, none⟩ : Addr).add 0)))), (8, (.pointer (some ((⟨b187, 0, none⟩ : Addr).add 0)))), (10, (.pointer (some ((⟨b198, 0, none⟩ : Addr).add 0)))), (51, (.bool x355))], ⟨rfl, rfl, rfl, rfl, trivial⟩, x355, rfl, rfl, rfl, H⟩
            · intro h354
              have H := iff_ (btf h354) H
              refine Ow_pass rfl rfl rfl rfl rfl rfl rfl ?_
              refine Ow_pass rfl rfl rfl rfl rfl rfl rfl ?_
              refine Ow_q rfl rfl rfl (Qt_pick_f rfl rfl) ?_
              refine Ow_nil ?_
              refine Shift.pull (.there (.there (.there (.there .here)))) ?_
              refine Shift.pull (.there (.there .here)) ?_
              refine Shift.pull (.there (.there .here)) ?_
              refine Shift.rem (.there (.there (.there .here))) ?_
              refine Shift.rem (.there (.there (.there .here))) ?_
              refine Shift.done ?_
              exact ⟨[(3, (.pointer (some ((⟨b181, 0, none⟩ : Addr).add 0)))), (8, (.pointer (some ((⟨b187, 0, none⟩ : Addr).add 0)))), (10, (.pointer (some ((⟨b198, 0, none⟩ : Addr).add 0)))), (51, (.bool false))], ⟨rfl, rfl, rfl, rfl, trivial⟩, false, rfl, rfl, rfl, H⟩
          · intro h353
            have H := iff_ (btf h353) H
            refine Ow_pass rfl rfl rfl rfl rfl rfl rfl ?_
            refine Ow_q rfl rfl rfl (Qt_pick_f rfl rfl) ?_
            refine Ow_q rfl rfl rfl (Qt_move rfl) ?_
            refine Ow_pass rfl rfl rfl rfl rfl rfl rfl ?_
            refine Ow_pass rfl rfl rfl rfl rfl rfl rfl ?_
            refine Ow_q rfl rfl rfl (Qt_pick_f rfl rfl) ?_
            refine Ow_nil ?_
            refine Shift.pull (.there (.there (.there (.there .here)))) ?_
            refine Shift.pull (.there (.there .here)) ?_
            refine Shift.pull (.there (.there .here)) ?_
            refine Shift.rem (.there (.there (.there .here))) ?_
            refine Shift.rem (.there (.there (.there .here))) ?_
            refine Shift.done ?_
            exact ⟨[(3, (.pointer (some ((⟨b181, 0, none⟩ : Addr).add 0)))), (8, (.pointer (some ((⟨b187, 0, none⟩ : Addr).add 0)))), (10, (.pointer (some ((⟨b198, 0, none⟩ : Addr).add 0)))), (51, (.bool false))], ⟨rfl, rfl, rfl, rfl, trivial⟩, false, rfl, rfl, rfl, H⟩
        · intro h352
          have H := iff_ (btf h352) H
          refine Ow_pass rfl rfl rfl rfl rfl rfl rfl ?_
          refine Ow_pass rfl rfl rfl rfl rfl rfl rfl ?_
          refine Ow_q rfl rfl rfl (Qt_pick_f rfl rfl) ?_
          refine Ow_q rfl rfl rfl (Qt_move rfl) ?_
          refine Ow_pass rfl rfl rfl rfl rfl rfl rfl ?_
          refine Ow_q rfl rfl rfl (Qt_pick_f rfl rfl) ?_
          refine Ow_q rfl rfl rfl (Qt_move rfl) ?_
          refine Ow_pass rfl rfl rfl rfl rfl rfl rfl ?_
          refine Ow_pass rfl rfl rfl rfl rfl rfl rfl ?_
          refine Ow_q rfl rfl rfl (Qt_pick_f rfl rfl) ?_
          refine Ow_nil ?_
          refine Shift.pull (.there (.there (.there (.there .here)))) ?_
          refine Shift.pull (.there (.there .here)) ?_
          refine Shift.pull (.there (.there .here)) ?_
          refine Shift.rem (.there (.there (.there .here))) ?_
          refine Shift.rem (.there (.there (.there .here))) ?_
          refine Shift.done ?_
          exact ⟨[(3, (.pointer (some ((⟨b181, 0, none⟩ : Addr).add 0)))), (8, (.pointer (some ((⟨b187, 0, none⟩ : Addr).add 0)))), (10, (.pointer (some ((⟨b198, 0, none⟩ : Addr).add 0)))), (51, (.bool false))], ⟨rfl, rfl, rfl, rfl, trivial⟩, false, rfl, rfl, rfl, H⟩
      rintro _ _ _ - ⟨t351, rfl, rfl, rfl, H⟩
      unfold M_model_Apply_J3 at H
      refine Cw_cond rfl ?_ ?_
      · intro h357
        have H := ift h357 H
        refine Cw_join (fun env' K' G' => ∃ (v394 : SV) (l395 : List Int) (rs397 : List (List Value)), [(3, (.pointer (some ((⟨b181, 0, none⟩ : Addr).add 0)))), (8, (.pointer (some ((⟨b187, 0, none⟩ : Addr).add 0)))), (10, (.pointer (some ((⟨b198, 0, none⟩ : Addr).add 0))))] = env' ∧ K = K' ∧ (.blk b198 74 (Chan.cells (Chan.mk x193.capacity l395 x193.closed) v394)) :: (.blk b187 92 (Case.cells (Case.mk t189 i190 i191))) :: (.blk b181 50 [(sv vp0)]) :: (.row (sv v394) 34 1 rs397.flatten) :: G = G' ∧ M_model_Apply_J4 x193 t189 i190 i191 p0 l395 = some (y0, y1) ∧ RowR Ty.u64 K' rs397 l395) ?_ ?_
        · skip
          obtain ⟨x398, hx399, H⟩ := bnd H
          obtain ⟨x405, hx406, H⟩ := bnd H
          refine Cw_region_any [.blk b187 92 (Case.cells (Case.mk t189 i190 i191)), .blk b181 50 [(sv vp0)]] rfl (Inc.cons (.tail _ (.head _)) (Inc.cons (.tail _ (.tail _ (.head _))) Inc.nil)) ?_
          refine Aw_q 0 rfl (by kernel_rfl) (by kernel_rfl) (by kernel_rfl) rfl rfl rfl (Qt_fieldAddr (m := 1) rfl rfl rfl rfl rfl) ?_
          refine Aw_q 3 rfl (by kernel_rfl) (by kernel_rfl) (by kernel_rfl) rfl rfl rfl (Qt_fieldAddr (m := 2) rfl rfl rfl rfl rfl) ?_
          refine Aw_q 4 rfl (by kernel_rfl) (by kernel_rfl) (by kernel_rfl) rfl rfl rfl (Qt_load1 (v := (.int .u64 i191)) rfl rfl rfl (Rdc.blk (.head _) rfl)) ?_
          refine Aw_two 1 5 (by kernel_rfl) ?_ ?_
          · skip
            refine id (Ax_mk rfl rfl (OpW_of_Qt rfl rfl (Qt_load1 (v := (sv v196)) rfl rfl rfl (Rdc.blk (.head _) rfl)) ⟨(Inc.cons (.tail _ (.head _)) (Inc.cons (.tail _ (.tail _ (.head _))) Inc.nil)), ?_⟩))
            refine Aw_two 2 5 (by kernel_rfl) ?_ ?_
            · skip
              refine id (Ax_mk rfl rfl ?_)
              refine OpW_call rfl Tryd.call40 rfl rfl (c_M_slices_Clone_uint64_uint64 x193.buffer v196 x398 hx399 _ _ hs197) ?_
              rintro _ _ _ - ⟨v410, rs411, rfl, rfl, rfl, hs412⟩
              refine ⟨(Inc.cons (.tail _ (.tail _ (.head _))) (Inc.cons (.tail _ (.tail _ (.tail _ (.head _)))) Inc.nil)), ?_⟩
              refine Aw_one 5 (by kernel_rfl) (Ax_mk rfl rfl ?_)
              have hR414 : RowR Ty.u64 K [[(.int .u64 i191)]] [i191] := RowR.cons rfl (RowR.nil)
              refine O_lit (T := Ty.u64) (rows := [[(.int .u64 i191)]]) (l := [i191]) rfl rfl rfl hR414 rfl rfl rfl rfl rfl rfl rfl rfl (fun v413 => ⟨(Inc.cons (.tail _ (.tail _ (.tail _ (.head _)))) (Inc.cons (.tail _ (.tail _ (.tail _ (.tail _ (.head _))))) Inc.nil)), ?_⟩)
              refine Aw_one 6 (by kernel_rfl) (Ax_mk rfl rfl ?_)
              refine O_appRow (T := Ty.u64) (bytes := 8) rfl rfl rfl (.tail _ (.head _)) hs412 (SrcT.row (.head _) hR414 rfl) hx406 rfl rfl rfl rfl rfl rfl rfl rfl (fun v415 rs416 hR417 => ⟨_, (.there .here), ⟨(Inc.cons (.tail _ (.tail _ (.tail _ (.head _)))) (Inc.cons (.tail _ (.tail _ (.tail _ (.tail _ (.head _))))) Inc.nil)), ?_⟩⟩)
              refine Aw.shift (Shift.rem .here (Shift.done ⟨(Inc.cons (.tail _ (.tail _ (.head _))) (Inc.cons (.tail _ (.tail _ (.tail _ (.head _)))) Inc.nil)), ?_⟩))
              refine Aw_q 7 rfl (by kernel_rfl) (by kernel_rfl) (by kernel_rfl) rfl rfl rfl (Qt_fieldAddr (m := 1) rfl rfl rfl rfl rfl) ?_
              refine Aw_one 8 (by kernel_rfl) (Ax_mk rfl rfl ?_)
              refine OpW_store (vs := [(sv v415)]) (all' := (Chan.cells (Chan.mk x193.capacity x405 x193.closed) v415)) rfl rfl rfl rfl rfl (.there .here) rfl rfl rfl ⟨(Inc.cons (.tail _ (.tail _ (.head _))) (Inc.cons (.tail _ (.tail _ (.tail _ (.head _)))) Inc.nil)), ?_⟩
              refine Aw_done (by kernel_rfl) ?_
              refine Shift.pull (.there (.there (.there .here))) ?_
              refine Shift.pull (.there (.there (.there .here))) ?_
              refine Shift.pull (.there (.there (.there .here))) ?_
              refine Shift.done ?_
              exact ⟨[(3, (.pointer (some ((⟨b181, 0, none⟩ : Addr).add 0)))), (8, (.pointer (some ((⟨b187, 0, none⟩ : Addr).add 0)))), (10, (.pointer (some ((⟨b198, 0, none⟩ : Addr).add 0))))], ⟨rfl, rfl, rfl, trivial⟩, v415, x405, rs416, rfl, rfl, rfl, H, hR417⟩
            · skip
              refine id (Ax_mk rfl rfl ?_)
              have hR419 : RowR Ty.u64 K [[(.int .u64 i191)]] [i191] := RowR.cons rfl (RowR.nil)
              refine O_lit (T := Ty.u64) (rows := [[(.int .u64 i191)]]) (l := [i191]) rfl rfl rfl hR419 rfl rfl rfl rfl rfl rfl rfl rfl (fun v418 => ⟨(Inc.cons (.tail _ (.tail _ (.head _))) (Inc.cons (.tail _ (.tail _ (.tail _ (.head _)))) Inc.nil)), ?_⟩)
              refine Aw_one 2 (by kernel_rfl) (Ax_mk rfl rfl ?_)
              refine OpW_call rfl Tryd.call40 rfl rfl (c_M_slices_Clone_uint64_uint64 x193.buffer v196 x398 hx399 _ _ hs197) ?_
              rintro _ _ _ - ⟨v420, rs421, rfl, rfl, rfl, hs422⟩
              refine ⟨(Inc.cons (.tail _ (.tail _ (.tail _ (.head _)))) (Inc.cons (.tail _ (.tail _ (.tail _ (.tail _ (.head _))))) Inc.nil)), ?_⟩
              refine Aw_one 6 (by kernel_rfl) (Ax_mk rfl rfl ?_)
              refine O_appRow (T := Ty.u64) (bytes := 8) rfl rfl rfl (.head _) hs422 (SrcT.row (.tail _ (.head _)) hR419 rfl) hx406 rfl rfl rfl rfl rfl rfl rfl rfl (fun v423 rs424 hR425 => ⟨_, .here, ⟨(Inc.cons (.tail _ (.tail _ (.tail _ (.head _)))) (Inc.cons (.tail _ (.tail _ (.tail _ (.tail _ (.head _))))) Inc.nil)), ?_⟩⟩)
              refine Aw.shift (Shift.rem (.there .here) (Shift.done ⟨(Inc.cons (.tail _ (.tail _ (.head _))) (Inc.cons (.tail _ (.tail _ (.tail _ (.head _)))) Inc.nil)), ?_⟩))
              refine Aw_q 7 rfl (by kernel_rfl) (by kernel_rfl) (by kernel_rfl) rfl rfl rfl (Qt_fieldAddr (m := 1) rfl rfl rfl rfl rfl) ?_
              refine Aw_one 8 (by kernel_rfl) (Ax_mk rfl rfl ?_)
              refine OpW_store (vs := [(sv v423)]) (all' := (Chan.cells (Chan.mk x193.capacity x405 x193.closed) v423)) rfl rfl rfl rfl rfl (.there .here) rfl rfl rfl ⟨(Inc.cons (.tail _ (.tail _ (.head _))) (Inc.cons (.tail _ (.tail _ (.tail _ (.head _)))) Inc.nil)), ?_⟩
              refine Aw_done (by kernel_rfl) ?_
              refine Shift.pull (.there (.there (.there .here))) ?_
              refine Shift.pull (.there (.there (.there .here))) ?_
              refine Shift.pull (.there (.there (.there .here))) ?_
              refine Shift.done ?_
              exact ⟨[(3, (.pointer (some ((⟨b181, 0, none⟩ : Addr).add 0)))), (8, (.pointer (some ((⟨b187, 0, none⟩ : Addr).add 0)))), (10, (.pointer (some ((⟨b198, 0, none⟩ : Addr).add 0))))], ⟨rfl, rfl, rfl, trivial⟩, v423, x405, rs424, rfl, rfl, rfl, H, hR425⟩
          · skip
            refine id (Ax_mk rfl rfl ?_)
            have hR427 : RowR Ty.u64 K [[(.int .u64 i191)]] [i191] := RowR.cons rfl (RowR.nil)
            refine O_lit (T := Ty.u64) (rows := [[(.int .u64 i191)]]) (l := [i191]) rfl rfl rfl hR427 rfl rfl rfl rfl rfl rfl rfl rfl (fun v426 => ⟨(Inc.cons (.tail _ (.tail _ (.head _))) (Inc.cons (.tail _ (.tail _ (.tail _ (.head _)))) Inc.nil)), ?_⟩)
            refine Aw_one 1 (by kernel_rfl) (Ax_mk rfl rfl (OpW_of_Qt rfl rfl (Qt_load1 (v := (sv v196)) rfl rfl rfl (Rdc.blk (.tail _ (.head _)) rfl)) ⟨(Inc.cons (.tail _ (.tail _ (.head _))) (Inc.cons (.tail _ (.tail _ (.tail _ (.head _)))) Inc.nil)), ?_⟩))
            refine Aw_one 2 (by kernel_rfl) (Ax_mk rfl rfl ?_)
            refine OpW_call rfl Tryd.call40 rfl rfl (c_M_slices_Clone_uint64_uint64 x193.buffer v196 x398 hx399 _ _ hs197) ?_
            rintro _ _ _ - ⟨v428, rs429, rfl, rfl, rfl, hs430⟩
            refine ⟨(Inc.cons (.tail _ (.tail _ (.tail _ (.head _)))) (Inc.cons (.tail _ (.tail _ (.tail _ (.tail _ (.head _))))) Inc.nil)), ?_⟩
            refine Aw_one 6 (by kernel_rfl) (Ax_mk rfl rfl ?_)
            refine O_appRow (T := Ty.u64) (bytes := 8) rfl rfl rfl (.head _) hs430 (SrcT.row (.tail _ (.head _)) hR427 rfl) hx406 rfl rfl rfl rfl rfl rfl rfl rfl (fun v431 rs432 hR433 => ⟨_, .here, ⟨(Inc.cons (.tail _ (.tail _ (.tail _ (.head _)))) (Inc.cons (.tail _ (.tail _ (.tail _ (.tail _ (.head _))))) Inc.nil)), ?_⟩⟩)
            refine Aw.shift (Shift.rem (.there .here) (Shift.done ⟨(Inc.cons (.tail _ (.tail _ (.head _))) (Inc.cons (.tail _ (.tail _ (.tail _ (.head _)))) Inc.nil)), ?_⟩))
            refine Aw_q 7 rfl (by kernel_rfl) (by kernel_rfl) (by kernel_rfl) rfl rfl rfl (Qt_fieldAddr (m := 1) rfl rfl rfl rfl rfl) ?_
            refine Aw_one 8 (by kernel_rfl) (Ax_mk rfl rfl ?_)
            refine OpW_store (vs := [(sv v431)]) (all' := (Chan.cells (Chan.mk x193.capacity x405 x193.closed) v431)) rfl rfl rfl rfl rfl (.there .here) rfl rfl rfl ⟨(Inc.cons (.tail _ (.tail _ (.head _))) (Inc.cons (.tail _ (.tail _ (.tail _ (.head _)))) Inc.nil)), ?_⟩
            refine Aw_done (by kernel_rfl) ?_
            refine Shift.pull (.there (.there (.there .here))) ?_
            refine Shift.pull (.there (.there (.there .here))) ?_
            refine Shift.pull (.there (.there (.there .here))) ?_
            refine Shift.done ?_
            exact ⟨[(3, (.pointer (some ((⟨b181, 0, none⟩ : Addr).add 0)))), (8, (.pointer (some ((⟨b187, 0, none⟩ : Addr).add 0)))), (10, (.pointer (some ((⟨b198, 0, none⟩ : Addr).add 0))))], ⟨rfl, rfl, rfl, trivial⟩, v431, x405, rs432, rfl, rfl, rfl, H, hR433⟩
        rintro _ _ _ - ⟨v394, l395, rs397, rfl, rfl, rfl, H, hR396⟩
        unfold M_model_Apply_J4 at H
        refine Cw_seq ?_
        refine Cw_region ?_
        refine Ow_q rfl rfl rfl (Qt_load1 (v := (sv vp0)) rfl rfl rfl (Rdc.blk (.tail _ (.tail _ (.head _))) rfl)) ?_
        refine Ow_q rfl rfl rfl (Qt_fieldAddr (m := 1) rfl rfl rfl rfl rfl) ?_
        refine Ow_q rfl rfl rfl (Qt_load1 (v := (.int .i64 i190)) rfl rfl rfl (Rdc.blk (.tail _ (.head _)) rfl)) ?_
        refine Ow_q rfl rfl rfl (Qt_loadA (m := 3) (cs := (Chan.cells (Chan.mk x193.capacity l395 x193.closed) v394)) rfl rfl rfl rfl ⟨rfl, Rdc.blk (.head _) rfl⟩) ?_
        refine Ow.shift (Shift.settle (T := Ty.u64) (.there (.there (.there .here))) hR396 rfl (fun K434 hK435 hs436 => Shift.done ?_))
        obtain ⟨x437, hx438, H⟩ := bnd H
        have hs439 := (hp0).mono hK435
        refine Ow_cons rfl (OpW_call rfl Tryd.call41 rfl rfl (c_M_model_put p0 vp0 i190 (Chan.mk x193.capacity l395 x193.closed) v394 x437 hx438 _ _ hs439 hs436) ?_)
        rintro _ _ _ - ⟨v440, rs441, rfl, rfl, rfl, hs442⟩
        refine Ow_q rfl rfl rfl (Qt_assign rfl) ?_
        refine Ow_q rfl rfl rfl (Qt_assign rfl) ?_
        refine Ow_nil ?_
        refine Cw_ret ?_
        obtain ⟨ey0, ey1⟩ := inj2 H
        subst y0 y1
        refine ⟨(by first | exact .inl rfl | exact .inr rfl), [(sv v440), (.bool true)], ⟨(sv v440), _, rfl, rfl, ⟨(.bool true), _, rfl, rfl, rfl⟩⟩, ?_⟩
        refine Shift.settle (T := TyChan) .here hs442 rfl ?_
        intro K443 hK444 hs445
        refine Shift.rem .here ?_
        refine Shift.rem .here ?_
        refine Shift.rem .here ?_
        refine Shift.rem .here ?_
        refine Shift.rem .here ?_
        refine Shift.done ?_
        exact ⟨v440, rfl, rfl, hs445⟩
      · intro h357
        have H := iff_ (btf h357) H
        refine Cw_skip ?_
        refine Shift.rem .here ?_
        refine Shift.rem .here ?_
        refine Shift.rem .here ?_
        refine Shift.done ?_
        exact ⟨[], trivial, rfl, rfl, H⟩
    · intro h345
      have h345 := dcd_f (h345)
      have H := iff_ h345 H
      refine Cw_seq ?_
      refine Cw_region ?_
      refine Ow_q rfl rfl rfl (Qt_fieldAddr (m := 1) rfl rfl rfl rfl rfl) ?_
      refine Ow_q rfl rfl rfl (Qt_load1 (v := (.int .i64 p2.case_)) rfl rfl rfl (Rdc.blk (.tail _ (.tail _ (.head _))) rfl)) ?_
      refine Ow_q rfl rfl rfl (Qt_fieldAddr (m := 2) rfl rfl rfl rfl rfl) ?_
      refine Ow_q rfl rfl rfl (Qt_load1 (v := (.int .u64 p2.value)) rfl rfl rfl (Rdc.blk (.tail _ (.tail _ (.head _))) rfl)) ?_
      refine Ow_q rfl rfl rfl (Qt_build (cs := (Result.cells (Result.mk 2 p2.case_ p2.value true 0))) rfl rfl rfl rfl rfl rfl) ?_
      refine Ow_q rfl rfl rfl (Qt_eqS rfl rfl (fun w => Result.eqrun p2 (Result.mk 2 p2.case_ p2.value true 0) w) (by kernel_rfl)) ?_
      refine Ow_q rfl rfl rfl (Qt_assign rfl) ?_
      refine Ow_nil ?_
      refine Cw_cond rfl ?_ ?_
      · intro h446
        have h446 := dcd_t (h446)
        have H := ift h446 H
        refine Cw_join (fun env' K' G' => ∃ (t459 : Bool), [(3, (.pointer (some ((⟨b181, 0, none⟩ : Addr).add 0)))), (8, (.pointer (some ((⟨b187, 0, none⟩ : Addr).add 0)))), (10, (.pointer (some ((⟨b198, 0, none⟩ : Addr).add 0)))), (95, (.bool t459))] = env' ∧ K = K' ∧ (.blk b198 74 (Chan.cells x193 v196)) :: (.blk b187 92 (Case.cells (Case.mk t189 i190 i191))) :: (.blk b181 50 [(sv vp0)]) :: G = G' ∧ M_model_Apply_J5 x193 t189 i190 i191 p0 t459 = some (y0, y1)) ?_ ?_
        · skip
          rcases bool_ct x185 with hb_ | hb_ <;> revert hb_
          · intro h460
            have H := ift h460 H
            rcases bool_ct (!(t189)) with hb_ | hb_ <;> revert hb_
            · intro h461
              have h461 := nt_t (h461)
              have H := iff_ (btf h461) H
              rcases bool_ct x194 with hb_ | hb_ <;> revert hb_
              · intro h462
                have H := ift h462 H
                rcases bool_ct (dcd ((x193.buffer.length : Int) > 0)) with hb_ | hb_ <;> revert hb_
                · intro h463
                  have h463 := dcd_t (h463)
                  have H := ift h463 H
                  obtain ⟨x464, hx465, H⟩ := bnd H
                  refine Cw_region_any [.blk b198 74 (Chan.cells x193 v196), .blk b187 92 (Case.cells (Case.mk t189 i190 i191)), .blk b183 36 (Result.cells p2), .blk b182 43 (Op.cells p1 vp1_cases vp1_draws), .blk b181 50 [(sv vp0)]] rfl (Inc.cons (.head _) (Inc.cons (.tail _ (.head _)) (Inc.cons (.tail _ (.tail _ (.head _))) (Inc.cons (.tail _ (.tail _ (.tail _ (.head _)))) (Inc.cons (.tail _ (.tail _ (.tail _ (.tail _ (.head _))))) Inc.nil))))) ?_
                  refine Aw_q 0 rfl (by kernel_rfl) (by kernel_rfl) (by kernel_rfl) rfl rfl rfl (Qt_move rfl) ?_
                  refine Aw_q 1 rfl (by kernel_rfl) (by kernel_rfl) (by kernel_rfl) rfl rfl rfl (Qt_move rfl) ?_
                  refine Aw.known (d := 73) rfl (h460) ?_
                  refine Aw_qw 2 rfl (by kernel_rfl) (by kernel_rfl) (by kernel_rfl) rfl rfl rfl rfl rfl rfl (Qt_fieldAddr (m := 0) rfl rfl rfl rfl rfl) ?_
                  refine Aw_qw 3 rfl (by kernel_rfl) (by kernel_rfl) (by kernel_rfl) rfl rfl rfl rfl rfl rfl (Qt_load1 (v := (.bool t189)) rfl rfl rfl (Rdc.blk (.tail _ (.head _)) rfl)) ?_
                  refine Aw_qw 4 rfl (by kernel_rfl) (by kernel_rfl) (by kernel_rfl) rfl rfl rfl rfl rfl rfl (Qt_not rfl) ?_
                  refine Aw_q 5 rfl (by kernel_rfl) (by kernel_rfl) (by kernel_rfl) rfl rfl rfl (Qt_pick_t rfl rfl) ?_
                  refine Aw_q 6 rfl (by kernel_rfl) (by kernel_rfl) (by kernel_rfl) rfl rfl rfl (Qt_move rfl) ?_
                  refine Aw.known (d := 78) rfl (nt_mt (h461)) ?_
                  refine Aw_qw 7 rfl (by kernel_rfl) (by kernel_rfl) (by kernel_rfl) rfl rfl rfl rfl rfl rfl (Qt_move rfl) ?_
                  refine Aw_q 8 rfl (by kernel_rfl) (by kernel_rfl) (by kernel_rfl) rfl rfl rfl (Qt_pick_t rfl rfl) ?_
                  refine Aw_q 9 rfl (by kernel_rfl) (by kernel_rfl) (by kernel_rfl) rfl rfl rfl (Qt_move rfl) ?_
                  refine Aw.known (d := 81) rfl (h462) ?_
                  refine Aw_qw 10 rfl (by kernel_rfl) (by kernel_rfl) (by kernel_rfl) rfl rfl rfl rfl rfl rfl (Qt_fieldAddr (m := 1) rfl rfl rfl rfl rfl) ?_
                  refine Aw_qw 11 rfl (by kernel_rfl) (by kernel_rfl) (by kernel_rfl) rfl rfl rfl rfl rfl rfl (Qt_load1 (v := (sv v196)) rfl rfl rfl (Rdc.blk (.head _) rfl)) ?_
                  refine Aw_qw 12 rfl (by kernel_rfl) (by kernel_rfl) (by kernel_rfl) rfl rfl rfl rfl rfl rfl (Q_len (T := Ty.u64) hs197 rfl rfl) ?_
                  refine Aw_qw 13 rfl (by kernel_rfl) (by kernel_rfl) (by kernel_rfl) rfl rfl rfl rfl rfl rfl (Qt_cmp rfl rfl rfl) ?_
                  refine Aw_q 14 rfl (by kernel_rfl) (by kernel_rfl) (by kernel_rfl) rfl rfl rfl (Qt_pick_t rfl rfl) ?_
                  refine Aw_q 15 rfl (by kernel_rfl) (by kernel_rfl) (by kernel_rfl) rfl rfl rfl (Qt_move rfl) ?_
                  refine Aw.known (d := 87) rfl (dcd_pos h463) ?_
                  refine Aw_qw 16 rfl (by kernel_rfl) (by kernel_rfl) (by kernel_rfl) rfl rfl rfl rfl rfl rfl (Qt_fieldAddr (m := 1) rfl rfl rfl rfl rfl) ?_
                  refine Aw_qw 17 rfl (by kernel_rfl) (by kernel_rfl) (by kernel_rfl) rfl rfl rfl rfl rfl rfl (Qt_load1 (v := (sv v196)) rfl rfl rfl (Rdc.blk (.head _) rfl)) ?_
                  obtain ⟨r469, hr470, hk471⟩ := Slr.at hs197 hx465
                  obtain rfl := hr470
                  refine Aw_qw 18 rfl (by kernel_rfl) (by kernel_rfl) (by kernel_rfl) rfl rfl rfl rfl rfl rfl (Q_ix (T := Ty.u64) hs197 hx465 rfl rfl rfl rfl rfl) ?_
                  refine Aw_qw 19 rfl (by kernel_rfl) (by kernel_rfl) (by kernel_rfl) rfl rfl rfl rfl rfl rfl (Qt_load1 (v := (.int .u64 x464)) rfl rfl rfl (Rdc.k hk471 rfl)) ?_
                  refine Aw_qw 20 rfl (by kernel_rfl) (by kernel_rfl) (by kernel_rfl) rfl rfl rfl rfl rfl rfl (Qt_fieldAddr (m := 2) rfl rfl rfl rfl rfl) ?_
                  refine Aw_qw 21 rfl (by kernel_rfl) (by kernel_rfl) (by kernel_rfl) rfl rfl rfl rfl rfl rfl (Qt_load1 (v := (.int .u64 p2.value)) rfl rfl rfl (Rdc.blk (.tail _ (.tail _ (.head _))) rfl)) ?_
                  refine Aw_qw 22 rfl (by kernel_rfl) (by kernel_rfl) (by kernel_rfl) rfl rfl rfl rfl rfl rfl (Qt_cmp rfl rfl rfl) ?_
                  refine Aw_q 23 rfl (by kernel_rfl) (by kernel_rfl) (by kernel_rfl) rfl rfl rfl (Qt_pick_t rfl rfl) ?_
                  refine Aw_done (by kernel_rfl) ?_
                  refine Shift.pull (.there (.there (.there (.there .here)))) ?_
                  refine Shift.pull (.there (.there .here)) ?_
                  refine Shift.pull (.there (.there .here)) ?_
                  refine Shift.rem (.there (.there (.there .here))) ?_
                  refine Shift.rem (.there (.there (.there .here))) ?_
                  refine Shift.done ?_
                  exact ⟨[(3, (.pointer (some ((⟨b181, 0, none⟩ : Addr).add 0)))), (8, (.pointer (some ((⟨b187, 0, none⟩ : Addr).add 0)))), (10, (.pointer (some ((⟨b198, 0, none⟩ : Addr).add 0)))), (95, (.bool (dcd (x464 = p2.value))))], ⟨rfl, rfl, rfl, rfl, trivial⟩, (dcd (x464 = p2.value)), rfl, rfl, rfl, H⟩
                · intro h463
                  have h463 := dcd_f (h463)
                  have H := iff_ h463 H
                  refine Cw_region_any [.blk b198 74 (Chan.cells x193 v196), .blk b187 92 (Case.cells (Case.mk t189 i190 i191)), .blk b183 36 (Result.cells p2), .blk b182 43 (Op.cells p1 vp1_cases vp1_draws), .blk b181 50 [(sv vp0)]] rfl (Inc.cons (.head _) (Inc.cons (.tail _ (.head _)) (Inc.cons (.tail _ (.tail _ (.head _))) (Inc.cons (.tail _ (.tail _ (.tail _ (.head _)))) (Inc.cons (.tail _ (.tail _ (.tail _ (.tail _ (.head _))))) Inc.nil))))) ?_
                  refine Aw_q 0 rfl (by kernel_rfl) (by kernel_rfl) (by kernel_rfl) rfl rfl rfl (Qt_move rfl) ?_
                  refine Aw_q 1 rfl (by kernel_rfl) (by kernel_rfl) (by kernel_rfl) rfl rfl rfl (Qt_move rfl) ?_
                  refine Aw.known (d := 73) rfl (h460) ?_
                  refine Aw_qw 2 rfl (by kernel_rfl) (by kernel_rfl) (by kernel_rfl) rfl rfl rfl rfl rfl rfl (Qt_fieldAddr (m := 0) rfl rfl rfl rfl rfl) ?_
                  refine Aw_qw 3 rfl (by kernel_rfl) (by kernel_rfl) (by kernel_rfl) rfl rfl rfl rfl rfl rfl (Qt_load1 (v := (.bool t189)) rfl rfl rfl (Rdc.blk (.tail _ (.head _)) rfl)) ?_
                  refine Aw_qw 4 rfl (by kernel_rfl) (by kernel_rfl) (by kernel_rfl) rfl rfl rfl rfl rfl rfl (Qt_not rfl) ?_
                  refine Aw_q 5 rfl (by kernel_rfl) (by kernel_rfl) (by kernel_rfl) rfl rfl rfl (Qt_pick_t rfl rfl) ?_
                  refine Aw_q 6 rfl (by kernel_rfl) (by kernel_rfl) (by kernel_rfl) rfl rfl rfl (Qt_move rfl) ?_
                  refine Aw.known (d := 78) rfl (nt_mt (h461)) ?_
                  refine Aw_qw 7 rfl (by kernel_rfl) (by kernel_rfl) (by kernel_rfl) rfl rfl rfl rfl rfl rfl (Qt_move rfl) ?_
                  refine Aw_q 8 rfl (by kernel_rfl) (by kernel_rfl) (by kernel_rfl) rfl rfl rfl (Qt_pick_t rfl rfl) ?_
                  refine Aw_q 9 rfl (by kernel_rfl) (by kernel_rfl) (by kernel_rfl) rfl rfl rfl (Qt_move rfl) ?_
                  refine Aw.known (d := 81) rfl (h462) ?_
                  refine Aw_qw 10 rfl (by kernel_rfl) (by kernel_rfl) (by kernel_rfl) rfl rfl rfl rfl rfl rfl (Qt_fieldAddr (m := 1) rfl rfl rfl rfl rfl) ?_
                  refine Aw_qw 11 rfl (by kernel_rfl) (by kernel_rfl) (by kernel_rfl) rfl rfl rfl rfl rfl rfl (Qt_load1 (v := (sv v196)) rfl rfl rfl (Rdc.blk (.head _) rfl)) ?_
                  refine Aw_qw 12 rfl (by kernel_rfl) (by kernel_rfl) (by kernel_rfl) rfl rfl rfl rfl rfl rfl (Q_len (T := Ty.u64) hs197 rfl rfl) ?_
                  refine Aw_qw 13 rfl (by kernel_rfl) (by kernel_rfl) (by kernel_rfl) rfl rfl rfl rfl rfl rfl (Qt_cmp rfl rfl rfl) ?_
                  refine Aw_q 14 rfl (by kernel_rfl) (by kernel_rfl) (by kernel_rfl) rfl rfl rfl (Qt_pick_t rfl rfl) ?_
                  refine Aw_q 15 rfl (by kernel_rfl) (by kernel_rfl) (by kernel_rfl) rfl rfl rfl (Qt_move rfl) ?_
                  refine Aw.known (d := 87) rfl (dcd_neg h463) ?_
                  refine Aw_pass 16 rfl (by kernel_rfl) (by kernel_rfl) (by kernel_rfl) rfl rfl rfl rfl rfl rfl rfl ?_
                  refine Aw_pass 17 rfl (by kernel_rfl) (by kernel_rfl) (by kernel_rfl) rfl rfl rfl rfl rfl rfl rfl ?_
                  refine Aw_pass 18 rfl (by kernel_rfl) (by kernel_rfl) (by kernel_rfl) rfl rfl rfl rfl rfl rfl rfl ?_
                  refine Aw_pass 19 rfl (by kernel_rfl) (by kernel_rfl) (by kernel_rfl) rfl rfl rfl rfl rfl rfl rfl ?_
                  refine Aw_pass 20 rfl (by kernel_rfl) (by kernel_rfl) (by kernel_rfl) rfl rfl rfl rfl rfl rfl rfl ?_
                  refine Aw_pass 21 rfl (by kernel_rfl) (by kernel_rfl) (by kernel_rfl) rfl rfl rfl rfl rfl rfl rfl ?_
                  refine Aw_pass 22 rfl (by kernel_rfl) (by kernel_rfl) (by kernel_rfl) rfl rfl rfl rfl rfl rfl rfl ?_
                  refine Aw_q 23 rfl (by kernel_rfl) (by kernel_rfl) (by kernel_rfl) rfl rfl rfl (Qt_pick_f rfl rfl) ?_
                  refine Aw_done (by kernel_rfl) ?_
                  refine Shift.pull (.there (.there (.there (.there .here)))) ?_
                  refine Shift.pull (.there (.there .here)) ?_
                  refine Shift.pull (.there (.there .here)) ?_
                  refine Shift.rem (.there (.there (.there .here))) ?_
                  refine Shift.rem (.there (.there (.there .here))) ?_
                  refine Shift.done ?_
                  exact ⟨[(3, (.pointer (some ((⟨b181, 0, none⟩ : Addr).add 0)))), (8, (.pointer (some ((⟨b187, 0, none⟩ : Addr).add 0)))), (10, (.pointer (some ((⟨b198, 0, none⟩ : Addr).add 0)))), (95, (.bool false))], ⟨rfl, rfl, rfl, rfl, trivial⟩, false, rfl, rfl, rfl, H⟩
              · intro h462
                have H := iff_ (btf h462) H
                refine Cw_region_any [.blk b198 74 (Chan.cells x193 v196), .blk b187 92 (Case.cells (Case.mk t189 i190 i191)), .blk b183 36 (Result.cells p2), .blk b182 43 (Op.cells p1 vp1_cases vp1_draws), .blk b181 50 [(sv vp0)]] rfl (Inc.cons (.head _) (Inc.cons (.tail _ (.head _)) (Inc.cons (.tail _ (.tail _ (.head _))) (Inc.cons (.tail _ (.tail _ (.tail _ (.head _)))) (Inc.cons (.tail _ (.tail _ (.tail _ (.tail _ (.head _))))) Inc.nil))))) ?_
                refine Aw_q 0 rfl (by kernel_rfl) (by kernel_rfl) (by kernel_rfl) rfl rfl rfl (Qt_move rfl) ?_
                refine Aw_q 1 rfl (by kernel_rfl) (by kernel_rfl) (by kernel_rfl) rfl rfl rfl (Qt_move rfl) ?_
                refine Aw.known (d := 73) rfl (h460) ?_
                refine Aw_qw 2 rfl (by kernel_rfl) (by kernel_rfl) (by kernel_rfl) rfl rfl rfl rfl rfl rfl (Qt_fieldAddr (m := 0) rfl rfl rfl rfl rfl) ?_
                refine Aw_qw 3 rfl (by kernel_rfl) (by kernel_rfl) (by kernel_rfl) rfl rfl rfl rfl rfl rfl (Qt_load1 (v := (.bool t189)) rfl rfl rfl (Rdc.blk (.tail _ (.head _)) rfl)) ?_
                refine Aw_qw 4 rfl (by kernel_rfl) (by kernel_rfl) (by kernel_rfl) rfl rfl rfl rfl rfl rfl (Qt_not rfl) ?_
                refine Aw_q 5 rfl (by kernel_rfl) (by kernel_rfl) (by kernel_rfl) rfl rfl rfl (Qt_pick_t rfl rfl) ?_
                refine Aw_q 6 rfl (by kernel_rfl) (by kernel_rfl) (by kernel_rfl) rfl rfl rfl (Qt_move rfl) ?_
                refine Aw.known (d := 78) rfl (nt_mt (h461)) ?_
                refine Aw_qw 7 rfl (by kernel_rfl) (by kernel_rfl) (by kernel_rfl) rfl rfl rfl rfl rfl rfl (Qt_move rfl) ?_
                refine Aw_q 8 rfl (by kernel_rfl) (by kernel_rfl) (by kernel_rfl) rfl rfl rfl (Qt_pick_t rfl rfl) ?_
                refine Aw_q 9 rfl (by kernel_rfl) (by kernel_rfl) (by kernel_rfl) rfl rfl rfl (Qt_move rfl) ?_
                refine Aw.known (d := 81) rfl (h462) ?_
                refine Aw_pass 10 rfl (by kernel_rfl) (by kernel_rfl) (by kernel_rfl) rfl rfl rfl rfl rfl rfl rfl ?_
                refine Aw_pass 11 rfl (by kernel_rfl) (by kernel_rfl) (by kernel_rfl) rfl rfl rfl rfl rfl rfl rfl ?_
                refine Aw_pass 12 rfl (by kernel_rfl) (by kernel_rfl) (by kernel_rfl) rfl rfl rfl rfl rfl rfl rfl ?_
                refine Aw_pass 13 rfl (by kernel_rfl) (by kernel_rfl) (by kernel_rfl) rfl rfl rfl rfl rfl rfl rfl ?_
                refine Aw_q 14 rfl (by kernel_rfl) (by kernel_rfl) (by kernel_rfl) rfl rfl rfl (Qt_pick_f rfl rfl) ?_
                refine Aw_q 15 rfl (by kernel_rfl) (by kernel_rfl) (by kernel_rfl) rfl rfl rfl (Qt_move rfl) ?_
                refine Aw_pass 16 rfl (by kernel_rfl) (by kernel_rfl) (by kernel_rfl) rfl rfl rfl rfl rfl rfl rfl ?_
                refine Aw_pass 17 rfl (by kernel_rfl) (by kernel_rfl) (by kernel_rfl) rfl rfl rfl rfl rfl rfl rfl ?_
                refine Aw_pass 18 rfl (by kernel_rfl) (by kernel_rfl) (by kernel_rfl) rfl rfl rfl rfl rfl rfl rfl ?_
                refine Aw_pass 19 rfl (by kernel_rfl) (by kernel_rfl) (by kernel_rfl) rfl rfl rfl rfl rfl rfl rfl ?_
                refine Aw_pass 20 rfl (by kernel_rfl) (by kernel_rfl) (by kernel_rfl) rfl rfl rfl rfl rfl rfl rfl ?_
                refine Aw_pass 21 rfl (by kernel_rfl) (by kernel_rfl) (by kernel_rfl) rfl rfl rfl rfl rfl rfl rfl ?_
                refine Aw_pass 22 rfl (by kernel_rfl) (by kernel_rfl) (by kernel_rfl) rfl rfl rfl rfl rfl rfl rfl ?_
                refine Aw_q 23 rfl (by kernel_rfl) (by kernel_rfl) (by kernel_rfl) rfl rfl rfl (Qt_pick_f rfl rfl) ?_
                refine Aw_done (by kernel_rfl) ?_
                refine Shift.pull (.there (.there (.there (.there .here)))) ?_
                refine Shift.pull (.there (.there .here)) ?_
                refine Shift.pull (.there (.there .here)) ?_
                refine Shift.rem (.there (.there (.there .here))) ?_
                refine Shift.rem (.there (.there (.there .here))) ?_
                refine Shift.done ?_
                exact ⟨[(3, (.pointer (some ((⟨b181, 0, none⟩ : Addr).add 0)))), (8, (.pointer (some ((⟨b187, 0, none⟩ : Addr).add 0)))), (10, (.pointer (some ((⟨b198, 0, none⟩ : Addr).add 0)))), (95, (.bool false))], ⟨rfl, rfl, rfl, rfl, trivial⟩, false, rfl, rfl, rfl, H⟩
            · intro h461
              have h461 := nt_f (h461)
              have H := ift h461 H
              refine Cw_region_any [.blk b198 74 (Chan.cells x193 v196), .blk b187 92 (Case.cells (Case.mk t189 i190 i191)), .blk b183 36 (Result.cells p2), .blk b182 43 (Op.cells p1 vp1_cases vp1_draws), .blk b181 50 [(sv vp0)]] rfl (Inc.cons (.head _) (Inc.cons (.tail _ (.head _)) (Inc.cons (.tail _ (.tail _ (.head _))) (Inc.cons (.tail _ (.tail _ (.tail _ (.head _)))) (Inc.cons (.tail _ (.tail _ (.tail _ (.tail _ (.head _))))) Inc.nil))))) ?_
              refine Aw_q 0 rfl (by kernel_rfl) (by kernel_rfl) (by kernel_rfl) rfl rfl rfl (Qt_move rfl) ?_
              refine Aw_q 1 rfl (by kernel_rfl) (by kernel_rfl) (by kernel_rfl) rfl rfl rfl (Qt_move rfl) ?_
              refine Aw.known (d := 73) rfl (h460) ?_
              refine Aw_qw 2 rfl (by kernel_rfl) (by kernel_rfl) (by kernel_rfl) rfl rfl rfl rfl rfl rfl (Qt_fieldAddr (m := 0) rfl rfl rfl rfl rfl) ?_
              refine Aw_qw 3 rfl (by kernel_rfl) (by kernel_rfl) (by kernel_rfl) rfl rfl rfl rfl rfl rfl (Qt_load1 (v := (.bool t189)) rfl rfl rfl (Rdc.blk (.tail _ (.head _)) rfl)) ?_
              refine Aw_qw 4 rfl (by kernel_rfl) (by kernel_rfl) (by kernel_rfl) rfl rfl rfl rfl rfl rfl (Qt_not rfl) ?_
              refine Aw_q 5 rfl (by kernel_rfl) (by kernel_rfl) (by kernel_rfl) rfl rfl rfl (Qt_pick_t rfl rfl) ?_
              refine Aw_q 6 rfl (by kernel_rfl) (by kernel_rfl) (by kernel_rfl) rfl rfl rfl (Qt_move rfl) ?_
              refine Aw.known (d := 78) rfl (nt_mf (h461)) ?_
              refine Aw_pass 7 rfl (by kernel_rfl) (by kernel_rfl) (by kernel_rfl) rfl rfl rfl rfl rfl rfl rfl ?_
              refine Aw_q 8 rfl (by kernel_rfl) (by kernel_rfl) (by kernel_rfl) rfl rfl rfl (Qt_pick_f rfl rfl) ?_
              refine Aw_q 9 rfl (by kernel_rfl) (by kernel_rfl) (by kernel_rfl) rfl rfl rfl (Qt_move rfl) ?_
              refine Aw_pass 10 rfl (by kernel_rfl) (by kernel_rfl) (by kernel_rfl) rfl rfl rfl rfl rfl rfl rfl ?_
              refine Aw_pass 11 rfl (by kernel_rfl) (by kernel_rfl) (by kernel_rfl) rfl rfl rfl rfl rfl rfl rfl ?_
              refine Aw_pass 12 rfl (by kernel_rfl) (by kernel_rfl) (by kernel_rfl) rfl rfl rfl rfl rfl rfl rfl ?_
              refine Aw_pass 13 rfl (by kernel_rfl) (by kernel_rfl) (by kernel_rfl) rfl rfl rfl rfl rfl rfl rfl ?_
              refine Aw_q 14 rfl (by kernel_rfl) (by kernel_rfl) (by kernel_rfl) rfl rfl rfl (Qt_pick_f rfl rfl) ?_
              refine Aw_q 15 rfl (by kernel_rfl) (by kernel_rfl) (by kernel_rfl) rfl rfl rfl (Qt_move rfl) ?_
              refine Aw_pass 16 rfl (by kernel_rfl) (by kernel_rfl) (by kernel_rfl) rfl rfl rfl rfl rfl rfl rfl ?_
              refine Aw_pass 17 rfl (by kernel_rfl) (by kernel_rfl) (by kernel_rfl) rfl rfl rfl rfl rfl rfl rfl ?_
              refine Aw_pass 18 rfl (by kernel_rfl) (by kernel_rfl) (by kernel_rfl) rfl rfl rfl rfl rfl rfl rfl ?_
              refine Aw_pass 19 rfl (by kernel_rfl) (by kernel_rfl) (by kernel_rfl) rfl rfl rfl rfl rfl rfl rfl ?_
              refine Aw_pass 20 rfl (by kernel_rfl) (by kernel_rfl) (by kernel_rfl) rfl rfl rfl rfl rfl rfl rfl ?_
              refine Aw_pass 21 rfl (by kernel_rfl) (by kernel_rfl) (by kernel_rfl) rfl rfl rfl rfl rfl rfl rfl ?_
              refine Aw_pass 22 rfl (by kernel_rfl) (by kernel_rfl) (by kernel_rfl) rfl rfl rfl rfl rfl rfl rfl ?_
              refine Aw_q 23 rfl (by kernel_rfl) (by kernel_rfl) (by kernel_rfl) rfl rfl rfl (Qt_pick_f rfl rfl) ?_
              refine Aw_done (by kernel_rfl) ?_
              refine Shift.pull (.there (.there (.there (.there .here)))) ?_
              refine Shift.pull (.there (.there .here)) ?_
              refine Shift.pull (.there (.there .here)) ?_
              refine Shift.rem (.there (.there (.there .here))) ?_
              refine Shift.rem (.there (.there (.there .here))) ?_
              refine Shift.done ?_
              exact ⟨[(3, (.pointer (some ((⟨b181, 0, none⟩ : Addr).add 0)))), (8, (.pointer (some ((⟨b187, 0, none⟩ : Addr).add 0)))), (10, (.pointer (some ((⟨b198, 0, none⟩ : Addr).add 0)))), (95, (.bool false))], ⟨rfl, rfl, rfl, rfl, trivial⟩, false, rfl, rfl, rfl, H⟩
          · intro h460
            have H := iff_ (btf h460) H
            refine Cw_region_any [.blk b198 74 (Chan.cells x193 v196), .blk b187 92 (Case.cells (Case.mk t189 i190 i191)), .blk b183 36 (Result.cells p2), .blk b182 43 (Op.cells p1 vp1_cases vp1_draws), .blk b181 50 [(sv vp0)]] rfl (Inc.cons (.head _) (Inc.cons (.tail _ (.head _)) (Inc.cons (.tail _ (.tail _ (.head _))) (Inc.cons (.tail _ (.tail _ (.tail _ (.head _)))) (Inc.cons (.tail _ (.tail _ (.tail _ (.tail _ (.head _))))) Inc.nil))))) ?_
            refine Aw_q 0 rfl (by kernel_rfl) (by kernel_rfl) (by kernel_rfl) rfl rfl rfl (Qt_move rfl) ?_
            refine Aw_q 1 rfl (by kernel_rfl) (by kernel_rfl) (by kernel_rfl) rfl rfl rfl (Qt_move rfl) ?_
            refine Aw.known (d := 73) rfl (h460) ?_
            refine Aw_pass 2 rfl (by kernel_rfl) (by kernel_rfl) (by kernel_rfl) rfl rfl rfl rfl rfl rfl rfl ?_
            refine Aw_pass 3 rfl (by kernel_rfl) (by kernel_rfl) (by kernel_rfl) rfl rfl rfl rfl rfl rfl rfl ?_
            refine Aw_pass 4 rfl (by kernel_rfl) (by kernel_rfl) (by kernel_rfl) rfl rfl rfl rfl rfl rfl rfl ?_
            refine Aw_q 5 rfl (by kernel_rfl) (by kernel_rfl) (by kernel_rfl) rfl rfl rfl (Qt_pick_f rfl rfl) ?_
            refine Aw_q 6 rfl (by kernel_rfl) (by kernel_rfl) (by kernel_rfl) rfl rfl rfl (Qt_move rfl) ?_
            refine Aw_pass 7 rfl (by kernel_rfl) (by kernel_rfl) (by kernel_rfl) rfl rfl rfl rfl rfl rfl rfl ?_
            refine Aw_q 8 rfl (by kernel_rfl) (by kernel_rfl) (by kernel_rfl) rfl rfl rfl (Qt_pick_f rfl rfl) ?_
            refine Aw_q 9 rfl (by kernel_rfl) (by kernel_rfl) (by kernel_rfl) rfl rfl rfl (Qt_move rfl) ?_
            refine Aw_pass 10 rfl (by kernel_rfl) (by kernel_rfl) (by kernel_rfl) rfl rfl rfl rfl rfl rfl rfl ?_
            refine Aw_pass 11 rfl (by kernel_rfl) (by kernel_rfl) (by kernel_rfl) rfl rfl rfl rfl rfl rfl rfl ?_
            refine Aw_pass 12 rfl (by kernel_rfl) (by kernel_rfl) (by kernel_rfl) rfl rfl rfl rfl rfl rfl rfl ?_
            refine Aw_pass 13 rfl (by kernel_rfl) (by kernel_rfl) (by kernel_rfl) rfl rfl rfl rfl rfl rfl rfl ?_
            refine Aw_q 14 rfl (by kernel_rfl) (by kernel_rfl) (by kernel_rfl) rfl rfl rfl (Qt_pick_f rfl rfl) ?_
            refine Aw_q 15 rfl (by kernel_rfl) (by kernel_rfl) (by kernel_rfl) rfl rfl rfl (Qt_move rfl) ?_
            refine Aw_pass 16 rfl (by kernel_rfl) (by kernel_rfl) (by kernel_rfl) rfl rfl rfl rfl rfl rfl rfl ?_
            refine Aw_pass 17 rfl (by kernel_rfl) (by kernel_rfl) (by kernel_rfl) rfl rfl rfl rfl rfl rfl rfl ?_
            refine Aw_pass 18 rfl (by kernel_rfl) (by kernel_rfl) (by kernel_rfl) rfl rfl rfl rfl rfl rfl rfl ?_
            refine Aw_pass 19 rfl (by kernel_rfl) (by kernel_rfl) (by kernel_rfl) rfl rfl rfl rfl rfl rfl rfl ?_
            refine Aw_pass 20 rfl (by kernel_rfl) (by kernel_rfl) (by kernel_rfl) rfl rfl rfl rfl rfl rfl rfl ?_
            refine Aw_pass 21 rfl (by kernel_rfl) (by kernel_rfl) (by kernel_rfl) rfl rfl rfl rfl rfl rfl rfl ?_
            refine Aw_pass 22 rfl (by kernel_rfl) (by kernel_rfl) (by kernel_rfl) rfl rfl rfl rfl rfl rfl rfl ?_
            refine Aw_q 23 rfl (by kernel_rfl) (by kernel_rfl) (by kernel_rfl) rfl rfl rfl (Qt_pick_f rfl rfl) ?_
            refine Aw_done (by kernel_rfl) ?_
            refine Shift.pull (.there (.there (.there (.there .here)))) ?_
            refine Shift.pull (.there (.there .here)) ?_
            refine Shift.pull (.there (.there .here)) ?_
            refine Shift.rem (.there (.there (.there .here))) ?_
            refine Shift.rem (.there (.there (.there .here))) ?_
            refine Shift.done ?_
            exact ⟨[(3, (.pointer (some ((⟨b181, 0, none⟩ : Addr).add 0)))), (8, (.pointer (some ((⟨b187, 0, none⟩ : Addr).add 0)))), (10, (.pointer (some ((⟨b198, 0, none⟩ : Addr).add 0)))), (95, (.bool false))], ⟨rfl, rfl, rfl, rfl, trivial⟩, false, rfl, rfl, rfl, H⟩
        rintro _ _ _ - ⟨t459, rfl, rfl, rfl, H⟩
        unfold M_model_Apply_J5 at H
        refine Cw_cond rfl ?_ ?_
        · intro h472
          have H := ift h472 H
          refine Cw_seq ?_
          refine Cw_region ?_
          refine Ow_q rfl rfl rfl (Qt_fieldAddr (m := 1) rfl rfl rfl rfl rfl) ?_
          refine Ow_q rfl rfl rfl (Qt_load1 (v := (sv v196)) rfl rfl rfl (Rdc.blk (.head _) rfl)) ?_
          obtain ⟨x473, hx474, H⟩ := bnd H
          have hs475 := Slr.cutL hs197 hx474
          refine Ow_q rfl rfl rfl (Q_cutL (T := Ty.u64) hs197 hx474 rfl rfl rfl rfl rfl) ?_
          refine Ow_q rfl rfl rfl (Qt_fieldAddr (m := 1) rfl rfl rfl rfl rfl) ?_
          refine Ow_cons rfl (OpW_store (vs := [(sv (cutS v196 1 ((1 : Int).toNat) x193.buffer.length))]) (all' := (Chan.cells (Chan.mk x193.capacity x473 x193.closed) (cutS v196 1 ((1 : Int).toNat) x193.buffer.length))) rfl rfl rfl rfl rfl .here rfl rfl rfl ?_)
          refine Ow_nil ?_
          refine Cw_seq ?_
          refine Cw_region ?_
          refine Ow_q rfl rfl rfl (Qt_load1 (v := (sv vp0)) rfl rfl rfl (Rdc.blk (.tail _ (.tail _ (.head _))) rfl)) ?_
          refine Ow_q rfl rfl rfl (Qt_fieldAddr (m := 1) rfl rfl rfl rfl rfl) ?_
          refine Ow_q rfl rfl rfl (Qt_load1 (v := (.int .i64 i190)) rfl rfl rfl (Rdc.blk (.tail _ (.head _)) rfl)) ?_
          refine Ow_q rfl rfl rfl (Qt_loadA (m := 3) (cs := (Chan.cells (Chan.mk x193.capacity x473 x193.closed) (cutS v196 1 ((1 : Int).toNat) x193.buffer.length))) rfl rfl rfl rfl ⟨rfl, Rdc.blk (.head _) rfl⟩) ?_
          obtain ⟨x476, hx477, H⟩ := bnd H
          refine Ow_cons rfl (OpW_call rfl Tryd.call41 rfl rfl (c_M_model_put p0 vp0 i190 (Chan.mk x193.capacity x473 x193.closed) (cutS v196 1 ((1 : Int).toNat) x193.buffer.length) x476 hx477 _ _ hp0 hs475) ?_)
          rintro _ _ _ - ⟨v478, rs479, rfl, rfl, rfl, hs480⟩
          refine Ow_q rfl rfl rfl (Qt_assign rfl) ?_
          refine Ow_q rfl rfl rfl (Qt_assign rfl) ?_
          refine Ow_nil ?_
          refine Cw_ret ?_
          obtain ⟨ey0, ey1⟩ := inj2 H
          subst y0 y1
          refine ⟨(by first | exact .inl rfl | exact .inr rfl), [(sv v478), (.bool true)], ⟨(sv v478), _, rfl, rfl, ⟨(.bool true), _, rfl, rfl, rfl⟩⟩, ?_⟩
          refine Shift.settle (T := TyChan) .here hs480 rfl ?_
          intro K481 hK482 hs483
          refine Shift.rem .here ?_
          refine Shift.rem .here ?_
          refine Shift.rem .here ?_
          refine Shift.rem .here ?_
          refine Shift.done ?_
          exact ⟨v478, rfl, rfl, hs483⟩
        · intro h472
          have H := iff_ (btf h472) H
          refine Cw_skip ?_
          refine Shift.rem .here ?_
          refine Shift.rem .here ?_
          refine Shift.rem .here ?_
          refine Shift.done ?_
          exact ⟨[], trivial, rfl, rfl, H⟩
      · intro h446
        have h446 := dcd_f (h446)
        have H := iff_ h446 H
        refine Cw_seq ?_
        refine Cw_region ?_
        refine Ow_q rfl rfl rfl (Qt_fieldAddr (m := 1) rfl rfl rfl rfl rfl) ?_
        refine Ow_q rfl rfl rfl (Qt_load1 (v := (.int .i64 p2.case_)) rfl rfl rfl (Rdc.blk (.tail _ (.tail _ (.head _))) rfl)) ?_
        refine Ow_q rfl rfl rfl (Qt_build (cs := (Result.cells (Result.mk 2 p2.case_ 0 false 0))) rfl rfl rfl rfl rfl rfl) ?_
        refine Ow_q rfl rfl rfl (Qt_eqS rfl rfl (fun w => Result.eqrun p2 (Result.mk 2 p2.case_ 0 false 0) w) (by kernel_rfl)) ?_
        refine Ow_q rfl rfl rfl (Qt_assign rfl) ?_
        refine Ow_nil ?_
        refine Cw_cond rfl ?_ ?_
        · intro h484
          have h484 := dcd_t (h484)
          have H := ift h484 H
          refine Cw_join (fun env' K' G' => ∃ (t489 : Bool), [(3, (.pointer (some ((⟨b181, 0, none⟩ : Addr).add 0)))), (128, (.bool t489))] = env' ∧ K = K' ∧ (.blk b181 50 [(sv vp0)]) :: G = G' ∧ M_model_Apply_J6 p0 t489 = some (y0, y1)) ?_ ?_
          · skip
            refine Cw_region ?_
            refine Ow_q rfl rfl rfl (Qt_move rfl) ?_
            refine Ow_q rfl rfl rfl (Qt_move rfl) ?_
            refine Ow_caseG rfl rfl rfl ?_ ?_
            · intro h490
              have H := ift h490 H
              refine Ow_qw rfl rfl rfl rfl rfl rfl (Qt_fieldAddr (m := 0) rfl rfl rfl rfl rfl) ?_
              refine Ow_qw rfl rfl rfl rfl rfl rfl (Qt_load1 (v := (.bool t189)) rfl rfl rfl (Rdc.blk (.tail _ (.head _)) rfl)) ?_
              refine Ow_qw rfl rfl rfl rfl rfl rfl (Qt_not rfl) ?_
              refine Ow_q rfl rfl rfl (Qt_pick_t rfl rfl) ?_
              refine Ow_q rfl rfl rfl (Qt_move rfl) ?_
              refine Ow_caseG rfl rfl rfl ?_ ?_
              · intro h491
                have h491 := nt_t (h491)
                have H := iff_ (btf h491) H
                refine Ow_qw rfl rfl rfl rfl rfl rfl (Qt_move rfl) ?_
                refine Ow_q rfl rfl rfl (Qt_pick_t rfl rfl) ?_
                refine Ow_q rfl rfl rfl (Qt_move rfl) ?_
                refine Ow_caseG rfl rfl rfl ?_ ?_
                · intro h492
                  have H := ift h492 H
                  refine Ow_qw rfl rfl rfl rfl rfl rfl (Qt_fieldAddr (m := 1) rfl rfl rfl rfl rfl) ?_
                  refine Ow_qw rfl rfl rfl rfl rfl rfl (Qt_load1 (v := (sv v196)) rfl rfl rfl (Rdc.blk (.head _) rfl)) ?_
                  refine Ow_qw rfl rfl rfl rfl rfl rfl (Q_len (T := Ty.u64) hs197 rfl rfl) ?_
                  refine Ow_qw rfl rfl rfl rfl rfl rfl (Qt_cmp rfl rfl rfl) ?_
                  refine Ow_q rfl rfl rfl (Qt_pick_t rfl rfl) ?_
                  refine Ow_q rfl rfl rfl (Qt_move rfl) ?_
                  refine Ow_caseG rfl rfl rfl ?_ ?_
                  · intro h493
                    have h493 := dcd_t (h493)
                    have H := ift h493 H
                    refine Ow_qw rfl rfl rfl rfl rfl rfl (Qt_fieldAddr (m := 2) rfl rfl rfl rfl rfl) ?_
                    refine Ow_qw rfl rfl rfl rfl rfl rfl (Qt_load1 (v := (.bool x193.closed)) rfl rfl rfl (Rdc.blk (.head _) rfl)) ?_
                    refine Ow_q rfl rfl rfl (Qt_pick_t rfl rfl) ?_
                    refine Ow_nil ?_
                    refine Shift.pull (.there (.there (.there (.there .here)))) ?_
                    refine Shift.rem (.there .here) ?_
                    refine Shift.rem (.there .here) ?_
                    refine Shift.rem (.there .here) ?_
                    refine Shift.rem (.there .here) ?_
                    refine Shift.done ?_
                    exact ⟨[(3, (.pointer (some ((⟨b181, 0, none⟩ : Addr).add 0)))), (128, (.bool x193.closed))], ⟨rfl, rfl, trivial⟩, x193.closed, rfl, rfl, rfl, H⟩
                  · intro h493
                    have h493 := dcd_f (h493)
                    have H := iff_ h493 H
                    refine Ow_pass rfl rfl rfl rfl rfl rfl rfl ?_
                    refine Ow_pass rfl rfl rfl rfl rfl rfl rfl ?_
                    refine Ow_q rfl rfl rfl (Qt_pick_f rfl rfl) ?_
                    refine Ow_nil ?_
                    refine Shift.pull (.there (.there (.there (.there .here)))) ?_
                    refine Shift.rem (.there .here) ?_
                    refine Shift.rem (.there .here) ?_
                    refine Shift.rem (.there .here) ?_
                    refine Shift.rem (.there .here) ?_
                    refine Shift.done ?_
                    exact ⟨[(3, (.pointer (some ((⟨b181, 0, none⟩ : Addr).add 0)))), (128, (.bool false))], ⟨rfl, rfl, trivial⟩, false, rfl, rfl, rfl, H⟩
                · intro h492
                  have H := iff_ (btf h492) H
                  refine Ow_pass rfl rfl rfl rfl rfl rfl rfl ?_
                  refine Ow_pass rfl rfl rfl rfl rfl rfl rfl ?_
                  refine Ow_pass rfl rfl rfl rfl rfl rfl rfl ?_
                  refine Ow_pass rfl rfl rfl rfl rfl rfl rfl ?_
                  refine Ow_q rfl rfl rfl (Qt_pick_f rfl rfl) ?_
                  refine Ow_q rfl rfl rfl (Qt_move rfl) ?_
                  refine Ow_pass rfl rfl rfl rfl rfl rfl rfl ?_
                  refine Ow_pass rfl rfl rfl rfl rfl rfl rfl ?_
                  refine Ow_q rfl rfl rfl (Qt_pick_f rfl rfl) ?_
                  refine Ow_nil ?_
                  refine Shift.pull (.there (.there (.there (.there .here)))) ?_
                  refine Shift.rem (.there .here) ?_
                  refine Shift.rem (.there .here) ?_
                  refine Shift.rem (.there .here) ?_
                  refine Shift.rem (.there .here) ?_
                  refine Shift.done ?_
                  exact ⟨[(3, (.pointer (some ((⟨b181, 0, none⟩ : Addr).add 0)))), (128, (.bool false))], ⟨rfl, rfl, trivial⟩, false, rfl, rfl, rfl, H⟩
              · intro h491
                have h491 := nt_f (h491)
                have H := ift h491 H
                refine Ow_pass rfl rfl rfl rfl rfl rfl rfl ?_
                refine Ow_q rfl rfl rfl (Qt_pick_f rfl rfl) ?_
                refine Ow_q rfl rfl rfl (Qt_move rfl) ?_
                refine Ow_pass rfl rfl rfl rfl rfl rfl rfl ?_
                refine Ow_pass rfl rfl rfl rfl rfl rfl rfl ?_
                refine Ow_pass rfl rfl rfl rfl rfl rfl rfl ?_
                refine Ow_pass rfl rfl rfl rfl rfl rfl rfl ?_
                refine Ow_q rfl rfl rfl (Qt_pick_f rfl rfl) ?_
                refine Ow_q rfl rfl rfl (Qt_move rfl) ?_
                refine Ow_pass rfl rfl rfl rfl rfl rfl rfl ?_
                refine Ow_pass rfl rfl rfl rfl rfl rfl rfl ?_
                refine Ow_q rfl rfl rfl (Qt_pick_f rfl rfl) ?_
                refine Ow_nil ?_
                refine Shift.pull (.there (.there (.there (.there .here)))) ?_
                refine Shift.rem (.there .here) ?_
                refine Shift.rem (.there .here) ?_
                refine Shift.rem (.there .here) ?_
                refine Shift.rem (.there .here) ?_
                refine Shift.done ?_
                exact ⟨[(3, (.pointer (some ((⟨b181, 0, none⟩ : Addr).add 0)))), (128, (.bool false))], ⟨rfl, rfl, trivial⟩, false, rfl, rfl, rfl, H⟩
            · intro h490
              have H := iff_ (btf h490) H
              refine Ow_pass rfl rfl rfl rfl rfl rfl rfl ?_
              refine Ow_pass rfl rfl rfl rfl rfl rfl rfl ?_
              refine Ow_pass rfl rfl rfl rfl rfl rfl rfl ?_
              refine Ow_q rfl rfl rfl (Qt_pick_f rfl rfl) ?_
              refine Ow_q rfl rfl rfl (Qt_move rfl) ?_
              refine Ow_pass rfl rfl rfl rfl rfl rfl rfl ?_
              refine Ow_q rfl rfl rfl (Qt_pick_f rfl rfl) ?_
              refine Ow_q rfl rfl rfl (Qt_move rfl) ?_
              refine Ow_pass rfl rfl rfl rfl rfl rfl rfl ?_
              refine Ow_pass rfl rfl rfl rfl rfl rfl rfl ?_
              refine Ow_pass rfl rfl rfl rfl rfl rfl rfl ?_
              refine Ow_pass rfl rfl rfl rfl rfl rfl rfl ?_
              refine Ow_q rfl rfl rfl (Qt_pick_f rfl rfl) ?_
              refine Ow_q rfl rfl rfl (Qt_move rfl) ?_
              refine Ow_pass rfl rfl rfl rfl rfl rfl rfl ?_
              refine Ow_pass rfl rfl rfl rfl rfl rfl rfl ?_
              refine Ow_q rfl rfl rfl (Qt_pick_f rfl rfl) ?_
              refine Ow_nil ?_
              refine Shift.pull (.there (.there (.there (.there .here)))) ?_
              refine Shift.rem (.there .here) ?_
              refine Shift.rem (.there .here) ?_
              refine Shift.rem (.there .here) ?_
              refine Shift.rem (.there .here) ?_
              refine Shift.done ?_
              exact ⟨[(3, (.pointer (some ((⟨b181, 0, none⟩ : Addr).add 0)))), (128, (.bool false))], ⟨rfl, rfl, trivial⟩, false, rfl, rfl, rfl, H⟩
          rintro _ _ _ - ⟨t489, rfl, rfl, rfl, H⟩
          unfold M_model_Apply_J6 at H
          refine Cw_cond rfl ?_ ?_
          · intro h494
            have H := ift h494 H
            refine Cw_seq ?_
            refine Cw_region ?_
            refine Ow_q rfl rfl rfl (Qt_load1 (v := (sv vp0)) rfl rfl rfl (Rdc.blk (.head _) rfl)) ?_
            refine Ow_q rfl rfl rfl (Qt_assign rfl) ?_
            refine Ow_q rfl rfl rfl (Qt_assign rfl) ?_
            refine Ow_nil ?_
            refine Cw_ret ?_
            obtain ⟨ey0, ey1⟩ := inj2 H
            subst y0 y1
            refine ⟨(by first | exact .inl rfl | exact .inr rfl), [(sv vp0), (.bool true)], ⟨(sv vp0), _, rfl, rfl, ⟨(.bool true), _, rfl, rfl, rfl⟩⟩, ?_⟩
            refine Shift.rem .here ?_
            refine Shift.done ?_
            exact ⟨vp0, rfl, rfl, hp0⟩
          · intro h494
            have H := iff_ (btf h494) H
            refine Cw_skip ?_
            refine Shift.rem .here ?_
            refine Shift.done ?_
            exact ⟨[], trivial, rfl, rfl, H⟩
        · intro h484
          have h484 := dcd_f (h484)
          have H := iff_ h484 H
          refine Cw_seq ?_
          refine Cw_region ?_
          refine Ow_q rfl rfl rfl (Qt_fieldAddr (m := 1) rfl rfl rfl rfl rfl) ?_
          refine Ow_q rfl rfl rfl (Qt_load1 (v := (.int .i64 p2.case_)) rfl rfl rfl (Rdc.blk (.tail _ (.tail _ (.head _))) rfl)) ?_
          refine Ow_q rfl rfl rfl (Qt_build (cs := (Result.cells (Result.mk 5 p2.case_ 0 false 0))) rfl rfl rfl rfl rfl rfl) ?_
          refine Ow_q rfl rfl rfl (Qt_eqS rfl rfl (fun w => Result.eqrun p2 (Result.mk 5 p2.case_ 0 false 0) w) (by kernel_rfl)) ?_
          refine Ow_q rfl rfl rfl (Qt_assign rfl) ?_
          refine Ow_nil ?_
          refine Cw_cond rfl ?_ ?_
          · intro h495
            have h495 := dcd_t (h495)
            have H := ift h495 H
            refine Cw_join (fun env' K' G' => ∃ (t510 : Bool), [(3, (.pointer (some ((⟨b181, 0, none⟩ : Addr).add 0)))), (164, (.bool t510))] = env' ∧ K = K' ∧ (.blk b181 50 [(sv vp0)]) :: G = G' ∧ M_model_Apply_J7 p0 t510 = some (y0, y1)) ?_ ?_
            · skip
              refine Cw_region ?_
              refine Ow_q rfl rfl rfl (Qt_move rfl) ?_
              refine Ow_q rfl rfl rfl (Qt_move rfl) ?_
              refine Ow_caseG rfl rfl rfl ?_ ?_
              · intro h511
                have H := ift h511 H
                refine Ow_qw rfl rfl rfl rfl rfl rfl (Qt_fieldAddr (m := 0) rfl rfl rfl rfl rfl) ?_
                refine Ow_qw rfl rfl rfl rfl rfl rfl (Qt_load1 (v := (.bool t189)) rfl rfl rfl (Rdc.blk (.tail _ (.head _)) rfl)) ?_
                refine Ow_q rfl rfl rfl (Qt_pick_t rfl rfl) ?_
                refine Ow_q rfl rfl rfl (Qt_move rfl) ?_
                refine Ow_caseG rfl rfl rfl ?_ ?_
                · intro h512
                  have H := ift h512 H
                  refine Ow_qw rfl rfl rfl rfl rfl rfl (Qt_move rfl) ?_
                  refine Ow_q rfl rfl rfl (Qt_pick_t rfl rfl) ?_
                  refine Ow_q rfl rfl rfl (Qt_move rfl) ?_
                  refine Ow_caseG rfl rfl rfl ?_ ?_
                  · intro h513
                    have H := ift h513 H
                    refine Ow_qw rfl rfl rfl rfl rfl rfl (Qt_fieldAddr (m := 2) rfl rfl rfl rfl rfl) ?_
                    refine Ow_qw rfl rfl rfl rfl rfl rfl (Qt_load1 (v := (.bool x193.closed)) rfl rfl rfl (Rdc.blk (.head _) rfl)) ?_
                    refine Ow_q rfl rfl rfl (Qt_pick_t rfl rfl) ?_
                    refine Ow_q rfl rfl rfl (Qt_move rfl) ?_
                    refine Ow_caseG rfl rfl rfl ?_ ?_
                    · intro h514
                      have H := ift h514 H
                      refine Ow_pass rfl rfl rfl rfl rfl rfl rfl ?_
                      refine Ow_pass rfl rfl rfl rfl rfl rfl rfl ?_
                      refine Ow_pass rfl rfl rfl rfl rfl rfl rfl ?_
                      refine Ow_pass rfl rfl rfl rfl rfl rfl rfl ?_
                      refine Ow_passU rfl rfl rfl rfl rfl ?_
                      refine Ow_passU rfl rfl rfl rfl rfl ?_
                      refine Ow_passU rfl rfl rfl rfl rfl ?_
                      refine Ow_pass rfl rfl rfl rfl rfl rfl rfl ?_
                      refine Ow_pass rfl rfl rfl rfl rfl rfl rfl ?_
                      refine Ow_passU rfl rfl rfl rfl rfl ?_
                      refine Ow_passU rfl rfl rfl rfl rfl ?_
                      refine Ow_passU rfl rfl rfl rfl rfl ?_
                      refine Ow_passU rfl rfl rfl rfl rfl ?_
                      refine Ow_passU rfl rfl rfl rfl rfl ?_
                      refine Ow_passU rfl rfl rfl rfl rfl ?_
                      refine Ow_pass rfl rfl rfl rfl rfl rfl rfl ?_
                      refine Ow_q rfl rfl rfl (Qt_pick_t rfl rfl) ?_
                      refine Ow_nil ?_
                      refine Shift.pull (.there (.there (.there (.there .here)))) ?_
                      refine Shift.rem (.there .here) ?_
                      refine Shift.rem (.there .here) ?_
                      refine Shift.rem (.there .here) ?_
                      refine Shift.rem (.there .here) ?_
                      refine Shift.done ?_
                      exact ⟨[(3, (.pointer (some ((⟨b181, 0, none⟩ : Addr).add 0)))), (164, (.bool true))], ⟨rfl, rfl, trivial⟩, true, rfl, rfl, rfl, H⟩
                    · intro h514
                      have H := iff_ (btf h514) H
                      refine Ow_qw rfl rfl rfl rfl rfl rfl (Qt_fieldAddr (m := 0) rfl rfl rfl rfl rfl) ?_
                      refine Ow_qw rfl rfl rfl rfl rfl rfl (Qt_load1 (v := (.int .i64 p1.kind)) rfl rfl rfl (Rdc.blk (.tail _ (.tail _ (.tail _ (.head _)))) rfl)) ?_
                      refine Ow_qw rfl rfl rfl rfl rfl rfl (Qt_cmp rfl rfl rfl) ?_
                      refine Ow_qw rfl rfl rfl rfl rfl rfl (Qt_move rfl) ?_
                      refine Ow_caseG rfl rfl rfl ?_ ?_
                      · intro h515
                        have h515 := dcd_t (h515)
                        have H := ift h515 H
                        refine Ow_qw rfl rfl rfl rfl rfl rfl (Qt_fieldAddr (m := 1) rfl rfl rfl rfl rfl) ?_
                        refine Ow_qw rfl rfl rfl rfl rfl rfl (Qt_load1 (v := (.int .i64 p2.case_)) rfl rfl rfl (Rdc.blk (.tail _ (.tail _ (.head _))) rfl)) ?_
                        refine Ow_qw rfl rfl rfl rfl rfl rfl (Qt_cmp rfl rfl rfl) ?_
                        refine Ow_qw rfl rfl rfl rfl rfl rfl (Qt_pick_t rfl rfl) ?_
                        refine Ow_qw rfl rfl rfl rfl rfl rfl (Qt_move rfl) ?_
                        refine Ow_caseG rfl rfl rfl ?_ ?_
                        · intro h516
                          have h516 := dcd_t (h516)
                          have H := ift h516 H
                          refine Ow_qw rfl rfl rfl rfl rfl rfl (Qt_move rfl) ?_
                          refine Ow_qw rfl rfl rfl rfl rfl rfl (Qt_not rfl) ?_
                          refine Ow_qw rfl rfl rfl rfl rfl rfl (Qt_move rfl) ?_
                          refine Ow.known (d := 159) rfl (nt_mf (h513)) ?_
                          refine Ow_qw rfl rfl rfl rfl rfl rfl (Qt_fieldAddr (m := 2) rfl rfl rfl rfl rfl) ?_
                          refine Ow_qw rfl rfl rfl rfl rfl rfl (Qt_load1 (v := (.bool x193.closed)) rfl rfl rfl (Rdc.blk (.head _) rfl)) ?_
                          refine Ow_qw rfl rfl rfl rfl rfl rfl (Qt_pick_f rfl rfl) ?_
                          refine Ow_qw rfl rfl rfl rfl rfl rfl (Qt_pick_t rfl rfl) ?_
                          refine Ow_q rfl rfl rfl (Qt_pick_f rfl rfl) ?_
                          refine Ow_nil ?_
                          refine Shift.pull (.there (.there (.there (.there .here)))) ?_
                          refine Shift.rem (.there .here) ?_
                          refine Shift.rem (.there .here) ?_
                          refine Shift.rem (.there .here) ?_
                          refine Shift.rem (.there .here) ?_
                          refine Shift.done ?_
                          exact ⟨[(3, (.pointer (some ((⟨b181, 0, none⟩ : Addr).add 0)))), (164, (.bool x193.closed))], ⟨rfl, rfl, trivial⟩, x193.closed, rfl, rfl, rfl, H⟩
                        · intro h516
                          have h516 := dcd_f (h516)
                          have H := iff_ h516 H
                          refine Ow_pass rfl rfl rfl rfl rfl rfl rfl ?_
                          refine Ow_pass rfl rfl rfl rfl rfl rfl rfl ?_
                          refine Ow_pass rfl rfl rfl rfl rfl rfl rfl ?_
                          refine Ow_passU rfl rfl rfl rfl rfl ?_
                          refine Ow_passU rfl rfl rfl rfl rfl ?_
                          refine Ow_pass rfl rfl rfl rfl rfl rfl rfl ?_
                          refine Ow_qw rfl rfl rfl rfl rfl rfl (Qt_pick_f rfl rfl) ?_
                          refine Ow_q rfl rfl rfl (Qt_pick_f rfl rfl) ?_
                          refine Ow_nil ?_
                          refine Shift.pull (.there (.there (.there (.there .here)))) ?_
                          refine Shift.rem (.there .here) ?_
                          refine Shift.rem (.there .here) ?_
                          refine Shift.rem (.there .here) ?_
                          refine Shift.rem (.there .here) ?_
                          refine Shift.done ?_
                          exact ⟨[(3, (.pointer (some ((⟨b181, 0, none⟩ : Addr).add 0)))), (164, (.bool false))], ⟨rfl, rfl, trivial⟩, false, rfl, rfl, rfl, H⟩
                      · intro h515
                        have h515 := dcd_f (h515)
                        have H := iff_ h515 H
                        refine Ow_pass rfl rfl rfl rfl rfl rfl rfl ?_
                        refine Ow_pass rfl rfl rfl rfl rfl rfl rfl ?_
                        refine Ow_pass rfl rfl rfl rfl rfl rfl rfl ?_
                        refine Ow_qw rfl rfl rfl rfl rfl rfl (Qt_pick_f rfl rfl) ?_
                        refine Ow_qw rfl rfl rfl rfl rfl rfl (Qt_move rfl) ?_
                        refine Ow_pass rfl rfl rfl rfl rfl rfl rfl ?_
                        refine Ow_pass rfl rfl rfl rfl rfl rfl rfl ?_
                        refine Ow_pass rfl rfl rfl rfl rfl rfl rfl ?_
                        refine Ow_passU rfl rfl rfl rfl rfl ?_
                        refine Ow_passU rfl rfl rfl rfl rfl ?_
                        refine Ow_pass rfl rfl rfl rfl rfl rfl rfl ?_
                        refine Ow_qw rfl rfl rfl rfl rfl rfl (Qt_pick_f rfl rfl) ?_
                        refine Ow_q rfl rfl rfl (Qt_pick_f rfl rfl) ?_
                        refine Ow_nil ?_
                        refine Shift.pull (.there (.there (.there (.there .here)))) ?_
                        refine Shift.rem (.there .here) ?_
                        refine Shift.rem (.there .here) ?_
                        refine Shift.rem (.there .here) ?_
                        refine Shift.rem (.there .here) ?_
                        refine Shift.done ?_
                        exact ⟨[(3, (.pointer (some ((⟨b181, 0, none⟩ : Addr).add 0)))), (164, (.bool false))], ⟨rfl, rfl, trivial⟩, false, rfl, rfl, rfl, H⟩
                  · intro h513
                    have H := iff_ (btf h513) H
                    refine Ow_pass rfl rfl rfl rfl rfl rfl rfl ?_
                    refine Ow_pass rfl rfl rfl rfl rfl rfl rfl ?_
                    refine Ow_q rfl rfl rfl (Qt_pick_f rfl rfl) ?_
                    refine Ow_q rfl rfl rfl (Qt_move rfl) ?_
                    refine Ow_qw rfl rfl rfl rfl rfl rfl (Qt_fieldAddr (m := 0) rfl rfl rfl rfl rfl) ?_
                    refine Ow_qw rfl rfl rfl rfl rfl rfl (Qt_load1 (v := (.int .i64 p1.kind)) rfl rfl rfl (Rdc.blk (.tail _ (.tail _ (.tail _ (.head _)))) rfl)) ?_
                    refine Ow_qw rfl rfl rfl rfl rfl rfl (Qt_cmp rfl rfl rfl) ?_
                    refine Ow_qw rfl rfl rfl rfl rfl rfl (Qt_move rfl) ?_
                    refine Ow_caseG rfl rfl rfl ?_ ?_
                    · intro h517
                      have h517 := dcd_t (h517)
                      have H := ift h517 H
                      refine Ow_qw rfl rfl rfl rfl rfl rfl (Qt_fieldAddr (m := 1) rfl rfl rfl rfl rfl) ?_
                      refine Ow_qw rfl rfl rfl rfl rfl rfl (Qt_load1 (v := (.int .i64 p2.case_)) rfl rfl rfl (Rdc.blk (.tail _ (.tail _ (.head _))) rfl)) ?_
                      refine Ow_qw rfl rfl rfl rfl rfl rfl (Qt_cmp rfl rfl rfl) ?_
                      refine Ow_qw rfl rfl rfl rfl rfl rfl (Qt_pick_t rfl rfl) ?_
                      refine Ow_qw rfl rfl rfl rfl rfl rfl (Qt_move rfl) ?_
                      refine Ow_caseG rfl rfl rfl ?_ ?_
                      · intro h518
                        have h518 := dcd_t (h518)
                        have H := ift h518 H
                        refine Ow_qw rfl rfl rfl rfl rfl rfl (Qt_move rfl) ?_
                        refine Ow_qw rfl rfl rfl rfl rfl rfl (Qt_not rfl) ?_
                        refine Ow_qw rfl rfl rfl rfl rfl rfl (Qt_move rfl) ?_
                        refine Ow.known (d := 159) rfl (nt_mt (h513)) ?_
                        refine Ow_pass rfl rfl rfl rfl rfl rfl rfl ?_
                        refine Ow_pass rfl rfl rfl rfl rfl rfl rfl ?_
                        refine Ow_qw rfl rfl rfl rfl rfl rfl (Qt_pick_t rfl rfl) ?_
                        refine Ow_qw rfl rfl rfl rfl rfl rfl (Qt_pick_t rfl rfl) ?_
                        refine Ow_q rfl rfl rfl (Qt_pick_f rfl rfl) ?_
                        refine Ow_nil ?_
                        refine Shift.pull (.there (.there (.there (.there .here)))) ?_
                        refine Shift.rem (.there .here) ?_
                        refine Shift.rem (.there .here) ?_
                        refine Shift.rem (.there .here) ?_
                        refine Shift.rem (.there .here) ?_
                        refine Shift.done ?_
                        exact ⟨[(3, (.pointer (some ((⟨b181, 0, none⟩ : Addr).add 0)))), (164, (.bool true))], ⟨rfl, rfl, trivial⟩, true, rfl, rfl, rfl, H⟩
                      · intro h518
                        have h518 := dcd_f (h518)
                        have H := iff_ h518 H
                        refine Ow_pass rfl rfl rfl rfl rfl rfl rfl ?_
                        refine Ow_pass rfl rfl rfl rfl rfl rfl rfl ?_
                        refine Ow_pass rfl rfl rfl rfl rfl rfl rfl ?_
                        refine Ow_passU rfl rfl rfl rfl rfl ?_
                        refine Ow_passU rfl rfl rfl rfl rfl ?_
                        refine Ow_pass rfl rfl rfl rfl rfl rfl rfl ?_
                        refine Ow_qw rfl rfl rfl rfl rfl rfl (Qt_pick_f rfl rfl) ?_
                        refine Ow_q rfl rfl rfl (Qt_pick_f rfl rfl) ?_
                        refine Ow_nil ?_
                        refine Shift.pull (.there (.there (.there (.there .here)))) ?_
                        refine Shift.rem (.there .here) ?_
                        refine Shift.rem (.there .here) ?_
                        refine Shift.rem (.there .here) ?_
                        refine Shift.rem (.there .here) ?_
                        refine Shift.done ?_
                        exact ⟨[(3, (.pointer (some ((⟨b181, 0, none⟩ : Addr).add 0)))), (164, (.bool false))], ⟨rfl, rfl, trivial⟩, false, rfl, rfl, rfl, H⟩
                    · intro h517
                      have h517 := dcd_f (h517)
                      have H := iff_ h517 H
                      refine Ow_pass rfl rfl rfl rfl rfl rfl rfl ?_
                      refine Ow_pass rfl rfl rfl rfl rfl rfl rfl ?_
                      refine Ow_pass rfl rfl rfl rfl rfl rfl rfl ?_
                      refine Ow_qw rfl rfl rfl rfl rfl rfl (Qt_pick_f rfl rfl) ?_
                      refine Ow_qw rfl rfl rfl rfl rfl rfl (Qt_move rfl) ?_
                      refine Ow_pass rfl rfl rfl rfl rfl rfl rfl ?_
                      refine Ow_pass rfl rfl rfl rfl rfl rfl rfl ?_
                      refine Ow_pass rfl rfl rfl rfl rfl rfl rfl ?_
                      refine Ow_passU rfl rfl rfl rfl rfl ?_
                      refine Ow_passU rfl rfl rfl rfl rfl ?_
                      refine Ow_pass rfl rfl rfl rfl rfl rfl rfl ?_
                      refine Ow_qw rfl rfl rfl rfl rfl rfl (Qt_pick_f rfl rfl) ?_
                      refine Ow_q rfl rfl rfl (Qt_pick_f rfl rfl) ?_
                      refine Ow_nil ?_
                      refine Shift.pull (.there (.there (.there (.there .here)))) ?_
                      refine Shift.rem (.there .here) ?_
                      refine Shift.rem (.there .here) ?_
                      refine Shift.rem (.there .here) ?_
                      refine Shift.rem (.there .here) ?_
                      refine Shift.done ?_
                      exact ⟨[(3, (.pointer (some ((⟨b181, 0, none⟩ : Addr).add 0)))), (164, (.bool false))], ⟨rfl, rfl, trivial⟩, false, rfl, rfl, rfl, H⟩
                · intro h512
                  have H := iff_ (btf h512) H
                  refine Ow_pass rfl rfl rfl rfl rfl rfl rfl ?_
                  refine Ow_q rfl rfl rfl (Qt_pick_f rfl rfl) ?_
                  refine Ow_q rfl rfl rfl (Qt_move rfl) ?_
                  refine Ow_pass rfl rfl rfl rfl rfl rfl rfl ?_
                  refine Ow_pass rfl rfl rfl rfl rfl rfl rfl ?_
                  refine Ow_q rfl rfl rfl (Qt_pick_f rfl rfl) ?_
                  refine Ow_q rfl rfl rfl (Qt_move rfl) ?_
                  refine Ow_qw rfl rfl rfl rfl rfl rfl (Qt_fieldAddr (m := 0) rfl rfl rfl rfl rfl) ?_
                  refine Ow_qw rfl rfl rfl rfl rfl rfl (Qt_load1 (v := (.int .i64 p1.kind)) rfl rfl rfl (Rdc.blk (.tail _ (.tail _ (.tail _ (.head _)))) rfl)) ?_
                  refine Ow_qw rfl rfl rfl rfl rfl rfl (Qt_cmp rfl rfl rfl) ?_
                  refine Ow_qw rfl rfl rfl rfl rfl rfl (Qt_move rfl) ?_
                  refine Ow_caseG rfl rfl rfl ?_ ?_
                  · intro h519
                    have h519 := dcd_t (h519)
                    have H := ift h519 H
                    refine Ow_qw rfl rfl rfl rfl rfl rfl (Qt_fieldAddr (m := 1) rfl rfl rfl rfl rfl) ?_
                    refine Ow_qw rfl rfl rfl rfl rfl rfl (Qt_load1 (v := (.int .i64 p2.case_)) rfl rfl rfl (Rdc.blk (.tail _ (.tail _ (.head _))) rfl)) ?_
                    refine Ow_qw rfl rfl rfl rfl rfl rfl (Qt_cmp rfl rfl rfl) ?_
                    refine Ow_qw rfl rfl rfl rfl rfl rfl (Qt_pick_t rfl rfl) ?_
                    refine Ow_qw rfl rfl rfl rfl rfl rfl (Qt_move rfl) ?_
                    refine Ow_caseG rfl rfl rfl ?_ ?_
                    · intro h520
                      have h520 := dcd_t (h520)
                      have H := ift h520 H
                      refine Ow_qw rfl rfl rfl rfl rfl rfl (Qt_move rfl) ?_
                      refine Ow_qw rfl rfl rfl rfl rfl rfl (Qt_not rfl) ?_
                      refine Ow_qw rfl rfl rfl rfl rfl rfl (Qt_move rfl) ?_
                      refine Ow_caseG rfl rfl rfl ?_ ?_
                      · intro h521
                        have h521 := nt_t (h521)
                        have H := iff_ (btf h521) H
                        refine Ow_pass rfl rfl rfl rfl rfl rfl rfl ?_
                        refine Ow_pass rfl rfl rfl rfl rfl rfl rfl ?_
                        refine Ow_qw rfl rfl rfl rfl rfl rfl (Qt_pick_t rfl rfl) ?_
                        refine Ow_qw rfl rfl rfl rfl rfl rfl (Qt_pick_t rfl rfl) ?_
                        refine Ow_q rfl rfl rfl (Qt_pick_f rfl rfl) ?_
                        refine Ow_nil ?_
                        refine Shift.pull (.there (.there (.there (.there .here)))) ?_
                        refine Shift.rem (.there .here) ?_
                        refine Shift.rem (.there .here) ?_
                        refine Shift.rem (.there .here) ?_
                        refine Shift.rem (.there .here) ?_
                        refine Shift.done ?_
                        exact ⟨[(3, (.pointer (some ((⟨b181, 0, none⟩ : Addr).add 0)))), (164, (.bool true))], ⟨rfl, rfl, trivial⟩, true, rfl, rfl, rfl, H⟩
                      · intro h521
                        have h521 := nt_f (h521)
                        have H := ift h521 H
                        refine Ow_qw rfl rfl rfl rfl rfl rfl (Qt_fieldAddr (m := 2) rfl rfl rfl rfl rfl) ?_
                        refine Ow_qw rfl rfl rfl rfl rfl rfl (Qt_load1 (v := (.bool x193.closed)) rfl rfl rfl (Rdc.blk (.head _) rfl)) ?_
                        refine Ow_qw rfl rfl rfl rfl rfl rfl (Qt_pick_f rfl rfl) ?_
                        refine Ow_qw rfl rfl rfl rfl rfl rfl (Qt_pick_t rfl rfl) ?_
                        refine Ow_q rfl rfl rfl (Qt_pick_f rfl rfl) ?_
                        refine Ow_nil ?_
                        refine Shift.pull (.there (.there (.there (.there .here)))) ?_
                        refine Shift.rem (.there .here) ?_
                        refine Shift.rem (.there .here) ?_
                        refine Shift.rem (.there .here) ?_
                        refine Shift.rem (.there .here) ?_
                        refine Shift.done ?_
                        exact ⟨[(3, (.pointer (some ((⟨b181, 0, none⟩ : Addr).add 0)))), (164, (.bool x193.closed))], ⟨rfl, rfl, trivial⟩, x193.closed, rfl, rfl, rfl, H⟩
                    · intro h520
                      have h520 := dcd_f (h520)
                      have H := iff_ h520 H
                      refine Ow_pass rfl rfl rfl rfl rfl rfl rfl ?_
                      refine Ow_pass rfl rfl rfl rfl rfl rfl rfl ?_
                      refine Ow_pass rfl rfl rfl rfl rfl rfl rfl ?_
                      refine Ow_passU rfl rfl rfl rfl rfl ?_
                      refine Ow_passU rfl rfl rfl rfl rfl ?_
                      refine Ow_pass rfl rfl rfl rfl rfl rfl rfl ?_
                      refine Ow_qw rfl rfl rfl rfl rfl rfl (Qt_pick_f rfl rfl) ?_
                      refine Ow_q rfl rfl rfl (Qt_pick_f rfl rfl) ?_
                      refine Ow_nil ?_
                      refine Shift.pull (.there (.there (.there (.there .here)))) ?_
                      refine Shift.rem (.there .here) ?_
                      refine Shift.rem (.there .here) ?_
                      refine Shift.rem (.there .here) ?_
                      refine Shift.rem (.there .here) ?_
                      refine Shift.done ?_
                      exact ⟨[(3, (.pointer (some ((⟨b181, 0, none⟩ : Addr).add 0)))), (164, (.bool false))], ⟨rfl, rfl, trivial⟩, false, rfl, rfl, rfl, H⟩
                  · intro h519
                    have h519 := dcd_f (h519)
                    have H := iff_ h519 H
                    refine Ow_pass rfl rfl rfl rfl rfl rfl rfl ?_
                    refine Ow_pass rfl rfl rfl rfl rfl rfl rfl ?_
                    refine Ow_pass rfl rfl rfl rfl rfl rfl rfl ?_
                    refine Ow_qw rfl rfl rfl rfl rfl rfl (Qt_pick_f rfl rfl) ?_
                    refine Ow_qw rfl rfl rfl rfl rfl rfl (Qt_move rfl) ?_
                    refine Ow_pass rfl rfl rfl rfl rfl rfl rfl ?_
                    refine Ow_pass rfl rfl rfl rfl rfl rfl rfl ?_
                    refine Ow_pass rfl rfl rfl rfl rfl rfl rfl ?_
                    refine Ow_passU rfl rfl rfl rfl rfl ?_
                    refine Ow_passU rfl rfl rfl rfl rfl ?_
                    refine Ow_pass rfl rfl rfl rfl rfl rfl rfl ?_
                    refine Ow_qw rfl rfl rfl rfl rfl rfl (Qt_pick_f rfl rfl) ?_
                    refine Ow_q rfl rfl rfl (Qt_pick_f rfl rfl) ?_
                    refine Ow_nil ?_
                    refine Shift.pull (.there (.there (.there (.there .here)))) ?_
                    refine Shift.rem (.there .here) ?_
                    refine Shift.rem (.there .here) ?_
                    refine Shift.rem (.there .here) ?_
                    refine Shift.rem (.there .here) ?_
                    refine Shift.done ?_
                    exact ⟨[(3, (.pointer (some ((⟨b181, 0, none⟩ : Addr).add 0)))), (164, (.bool false))], ⟨rfl, rfl, trivial⟩, false, rfl, rfl, rfl, H⟩
              · intro h511
                have H := iff_ (btf h511) H
                refine Ow_pass rfl rfl rfl rfl rfl rfl rfl ?_
                refine Ow_pass rfl rfl rfl rfl rfl rfl rfl ?_
                refine Ow_q rfl rfl rfl (Qt_pick_f rfl rfl) ?_
                refine Ow_q rfl rfl rfl (Qt_move rfl) ?_
                refine Ow_pass rfl rfl rfl rfl rfl rfl rfl ?_
                refine Ow_q rfl rfl rfl (Qt_pick_f rfl rfl) ?_
                refine Ow_q rfl rfl rfl (Qt_move rfl) ?_
                refine Ow_pass rfl rfl rfl rfl rfl rfl rfl ?_
                refine Ow_pass rfl rfl rfl rfl rfl rfl rfl ?_
                refine Ow_q rfl rfl rfl (Qt_pick_f rfl rfl) ?_
                refine Ow_q rfl rfl rfl (Qt_move rfl) ?_
                refine Ow_qw rfl rfl rfl rfl rfl rfl (Qt_fieldAddr (m := 0) rfl rfl rfl rfl rfl) ?_
                refine Ow_qw rfl rfl rfl rfl rfl rfl (Qt_load1 (v := (.int .i64 p1.kind)) rfl rfl rfl (Rdc.blk (.tail _ (.tail _ (.tail _ (.head _)))) rfl)) ?_
                refine Ow_qw rfl rfl rfl rfl rfl rfl (Qt_cmp rfl rfl rfl) ?_
                refine Ow_qw rfl rfl rfl rfl rfl rfl (Qt_move rfl) ?_
                refine Ow_caseG rfl rfl rfl ?_ ?_
                · intro h522
                  have h522 := dcd_t (h522)
                  have H := ift h522 H
                  refine Ow_qw rfl rfl rfl rfl rfl rfl (Qt_fieldAddr (m := 1) rfl rfl rfl rfl rfl) ?_
                  refine Ow_qw rfl rfl rfl rfl rfl rfl (Qt_load1 (v := (.int .i64 p2.case_)) rfl rfl rfl (Rdc.blk (.tail _ (.tail _ (.head _))) rfl)) ?_
                  refine Ow_qw rfl rfl rfl rfl rfl rfl (Qt_cmp rfl rfl rfl) ?_
                  refine Ow_qw rfl rfl rfl rfl rfl rfl (Qt_pick_t rfl rfl) ?_
                  refine Ow_qw rfl rfl rfl rfl rfl rfl (Qt_move rfl) ?_
                  refine Ow_caseG rfl rfl rfl ?_ ?_
                  · intro h523
                    have h523 := dcd_t (h523)
                    have H := ift h523 H
                    refine Ow_qw rfl rfl rfl rfl rfl rfl (Qt_move rfl) ?_
                    refine Ow_qw rfl rfl rfl rfl rfl rfl (Qt_not rfl) ?_
                    refine Ow_qw rfl rfl rfl rfl rfl rfl (Qt_move rfl) ?_
                    refine Ow_caseG rfl rfl rfl ?_ ?_
                    · intro h524
                      have h524 := nt_t (h524)
                      have H := iff_ (btf h524) H
                      refine Ow_pass rfl rfl rfl rfl rfl rfl rfl ?_
                      refine Ow_pass rfl rfl rfl rfl rfl rfl rfl ?_
                      refine Ow_qw rfl rfl rfl rfl rfl rfl (Qt_pick_t rfl rfl) ?_
                      refine Ow_qw rfl rfl rfl rfl rfl rfl (Qt_pick_t rfl rfl) ?_
                      refine Ow_q rfl rfl rfl (Qt_pick_f rfl rfl) ?_
                      refine Ow_nil ?_
                      refine Shift.pull (.there (.there (.there (.there .here)))) ?_
                      refine Shift.rem (.there .here) ?_
                      refine Shift.rem (.there .here) ?_
                      refine Shift.rem (.there .here) ?_
                      refine Shift.rem (.there .here) ?_
                      refine Shift.done ?_
                      exact ⟨[(3, (.pointer (some ((⟨b181, 0, none⟩ : Addr).add 0)))), (164, (.bool true))], ⟨rfl, rfl, trivial⟩, true, rfl, rfl, rfl, H⟩
                    · intro h524
                      have h524 := nt_f (h524)
                      have H := ift h524 H
                      refine Ow_qw rfl rfl rfl rfl rfl rfl (Qt_fieldAddr (m := 2) rfl rfl rfl rfl rfl) ?_
                      refine Ow_qw rfl rfl rfl rfl rfl rfl (Qt_load1 (v := (.bool x193.closed)) rfl rfl rfl (Rdc.blk (.head _) rfl)) ?_
                      refine Ow_qw rfl rfl rfl rfl rfl rfl (Qt_pick_f rfl rfl) ?_
                      refine Ow_qw rfl rfl rfl rfl rfl rfl (Qt_pick_t rfl rfl) ?_
                      refine Ow_q rfl rfl rfl (Qt_pick_f rfl rfl) ?_
                      refine Ow_nil ?_
                      refine Shift.pull (.there (.there (.there (.there .here)))) ?_
                      refine Shift.rem (.there .here) ?_
                      refine Shift.rem (.there .here) ?_
                      refine Shift.rem (.there .here) ?_
                      refine Shift.rem (.there .here) ?_
                      refine Shift.done ?_
                      exact ⟨[(3, (.pointer (some ((⟨b181, 0, none⟩ : Addr).add 0)))), (164, (.bool x193.closed))], ⟨rfl, rfl, trivial⟩, x193.closed, rfl, rfl, rfl, H⟩
                  · intro h523
                    have h523 := dcd_f (h523)
                    have H := iff_ h523 H
                    refine Ow_pass rfl rfl rfl rfl rfl rfl rfl ?_
                    refine Ow_pass rfl rfl rfl rfl rfl rfl rfl ?_
                    refine Ow_pass rfl rfl rfl rfl rfl rfl rfl ?_
                    refine Ow_passU rfl rfl rfl rfl rfl ?_
                    refine Ow_passU rfl rfl rfl rfl rfl ?_
                    refine Ow_pass rfl rfl rfl rfl rfl rfl rfl ?_
                    refine Ow_qw rfl rfl rfl rfl rfl rfl (Qt_pick_f rfl rfl) ?_
                    refine Ow_q rfl rfl rfl (Qt_pick_f rfl rfl) ?_
                    refine Ow_nil ?_
                    refine Shift.pull (.there (.there (.there (.there .here)))) ?_
                    refine Shift.rem (.there .here) ?_
                    refine Shift.rem (.there .here) ?_
                    refine Shift.rem (.there .here) ?_
                    refine Shift.rem (.there .here) ?_
                    refine Shift.done ?_
                    exact ⟨[(3, (.pointer (some ((⟨b181, 0, none⟩ : Addr).add 0)))), (164, (.bool false))], ⟨rfl, rfl, trivial⟩, false, rfl, rfl, rfl, H⟩
                · intro h522
                  have h522 := dcd_f (h522)
                  have H := iff_ h522 H
                  refine Ow_pass rfl rfl rfl rfl rfl rfl rfl ?_
                  refine Ow_pass rfl rfl rfl rfl rfl rfl rfl ?_
                  refine Ow_pass rfl rfl rfl rfl rfl rfl rfl ?_
                  refine Ow_qw rfl rfl rfl rfl rfl rfl (Qt_pick_f rfl rfl) ?_
                  refine Ow_qw rfl rfl rfl rfl rfl rfl (Qt_move rfl) ?_
                  refine Ow_pass rfl rfl rfl rfl rfl rfl rfl ?_
                  refine Ow_pass rfl rfl rfl rfl rfl rfl rfl ?_
                  refine Ow_pass rfl rfl rfl rfl rfl rfl rfl ?_
                  refine Ow_passU rfl rfl rfl rfl rfl ?_
                  refine Ow_passU rfl rfl rfl rfl rfl ?_
                  refine Ow_pass rfl rfl rfl rfl rfl rfl rfl ?_
                  refine Ow_qw rfl rfl rfl rfl rfl rfl (Qt_pick_f rfl rfl) ?_
                  refine Ow_q rfl rfl rfl (Qt_pick_f rfl rfl) ?_
                  refine Ow_nil ?_
                  refine Shift.pull (.there (.there (.there (.there .here)))) ?_
                  refine Shift.rem (.there .here) ?_
                  refine Shift.rem (.there .here) ?_
                  refine Shift.rem (.there .here) ?_
                  refine Shift.rem (.there .here) ?_
                  refine Shift.done ?_
                  exact ⟨[(3, (.pointer (some ((⟨b181, 0, none⟩ : Addr).add 0)))), (164, (.bool false))], ⟨rfl, rfl, trivial⟩, false, rfl, rfl, rfl, H⟩
            rintro _ _ _ - ⟨t510, rfl, rfl, rfl, H⟩
            unfold M_model_Apply_J7 at H
            refine Cw_cond rfl ?_ ?_
            · intro h525
              have H := ift h525 H
              refine Cw_seq ?_
              refine Cw_region ?_
              refine Ow_q rfl rfl rfl (Qt_load1 (v := (sv vp0)) rfl rfl rfl (Rdc.blk (.head _) rfl)) ?_
              refine Ow_q rfl rfl rfl (Qt_assign rfl) ?_
              refine Ow_q rfl rfl rfl (Qt_assign rfl) ?_
              refine Ow_nil ?_
              refine Cw_ret ?_
              obtain ⟨ey0, ey1⟩ := inj2 H
              subst y0 y1
              refine ⟨(by first | exact .inl rfl | exact .inr rfl), [(sv vp0), (.bool true)], ⟨(sv vp0), _, rfl, rfl, ⟨(.bool true), _, rfl, rfl, rfl⟩⟩, ?_⟩
              refine Shift.rem .here ?_
              refine Shift.done ?_
              exact ⟨vp0, rfl, rfl, hp0⟩
            · intro h525
              have H := iff_ (btf h525) H
              refine Cw_skip ?_
              refine Shift.rem .here ?_
              refine Shift.done ?_
              exact ⟨[], trivial, rfl, rfl, H⟩
          · intro h495
            have h495 := dcd_f (h495)
            have H := iff_ h495 H
            refine Cw_seq ?_
            refine Cw_region ?_
            refine Ow_q rfl rfl rfl (Qt_build (cs := (Result.cells (Result.mk 6 (-1) 0 false 0))) rfl rfl rfl rfl rfl rfl) ?_
            refine Ow_q rfl rfl rfl (Qt_eqS rfl rfl (fun w => Result.eqrun p2 (Result.mk 6 (-1) 0 false 0) w) (by kernel_rfl)) ?_
            refine Ow_q rfl rfl rfl (Qt_assign rfl) ?_
            refine Ow_nil ?_
            refine Cw_cond rfl ?_ ?_
            · intro h526
              have h526 := dcd_t (h526)
              have H := ift h526 H
              refine Cw_join (fun env' K' G' => ∃ (t529 : Bool), [(3, (.pointer (some ((⟨b181, 0, none⟩ : Addr).add 0)))), (8, (.pointer (some ((⟨b187, 0, none⟩ : Addr).add 0)))), (10, (.pointer (some ((⟨b198, 0, none⟩ : Addr).add 0)))), (179, (.bool t529))] = env' ∧ K = K' ∧ (.blk b198 74 (Chan.cells x193 v196)) :: (.blk b187 92 (Case.cells (Case.mk t189 i190 i191))) :: (.blk b181 50 [(sv vp0)]) :: G = G' ∧ M_model_Apply_J8 x193 t189 i190 i191 p0 t529 = some (y0, y1)) ?_ ?_
              · skip
                refine Cw_region ?_
                refine Ow_q rfl rfl rfl (Qt_fieldAddr (m := 0) rfl rfl rfl rfl rfl) ?_
                refine Ow_q rfl rfl rfl (Qt_load1 (v := (.int .i64 p1.kind)) rfl rfl rfl (Rdc.blk (.tail _ (.tail _ (.tail _ (.head _)))) rfl)) ?_
                refine Ow_q rfl rfl rfl (Qt_cmp rfl rfl rfl) ?_
                refine Ow_q rfl rfl rfl (Qt_move rfl) ?_
                refine Ow_caseG rfl rfl rfl ?_ ?_
                · intro h530
                  have h530 := dcd_t (h530)
                  have H := ift h530 H
                  refine Ow_qw rfl rfl rfl rfl rfl rfl (Qt_move rfl) ?_
                  refine Ow_q rfl rfl rfl (Qt_pick_t rfl rfl) ?_
                  refine Ow_q rfl rfl rfl (Qt_move rfl) ?_
                  refine Ow_caseG rfl rfl rfl ?_ ?_
                  · intro h531
                    have H := ift h531 H
                    refine Ow_qw rfl rfl rfl rfl rfl rfl (Qt_fieldAddr (m := 2) rfl rfl rfl rfl rfl) ?_
                    refine Ow_qw rfl rfl rfl rfl rfl rfl (Qt_load1 (v := (.bool x193.closed)) rfl rfl rfl (Rdc.blk (.head _) rfl)) ?_
                    refine Ow_qw rfl rfl rfl rfl rfl rfl (Qt_not rfl) ?_
                    refine Ow_q rfl rfl rfl (Qt_pick_t rfl rfl) ?_
                    refine Ow_nil ?_
                    refine Shift.pull (.there (.there (.there (.there .here)))) ?_
                    refine Shift.pull (.there (.there .here)) ?_
                    refine Shift.pull (.there (.there .here)) ?_
                    refine Shift.rem (.there (.there (.there .here))) ?_
                    refine Shift.rem (.there (.there (.there .here))) ?_
                    refine Shift.done ?_
                    exact ⟨[(3, (.pointer (some ((⟨b181, 0, none⟩ : Addr).add 0)))), (8, (.pointer (some ((⟨b187, 0, none⟩ : Addr).add 0)))), (10, (.pointer (some ((⟨b198, 0, none⟩ : Addr).add 0)))), (179, (.bool (!(x193.closed))))], ⟨rfl, rfl, rfl, rfl, trivial⟩, (!(x193.closed)), rfl, rfl, rfl, H⟩
                  · intro h531
                    have H := iff_ (btf h531) H
                    refine Ow_pass rfl rfl rfl rfl rfl rfl rfl ?_
                    refine Ow_pass rfl rfl rfl rfl rfl rfl rfl ?_
                    refine Ow_pass rfl rfl rfl rfl rfl rfl rfl ?_
                    refine Ow_q rfl rfl rfl (Qt_pick_f rfl rfl) ?_
                    refine Ow_nil ?_
                    refine Shift.pull (.there (.there (.there (.there .here)))) ?_
                    refine Shift.pull (.there (.there .here)) ?_
                    refine Shift.pull (.there (.there .here)) ?_
                    refine Shift.rem (.there (.there (.there .here))) ?_
                    refine Shift.rem (.there (.there (.there .here))) ?_
                    refine Shift.done ?_
                    exact ⟨[(3, (.pointer (some ((⟨b181, 0, none⟩ : Addr).add 0)))), (8, (.pointer (some ((⟨b187, 0, none⟩ : Addr).add 0)))), (10, (.pointer (some ((⟨b198, 0, none⟩ : Addr).add 0)))), (179, (.bool false))], ⟨rfl, rfl, rfl, rfl, trivial⟩, false, rfl, rfl, rfl, H⟩
                · intro h530
                  have h530 := dcd_f (h530)
                  have H := iff_ h530 H
                  refine Ow_pass rfl rfl rfl rfl rfl rfl rfl ?_
                  refine Ow_q rfl rfl rfl (Qt_pick_f rfl rfl) ?_
                  refine Ow_q rfl rfl rfl (Qt_move rfl) ?_
                  refine Ow_pass rfl rfl rfl rfl rfl rfl rfl ?_
                  refine Ow_pass rfl rfl rfl rfl rfl rfl rfl ?_
                  refine Ow_pass rfl rfl rfl rfl rfl rfl rfl ?_
                  refine Ow_q rfl rfl rfl (Qt_pick_f rfl rfl) ?_
                  refine Ow_nil ?_
                  refine Shift.pull (.there (.there (.there (.there .here)))) ?_
                  refine Shift.pull (.there (.there .here)) ?_
                  refine Shift.pull (.there (.there .here)) ?_
                  refine Shift.rem (.there (.there (.there .here))) ?_
                  refine Shift.rem (.there (.there (.there .here))) ?_
                  refine Shift.done ?_
                  exact ⟨[(3, (.pointer (some ((⟨b181, 0, none⟩ : Addr).add 0)))), (8, (.pointer (some ((⟨b187, 0, none⟩ : Addr).add 0)))), (10, (.pointer (some ((⟨b198, 0, none⟩ : Addr).add 0)))), (179, (.bool false))], ⟨rfl, rfl, rfl, rfl, trivial⟩, false, rfl, rfl, rfl, H⟩
              rintro _ _ _ - ⟨t529, rfl, rfl, rfl, H⟩
              unfold M_model_Apply_J8 at H
              refine Cw_cond rfl ?_ ?_
              · intro h532
                have H := ift h532 H
                refine Cw_seq ?_
                refine Cw_region ?_
                refine Ow_q rfl rfl rfl (Qt_fieldAddr (m := 2) rfl rfl rfl rfl rfl) ?_
                refine Ow_cons rfl (OpW_store (vs := [(.bool true)]) (all' := (Chan.cells (Chan.mk x193.capacity x193.buffer true) v196)) rfl rfl rfl rfl rfl .here rfl rfl rfl ?_)
                refine Ow_nil ?_
                refine Cw_seq ?_
                refine Cw_region ?_
                refine Ow_q rfl rfl rfl (Qt_load1 (v := (sv vp0)) rfl rfl rfl (Rdc.blk (.tail _ (.tail _ (.head _))) rfl)) ?_
                refine Ow_q rfl rfl rfl (Qt_fieldAddr (m := 1) rfl rfl rfl rfl rfl) ?_
                refine Ow_q rfl rfl rfl (Qt_load1 (v := (.int .i64 i190)) rfl rfl rfl (Rdc.blk (.tail _ (.head _)) rfl)) ?_
                refine Ow_q rfl rfl rfl (Qt_loadA (m := 3) (cs := (Chan.cells (Chan.mk x193.capacity x193.buffer true) v196)) rfl rfl rfl rfl ⟨rfl, Rdc.blk (.head _) rfl⟩) ?_
                obtain ⟨x533, hx534, H⟩ := bnd H
                refine Ow_cons rfl (OpW_call rfl Tryd.call41 rfl rfl (c_M_model_put p0 vp0 i190 (Chan.mk x193.capacity x193.buffer true) v196 x533 hx534 _ _ hp0 hs197) ?_)
                rintro _ _ _ - ⟨v535, rs536, rfl, rfl, rfl, hs537⟩
                refine Ow_q rfl rfl rfl (Qt_assign rfl) ?_
                refine Ow_q rfl rfl rfl (Qt_assign rfl) ?_
                refine Ow_nil ?_
                refine Cw_ret ?_
                obtain ⟨ey0, ey1⟩ := inj2 H
                subst y0 y1
                refine ⟨(by first | exact .inl rfl | exact .inr rfl), [(sv v535), (.bool true)], ⟨(sv v535), _, rfl, rfl, ⟨(.bool true), _, rfl, rfl, rfl⟩⟩, ?_⟩
                refine Shift.settle (T := TyChan) .here hs537 rfl ?_
                intro K538 hK539 hs540
                refine Shift.rem .here ?_
                refine Shift.rem .here ?_
                refine Shift.rem .here ?_
                refine Shift.rem .here ?_
                refine Shift.done ?_
                exact ⟨v535, rfl, rfl, hs540⟩
              · intro h532
                have H := iff_ (btf h532) H
                refine Cw_skip ?_
                refine Shift.rem .here ?_
                refine Shift.rem .here ?_
                refine Shift.rem .here ?_
                refine Shift.done ?_
                exact ⟨[], trivial, rfl, rfl, H⟩
            · intro h526
              have h526 := dcd_f (h526)
              have H := iff_ h526 H
              refine Cw_seq ?_
              refine Cw_region ?_
              refine Ow_q rfl rfl rfl (Qt_build (cs := (Result.cells (Result.mk 3 (-1) 0 false 0))) rfl rfl rfl rfl rfl rfl) ?_
              refine Ow_q rfl rfl rfl (Qt_eqS rfl rfl (fun w => Result.eqrun p2 (Result.mk 3 (-1) 0 false 0) w) (by kernel_rfl)) ?_
              refine Ow_q rfl rfl rfl (Qt_assign rfl) ?_
              refine Ow_nil ?_
              refine Cw_cond rfl ?_ ?_
              · intro h541
                have h541 := dcd_t (h541)
                have H := ift h541 H
                refine Cw_join (fun env' K' G' => ∃ (t554 : Bool), [(3, (.pointer (some ((⟨b181, 0, none⟩ : Addr).add 0)))), (198, (.bool t554))] = env' ∧ (.blk b181 50 [(sv vp0)]) :: G = G' ∧ M_model_Apply_J9 p0 t554 = some (y0, y1)) ?_ ?_
                · skip
                  refine Cw_region ?_
                  refine Ow_q rfl rfl rfl (Qt_fieldAddr (m := 1) rfl rfl rfl rfl rfl) ?_
                  refine Ow_q rfl rfl rfl (Qt_load1 (v := (.int .i64 p1.mode)) rfl rfl rfl (Rdc.blk (.tail _ (.tail _ (.tail _ (.head _)))) rfl)) ?_
                  refine Ow_q rfl rfl rfl (Qt_cmp rfl rfl rfl) ?_
                  refine Ow_q rfl rfl rfl (Qt_move rfl) ?_
                  refine Ow_caseG rfl rfl rfl ?_ ?_
                  · intro h555
                    have h555 := dcd_t (h555)
                    have H := ift h555 H
                    refine Ow_qw rfl rfl rfl rfl rfl rfl (Qt_loadA (m := 7) (cs := (Op.cells p1 vp1_cases vp1_draws)) rfl rfl rfl rfl ⟨rfl, Rdc.blk (.tail _ (.tail _ (.tail _ (.head _)))) rfl⟩) ?_
                    obtain ⟨x556, hx557, H⟩ := bnd H
                    refine Ow_want rfl rfl rfl rfl (OpW_call rfl Tryd.call43 rfl rfl (c_M_model_all p1 vp1_cases vp1_draws x556 hx557 _ _ hp1_cases hp1_draws) ?_)
                    rintro _ K559 _ hK560 ⟨v558, rfl, rfl, hs561⟩
                    refine Ow_qw rfl rfl rfl rfl rfl rfl (Qt_makeFunc rfl rfl) ?_
                    obtain ⟨x562, hx563, H⟩ := bnd H
                    refine Ow.shift (Shift.pull (.there (.there (.there (.there .here)))) (Shift.done ?_))
                    have hs564 := (hp0).mono hK560
                    refine Ow_want rfl rfl rfl rfl (OpW_call rfl Tryd.call42 rfl rfl (c_M_slices_ContainsFunc_api_Case_api_Case_1f44blk50 x556 v558 b181 p0 vp0 x562 hx563 _ _ hs561 hs564) ?_)
                    rintro _ K565 _ hK566 ⟨rfl, rfl⟩
                    refine Ow_qw rfl rfl rfl rfl rfl rfl (Qt_not rfl) ?_
                    refine Ow_q rfl rfl rfl (Qt_pick_t rfl rfl) ?_
                    refine Ow_nil ?_
                    refine Shift.rem (.there .here) ?_
                    refine Shift.rem (.there .here) ?_
                    refine Shift.rem (.there .here) ?_
                    refine Shift.rem (.there .here) ?_
                    refine Shift.done ?_
                    exact ⟨[(3, (.pointer (some ((⟨b181, 0, none⟩ : Addr).add 0)))), (198, (.bool (!(x562))))], ⟨rfl, rfl, trivial⟩, (!(x562)), rfl, rfl, H⟩
                  · intro h555
                    have h555 := dcd_f (h555)
                    have H := iff_ h555 H
                    refine Ow_pass rfl rfl rfl rfl rfl rfl rfl ?_
                    refine Ow_pass rfl rfl rfl rfl rfl rfl rfl ?_
                    refine Ow_pass rfl rfl rfl rfl rfl rfl rfl ?_
                    refine Ow_pass rfl rfl rfl rfl rfl rfl rfl ?_
                    refine Ow_pass rfl rfl rfl rfl rfl rfl rfl ?_
                    refine Ow_q rfl rfl rfl (Qt_pick_f rfl rfl) ?_
                    refine Ow_nil ?_
                    refine Shift.pull (.there (.there (.there (.there .here)))) ?_
                    refine Shift.rem (.there .here) ?_
                    refine Shift.rem (.there .here) ?_
                    refine Shift.rem (.there .here) ?_
                    refine Shift.rem (.there .here) ?_
                    refine Shift.done ?_
                    exact ⟨[(3, (.pointer (some ((⟨b181, 0, none⟩ : Addr).add 0)))), (198, (.bool false))], ⟨rfl, rfl, trivial⟩, false, rfl, rfl, H⟩
                rintro _ K567 _ hK568 ⟨t554, rfl, rfl, H⟩
                unfold M_model_Apply_J9 at H
                refine Cw_cond rfl ?_ ?_
                · intro h569
                  have H := ift h569 H
                  refine Cw_seq ?_
                  refine Cw_region ?_
                  refine Ow_q rfl rfl rfl (Qt_load1 (v := (sv vp0)) rfl rfl rfl (Rdc.blk (.head _) rfl)) ?_
                  refine Ow_q rfl rfl rfl (Qt_assign rfl) ?_
                  refine Ow_q rfl rfl rfl (Qt_assign rfl) ?_
                  refine Ow_nil ?_
                  refine Cw_ret ?_
                  obtain ⟨ey0, ey1⟩ := inj2 H
                  subst y0 y1
                  refine ⟨(by first | exact .inl rfl | exact .inr rfl), [(sv vp0), (.bool true)], ⟨(sv vp0), _, rfl, rfl, ⟨(.bool true), _, rfl, rfl, rfl⟩⟩, ?_⟩
                  refine Shift.rem .here ?_
                  have hs570 := (hp0).mono hK568
                  refine Shift.done ?_
                  exact ⟨vp0, rfl, rfl, hs570⟩
                · intro h569
                  have H := iff_ (btf h569) H
                  refine Cw_skip ?_
                  refine Shift.rem .here ?_
                  refine Shift.done ?_
                  exact ⟨[], trivial, rfl, rfl, H⟩
              · intro h541
                have h541 := dcd_f (h541)
                have H := iff_ h541 H
                refine Cw_seq ?_
                refine Cw_region ?_
                refine Ow_q rfl rfl rfl (Qt_build (cs := (Result.cells (Result.mk 4 (-1) 0 false 0))) rfl rfl rfl rfl rfl rfl) ?_
                refine Ow_q rfl rfl rfl (Qt_eqS rfl rfl (fun w => Result.eqrun p2 (Result.mk 4 (-1) 0 false 0) w) (by kernel_rfl)) ?_
                refine Ow_q rfl rfl rfl (Qt_assign rfl) ?_
                refine Ow_nil ?_
                refine Cw_cond rfl ?_ ?_
                · intro h571
                  have h571 := dcd_t (h571)
                  have H := ift h571 H
                  refine Cw_seq ?_
                  refine Cw_region ?_
                  refine Ow_q rfl rfl rfl (Qt_fieldAddr (m := 1) rfl rfl rfl rfl rfl) ?_
                  refine Ow_q rfl rfl rfl (Qt_load1 (v := (.int .i64 p1.mode)) rfl rfl rfl (Rdc.blk (.tail _ (.tail _ (.tail _ (.head _)))) rfl)) ?_
                  refine Ow_q rfl rfl rfl (Qt_cmp rfl rfl rfl) ?_
                  refine Ow_nil ?_
                  refine Cw_cond rfl ?_ ?_
                  · intro h572
                    have h572 := dcd_t (h572)
                    have H := ift h572 H
                    refine Cw_seq ?_
                    refine Cw_region ?_
                    refine Ow_q rfl rfl rfl (Qt_load1 (v := (sv vp0)) rfl rfl rfl (Rdc.blk (.tail _ (.tail _ (.tail _ (.tail _ (.head _))))) rfl)) ?_
                    refine Ow_q rfl rfl rfl (Qt_assign rfl) ?_
                    refine Ow_q rfl rfl rfl (Qt_assign rfl) ?_
                    refine Ow_nil ?_
                    refine Cw_ret ?_
                    obtain ⟨ey0, ey1⟩ := inj2 H
                    subst y0 y1
                    refine ⟨(by first | exact .inl rfl | exact .inr rfl), [(sv vp0), (.bool true)], ⟨(sv vp0), _, rfl, rfl, ⟨(.bool true), _, rfl, rfl, rfl⟩⟩, ?_⟩
                    refine Shift.rem .here ?_
                    refine Shift.rem .here ?_
                    refine Shift.rem .here ?_
                    refine Shift.rem .here ?_
                    refine Shift.rem .here ?_
                    refine Shift.done ?_
                    exact ⟨vp0, rfl, rfl, hp0⟩
                  · intro h572
                    have h572 := dcd_f (h572)
                    have H := iff_ h572 H
                    refine Cw_skip ?_
                    refine Shift.rem .here ?_
                    refine Shift.rem .here ?_
                    refine Shift.rem .here ?_
                    refine Shift.rem .here ?_
                    refine Shift.rem .here ?_
                    refine Shift.done ?_
                    exact ⟨[], trivial, rfl, rfl, H⟩
                · intro h571
                  have h571 := dcd_f (h571)
                  have H := iff_ h571 H
                  refine Cw_seq ?_
                  refine Cw_region ?_
                  refine Ow_q rfl rfl rfl (Qt_fieldAddr (m := 4) rfl rfl rfl rfl rfl) ?_
                  refine Ow_q rfl rfl rfl (Qt_load1 (v := (.int .i64 p2.number)) rfl rfl rfl (Rdc.blk (.tail _ (.tail _ (.head _))) rfl)) ?_
                  refine Ow_q rfl rfl rfl (Qt_build (cs := (Result.cells (Result.mk 7 (-1) 0 false p2.number))) rfl rfl rfl rfl rfl rfl) ?_
                  refine Ow_q rfl rfl rfl (Qt_eqS rfl rfl (fun w => Result.eqrun p2 (Result.mk 7 (-1) 0 false p2.number) w) (by kernel_rfl)) ?_
                  refine Ow_q rfl rfl rfl (Qt_assign rfl) ?_
                  refine Ow_nil ?_
                  refine Cw_cond rfl ?_ ?_
                  · intro h573
                    have h573 := dcd_t (h573)
                    have H := ift h573 H
                    refine Cw_seq ?_
                    refine Cw_region ?_
                    refine Ow_q rfl rfl rfl (Qt_load1 (v := (sv vp0)) rfl rfl rfl (Rdc.blk (.tail _ (.tail _ (.tail _ (.tail _ (.head _))))) rfl)) ?_
                    refine Ow_q rfl rfl rfl (Qt_fieldAddr (m := 2) rfl rfl rfl rfl rfl) ?_
                    refine Ow_q rfl rfl rfl (Qt_load1 (v := (.int .i64 p1.channel)) rfl rfl rfl (Rdc.blk (.tail _ (.tail _ (.tail _ (.head _)))) rfl)) ?_
                    obtain ⟨x574, x575, hx576, H⟩ := bnd2 H
                    refine Ow_cons rfl (OpW_call rfl Tryd.call38 rfl rfl (c_M_model_find p0 vp0 p1.channel x574 x575 hx576 _ _ hp0) ?_)
                    rintro _ _ _ - ⟨v577, rfl, rfl, rfl, hs578⟩
                    refine Ow_q rfl rfl rfl (Qt_move rfl) ?_
                    refine Ow_q rfl rfl rfl (Qt_extract rfl rfl) ?_
                    refine Ow_q rfl rfl rfl (Qt_extract rfl rfl) ?_
                    refine Ow_cons rfl (OpW_alloc (cs := (Chan.cells (Chan.mk 0 [] false) nilS)) rfl rfl rfl rfl (fun b579 => ?_))
                    refine Ow_cons rfl (OpW_store (vs := (Chan.cells x574 v577)) (all' := (Chan.cells x574 v577)) rfl rfl rfl rfl rfl .here rfl rfl rfl ?_)
                    refine Ow_q rfl rfl rfl (Qt_assign rfl) ?_
                    refine Ow_nil ?_
                    refine Cw_join (fun env' K' G' => ∃ (t584 : Bool), [(3, (.pointer (some ((⟨b181, 0, none⟩ : Addr).add 0)))), (241, (.bool t584))] = env' ∧ K = K' ∧ (.blk b181 50 [(sv vp0)]) :: G = G' ∧ M_model_Apply_J10 p0 t584 = some (y0, y1)) ?_ ?_
                    · skip
                      refine Cw_region ?_
                      refine Ow_q rfl rfl rfl (Qt_fieldAddr (m := 0) rfl rfl rfl rfl rfl) ?_
                      refine Ow_q rfl rfl rfl (Qt_load1 (v := (.int .i64 p1.kind)) rfl rfl rfl (Rdc.blk (.tail _ (.tail _ (.tail _ (.tail _ (.head _))))) rfl)) ?_
                      refine Ow_q rfl rfl rfl (Qt_cmp rfl rfl rfl) ?_
                      refine Ow_q rfl rfl rfl (Qt_move rfl) ?_
                      refine Ow_caseG rfl rfl rfl ?_ ?_
                      · intro h585
                        have h585 := dcd_t (h585)
                        have H := ift h585 H
                        refine Ow_qw rfl rfl rfl rfl rfl rfl (Qt_fieldAddr (m := 4) rfl rfl rfl rfl rfl) ?_
                        refine Ow_qw rfl rfl rfl rfl rfl rfl (Qt_load1 (v := (.int .i64 p2.number)) rfl rfl rfl (Rdc.blk (.tail _ (.tail _ (.tail _ (.head _)))) rfl)) ?_
                        refine Ow_qw rfl rfl rfl rfl rfl rfl (Qt_fieldAddr (m := 1) rfl rfl rfl rfl rfl) ?_
                        refine Ow_qw rfl rfl rfl rfl rfl rfl (Qt_load1 (v := (sv v577)) rfl rfl rfl (Rdc.blk (.head _) rfl)) ?_
                        refine Ow_qw rfl rfl rfl rfl rfl rfl (Q_len (T := Ty.u64) hs578 rfl rfl) ?_
                        refine Ow_qw rfl rfl rfl rfl rfl rfl (Qt_cmp rfl rfl rfl) ?_
                        refine Ow_q rfl rfl rfl (Qt_pick_t rfl rfl) ?_
                        refine Ow_q rfl rfl rfl (Qt_move rfl) ?_
                        refine Ow_caseG rfl rfl rfl ?_ ?_
                        · intro h586
                          have h586 := dcd_t (h586)
                          have H := ift h586 H
                          refine Ow_pass rfl rfl rfl rfl rfl rfl rfl ?_
                          refine Ow_pass rfl rfl rfl rfl rfl rfl rfl ?_
                          refine Ow_pass rfl rfl rfl rfl rfl rfl rfl ?_
                          refine Ow_pass rfl rfl rfl rfl rfl rfl rfl ?_
                          refine Ow_passU rfl rfl rfl rfl rfl ?_
                          refine Ow_passU rfl rfl rfl rfl rfl ?_
                          refine Ow_passU rfl rfl rfl rfl rfl ?_
                          refine Ow_passU rfl rfl rfl rfl rfl ?_
                          refine Ow_passU rfl rfl rfl rfl rfl ?_
                          refine Ow_pass rfl rfl rfl rfl rfl rfl rfl ?_
                          refine Ow_q rfl rfl rfl (Qt_pick_t rfl rfl) ?_
                          refine Ow_nil ?_
                          refine Shift.pull (.there (.there (.there (.there (.there .here))))) ?_
                          refine Shift.rem (.there .here) ?_
                          refine Shift.rem (.there .here) ?_
                          refine Shift.rem (.there .here) ?_
                          refine Shift.rem (.there .here) ?_
                          refine Shift.rem (.there .here) ?_
                          refine Shift.done ?_
                          exact ⟨[(3, (.pointer (some ((⟨b181, 0, none⟩ : Addr).add 0)))), (241, (.bool true))], ⟨rfl, rfl, trivial⟩, true, rfl, rfl, rfl, H⟩
                        · intro h586
                          have h586 := dcd_f (h586)
                          have H := iff_ h586 H
                          refine Ow_qw rfl rfl rfl rfl rfl rfl (Qt_fieldAddr (m := 0) rfl rfl rfl rfl rfl) ?_
                          refine Ow_qw rfl rfl rfl rfl rfl rfl (Qt_load1 (v := (.int .i64 p1.kind)) rfl rfl rfl (Rdc.blk (.tail _ (.tail _ (.tail _ (.tail _ (.head _))))) rfl)) ?_
                          refine Ow_qw rfl rfl rfl rfl rfl rfl (Qt_cmp rfl rfl rfl) ?_
                          refine Ow_qw rfl rfl rfl rfl rfl rfl (Qt_move rfl) ?_
                          refine Ow_caseG rfl rfl rfl ?_ ?_
                          · intro h587
                            have h587 := dcd_t (h587)
                            have H := ift h587 H
                            refine Ow_qw rfl rfl rfl rfl rfl rfl (Qt_fieldAddr (m := 4) rfl rfl rfl rfl rfl) ?_
                            refine Ow_qw rfl rfl rfl rfl rfl rfl (Qt_load1 (v := (.int .i64 p2.number)) rfl rfl rfl (Rdc.blk (.tail _ (.tail _ (.tail _ (.head _)))) rfl)) ?_
                            refine Ow_qw rfl rfl rfl rfl rfl rfl (Qt_fieldAddr (m := 0) rfl rfl rfl rfl rfl) ?_
                            refine Ow_qw rfl rfl rfl rfl rfl rfl (Qt_load1 (v := (.int .i64 x574.capacity)) rfl rfl rfl (Rdc.blk (.head _) rfl)) ?_
                            refine Ow_qw rfl rfl rfl rfl rfl rfl (Qt_cmp rfl rfl rfl) ?_
                            refine Ow_qw rfl rfl rfl rfl rfl rfl (Qt_pick_t rfl rfl) ?_
                            refine Ow_q rfl rfl rfl (Qt_pick_f rfl rfl) ?_
                            refine Ow_nil ?_
                            refine Shift.pull (.there (.there (.there (.there (.there .here))))) ?_
                            refine Shift.rem (.there .here) ?_
                            refine Shift.rem (.there .here) ?_
                            refine Shift.rem (.there .here) ?_
                            refine Shift.rem (.there .here) ?_
                            refine Shift.rem (.there .here) ?_
                            refine Shift.done ?_
                            exact ⟨[(3, (.pointer (some ((⟨b181, 0, none⟩ : Addr).add 0)))), (241, (.bool (dcd (p2.number = x574.capacity))))], ⟨rfl, rfl, trivial⟩, (dcd (p2.number = x574.capacity)), rfl, rfl, rfl, H⟩
                          · intro h587
                            have h587 := dcd_f (h587)
                            have H := iff_ h587 H
                            refine Ow_pass rfl rfl rfl rfl rfl rfl rfl ?_
                            refine Ow_pass rfl rfl rfl rfl rfl rfl rfl ?_
                            refine Ow_pass rfl rfl rfl rfl rfl rfl rfl ?_
                            refine Ow_pass rfl rfl rfl rfl rfl rfl rfl ?_
                            refine Ow_pass rfl rfl rfl rfl rfl rfl rfl ?_
                            refine Ow_qw rfl rfl rfl rfl rfl rfl (Qt_pick_f rfl rfl) ?_
                            refine Ow_q rfl rfl rfl (Qt_pick_f rfl rfl) ?_
                            refine Ow_nil ?_
                            refine Shift.pull (.there (.there (.there (.there (.there .here))))) ?_
                            refine Shift.rem (.there .here) ?_
                            refine Shift.rem (.there .here) ?_
                            refine Shift.rem (.there .here) ?_
                            refine Shift.rem (.there .here) ?_
                            refine Shift.rem (.there .here) ?_
                            refine Shift.done ?_
                            exact ⟨[(3, (.pointer (some ((⟨b181, 0, none⟩ : Addr).add 0)))), (241, (.bool false))], ⟨rfl, rfl, trivial⟩, false, rfl, rfl, rfl, H⟩
                      · intro h585
                        have h585 := dcd_f (h585)
                        have H := iff_ h585 H
                        refine Ow_pass rfl rfl rfl rfl rfl rfl rfl ?_
                        refine Ow_pass rfl rfl rfl rfl rfl rfl rfl ?_
                        refine Ow_pass rfl rfl rfl rfl rfl rfl rfl ?_
                        refine Ow_pass rfl rfl rfl rfl rfl rfl rfl ?_
                        refine Ow_pass rfl rfl rfl rfl rfl rfl rfl ?_
                        refine Ow_pass rfl rfl rfl rfl rfl rfl rfl ?_
                        refine Ow_q rfl rfl rfl (Qt_pick_f rfl rfl) ?_
                        refine Ow_q rfl rfl rfl (Qt_move rfl) ?_
                        refine Ow_qw rfl rfl rfl rfl rfl rfl (Qt_fieldAddr (m := 0) rfl rfl rfl rfl rfl) ?_
                        refine Ow_qw rfl rfl rfl rfl rfl rfl (Qt_load1 (v := (.int .i64 p1.kind)) rfl rfl rfl (Rdc.blk (.tail _ (.tail _ (.tail _ (.tail _ (.head _))))) rfl)) ?_
                        refine Ow_qw rfl rfl rfl rfl rfl rfl (Qt_cmp rfl rfl rfl) ?_
                        refine Ow_qw rfl rfl rfl rfl rfl rfl (Qt_move rfl) ?_
                        refine Ow_caseG rfl rfl rfl ?_ ?_
                        · intro h588
                          have h588 := dcd_t (h588)
                          have H := ift h588 H
                          refine Ow_qw rfl rfl rfl rfl rfl rfl (Qt_fieldAddr (m := 4) rfl rfl rfl rfl rfl) ?_
                          refine Ow_qw rfl rfl rfl rfl rfl rfl (Qt_load1 (v := (.int .i64 p2.number)) rfl rfl rfl (Rdc.blk (.tail _ (.tail _ (.tail _ (.head _)))) rfl)) ?_
                          refine Ow_qw rfl rfl rfl rfl rfl rfl (Qt_fieldAddr (m := 0) rfl rfl rfl rfl rfl) ?_
                          refine Ow_qw rfl rfl rfl rfl rfl rfl (Qt_load1 (v := (.int .i64 x574.capacity)) rfl rfl rfl (Rdc.blk (.head _) rfl)) ?_
                          refine Ow_qw rfl rfl rfl rfl rfl rfl (Qt_cmp rfl rfl rfl) ?_
                          refine Ow_qw rfl rfl rfl rfl rfl rfl (Qt_pick_t rfl rfl) ?_
                          refine Ow_q rfl rfl rfl (Qt_pick_f rfl rfl) ?_
                          refine Ow_nil ?_
                          refine Shift.pull (.there (.there (.there (.there (.there .here))))) ?_
                          refine Shift.rem (.there .here) ?_
                          refine Shift.rem (.there .here) ?_
                          refine Shift.rem (.there .here) ?_
                          refine Shift.rem (.there .here) ?_
                          refine Shift.rem (.there .here) ?_
                          refine Shift.done ?_
                          exact ⟨[(3, (.pointer (some ((⟨b181, 0, none⟩ : Addr).add 0)))), (241, (.bool (dcd (p2.number = x574.capacity))))], ⟨rfl, rfl, trivial⟩, (dcd (p2.number = x574.capacity)), rfl, rfl, rfl, H⟩
                        · intro h588
                          have h588 := dcd_f (h588)
                          have H := iff_ h588 H
                          refine Ow_pass rfl rfl rfl rfl rfl rfl rfl ?_
                          refine Ow_pass rfl rfl rfl rfl rfl rfl rfl ?_
                          refine Ow_pass rfl rfl rfl rfl rfl rfl rfl ?_
                          refine Ow_pass rfl rfl rfl rfl rfl rfl rfl ?_
                          refine Ow_pass rfl rfl rfl rfl rfl rfl rfl ?_
                          refine Ow_qw rfl rfl rfl rfl rfl rfl (Qt_pick_f rfl rfl) ?_
                          refine Ow_q rfl rfl rfl (Qt_pick_f rfl rfl) ?_
                          refine Ow_nil ?_
                          refine Shift.pull (.there (.there (.there (.there (.there .here))))) ?_
                          refine Shift.rem (.there .here) ?_
                          refine Shift.rem (.there .here) ?_
                          refine Shift.rem (.there .here) ?_
                          refine Shift.rem (.there .here) ?_
                          refine Shift.rem (.there .here) ?_
                          refine Shift.done ?_
                          exact ⟨[(3, (.pointer (some ((⟨b181, 0, none⟩ : Addr).add 0)))), (241, (.bool false))], ⟨rfl, rfl, trivial⟩, false, rfl, rfl, rfl, H⟩
                    rintro _ _ _ - ⟨t584, rfl, rfl, rfl, H⟩
                    unfold M_model_Apply_J10 at H
                    refine Cw_cond rfl ?_ ?_
                    · intro h589
                      have H := ift h589 H
                      refine Cw_seq ?_
                      refine Cw_region ?_
                      refine Ow_q rfl rfl rfl (Qt_load1 (v := (sv vp0)) rfl rfl rfl (Rdc.blk (.head _) rfl)) ?_
                      refine Ow_q rfl rfl rfl (Qt_assign rfl) ?_
                      refine Ow_q rfl rfl rfl (Qt_assign rfl) ?_
                      refine Ow_nil ?_
                      refine Cw_ret ?_
                      obtain ⟨ey0, ey1⟩ := inj2 H
                      subst y0 y1
                      refine ⟨(by first | exact .inl rfl | exact .inr rfl), [(sv vp0), (.bool true)], ⟨(sv vp0), _, rfl, rfl, ⟨(.bool true), _, rfl, rfl, rfl⟩⟩, ?_⟩
                      refine Shift.rem .here ?_
                      refine Shift.done ?_
                      exact ⟨vp0, rfl, rfl, hp0⟩
                    · intro h589
                      have H := iff_ (btf h589) H
                      refine Cw_skip ?_
                      refine Shift.rem .here ?_
                      refine Shift.done ?_
                      exact ⟨[], trivial, rfl, rfl, H⟩
                  · intro h573
                    have h573 := dcd_f (h573)
                    have H := iff_ h573 H
                    refine Cw_skip ?_
                    refine Shift.rem .here ?_
                    refine Shift.rem .here ?_
                    refine Shift.rem .here ?_
                    refine Shift.rem .here ?_
                    refine Shift.rem .here ?_
                    refine Shift.done ?_
                    exact ⟨[], trivial, rfl, rfl, H⟩
  rintro _ K590 _ hK591 ⟨rfl, rfl, H⟩
  unfold M_model_Apply_J2 at H
  refine Cw_seq ?_
  refine Cw_region ?_
  refine Ow_q rfl rfl rfl (Qt_assign rfl) ?_
  refine Ow_q rfl rfl rfl (Qt_assign rfl) ?_
  refine Ow_nil ?_
  refine Cw_ret ?_
  obtain ⟨ey0, ey1⟩ := inj2 H
  subst y0 y1
  refine ⟨(by first | exact .inl rfl | exact .inr rfl), [(sv nilS), (.bool false)], ⟨(sv nilS), _, rfl, rfl, ⟨(.bool false), _, rfl, rfl, rfl⟩⟩, ?_⟩
  refine Shift.done ?_
  exact ⟨nilS, rfl, rfl, (Slr.nil TyChan _)⟩



end Go.Hx

namespace Go.Hx
open Go Go.Proofs
set_option linter.unusedSimpArgs false
set_option linter.unusedVariables false
set_option maxRecDepth 10000
set_option maxHeartbeats 1000000 in
theorem c_M_model_Could_1_freeblk50blk43blk66 (p0 : Result) (bp1 : Nat) (p1 : List Chan) (vp1 : SV) (bp2 : Nat) (p2 : Op) (vp2_cases : SV) (vp2_draws : SV) (bp3 : Nat) (p3 : List Result) (vp3 : SV) (z2_v : List Result) (H : M_model_Could_1_freeblk50blk43blk66 p0 p1 p2 p3 = some z2_v) (K : Kp) (G : List Ent) (hp1 : Slr TyChan K (sv vp1) p1) (hp2_cases : Slr TyCase K (sv vp2_cases) p2.cases) (hp2_draws : Slr Ty.i64 K (sv vp2_draws) p2.draws) (hp3 : Slr TyResult K (sv vp3) p3) :
    Fc Tryd.prog 91 #[(.agg (Result.cells p0).toArray), (.pointer (some ((⟨bp1, 0, none⟩ : Addr).add 0))), (.pointer (some ((⟨bp2, 0, none⟩ : Addr).add 0))), (.pointer (some ((⟨bp3, 0, none⟩ : Addr).add 0)))] K ((.blk bp1 50 [(sv vp1)]) :: (.blk bp2 43 (Op.cells p2 vp2_cases vp2_draws)) :: (.blk bp3 66 [(sv vp3)]) :: (.tok 36 5 [(sv vp3)]) :: G) (fun v K' G' => ∃ (wz2_v : SV), v = (.tuple #[]) ∧ (.blk bp1 50 [(sv vp1)]) :: (.blk bp2 43 (Op.cells p2 vp2_cases vp2_draws)) :: (.blk bp3 66 [(sv wz2_v)]) :: (.tok 36 5 [(sv wz2_v)]) :: G = G' ∧ Slr TyResult K' (sv wz2_v) z2_v) := by
  refine Fc_body Tryd.func91 rfl Tryd.ntmps91 Tryd.results91 rfl ?_
  unfold M_model_Could_1_freeblk50blk43blk66 at H
  refine Cw_seq ?_
  refine Cw_region ?_
  refine Ow_cons rfl (OpW_box (cs := (Result.cells p0)) rfl rfl rfl (fun b19 => ?_))
  refine Ow_nil ?_
  refine Cw_seq ?_
  refine Cw_region ?_
  refine Ow_q rfl rfl rfl (Qt_load1 (v := (sv vp1)) rfl rfl rfl (Rdc.blk (.tail _ (.head _)) rfl)) ?_
  refine Ow_q rfl rfl rfl (Qt_loadA (m := 7) (cs := (Op.cells p2 vp2_cases vp2_draws)) rfl rfl rfl rfl ⟨rfl, Rdc.blk (.tail _ (.tail _ (.head _))) rfl⟩) ?_
  refine Ow_q rfl rfl rfl (Qt_loadA (m := 5) (cs := (Result.cells p0)) rfl rfl rfl rfl ⟨rfl, Rdc.blk (.head _) rfl⟩) ?_
  obtain ⟨x20, x21, hx22, H⟩ := bnd2 H
  refine Ow_cons rfl (OpW_call rfl Tryd.call23 rfl rfl (c_M_model_Apply p1 vp1 p2 vp2_cases vp2_draws p0 x20 x21 hx22 _ _ hp1 hp2_cases hp2_draws) ?_)
  rintro _ K24 _ hK25 ⟨v23, rfl, rfl, hs26⟩
  refine Ow_q rfl rfl rfl (Qt_move rfl) ?_
  refine Ow_q rfl rfl rfl (Qt_extract rfl rfl) ?_
  refine Ow_q rfl rfl rfl (Qt_extract rfl rfl) ?_
  refine Ow_q rfl rfl rfl (Qt_assign rfl) ?_
  refine Ow_q rfl rfl rfl (Qt_assign rfl) ?_
  refine Ow_nil ?_
  refine Cw_seq ?_
  refine Cw_region ?_
  refine Ow_q rfl rfl rfl (Qt_move rfl) ?_
  refine Ow_nil ?_
  refine Cw_cond rfl ?_ ?_
  · intro h27
    have H := ift h27 H
    refine Cw_region ?_
    refine Ow_q rfl rfl rfl (Qt_load1 (v := (sv vp3)) rfl rfl rfl (Rdc.blk (.tail _ (.tail _ (.tail _ (.head _)))) rfl)) ?_
    refine Ow_q rfl rfl rfl (Qt_loadA (m := 5) (cs := (Result.cells p0)) rfl rfl rfl rfl ⟨rfl, Rdc.blk (.head _) rfl⟩) ?_
    have hR29 : RowR TyResult K24 [(Result.cells p0)] [p0] := RowR.cons rfl (RowR.nil)
    refine Ow_cons rfl (O_lit (T := TyResult) (rows := [(Result.cells p0)]) (l := [p0]) rfl rfl rfl hR29 rfl rfl rfl rfl rfl rfl rfl rfl (fun v28 => ?_))
    obtain ⟨x30, hx31, H⟩ := bnd H
    have hs36 := (hp3).mono hK25
    refine Ow_cons rfl (O_appTok (T := TyResult) (bytes := 40) (q := 0) rfl rfl rfl hs36 (.tail _ (.tail _ (.tail _ (.tail _ (.tail _ (.head _)))))) rfl (SrcT.row (.head _) hR29 rfl) hx31 rfl rfl rfl rfl rfl rfl rfl rfl (fun v32 K33 hK34 hs35 => ⟨_, (.there (.there (.there (.there (.there .here))))), ?_⟩))
    refine Ow.shift (Shift.rem .here (Shift.done ?_))
    refine Ow_cons rfl (OpW_store (vs := [(sv v32)]) (all' := [(sv v32)]) rfl rfl rfl rfl rfl (.there (.there (.there .here))) rfl rfl rfl ?_)
    refine Ow_nil ?_
    obtain ez2_v := inj1 H
    subst z2_v
    refine ⟨(by first | exact .inl rfl | exact .inr rfl), [], rfl, ?_⟩
    refine Shift.pull (.there (.there (.there (.there .here)))) ?_
    refine Shift.pull (.there (.there (.there (.there .here)))) ?_
    refine Shift.pull (.there (.there (.there (.there .here)))) ?_
    refine Shift.pull (.there (.there (.there (.there .here)))) ?_
    refine Shift.rem (.there (.there (.there (.there .here)))) ?_
    refine Shift.done ?_
    exact ⟨v32, rfl, rfl, hs35⟩
  · intro h27
    have H := iff_ (btf h27) H
    refine Cw_skip ?_
    obtain ez2_v := inj1 H
    subst z2_v
    refine ⟨(by first | exact .inl rfl | exact .inr rfl), [], rfl, ?_⟩
    refine Shift.pull (.there (.there (.there (.there .here)))) ?_
    refine Shift.pull (.there (.there (.there (.there .here)))) ?_
    refine Shift.pull (.there (.there (.there (.there .here)))) ?_
    refine Shift.pull (.there (.there (.there (.there .here)))) ?_
    refine Shift.rem (.there (.there (.there (.there .here)))) ?_
    have hs37 := (hp3).mono hK25
    refine Shift.done ?_
    exact ⟨vp3, rfl, rfl, hs37⟩

set_option maxHeartbeats 1000000 in
theorem c_M_model_Could (p0 : List Chan) (vp0 : SV) (p1 : Op) (vp1_cases : SV) (vp1_draws : SV) (y0 : List Result) (H : M_model_Could p0 p1 = some y0) (K : Kp) (G : List Ent) (hp0 : Slr TyChan K (sv vp0) p0) (hp1_cases : Slr TyCase K (sv vp1_cases) p1.cases) (hp1_draws : Slr Ty.i64 K (sv vp1_draws) p1.draws) :
    Fc Tryd.prog 83 #[(sv vp0), (.agg (Op.cells p1 vp1_cases vp1_draws).toArray)] K (G) (fun v K' G' => ∃ (wy0 : SV), v = (sv wy0) ∧ (.tok 36 5 [(sv wy0)]) :: G = G' ∧ Slr TyResult K' (sv wy0) y0) := by
  refine Fc_body Tryd.func83 rfl Tryd.ntmps83 Tryd.results83 rfl ?_
  unfold M_model_Could at H
  refine Cw_seq ?_
  refine Cw_region ?_
  refine Ow_cons rfl (OpW_box (cs := [(sv vp0)]) rfl rfl rfl (fun b200 => ?_))
  refine Ow_cons rfl (OpW_box (cs := (Op.cells p1 vp1_cases vp1_draws)) rfl rfl rfl (fun b201 => ?_))
  refine Ow_q rfl rfl rfl (Qt_assign rfl) ?_
  refine Ow_nil ?_
  refine Cw_seq ?_
  refine Cw_region ?_
  refine Ow_cons rfl (OpW_alloc (cs := [(sv nilS)]) rfl rfl rfl rfl (fun b202 => ?_))
  refine Ow_nil ?_
  refine Cw_seq ?_
  refine Cw_region ?_
  refine Ow_q rfl rfl rfl (Qt_makeFunc rfl rfl) ?_
  refine Ow_q rfl rfl rfl (Qt_assign rfl) ?_
  refine Ow_nil ?_
  refine Cw_seq ?_
  refine Cw_seq ?_
  refine Cw_region ?_
  refine Ow_q rfl rfl rfl (Qt_fieldAddr (m := 0) rfl rfl rfl rfl rfl) ?_
  refine Ow_q rfl rfl rfl (Qt_load1 (v := (.int .i64 p1.kind)) rfl rfl rfl (Rdc.blk (.tail _ (.head _)) rfl)) ?_
  refine Ow_q rfl rfl rfl (Qt_cmp rfl rfl rfl) ?_
  refine Ow_nil ?_
  refine Cw_cond rfl ?_ ?_
  · intro h219
    have h219 := dcd_t (h219)
    have H := ift h219 H
    refine Cw_seq ?_
    refine Cw_region ?_
    refine Ow_q rfl rfl rfl (Qt_move rfl) ?_
    refine Ow_q rfl rfl rfl (Qt_build (cs := (Result.cells (Result.mk 6 (-1) 0 false 0))) rfl rfl rfl rfl rfl rfl) ?_
    obtain ⟨x220, hx221, H⟩ := bnd H
    refine Ow.shift (Shift.nilTok1 36 5 (Shift.done ?_))
    refine Ow.shift (Shift.pull (.there .here) (Shift.done ?_))
    refine Ow.shift (Shift.pull (.there (.there .here)) (Shift.done ?_))
    refine Ow.shift (Shift.pull (.there (.there (.there .here))) (Shift.done ?_))
    refine Ow_cons rfl (OpW_call rfl Tryd.call91 rfl rfl (c_M_model_Could_1_freeblk50blk43blk66 (Result.mk 6 (-1) 0 false 0) b200 p0 vp0 b201 p1 vp1_cases vp1_draws b202 ([] : List Result) nilS x220 hx221 _ _ hp0 hp1_cases hp1_draws (Slr.nil TyResult _)) ?_)
    rintro _ K223 _ hK224 ⟨v222, rfl, rfl, hs225⟩
    refine Ow_nil ?_
    refine Cw_seq ?_
    refine Cw_region ?_
    refine Ow_q rfl rfl rfl (Qt_move rfl) ?_
    refine Ow_q rfl rfl rfl (Qt_build (cs := (Result.cells (Result.mk 5 (-1) 0 false 0))) rfl rfl rfl rfl rfl rfl) ?_
    obtain ⟨x226, hx227, H⟩ := bnd H
    refine Ow.shift (Shift.pull (.there (.there (.there .here))) (Shift.done ?_))
    refine Ow.shift (Shift.pull (.there (.there (.there .here))) (Shift.done ?_))
    refine Ow.shift (Shift.pull (.there (.there (.there .here))) (Shift.done ?_))
    refine Ow.shift (Shift.pull (.there (.there (.there .here))) (Shift.done ?_))
    have hs228 := (hp0).mono hK224
    have hs229 := (hp1_cases).mono hK224
    have hs230 := (hp1_draws).mono hK224
    refine Ow_cons rfl (OpW_call rfl Tryd.call91 rfl rfl (c_M_model_Could_1_freeblk50blk43blk66 (Result.mk 5 (-1) 0 false 0) b200 p0 vp0 b201 p1 vp1_cases vp1_draws b202 x220 v222 x226 hx227 _ _ hs228 hs229 hs230 hs225) ?_)
    rintro _ K232 _ hK233 ⟨v231, rfl, rfl, hs234⟩
    refine Ow_nil ?_
    refine Cw_seq ?_
    refine Cw_region ?_
    refine Ow_q rfl rfl rfl (Qt_load1 (v := (sv v231)) rfl rfl rfl (Rdc.blk (.tail _ (.tail _ (.head _))) rfl)) ?_
    refine Ow_q rfl rfl rfl (Qt_assign rfl) ?_
    refine Ow_nil ?_
    refine Cw_ret ?_
    obtain ey0 := inj1 H
    subst y0
    refine ⟨(by first | exact .inl rfl | exact .inr rfl), [(sv v231)], ⟨(sv v231), _, rfl, rfl, rfl⟩, ?_⟩
    refine Shift.pull (.there (.there (.there .here))) ?_
    refine Shift.rem (.there .here) ?_
    refine Shift.rem (.there .here) ?_
    refine Shift.rem (.there .here) ?_
    refine Shift.done ?_
    exact ⟨v231, rfl, rfl, hs234⟩
  · intro h219
    have h219 := dcd_f (h219)
    have H := iff_ h219 H
    refine Cw_skip ?_
    refine Cw_join (fun env' K' G' => ∃ (v379 : SV) (l380 : List Result), [(5, (.pointer (some ((⟨b202, 0, none⟩ : Addr).add 0))))] = env' ∧ (.blk b202 66 [(sv v379)]) :: (.tok 36 5 [(sv v379)]) :: G = G' ∧ M_model_Could_J1 l380 = some y0 ∧ Slr TyResult K' (sv v379) l380) ?_ ?_
    · skip
      refine Cw_seq ?_
      refine Cw_region ?_
      refine Ow_q rfl rfl rfl (Qt_loadA (m := 7) (cs := (Op.cells p1 vp1_cases vp1_draws)) rfl rfl rfl rfl ⟨rfl, Rdc.blk (.tail _ (.head _)) rfl⟩) ?_
      obtain ⟨x382, hx383, H⟩ := bnd H
      refine Ow_cons rfl (OpW_call rfl Tryd.call43 rfl rfl (c_M_model_all p1 vp1_cases vp1_draws x382 hx383 _ _ hp1_cases hp1_draws) ?_)
      rintro _ K385 _ hK386 ⟨v384, rfl, rfl, hs387⟩
      refine Ow_q rfl rfl rfl (Q_len (T := TyCase) hs387 rfl rfl) ?_
      refine Ow_q rfl rfl rfl (Qt_move rfl) ?_
      refine Ow_nil ?_
      refine Cw_block ?_
      refine Cw_loopM (fun n526 env' K' G' => ∃ (i522 : Int) (v523 : SV) (l524 : List Result), [(2, (.pointer (some ((⟨b200, 0, none⟩ : Addr).add 0)))), (3, (.pointer (some ((⟨b201, 0, none⟩ : Addr).add 0)))), (5, (.pointer (some ((⟨b202, 0, none⟩ : Addr).add 0)))), (6, (.func (.func 91) #[] #[(.pointer (some ((⟨b200, 0, none⟩ : Addr).add 0))), (.pointer (some ((⟨b201, 0, none⟩ : Addr).add 0))), (.pointer (some ((⟨b202, 0, none⟩ : Addr).add 0)))])), (23, (sv v384)), (24, (.int .i64 (x382.length : Int))), (25, (.int .i64 i522))] = env' ∧ (.blk b202 66 [(sv v523)]) :: (.blk b201 43 (Op.cells p1 vp1_cases vp1_draws)) :: (.blk b200 50 [(sv vp0)]) :: (.tok 36 5 [(sv v523)]) :: G = G' ∧ lp2 (M_model_Could_L1 x382 p1 p0) n526 i522 l524 = some y0 ∧ Slr TyResult K' (sv v523) l524) BIG ?_ ?_
      · skip
        refine Shift.nilTok1 36 5 ?_
        refine Shift.pull (.there (.there (.there .here))) ?_
        refine Shift.pull (.there (.there (.there .here))) ?_
        refine Shift.pull (.there (.there (.there .here))) ?_
        refine Shift.done ?_
        exact ⟨[(2, (.pointer (some ((⟨b200, 0, none⟩ : Addr).add 0)))), (3, (.pointer (some ((⟨b201, 0, none⟩ : Addr).add 0)))), (5, (.pointer (some ((⟨b202, 0, none⟩ : Addr).add 0)))), (6, (.func (.func 91) #[] #[(.pointer (some ((⟨b200, 0, none⟩ : Addr).add 0))), (.pointer (some ((⟨b201, 0, none⟩ : Addr).add 0))), (.pointer (some ((⟨b202, 0, none⟩ : Addr).add 0)))])), (23, (sv v384)), (24, (.int .i64 (x382.length : Int))), (25, (.int .i64 0))], ⟨rfl, rfl, rfl, rfl, rfl, rfl, rfl, trivial⟩, 0, nilS, ([] : List Result), rfl, rfl, H, (Slr.nil TyResult _)⟩
      rintro n526 _ K527 _ hK528 ⟨i522, v523, l524, rfl, rfl, H, hs525⟩
      obtain ⟨m529, k530, rfl, hkk531, H⟩ := lps2 H
      unfold M_model_Could_L1 at H
      refine Cw_seq ?_
      refine Cw_region ?_
      refine Ow_q rfl rfl rfl (Qt_cmp rfl rfl rfl) ?_
      refine Ow_nil ?_
      refine Cw_seq ?_
      refine Cw_cond rfl ?_ ?_
      · intro h533
        have h533 := dcd_t (h533)
        have H := ift h533 H
        refine Cw_skip ?_
        refine Cw_seq ?_
        refine Cw_block ?_
        refine Cw_seq ?_
        refine Cw_region ?_
        refine Ow_q rfl rfl rfl (Qt_move rfl) ?_
        obtain ⟨x596, hx597, H⟩ := bnd H
        have hs598 := (hs387).mono hK528
        obtain ⟨r599, hr600, hk601⟩ := Slr.at hs598 hx597
        obtain rfl := hr600
        refine Ow_q rfl rfl rfl (Q_ix (T := TyCase) hs598 hx597 rfl rfl rfl rfl rfl) ?_
        refine Ow_q rfl rfl rfl (Qt_loadA (m := 3) (cs := (Case.cells x596)) rfl rfl rfl rfl ⟨rfl, Rdc.k hk601 rfl⟩) ?_
        refine Ow_cons rfl (OpW_alloc (cs := (Case.cells (Case.mk false 0 0))) rfl rfl rfl rfl (fun b602 => ?_))
        refine Ow_q rfl rfl rfl (Qt_assign rfl) ?_
        refine Ow_cons rfl (OpW_store (vs := (Case.cells x596)) (all' := (Case.cells x596)) rfl rfl rfl rfl rfl .here rfl rfl rfl ?_)
        refine Ow_nil ?_
        refine Cw_join (fun env' K' G' => ∃ (i604 : Int), [(2, (.pointer (some ((⟨b200, 0, none⟩ : Addr).add 0)))), (3, (.pointer (some ((⟨b201, 0, none⟩ : Addr).add 0)))), (5, (.pointer (some ((⟨b202, 0, none⟩ : Addr).add 0)))), (6, (.func (.func 91) #[] #[(.pointer (some ((⟨b200, 0, none⟩ : Addr).add 0))), (.pointer (some ((⟨b201, 0, none⟩ : Addr).add 0))), (.pointer (some ((⟨b202, 0, none⟩ : Addr).add 0)))])), (7, (.int .i64 i604)), (8, (.pointer (some ((⟨b602, 0, none⟩ : Addr).add 0)))), (23, (sv v384)), (24, (.int .i64 (x382.length : Int))), (25, (.int .i64 i522))] = env' ∧ K527 = K' ∧ (.blk b602 92 (Case.cells x596)) :: (.blk b202 66 [(sv v523)]) :: (.blk b201 43 (Op.cells p1 vp1_cases vp1_draws)) :: (.blk b200 50 [(sv vp0)]) :: (.tok 36 5 [(sv v523)]) :: G = G' ∧ M_model_Could_J2 x382 i522 x596 l524 p1 p0 k530 i604 = some y0) ?_ ?_
        · skip
          refine Cw_seq ?_
          refine Cw_region ?_
          refine Ow_q rfl rfl rfl (Qt_fieldAddr (m := 0) rfl rfl rfl rfl rfl) ?_
          refine Ow_q rfl rfl rfl (Qt_load1 (v := (.int .i64 p1.kind)) rfl rfl rfl (Rdc.blk (.tail _ (.tail _ (.head _))) rfl)) ?_
          refine Ow_q rfl rfl rfl (Qt_cmp rfl rfl rfl) ?_
          refine Ow_nil ?_
          refine Cw_cond rfl ?_ ?_
          · intro h605
            have h605 := dcd_f (nt_t (h605))
            have H := iff_ h605 H
            refine Cw_region ?_
            refine Ow_q rfl rfl rfl (Qt_assign rfl) ?_
            refine Ow_nil ?_
            refine Shift.pull (.there (.there (.there (.there .here)))) ?_
            refine Shift.pull (.there (.there (.there (.there .here)))) ?_
            refine Shift.pull (.there (.there (.there (.there .here)))) ?_
            refine Shift.pull (.there (.there (.there (.there .here)))) ?_
            refine Shift.pull (.there (.there (.there (.there .here)))) ?_
            refine Shift.done ?_
            exact ⟨[(2, (.pointer (some ((⟨b200, 0, none⟩ : Addr).add 0)))), (3, (.pointer (some ((⟨b201, 0, none⟩ : Addr).add 0)))), (5, (.pointer (some ((⟨b202, 0, none⟩ : Addr).add 0)))), (6, (.func (.func 91) #[] #[(.pointer (some ((⟨b200, 0, none⟩ : Addr).add 0))), (.pointer (some ((⟨b201, 0, none⟩ : Addr).add 0))), (.pointer (some ((⟨b202, 0, none⟩ : Addr).add 0)))])), (7, (.int .i64 (-1))), (8, (.pointer (some ((⟨b602, 0, none⟩ : Addr).add 0)))), (23, (sv v384)), (24, (.int .i64 (x382.length : Int))), (25, (.int .i64 i522))], ⟨rfl, rfl, rfl, rfl, rfl, rfl, rfl, rfl, rfl, trivial⟩, (-1), rfl, rfl, rfl, H⟩
          · intro h605
            have h605 := dcd_t (nt_f (h605))
            have H := ift h605 H
            refine Cw_skip ?_
            refine Shift.pull (.there (.there (.there (.there .here)))) ?_
            refine Shift.pull (.there (.there (.there (.there .here)))) ?_
            refine Shift.pull (.there (.there (.there (.there .here)))) ?_
            refine Shift.pull (.there (.there (.there (.there .here)))) ?_
            refine Shift.pull (.there (.there (.there (.there .here)))) ?_
            refine Shift.done ?_
            exact ⟨[(2, (.pointer (some ((⟨b200, 0, none⟩ : Addr).add 0)))), (3, (.pointer (some ((⟨b201, 0, none⟩ : Addr).add 0)))), (5, (.pointer (some ((⟨b202, 0, none⟩ : Addr).add 0)))), (6, (.func (.func 91) #[] #[(.pointer (some ((⟨b200, 0, none⟩ : Addr).add 0))), (.pointer (some ((⟨b201, 0, none⟩ : Addr).add 0))), (.pointer (some ((⟨b202, 0, none⟩ : Addr).add 0)))])), (7, (.int .i64 i522)), (8, (.pointer (some ((⟨b602, 0, none⟩ : Addr).add 0)))), (23, (sv v384)), (24, (.int .i64 (x382.length : Int))), (25, (.int .i64 i522))], ⟨rfl, rfl, rfl, rfl, rfl, rfl, rfl, rfl, rfl, trivial⟩, i522, rfl, rfl, rfl, H⟩
        rintro _ _ _ - ⟨i604, rfl, rfl, rfl, H⟩
        unfold M_model_Could_J2 at H
        refine Cw_seq ?_
        refine Cw_region ?_
        refine Ow_q rfl rfl rfl (Qt_move rfl) ?_
        refine Ow_q rfl rfl rfl (Qt_move rfl) ?_
        refine Ow_q rfl rfl rfl (Qt_build (cs := (Result.cells (Result.mk 5 i604 0 false 0))) rfl rfl rfl rfl rfl rfl) ?_
        obtain ⟨x606, hx607, H⟩ := bnd H
        refine Ow.shift (Shift.pull (.there (.there (.there (.there .here)))) (Shift.done ?_))
        refine Ow.shift (Shift.pull (.there (.there .here)) (Shift.done ?_))
        refine Ow.shift (Shift.pull (.there (.there (.there .here))) (Shift.done ?_))
        refine Ow.shift (Shift.pull (.there (.there (.there (.there .here)))) (Shift.done ?_))
        have hs608 := ((hp0).mono hK386).mono hK528
        have hs609 := ((hp1_cases).mono hK386).mono hK528
        have hs610 := ((hp1_draws).mono hK386).mono hK528
        refine Ow_cons rfl (OpW_call rfl Tryd.call91 rfl rfl (c_M_model_Could_1_freeblk50blk43blk66 (Result.mk 5 i604 0 false 0) b200 p0 vp0 b201 p1 vp1_cases vp1_draws b202 l524 v523 x606 hx607 _ _ hs608 hs609 hs610 hs525) ?_)
        rintro _ K612 _ hK613 ⟨v611, rfl, rfl, hs614⟩
        refine Ow_nil ?_
        refine Cw_seq ?_
        refine Cw_region ?_
        refine Ow_q rfl rfl rfl (Qt_move rfl) ?_
        refine Ow_q rfl rfl rfl (Qt_move rfl) ?_
        refine Ow_q rfl rfl rfl (Qt_build (cs := (Result.cells (Result.mk 1 i604 0 false 0))) rfl rfl rfl rfl rfl rfl) ?_
        obtain ⟨x615, hx616, H⟩ := bnd H
        refine Ow.shift (Shift.pull (.there (.there (.there .here))) (Shift.done ?_))
        refine Ow.shift (Shift.pull (.there (.there (.there .here))) (Shift.done ?_))
        refine Ow.shift (Shift.pull (.there (.there (.there .here))) (Shift.done ?_))
        refine Ow.shift (Shift.pull (.there (.there (.there .here))) (Shift.done ?_))
        have hs617 := (hs608).mono hK613
        have hs618 := (hs609).mono hK613
        have hs619 := (hs610).mono hK613
        refine Ow_cons rfl (OpW_call rfl Tryd.call91 rfl rfl (c_M_model_Could_1_freeblk50blk43blk66 (Result.mk 1 i604 0 false 0) b200 p0 vp0 b201 p1 vp1_cases vp1_draws b202 x606 v611 x615 hx616 _ _ hs617 hs618 hs619 hs614) ?_)
        rintro _ K621 _ hK622 ⟨v620, rfl, rfl, hs623⟩
        refine Ow_nil ?_
        refine Cw_join (fun env' K' G' => ∃ (v645 : SV) (l646 : List Result), [(2, (.pointer (some ((⟨b200, 0, none⟩ : Addr).add 0)))), (3, (.pointer (some ((⟨b201, 0, none⟩ : Addr).add 0)))), (5, (.pointer (some ((⟨b202, 0, none⟩ : Addr).add 0)))), (6, (.func (.func 91) #[] #[(.pointer (some ((⟨b200, 0, none⟩ : Addr).add 0))), (.pointer (some ((⟨b201, 0, none⟩ : Addr).add 0))), (.pointer (some ((⟨b202, 0, none⟩ : Addr).add 0)))])), (7, (.int .i64 i604)), (23, (sv v384)), (24, (.int .i64 (x382.length : Int))), (25, (.int .i64 i522))] = env' ∧ (.blk b202 66 [(sv v645)]) :: (.blk b201 43 (Op.cells p1 vp1_cases vp1_draws)) :: (.blk b200 50 [(sv vp0)]) :: (.tok 36 5 [(sv v645)]) :: G = G' ∧ M_model_Could_J3 i604 x382 i522 p1 p0 k530 l646 = some y0 ∧ Slr TyResult K' (sv v645) l646) ?_ ?_
        · skip
          refine Cw_seq ?_
          refine Cw_region ?_
          refine Ow_q rfl rfl rfl (Qt_load1 (v := (sv vp0)) rfl rfl rfl (Rdc.blk (.head _) rfl)) ?_
          refine Ow_q rfl rfl rfl (Qt_fieldAddr (m := 1) rfl rfl rfl rfl rfl) ?_
          refine Ow_q rfl rfl rfl (Qt_load1 (v := (.int .i64 x596.channel)) rfl rfl rfl (Rdc.blk (.tail _ (.tail _ (.tail _ (.tail _ (.head _))))) rfl)) ?_
          obtain ⟨x648, x649, hx650, H⟩ := bnd2 H
          have hs651 := (hs617).mono hK622
          refine Ow_cons rfl (OpW_call rfl Tryd.call38 rfl rfl (c_M_model_find p0 vp0 x596.channel x648 x649 hx650 _ _ hs651) ?_)
          rintro _ _ _ - ⟨v652, rfl, rfl, rfl, hs653⟩
          refine Ow_q rfl rfl rfl (Qt_move rfl) ?_
          refine Ow_q rfl rfl rfl (Qt_extract rfl rfl) ?_
          refine Ow_q rfl rfl rfl (Qt_extract rfl rfl) ?_
          refine Ow_cons rfl (OpW_alloc (cs := (Chan.cells (Chan.mk 0 [] false) nilS)) rfl rfl rfl rfl (fun b654 => ?_))
          refine Ow_cons rfl (OpW_store (vs := (Chan.cells x648 v652)) (all' := (Chan.cells x648 v652)) rfl rfl rfl rfl rfl .here rfl rfl rfl ?_)
          refine Ow_q rfl rfl rfl (Qt_assign rfl) ?_
          refine Ow_nil ?_
          refine Cw_seq ?_
          refine Cw_region ?_
          refine Ow_q rfl rfl rfl (Qt_fieldAddr (m := 1) rfl rfl rfl rfl rfl) ?_
          refine Ow_q rfl rfl rfl (Qt_load1 (v := (sv v652)) rfl rfl rfl (Rdc.blk (.head _) rfl)) ?_
          refine Ow_q rfl rfl rfl (Q_len (T := Ty.u64) hs653 rfl rfl) ?_
          refine Ow_q rfl rfl rfl (Qt_cmp rfl rfl rfl) ?_
          refine Ow_nil ?_
          refine Cw_cond rfl ?_ ?_
          · intro h655
            have h655 := dcd_t (h655)
            have H := ift h655 H
            refine Cw_region ?_
            refine Ow_q rfl rfl rfl (Qt_move rfl) ?_
            refine Ow_q rfl rfl rfl (Qt_move rfl) ?_
            refine Ow_q rfl rfl rfl (Qt_fieldAddr (m := 1) rfl rfl rfl rfl rfl) ?_
            refine Ow_q rfl rfl rfl (Qt_load1 (v := (sv v652)) rfl rfl rfl (Rdc.blk (.head _) rfl)) ?_
            obtain ⟨x656, hx657, H⟩ := bnd H
            obtain ⟨r658, hr659, hk660⟩ := Slr.at hs653 hx657
            obtain rfl := hr659
            refine Ow_q rfl rfl rfl (Q_ix (T := Ty.u64) hs653 hx657 rfl rfl rfl rfl rfl) ?_
            refine Ow_q rfl rfl rfl (Qt_load1 (v := (.int .u64 x656)) rfl rfl rfl (Rdc.k hk660 rfl)) ?_
            refine Ow_q rfl rfl rfl (Qt_build (cs := (Result.cells (Result.mk 2 i604 x656 true 0))) rfl rfl rfl rfl rfl rfl) ?_
            obtain ⟨x661, hx662, H⟩ := bnd H
            refine Ow.shift (Shift.pull (.there (.there (.there (.there .here)))) (Shift.done ?_))
            refine Ow.shift (Shift.pull (.there (.there (.there (.there .here)))) (Shift.done ?_))
            refine Ow.shift (Shift.pull (.there (.there (.there (.there .here)))) (Shift.done ?_))
            refine Ow.shift (Shift.pull (.there (.there (.there (.there .here)))) (Shift.done ?_))
            have hs663 := (hs618).mono hK622
            have hs664 := (hs619).mono hK622
            refine Ow_cons rfl (OpW_call rfl Tryd.call91 rfl rfl (c_M_model_Could_1_freeblk50blk43blk66 (Result.mk 2 i604 x656 true 0) b200 p0 vp0 b201 p1 vp1_cases vp1_draws b202 x615 v620 x661 hx662 _ _ hs651 hs663 hs664 hs623) ?_)
            rintro _ K666 _ hK667 ⟨v665, rfl, rfl, hs668⟩
            refine Ow_nil ?_
            refine Shift.pull (.there (.there (.there .here))) ?_
            refine Shift.pull (.there .here) ?_
            refine Shift.pull (.there (.there .here)) ?_
            refine Shift.pull (.there (.there (.there .here))) ?_
            refine Shift.rem (.there (.there (.there (.there .here)))) ?_
            refine Shift.rem (.there (.there (.there (.there .here)))) ?_
            refine Shift.done ?_
            exact ⟨[(2, (.pointer (some ((⟨b200, 0, none⟩ : Addr).add 0)))), (3, (.pointer (some ((⟨b201, 0, none⟩ : Addr).add 0)))), (5, (.pointer (some ((⟨b202, 0, none⟩ : Addr).add 0)))), (6, (.func (.func 91) #[] #[(.pointer (some ((⟨b200, 0, none⟩ : Addr).add 0))), (.pointer (some ((⟨b201, 0, none⟩ : Addr).add 0))), (.pointer (some ((⟨b202, 0, none⟩ : Addr).add 0)))])), (7, (.int .i64 i604)), (23, (sv v384)), (24, (.int .i64 (x382.length : Int))), (25, (.int .i64 i522))], ⟨rfl, rfl, rfl, rfl, rfl, rfl, rfl, rfl, trivial⟩, v665, x661, rfl, rfl, H, hs668⟩
          · intro h655
            have h655 := dcd_f (h655)
            have H := iff_ h655 H
            refine Cw_skip ?_
            refine Shift.pull (.there (.there (.there (.there .here)))) ?_
            refine Shift.pull (.there (.there .here)) ?_
            refine Shift.pull (.there (.there (.there .here))) ?_
            refine Shift.pull (.there (.there (.there (.there .here)))) ?_
            refine Shift.rem (.there (.there (.there (.there .here)))) ?_
            refine Shift.rem (.there (.there (.there (.there .here)))) ?_
            refine Shift.done ?_
            exact ⟨[(2, (.pointer (some ((⟨b200, 0, none⟩ : Addr).add 0)))), (3, (.pointer (some ((⟨b201, 0, none⟩ : Addr).add 0)))), (5, (.pointer (some ((⟨b202, 0, none⟩ : Addr).add 0)))), (6, (.func (.func 91) #[] #[(.pointer (some ((⟨b200, 0, none⟩ : Addr).add 0))), (.pointer (some ((⟨b201, 0, none⟩ : Addr).add 0))), (.pointer (some ((⟨b202, 0, none⟩ : Addr).add 0)))])), (7, (.int .i64 i604)), (23, (sv v384)), (24, (.int .i64 (x382.length : Int))), (25, (.int .i64 i522))], ⟨rfl, rfl, rfl, rfl, rfl, rfl, rfl, rfl, trivial⟩, v620, x615, rfl, rfl, H, hs623⟩
        rintro _ K669 _ hK670 ⟨v645, l646, rfl, rfl, H, hs647⟩
        unfold M_model_Could_J3 at H
        refine Cw_region ?_
        refine Ow_q rfl rfl rfl (Qt_move rfl) ?_
        refine Ow_q rfl rfl rfl (Qt_move rfl) ?_
        refine Ow_q rfl rfl rfl (Qt_build (cs := (Result.cells (Result.mk 2 i604 0 false 0))) rfl rfl rfl rfl rfl rfl) ?_
        obtain ⟨x671, hx672, H⟩ := bnd H
        refine Ow.shift (Shift.pull (.there (.there (.there .here))) (Shift.done ?_))
        refine Ow.shift (Shift.pull (.there .here) (Shift.done ?_))
        refine Ow.shift (Shift.pull (.there (.there .here)) (Shift.done ?_))
        refine Ow.shift (Shift.pull (.there (.there (.there .here))) (Shift.done ?_))
        have hs673 := ((hs617).mono hK622).mono hK670
        have hs674 := ((hs618).mono hK622).mono hK670
        have hs675 := ((hs619).mono hK622).mono hK670
        refine Ow_cons rfl (OpW_call rfl Tryd.call91 rfl rfl (c_M_model_Could_1_freeblk50blk43blk66 (Result.mk 2 i604 0 false 0) b200 p0 vp0 b201 p1 vp1_cases vp1_draws b202 l646 v645 x671 hx672 _ _ hs673 hs674 hs675 hs647) ?_)
        rintro _ K677 _ hK678 ⟨v676, rfl, rfl, hs679⟩
        refine Ow_nil ?_
        refine Cw_region ?_
        refine Ow_q rfl rfl rfl (Qt_arith (e := wI (i522 + 1)) rfl rfl rfl rfl) ?_
        refine Ow_q rfl rfl rfl (Qt_move rfl) ?_
        refine Ow_nil ?_
        refine Shift.pull (.there (.there (.there .here))) ?_
        refine Shift.pull (.there .here) ?_
        refine Shift.pull (.there (.there .here)) ?_
        refine Shift.pull (.there (.there (.there .here))) ?_
        refine Shift.done ?_
        exact ⟨[(2, (.pointer (some ((⟨b200, 0, none⟩ : Addr).add 0)))), (3, (.pointer (some ((⟨b201, 0, none⟩ : Addr).add 0)))), (5, (.pointer (some ((⟨b202, 0, none⟩ : Addr).add 0)))), (6, (.func (.func 91) #[] #[(.pointer (some ((⟨b200, 0, none⟩ : Addr).add 0))), (.pointer (some ((⟨b201, 0, none⟩ : Addr).add 0))), (.pointer (some ((⟨b202, 0, none⟩ : Addr).add 0)))])), (23, (sv v384)), (24, (.int .i64 (x382.length : Int))), (25, (.int .i64 (wI (i522 + 1))))], ⟨rfl, rfl, rfl, rfl, rfl, rfl, rfl, trivial⟩, _, Nat.lt_succ_self _, (wI (i522 + 1)), v676, x671, rfl, rfl, (hkk531 ▸ H), hs679⟩
      · intro h533
        have h533 := dcd_f (h533)
        have H := iff_ h533 H
        refine Cw_exit ?_
        refine Shift.pull (.there (.there (.there .here))) ?_
        refine Shift.pull (.there .here) ?_
        refine Shift.rem (.there (.there .here)) ?_
        refine Shift.rem (.there (.there .here)) ?_
        refine Shift.done ?_
        exact ⟨[(5, (.pointer (some ((⟨b202, 0, none⟩ : Addr).add 0))))], ⟨rfl, trivial⟩, v523, l524, rfl, rfl, H, hs525⟩
    rintro _ K680 _ hK681 ⟨v379, l380, rfl, rfl, H, hs381⟩
    unfold M_model_Could_J1 at H
    refine Cw_seq ?_
    refine Cw_region ?_
    refine Ow_q rfl rfl rfl (Qt_load1 (v := (sv v379)) rfl rfl rfl (Rdc.blk (.head _) rfl)) ?_
    refine Ow_q rfl rfl rfl (Qt_assign rfl) ?_
    refine Ow_nil ?_
    refine Cw_ret ?_
    obtain ey0 := inj1 H
    subst y0
    refine ⟨(by first | exact .inl rfl | exact .inr rfl), [(sv v379)], ⟨(sv v379), _, rfl, rfl, rfl⟩, ?_⟩
    refine Shift.pull (.there .here) ?_
    refine Shift.rem (.there .here) ?_
    refine Shift.done ?_
    exact ⟨v379, rfl, rfl, hs381⟩

set_option maxHeartbeats 1000000 in
theorem c_M_model_pair (p0 : List Chan) (vp0 : SV) (p1 : Op) (vp1_cases : SV) (vp1_draws : SV) (p2 : Result) (p3 : Op) (vp3_cases : SV) (vp3_draws : SV) (p4 : Result) (y0 : Bool) (H : M_model_pair p0 p1 p2 p3 p4 = some y0) (K : Kp) (G : List Ent) (hp0 : Slr TyChan K (sv vp0) p0) (hp1_cases : Slr TyCase K (sv vp1_cases) p1.cases) (hp1_draws : Slr Ty.i64 K (sv vp1_draws) p1.draws) (hp3_cases : Slr TyCase K (sv vp3_cases) p3.cases) (hp3_draws : Slr Ty.i64 K (sv vp3_draws) p3.draws) :
    Fc Tryd.prog 46 #[(sv vp0), (.agg (Op.cells p1 vp1_cases vp1_draws).toArray), (.agg (Result.cells p2).toArray), (.agg (Op.cells p3 vp3_cases vp3_draws).toArray), (.agg (Result.cells p4).toArray)] K (G) (fun v K' G' => v = (.bool y0) ∧ K = K' ∧ G = G') := by
  refine Fc_body Tryd.func46 rfl Tryd.ntmps46 Tryd.results46 rfl ?_
  unfold M_model_pair at H
  refine Cw_seq ?_
  refine Cw_region ?_
  refine Ow_cons rfl (OpW_box (cs := (Op.cells p1 vp1_cases vp1_draws)) rfl rfl rfl (fun b29 => ?_))
  refine Ow_cons rfl (OpW_box (cs := (Result.cells p2)) rfl rfl rfl (fun b30 => ?_))
  refine Ow_cons rfl (OpW_box (cs := (Op.cells p3 vp3_cases vp3_draws)) rfl rfl rfl (fun b31 => ?_))
  refine Ow_cons rfl (OpW_box (cs := (Result.cells p4)) rfl rfl rfl (fun b32 => ?_))
  refine Ow_q rfl rfl rfl (Qt_assign rfl) ?_
  refine Ow_nil ?_
  refine Cw_seq ?_
  refine Cw_region ?_
  refine Ow_q rfl rfl rfl (Qt_loadA (m := 7) (cs := (Op.cells p1 vp1_cases vp1_draws)) rfl rfl rfl rfl ⟨rfl, Rdc.blk (.tail _ (.tail _ (.tail _ (.head _)))) rfl⟩) ?_
  refine Ow_q rfl rfl rfl (Qt_fieldAddr (m := 1) rfl rfl rfl rfl rfl) ?_
  refine Ow_q rfl rfl rfl (Qt_load1 (v := (.int .i64 p2.case_)) rfl rfl rfl (Rdc.blk (.tail _ (.tail _ (.head _))) rfl)) ?_
  obtain ⟨x33, x34, hx35, H⟩ := bnd2 H
  refine Ow_cons rfl (OpW_call rfl Tryd.call37 rfl rfl (c_M_model_part p1 vp1_cases vp1_draws p2.case_ x33 x34 hx35 _ _ hp1_cases hp1_draws) ?_)
  rintro _ _ _ - ⟨rfl, rfl, rfl⟩
  refine Ow_q rfl rfl rfl (Qt_move rfl) ?_
  refine Ow_q rfl rfl rfl (Qt_extract rfl rfl) ?_
  refine Ow_q rfl rfl rfl (Qt_extract rfl rfl) ?_
  refine Ow_cons rfl (OpW_alloc (cs := (Case.cells (Case.mk false 0 0))) rfl rfl rfl rfl (fun b36 => ?_))
  refine Ow_cons rfl (OpW_store (vs := (Case.cells x33)) (all' := (Case.cells x33)) rfl rfl rfl rfl rfl .here rfl rfl rfl ?_)
  refine Ow_q rfl rfl rfl (Qt_assign rfl) ?_
  refine Ow_nil ?_
  refine Cw_seq ?_
  refine Cw_region ?_
  refine Ow_q rfl rfl rfl (Qt_loadA (m := 7) (cs := (Op.cells p3 vp3_cases vp3_draws)) rfl rfl rfl rfl ⟨rfl, Rdc.blk (.tail _ (.tail _ (.head _))) rfl⟩) ?_
  refine Ow_q rfl rfl rfl (Qt_fieldAddr (m := 1) rfl rfl rfl rfl rfl) ?_
  refine Ow_q rfl rfl rfl (Qt_load1 (v := (.int .i64 p4.case_)) rfl rfl rfl (Rdc.blk (.tail _ (.head _)) rfl)) ?_
  obtain ⟨x37, x38, hx39, H⟩ := bnd2 H
  refine Ow_cons rfl (OpW_call rfl Tryd.call37 rfl rfl (c_M_model_part p3 vp3_cases vp3_draws p4.case_ x37 x38 hx39 _ _ hp3_cases hp3_draws) ?_)
  rintro _ _ _ - ⟨rfl, rfl, rfl⟩
  refine Ow_q rfl rfl rfl (Qt_move rfl) ?_
  refine Ow_q rfl rfl rfl (Qt_extract rfl rfl) ?_
  refine Ow_q rfl rfl rfl (Qt_extract rfl rfl) ?_
  refine Ow_cons rfl (OpW_alloc (cs := (Case.cells (Case.mk false 0 0))) rfl rfl rfl rfl (fun b40 => ?_))
  refine Ow_cons rfl (OpW_store (vs := (Case.cells x37)) (all' := (Case.cells x37)) rfl rfl rfl rfl rfl .here rfl rfl rfl ?_)
  refine Ow_q rfl rfl rfl (Qt_assign rfl) ?_
  refine Ow_nil ?_
  refine Cw_seq ?_
  refine Cw_region ?_
  refine Ow_q rfl rfl rfl (Qt_move rfl) ?_
  refine Ow_q rfl rfl rfl (Qt_fieldAddr (m := 1) rfl rfl rfl rfl rfl) ?_
  refine Ow_q rfl rfl rfl (Qt_load1 (v := (.int .i64 x33.channel)) rfl rfl rfl (Rdc.blk (.tail _ (.head _)) rfl)) ?_
  obtain ⟨x41, x42, hx43, H⟩ := bnd2 H
  refine Ow_cons rfl (OpW_call rfl Tryd.call38 rfl rfl (c_M_model_find p0 vp0 x33.channel x41 x42 hx43 _ _ hp0) ?_)
  rintro _ _ _ - ⟨v44, rfl, rfl, rfl, hs45⟩
  refine Ow_q rfl rfl rfl (Qt_move rfl) ?_
  refine Ow_q rfl rfl rfl (Qt_extract rfl rfl) ?_
  refine Ow_q rfl rfl rfl (Qt_extract rfl rfl) ?_
  refine Ow_cons rfl (OpW_alloc (cs := (Chan.cells (Chan.mk 0 [] false) nilS)) rfl rfl rfl rfl (fun b46 => ?_))
  refine Ow_cons rfl (OpW_store (vs := (Chan.cells x41 v44)) (all' := (Chan.cells x41 v44)) rfl rfl rfl rfl rfl .here rfl rfl rfl ?_)
  refine Ow_q rfl rfl rfl (Qt_assign rfl) ?_
  refine Ow_nil ?_
  refine Cw_join (fun env' K' G' => ∃ (t56 : Bool), [(10, (.bool t56))] = env' ∧ K = K' ∧ G = G' ∧ M_model_pair_J1 t56 = some y0) ?_ ?_
  · skip
    refine Cw_region ?_
    refine Ow_q rfl rfl rfl (Qt_move rfl) ?_
    refine Ow_q rfl rfl rfl (Qt_move rfl) ?_
    refine Ow_caseG rfl rfl rfl ?_ ?_
    · intro h57
      have H := ift h57 H
      refine Ow_qw rfl rfl rfl rfl rfl rfl (Qt_move rfl) ?_
      refine Ow_q rfl rfl rfl (Qt_pick_t rfl rfl) ?_
      refine Ow_q rfl rfl rfl (Qt_move rfl) ?_
      refine Ow_caseG rfl rfl rfl ?_ ?_
      · intro h58
        have H := ift h58 H
        refine Ow_qw rfl rfl rfl rfl rfl rfl (Qt_fieldAddr (m := 0) rfl rfl rfl rfl rfl) ?_
        refine Ow_qw rfl rfl rfl rfl rfl rfl (Qt_load1 (v := (.bool x33.send)) rfl rfl rfl (Rdc.blk (.tail _ (.tail _ (.head _))) rfl)) ?_
        refine Ow_q rfl rfl rfl (Qt_pick_t rfl rfl) ?_
        refine Ow_q rfl rfl rfl (Qt_move rfl) ?_
        refine Ow_caseG rfl rfl rfl ?_ ?_
        · intro h59
          have H := ift h59 H
          refine Ow_qw rfl rfl rfl rfl rfl rfl (Qt_fieldAddr (m := 0) rfl rfl rfl rfl rfl) ?_
          refine Ow_qw rfl rfl rfl rfl rfl rfl (Qt_load1 (v := (.bool x37.send)) rfl rfl rfl (Rdc.blk (.tail _ (.head _)) rfl)) ?_
          refine Ow_qw rfl rfl rfl rfl rfl rfl (Qt_not rfl) ?_
          refine Ow_q rfl rfl rfl (Qt_pick_t rfl rfl) ?_
          refine Ow_q rfl rfl rfl (Qt_move rfl) ?_
          refine Ow_caseG rfl rfl rfl ?_ ?_
          · intro h60
            have h60 := nt_t (h60)
            have H := iff_ (btf h60) H
            refine Ow_qw rfl rfl rfl rfl rfl rfl (Qt_fieldAddr (m := 1) rfl rfl rfl rfl rfl) ?_
            refine Ow_qw rfl rfl rfl rfl rfl rfl (Qt_load1 (v := (.int .i64 x33.channel)) rfl rfl rfl (Rdc.blk (.tail _ (.tail _ (.head _))) rfl)) ?_
            refine Ow_qw rfl rfl rfl rfl rfl rfl (Qt_fieldAddr (m := 1) rfl rfl rfl rfl rfl) ?_
            refine Ow_qw rfl rfl rfl rfl rfl rfl (Qt_load1 (v := (.int .i64 x37.channel)) rfl rfl rfl (Rdc.blk (.tail _ (.head _)) rfl)) ?_
            refine Ow_qw rfl rfl rfl rfl rfl rfl (Qt_cmp rfl rfl rfl) ?_
            refine Ow_q rfl rfl rfl (Qt_pick_t rfl rfl) ?_
            refine Ow_q rfl rfl rfl (Qt_move rfl) ?_
            refine Ow_caseG rfl rfl rfl ?_ ?_
            · intro h61
              have h61 := dcd_t (h61)
              have H := ift h61 H
              refine Ow_qw rfl rfl rfl rfl rfl rfl (Qt_move rfl) ?_
              refine Ow_q rfl rfl rfl (Qt_pick_t rfl rfl) ?_
              refine Ow_q rfl rfl rfl (Qt_move rfl) ?_
              refine Ow_caseG rfl rfl rfl ?_ ?_
              · intro h62
                have H := ift h62 H
                refine Ow_qw rfl rfl rfl rfl rfl rfl (Qt_fieldAddr (m := 2) rfl rfl rfl rfl rfl) ?_
                refine Ow_qw rfl rfl rfl rfl rfl rfl (Qt_load1 (v := (.bool x41.closed)) rfl rfl rfl (Rdc.blk (.head _) rfl)) ?_
                refine Ow_qw rfl rfl rfl rfl rfl rfl (Qt_not rfl) ?_
                refine Ow_q rfl rfl rfl (Qt_pick_t rfl rfl) ?_
                refine Ow_q rfl rfl rfl (Qt_move rfl) ?_
                refine Ow_caseG rfl rfl rfl ?_ ?_
                · intro h63
                  have h63 := nt_t (h63)
                  have H := iff_ (btf h63) H
                  refine Ow_qw rfl rfl rfl rfl rfl rfl (Qt_fieldAddr (m := 0) rfl rfl rfl rfl rfl) ?_
                  refine Ow_qw rfl rfl rfl rfl rfl rfl (Qt_load1 (v := (.int .i64 x41.capacity)) rfl rfl rfl (Rdc.blk (.head _) rfl)) ?_
                  refine Ow_qw rfl rfl rfl rfl rfl rfl (Qt_cmp rfl rfl rfl) ?_
                  refine Ow_q rfl rfl rfl (Qt_pick_t rfl rfl) ?_
                  refine Ow_q rfl rfl rfl (Qt_move rfl) ?_
                  refine Ow_caseG rfl rfl rfl ?_ ?_
                  · intro h64
                    have h64 := dcd_t (h64)
                    have H := ift h64 H
                    refine Ow_qw rfl rfl rfl rfl rfl rfl (Qt_loadA (m := 5) (cs := (Result.cells p2)) rfl rfl rfl rfl ⟨rfl, Rdc.blk (.tail _ (.tail _ (.tail _ (.tail _ (.tail _ (.head _)))))) rfl⟩) ?_
                    refine Ow_qw rfl rfl rfl rfl rfl rfl (Qt_fieldAddr (m := 1) rfl rfl rfl rfl rfl) ?_
                    refine Ow_qw rfl rfl rfl rfl rfl rfl (Qt_load1 (v := (.int .i64 p2.case_)) rfl rfl rfl (Rdc.blk (.tail _ (.tail _ (.tail _ (.tail _ (.tail _ (.head _)))))) rfl)) ?_
                    refine Ow_qw rfl rfl rfl rfl rfl rfl (Qt_build (cs := (Result.cells (Result.mk 1 p2.case_ 0 false 0))) rfl rfl rfl rfl rfl rfl) ?_
                    refine Ow_qw rfl rfl rfl rfl rfl rfl (Qt_eqS rfl rfl (fun w => Result.eqrun p2 (Result.mk 1 p2.case_ 0 false 0) w) (by kernel_rfl)) ?_
                    refine Ow_q rfl rfl rfl (Qt_pick_t rfl rfl) ?_
                    refine Ow_q rfl rfl rfl (Qt_move rfl) ?_
                    refine Ow_caseG rfl rfl rfl ?_ ?_
                    · intro h65
                      have h65 := dcd_t (h65)
                      have H := ift h65 H
                      refine Ow_qw rfl rfl rfl rfl rfl rfl (Qt_loadA (m := 5) (cs := (Result.cells p4)) rfl rfl rfl rfl ⟨rfl, Rdc.blk (.tail _ (.tail _ (.tail _ (.head _)))) rfl⟩) ?_
                      refine Ow_qw rfl rfl rfl rfl rfl rfl (Qt_fieldAddr (m := 1) rfl rfl rfl rfl rfl) ?_
                      refine Ow_qw rfl rfl rfl rfl rfl rfl (Qt_load1 (v := (.int .i64 p4.case_)) rfl rfl rfl (Rdc.blk (.tail _ (.tail _ (.tail _ (.head _)))) rfl)) ?_
                      refine Ow_qw rfl rfl rfl rfl rfl rfl (Qt_fieldAddr (m := 2) rfl rfl rfl rfl rfl) ?_
                      refine Ow_qw rfl rfl rfl rfl rfl rfl (Qt_load1 (v := (.int .u64 x33.value)) rfl rfl rfl (Rdc.blk (.tail _ (.tail _ (.head _))) rfl)) ?_
                      refine Ow_qw rfl rfl rfl rfl rfl rfl (Qt_build (cs := (Result.cells (Result.mk 2 p4.case_ x33.value true 0))) rfl rfl rfl rfl rfl rfl) ?_
                      refine Ow_qw rfl rfl rfl rfl rfl rfl (Qt_eqS rfl rfl (fun w => Result.eqrun p4 (Result.mk 2 p4.case_ x33.value true 0) w) (by kernel_rfl)) ?_
                      refine Ow_q rfl rfl rfl (Qt_pick_t rfl rfl) ?_
                      refine Ow_q rfl rfl rfl (Qt_assign rfl) ?_
                      refine Ow_nil ?_
                      refine Shift.rem .here ?_
                      refine Shift.rem .here ?_
                      refine Shift.rem .here ?_
                      refine Shift.rem .here ?_
                      refine Shift.rem .here ?_
                      refine Shift.rem .here ?_
                      refine Shift.rem .here ?_
                      refine Shift.done ?_
                      exact ⟨[(10, (.bool (dcd (p4 = (Result.mk 2 p4.case_ x33.value true 0)))))], ⟨rfl, trivial⟩, (dcd (p4 = (Result.mk 2 p4.case_ x33.value true 0))), rfl, rfl, rfl, H⟩
                    · intro h65
                      have h65 := dcd_f (h65)
                      have H := iff_ h65 H
                      refine Ow_pass rfl rfl rfl rfl rfl rfl rfl ?_
                      refine Ow_pass rfl rfl rfl rfl rfl rfl rfl ?_
                      refine Ow_pass rfl rfl rfl rfl rfl rfl rfl ?_
                      refine Ow_pass rfl rfl rfl rfl rfl rfl rfl ?_
                      refine Ow_pass rfl rfl rfl rfl rfl rfl rfl ?_
                      refine Ow_pass rfl rfl rfl rfl rfl rfl rfl ?_
                      refine Ow_pass rfl rfl rfl rfl rfl rfl rfl ?_
                      refine Ow_q rfl rfl rfl (Qt_pick_f rfl rfl) ?_
                      refine Ow_q rfl rfl rfl (Qt_assign rfl) ?_
                      refine Ow_nil ?_
                      refine Shift.rem .here ?_
                      refine Shift.rem .here ?_
                      refine Shift.rem .here ?_
                      refine Shift.rem .here ?_
                      refine Shift.rem .here ?_
                      refine Shift.rem .here ?_
                      refine Shift.rem .here ?_
                      refine Shift.done ?_
                      exact ⟨[(10, (.bool false))], ⟨rfl, trivial⟩, false, rfl, rfl, rfl, H⟩
                  · intro h64
                    have h64 := dcd_f (h64)
                    have H := iff_ h64 H
                    refine Ow_pass rfl rfl rfl rfl rfl rfl rfl ?_
                    refine Ow_pass rfl rfl rfl rfl rfl rfl rfl ?_
                    refine Ow_pass rfl rfl rfl rfl rfl rfl rfl ?_
                    refine Ow_pass rfl rfl rfl rfl rfl rfl rfl ?_
                    refine Ow_pass rfl rfl rfl rfl rfl rfl rfl ?_
                    refine Ow_q rfl rfl rfl (Qt_pick_f rfl rfl) ?_
                    refine Ow_q rfl rfl rfl (Qt_move rfl) ?_
                    refine Ow_pass rfl rfl rfl rfl rfl rfl rfl ?_
                    refine Ow_pass rfl rfl rfl rfl rfl rfl rfl ?_
                    refine Ow_pass rfl rfl rfl rfl rfl rfl rfl ?_
                    refine Ow_pass rfl rfl rfl rfl rfl rfl rfl ?_
                    refine Ow_pass rfl rfl rfl rfl rfl rfl rfl ?_
                    refine Ow_pass rfl rfl rfl rfl rfl rfl rfl ?_
                    refine Ow_pass rfl rfl rfl rfl rfl rfl rfl ?_
                    refine Ow_q rfl rfl rfl (Qt_pick_f rfl rfl) ?_
                    refine Ow_q rfl rfl rfl (Qt_assign rfl) ?_
                    refine Ow_nil ?_
                    refine Shift.rem .here ?_
                    refine Shift.rem .here ?_
                    refine Shift.rem .here ?_
                    refine Shift.rem .here ?_
                    refine Shift.rem .here ?_
                    refine Shift.rem .here ?_
                    refine Shift.rem .here ?_
                    refine Shift.done ?_
                    exact ⟨[(10, (.bool false))], ⟨rfl, trivial⟩, false, rfl, rfl, rfl, H⟩
                · intro h63
                  have h63 := nt_f (h63)
                  have H := ift h63 H
                  refine Ow_pass rfl rfl rfl rfl rfl rfl rfl ?_
                  refine Ow_pass rfl rfl rfl rfl rfl rfl rfl ?_
                  refine Ow_pass rfl rfl rfl rfl rfl rfl rfl ?_
                  refine Ow_q rfl rfl rfl (Qt_pick_f rfl rfl) ?_
                  refine Ow_q rfl rfl rfl (Qt_move rfl) ?_
                  refine Ow_pass rfl rfl rfl rfl rfl rfl rfl ?_
                  refine Ow_pass rfl rfl rfl rfl rfl rfl rfl ?_
                  refine Ow_pass rfl rfl rfl rfl rfl rfl rfl ?_
                  refine Ow_pass rfl rfl rfl rfl rfl rfl rfl ?_
                  refine Ow_pass rfl rfl rfl rfl rfl rfl rfl ?_
                  refine Ow_q rfl rfl rfl (Qt_pick_f rfl rfl) ?_
                  refine Ow_q rfl rfl rfl (Qt_move rfl) ?_
                  refine Ow_pass rfl rfl rfl rfl rfl rfl rfl ?_
                  refine Ow_pass rfl rfl rfl rfl rfl rfl rfl ?_
                  refine Ow_pass rfl rfl rfl rfl rfl rfl rfl ?_
                  refine Ow_pass rfl rfl rfl rfl rfl rfl rfl ?_
                  refine Ow_pass rfl rfl rfl rfl rfl rfl rfl ?_
                  refine Ow_pass rfl rfl rfl rfl rfl rfl rfl ?_
                  refine Ow_pass rfl rfl rfl rfl rfl rfl rfl ?_
                  refine Ow_q rfl rfl rfl (Qt_pick_f rfl rfl) ?_
                  refine Ow_q rfl rfl rfl (Qt_assign rfl) ?_
                  refine Ow_nil ?_
                  refine Shift.rem .here ?_
                  refine Shift.rem .here ?_
                  refine Shift.rem .here ?_
                  refine Shift.rem .here ?_
                  refine Shift.rem .here ?_
                  refine Shift.rem .here ?_
                  refine Shift.rem .here ?_
                  refine Shift.done ?_
                  exact ⟨[(10, (.bool false))], ⟨rfl, trivial⟩, false, rfl, rfl, rfl, H⟩
              · intro h62
                have H := iff_ (btf h62) H
                refine Ow_pass rfl rfl rfl rfl rfl rfl rfl ?_
                refine Ow_pass rfl rfl rfl rfl rfl rfl rfl ?_
                refine Ow_pass rfl rfl rfl rfl rfl rfl rfl ?_
                refine Ow_q rfl rfl rfl (Qt_pick_f rfl rfl) ?_
                refine Ow_q rfl rfl rfl (Qt_move rfl) ?_
                refine Ow_pass rfl rfl rfl rfl rfl rfl rfl ?_
                refine Ow_pass rfl rfl rfl rfl rfl rfl rfl ?_
                refine Ow_pass rfl rfl rfl rfl rfl rfl rfl ?_
                refine Ow_q rfl rfl rfl (Qt_pick_f rfl rfl) ?_
                refine Ow_q rfl rfl rfl (Qt_move rfl) ?_
                refine Ow_pass rfl rfl rfl rfl rfl rfl rfl ?_
                refine Ow_pass rfl rfl rfl rfl rfl rfl rfl ?_
                refine Ow_pass rfl rfl rfl rfl rfl rfl rfl ?_
                refine Ow_pass rfl rfl rfl rfl rfl rfl rfl ?_
                refine Ow_pass rfl rfl rfl rfl rfl rfl rfl ?_
                refine Ow_q rfl rfl rfl (Qt_pick_f rfl rfl) ?_
                refine Ow_q rfl rfl rfl (Qt_move rfl) ?_
                refine Ow_pass rfl rfl rfl rfl rfl rfl rfl ?_
                refine Ow_pass rfl rfl rfl rfl rfl rfl rfl ?_
                refine Ow_pass rfl rfl rfl rfl rfl rfl rfl ?_
                refine Ow_pass rfl rfl rfl rfl rfl rfl rfl ?_
                refine Ow_pass rfl rfl rfl rfl rfl rfl rfl ?_
                refine Ow_pass rfl rfl rfl rfl rfl rfl rfl ?_
                refine Ow_pass rfl rfl rfl rfl rfl rfl rfl ?_
                refine Ow_q rfl rfl rfl (Qt_pick_f rfl rfl) ?_
                refine Ow_q rfl rfl rfl (Qt_assign rfl) ?_
                refine Ow_nil ?_
                refine Shift.rem .here ?_
                refine Shift.rem .here ?_
                refine Shift.rem .here ?_
                refine Shift.rem .here ?_
                refine Shift.rem .here ?_
                refine Shift.rem .here ?_
                refine Shift.rem .here ?_
                refine Shift.done ?_
                exact ⟨[(10, (.bool false))], ⟨rfl, trivial⟩, false, rfl, rfl, rfl, H⟩
            · intro h61
              have h61 := dcd_f (h61)
              have H := iff_ h61 H
              refine Ow_pass rfl rfl rfl rfl rfl rfl rfl ?_
              refine Ow_q rfl rfl rfl (Qt_pick_f rfl rfl) ?_
              refine Ow_q rfl rfl rfl (Qt_move rfl) ?_
              refine Ow_pass rfl rfl rfl rfl rfl rfl rfl ?_
              refine Ow_pass rfl rfl rfl rfl rfl rfl rfl ?_
              refine Ow_pass rfl rfl rfl rfl rfl rfl rfl ?_
              refine Ow_q rfl rfl rfl (Qt_pick_f rfl rfl) ?_
              refine Ow_q rfl rfl rfl (Qt_move rfl) ?_
              refine Ow_pass rfl rfl rfl rfl rfl rfl rfl ?_
              refine Ow_pass rfl rfl rfl rfl rfl rfl rfl ?_
              refine Ow_pass rfl rfl rfl rfl rfl rfl rfl ?_
              refine Ow_q rfl rfl rfl (Qt_pick_f rfl rfl) ?_
              refine Ow_q rfl rfl rfl (Qt_move rfl) ?_
              refine Ow_pass rfl rfl rfl rfl rfl rfl rfl ?_
              refine Ow_pass rfl rfl rfl rfl rfl rfl rfl ?_
              refine Ow_pass rfl rfl rfl rfl rfl rfl rfl ?_
              refine Ow_pass rfl rfl rfl rfl rfl rfl rfl ?_
              refine Ow_pass rfl rfl rfl rfl rfl rfl rfl ?_
              refine Ow_q rfl rfl rfl (Qt_pick_f rfl rfl) ?_
              refine Ow_q rfl rfl rfl (Qt_move rfl) ?_
              refine Ow_pass rfl rfl rfl rfl rfl rfl rfl ?_
              refine Ow_pass rfl rfl rfl rfl rfl rfl rfl ?_
              refine Ow_pass rfl rfl rfl rfl rfl rfl rfl ?_
              refine Ow_pass rfl rfl rfl rfl rfl rfl rfl ?_
              refine Ow_pass rfl rfl rfl rfl rfl rfl rfl ?_
              refine Ow_pass rfl rfl rfl rfl rfl rfl rfl ?_
              refine Ow_pass rfl rfl rfl rfl rfl rfl rfl ?_
              refine Ow_q rfl rfl rfl (Qt_pick_f rfl rfl) ?_
              refine Ow_q rfl rfl rfl (Qt_assign rfl) ?_
              refine Ow_nil ?_
              refine Shift.rem .here ?_
              refine Shift.rem .here ?_
              refine Shift.rem .here ?_
              refine Shift.rem .here ?_
              refine Shift.rem .here ?_
              refine Shift.rem .here ?_
              refine Shift.rem .here ?_
              refine Shift.done ?_
              exact ⟨[(10, (.bool false))], ⟨rfl, trivial⟩, false, rfl, rfl, rfl, H⟩
          · intro h60
            have h60 := nt_f (h60)
            have H := ift h60 H
            refine Ow_pass rfl rfl rfl rfl rfl rfl rfl ?_
            refine Ow_pass rfl rfl rfl rfl rfl rfl rfl ?_
            refine Ow_pass rfl rfl rfl rfl rfl rfl rfl ?_
            refine Ow_pass rfl rfl rfl rfl rfl rfl rfl ?_
            refine Ow_pass rfl rfl rfl rfl rfl rfl rfl ?_
            refine Ow_q rfl rfl rfl (Qt_pick_f rfl rfl) ?_
            refine Ow_q rfl rfl rfl (Qt_move rfl) ?_
            refine Ow_pass rfl rfl rfl rfl rfl rfl rfl ?_
            refine Ow_q rfl rfl rfl (Qt_pick_f rfl rfl) ?_
            refine Ow_q rfl rfl rfl (Qt_move rfl) ?_
            refine Ow_pass rfl rfl rfl rfl rfl rfl rfl ?_
            refine Ow_pass rfl rfl rfl rfl rfl rfl rfl ?_
            refine Ow_pass rfl rfl rfl rfl rfl rfl rfl ?_
            refine Ow_q rfl rfl rfl (Qt_pick_f rfl rfl) ?_
            refine Ow_q rfl rfl rfl (Qt_move rfl) ?_
            refine Ow_pass rfl rfl rfl rfl rfl rfl rfl ?_
            refine Ow_pass rfl rfl rfl rfl rfl rfl rfl ?_
            refine Ow_pass rfl rfl rfl rfl rfl rfl rfl ?_
            refine Ow_q rfl rfl rfl (Qt_pick_f rfl rfl) ?_
            refine Ow_q rfl rfl rfl (Qt_move rfl) ?_
            refine Ow_pass rfl rfl rfl rfl rfl rfl rfl ?_
            refine Ow_pass rfl rfl rfl rfl rfl rfl rfl ?_
            refine Ow_pass rfl rfl rfl rfl rfl rfl rfl ?_
            refine Ow_pass rfl rfl rfl rfl rfl rfl rfl ?_
            refine Ow_pass rfl rfl rfl rfl rfl rfl rfl ?_
            refine Ow_q rfl rfl rfl (Qt_pick_f rfl rfl) ?_
            refine Ow_q rfl rfl rfl (Qt_move rfl) ?_
            refine Ow_pass rfl rfl rfl rfl rfl rfl rfl ?_
            refine Ow_pass rfl rfl rfl rfl rfl rfl rfl ?_
            refine Ow_pass rfl rfl rfl rfl rfl rfl rfl ?_
            refine Ow_pass rfl rfl rfl rfl rfl rfl rfl ?_
            refine Ow_pass rfl rfl rfl rfl rfl rfl rfl ?_
            refine Ow_pass rfl rfl rfl rfl rfl rfl rfl ?_
            refine Ow_pass rfl rfl rfl rfl rfl rfl rfl ?_
            refine Ow_q rfl rfl rfl (Qt_pick_f rfl rfl) ?_
            refine Ow_q rfl rfl rfl (Qt_assign rfl) ?_
            refine Ow_nil ?_
            refine Shift.rem .here ?_
            refine Shift.rem .here ?_
            refine Shift.rem .here ?_
            refine Shift.rem .here ?_
            refine Shift.rem .here ?_
            refine Shift.rem .here ?_
            refine Shift.rem .here ?_
            refine Shift.done ?_
            exact ⟨[(10, (.bool false))], ⟨rfl, trivial⟩, false, rfl, rfl, rfl, H⟩
        · intro h59
          have H := iff_ (btf h59) H
          refine Ow_pass rfl rfl rfl rfl rfl rfl rfl ?_
          refine Ow_pass rfl rfl rfl rfl rfl rfl rfl ?_
          refine Ow_pass rfl rfl rfl rfl rfl rfl rfl ?_
          refine Ow_q rfl rfl rfl (Qt_pick_f rfl rfl) ?_
          refine Ow_q rfl rfl rfl (Qt_move rfl) ?_
          refine Ow_pass rfl rfl rfl rfl rfl rfl rfl ?_
          refine Ow_pass rfl rfl rfl rfl rfl rfl rfl ?_
          refine Ow_pass rfl rfl rfl rfl rfl rfl rfl ?_
          refine Ow_pass rfl rfl rfl rfl rfl rfl rfl ?_
          refine Ow_pass rfl rfl rfl rfl rfl rfl rfl ?_
          refine Ow_q rfl rfl rfl (Qt_pick_f rfl rfl) ?_
          refine Ow_q rfl rfl rfl (Qt_move rfl) ?_
          refine Ow_pass rfl rfl rfl rfl rfl rfl rfl ?_
          refine Ow_q rfl rfl rfl (Qt_pick_f rfl rfl) ?_
          refine Ow_q rfl rfl rfl (Qt_move rfl) ?_
          refine Ow_pass rfl rfl rfl rfl rfl rfl rfl ?_
          refine Ow_pass rfl rfl rfl rfl rfl rfl rfl ?_
          refine Ow_pass rfl rfl rfl rfl rfl rfl rfl ?_
          refine Ow_q rfl rfl rfl (Qt_pick_f rfl rfl) ?_
          refine Ow_q rfl rfl rfl (Qt_move rfl) ?_
          refine Ow_pass rfl rfl rfl rfl rfl rfl rfl ?_
          refine Ow_pass rfl rfl rfl rfl rfl rfl rfl ?_
          refine Ow_pass rfl rfl rfl rfl rfl rfl rfl ?_
          refine Ow_q rfl rfl rfl (Qt_pick_f rfl rfl) ?_
          refine Ow_q rfl rfl rfl (Qt_move rfl) ?_
          refine Ow_pass rfl rfl rfl rfl rfl rfl rfl ?_
          refine Ow_pass rfl rfl rfl rfl rfl rfl rfl ?_
          refine Ow_pass rfl rfl rfl rfl rfl rfl rfl ?_
          refine Ow_pass rfl rfl rfl rfl rfl rfl rfl ?_
          refine Ow_pass rfl rfl rfl rfl rfl rfl rfl ?_
          refine Ow_q rfl rfl rfl (Qt_pick_f rfl rfl) ?_
          refine Ow_q rfl rfl rfl (Qt_move rfl) ?_
          refine Ow_pass rfl rfl rfl rfl rfl rfl rfl ?_
          refine Ow_pass rfl rfl rfl rfl rfl rfl rfl ?_
          refine Ow_pass rfl rfl rfl rfl rfl rfl rfl ?_
          refine Ow_pass rfl rfl rfl rfl rfl rfl rfl ?_
          refine Ow_pass rfl rfl rfl rfl rfl rfl rfl ?_
          refine Ow_pass rfl rfl rfl rfl rfl rfl rfl ?_
          refine Ow_pass rfl rfl rfl rfl rfl rfl rfl ?_
          refine Ow_q rfl rfl rfl (Qt_pick_f rfl rfl) ?_
          refine Ow_q rfl rfl rfl (Qt_assign rfl) ?_
          refine Ow_nil ?_
          refine Shift.rem .here ?_
          refine Shift.rem .here ?_
          refine Shift.rem .here ?_
          refine Shift.rem .here ?_
          refine Shift.rem .here ?_
          refine Shift.rem .here ?_
          refine Shift.rem .here ?_
          refine Shift.done ?_
          exact ⟨[(10, (.bool false))], ⟨rfl, trivial⟩, false, rfl, rfl, rfl, H⟩
      · intro h58
        have H := iff_ (btf h58) H
        refine Ow_pass rfl rfl rfl rfl rfl rfl rfl ?_
        refine Ow_pass rfl rfl rfl rfl rfl rfl rfl ?_
        refine Ow_q rfl rfl rfl (Qt_pick_f rfl rfl) ?_
        refine Ow_q rfl rfl rfl (Qt_move rfl) ?_
        refine Ow_pass rfl rfl rfl rfl rfl rfl rfl ?_
        refine Ow_pass rfl rfl rfl rfl rfl rfl rfl ?_
        refine Ow_pass rfl rfl rfl rfl rfl rfl rfl ?_
        refine Ow_q rfl rfl rfl (Qt_pick_f rfl rfl) ?_
        refine Ow_q rfl rfl rfl (Qt_move rfl) ?_
        refine Ow_pass rfl rfl rfl rfl rfl rfl rfl ?_
        refine Ow_pass rfl rfl rfl rfl rfl rfl rfl ?_
        refine Ow_pass rfl rfl rfl rfl rfl rfl rfl ?_
        refine Ow_pass rfl rfl rfl rfl rfl rfl rfl ?_
        refine Ow_pass rfl rfl rfl rfl rfl rfl rfl ?_
        refine Ow_q rfl rfl rfl (Qt_pick_f rfl rfl) ?_
        refine Ow_q rfl rfl rfl (Qt_move rfl) ?_
        refine Ow_pass rfl rfl rfl rfl rfl rfl rfl ?_
        refine Ow_q rfl rfl rfl (Qt_pick_f rfl rfl) ?_
        refine Ow_q rfl rfl rfl (Qt_move rfl) ?_
        refine Ow_pass rfl rfl rfl rfl rfl rfl rfl ?_
        refine Ow_pass rfl rfl rfl rfl rfl rfl rfl ?_
        refine Ow_pass rfl rfl rfl rfl rfl rfl rfl ?_
        refine Ow_q rfl rfl rfl (Qt_pick_f rfl rfl) ?_
        refine Ow_q rfl rfl rfl (Qt_move rfl) ?_
        refine Ow_pass rfl rfl rfl rfl rfl rfl rfl ?_
        refine Ow_pass rfl rfl rfl rfl rfl rfl rfl ?_
        refine Ow_pass rfl rfl rfl rfl rfl rfl rfl ?_
        refine Ow_q rfl rfl rfl (Qt_pick_f rfl rfl) ?_
        refine Ow_q rfl rfl rfl (Qt_move rfl) ?_
        refine Ow_pass rfl rfl rfl rfl rfl rfl rfl ?_
        refine Ow_pass rfl rfl rfl rfl rfl rfl rfl ?_
        refine Ow_pass rfl rfl rfl rfl rfl rfl rfl ?_
        refine Ow_pass rfl rfl rfl rfl rfl rfl rfl ?_
        refine Ow_pass rfl rfl rfl rfl rfl rfl rfl ?_
        refine Ow_q rfl rfl rfl (Qt_pick_f rfl rfl) ?_
        refine Ow_q rfl rfl rfl (Qt_move rfl) ?_
        refine Ow_pass rfl rfl rfl rfl rfl rfl rfl ?_
        refine Ow_pass rfl rfl rfl rfl rfl rfl rfl ?_
        refine Ow_pass rfl rfl rfl rfl rfl rfl rfl ?_
        refine Ow_pass rfl rfl rfl rfl rfl rfl rfl ?_
        refine Ow_pass rfl rfl rfl rfl rfl rfl rfl ?_
        refine Ow_pass rfl rfl rfl rfl rfl rfl rfl ?_
        refine Ow_pass rfl rfl rfl rfl rfl rfl rfl ?_
        refine Ow_q rfl rfl rfl (Qt_pick_f rfl rfl) ?_
        refine Ow_q rfl rfl rfl (Qt_assign rfl) ?_
        refine Ow_nil ?_
        refine Shift.rem .here ?_
        refine Shift.rem .here ?_
        refine Shift.rem .here ?_
        refine Shift.rem .here ?_
        refine Shift.rem .here ?_
        refine Shift.rem .here ?_
        refine Shift.rem .here ?_
        refine Shift.done ?_
        exact ⟨[(10, (.bool false))], ⟨rfl, trivial⟩, false, rfl, rfl, rfl, H⟩
    · intro h57
      have H := iff_ (btf h57) H
      refine Ow_pass rfl rfl rfl rfl rfl rfl rfl ?_
      refine Ow_q rfl rfl rfl (Qt_pick_f rfl rfl) ?_
      refine Ow_q rfl rfl rfl (Qt_move rfl) ?_
      refine Ow_pass rfl rfl rfl rfl rfl rfl rfl ?_
      refine Ow_pass rfl rfl rfl rfl rfl rfl rfl ?_
      refine Ow_q rfl rfl rfl (Qt_pick_f rfl rfl) ?_
      refine Ow_q rfl rfl rfl (Qt_move rfl) ?_
      refine Ow_pass rfl rfl rfl rfl rfl rfl rfl ?_
      refine Ow_pass rfl rfl rfl rfl rfl rfl rfl ?_
      refine Ow_pass rfl rfl rfl rfl rfl rfl rfl ?_
      refine Ow_q rfl rfl rfl (Qt_pick_f rfl rfl) ?_
      refine Ow_q rfl rfl rfl (Qt_move rfl) ?_
      refine Ow_pass rfl rfl rfl rfl rfl rfl rfl ?_
      refine Ow_pass rfl rfl rfl rfl rfl rfl rfl ?_
      refine Ow_pass rfl rfl rfl rfl rfl rfl rfl ?_
      refine Ow_pass rfl rfl rfl rfl rfl rfl rfl ?_
      refine Ow_pass rfl rfl rfl rfl rfl rfl rfl ?_
      refine Ow_q rfl rfl rfl (Qt_pick_f rfl rfl) ?_
      refine Ow_q rfl rfl rfl (Qt_move rfl) ?_
      refine Ow_pass rfl rfl rfl rfl rfl rfl rfl ?_
      refine Ow_q rfl rfl rfl (Qt_pick_f rfl rfl) ?_
      refine Ow_q rfl rfl rfl (Qt_move rfl) ?_
      refine Ow_pass rfl rfl rfl rfl rfl rfl rfl ?_
      refine Ow_pass rfl rfl rfl rfl rfl rfl rfl ?_
      refine Ow_pass rfl rfl rfl rfl rfl rfl rfl ?_
      refine Ow_q rfl rfl rfl (Qt_pick_f rfl rfl) ?_
      refine Ow_q rfl rfl rfl (Qt_move rfl) ?_
      refine Ow_pass rfl rfl rfl rfl rfl rfl rfl ?_
      refine Ow_pass rfl rfl rfl rfl rfl rfl rfl ?_
      refine Ow_pass rfl rfl rfl rfl rfl rfl rfl ?_
      refine Ow_q rfl rfl rfl (Qt_pick_f rfl rfl) ?_
      refine Ow_q rfl rfl rfl (Qt_move rfl) ?_
      refine Ow_pass rfl rfl rfl rfl rfl rfl rfl ?_
      refine Ow_pass rfl rfl rfl rfl rfl rfl rfl ?_
      refine Ow_pass rfl rfl rfl rfl rfl rfl rfl ?_
      refine Ow_pass rfl rfl rfl rfl rfl rfl rfl ?_
      refine Ow_pass rfl rfl rfl rfl rfl rfl rfl ?_
      refine Ow_q rfl rfl rfl (Qt_pick_f rfl rfl) ?_
      refine Ow_q rfl rfl rfl (Qt_move rfl) ?_
      refine Ow_pass rfl rfl rfl rfl rfl rfl rfl ?_
      refine Ow_pass rfl rfl rfl rfl rfl rfl rfl ?_
      refine Ow_pass rfl rfl rfl rfl rfl rfl rfl ?_
      refine Ow_pass rfl rfl rfl rfl rfl rfl rfl ?_
      refine Ow_pass rfl rfl rfl rfl rfl rfl rfl ?_
      refine Ow_pass rfl rfl rfl rfl rfl rfl rfl ?_
      refine Ow_pass rfl rfl rfl rfl rfl rfl rfl ?_
      refine Ow_q rfl rfl rfl (Qt_pick_f rfl rfl) ?_
      refine Ow_q rfl rfl rfl (Qt_assign rfl) ?_
      refine Ow_nil ?_
      refine Shift.rem .here ?_
      refine Shift.rem .here ?_
      refine Shift.rem .here ?_
      refine Shift.rem .here ?_
      refine Shift.rem .here ?_
      refine Shift.rem .here ?_
      refine Shift.rem .here ?_
      refine Shift.done ?_
      exact ⟨[(10, (.bool false))], ⟨rfl, trivial⟩, false, rfl, rfl, rfl, H⟩
  rintro _ _ _ - ⟨t56, rfl, rfl, rfl, H⟩
  unfold M_model_pair_J1 at H
  refine Cw_ret ?_
  obtain ey0 := inj1 H
  subst y0
  refine ⟨(by first | exact .inl rfl | exact .inr rfl), [(.bool t56)], ⟨(.bool t56), _, rfl, rfl, rfl⟩, ?_⟩
  refine Shift.done ?_
  exact ⟨rfl, rfl, rfl⟩

set_option maxHeartbeats 1000000 in
theorem c_M_model_Pair (p0 : List Chan) (vp0 : SV) (p1 : Op) (vp1_cases : SV) (vp1_draws : SV) (p2 : Result) (p3 : Op) (vp3_cases : SV) (vp3_draws : SV) (p4 : Result) (y0 : Bool) (H : M_model_Pair p0 p1 p2 p3 p4 = some y0) (K : Kp) (G : List Ent) (hp0 : Slr TyChan K (sv vp0) p0) (hp1_cases : Slr TyCase K (sv vp1_cases) p1.cases) (hp1_draws : Slr Ty.i64 K (sv vp1_draws) p1.draws) (hp3_cases : Slr TyCase K (sv vp3_cases) p3.cases) (hp3_draws : Slr Ty.i64 K (sv vp3_draws) p3.draws) :
    Fc Tryd.prog 24 #[(sv vp0), (.agg (Op.cells p1 vp1_cases vp1_draws).toArray), (.agg (Result.cells p2).toArray), (.agg (Op.cells p3 vp3_cases vp3_draws).toArray), (.agg (Result.cells p4).toArray)] K (G) (fun v K' G' => v = (.bool y0) ∧ K = K' ∧ G = G') := by
  refine Fc_body Tryd.func24 rfl Tryd.ntmps24 Tryd.results24 rfl ?_
  unfold M_model_Pair at H
  refine Cw_seq ?_
  refine Cw_region ?_
  refine Ow_cons rfl (OpW_box (cs := (Op.cells p1 vp1_cases vp1_draws)) rfl rfl rfl (fun b10 => ?_))
  refine Ow_cons rfl (OpW_box (cs := (Result.cells p2)) rfl rfl rfl (fun b11 => ?_))
  refine Ow_cons rfl (OpW_box (cs := (Op.cells p3 vp3_cases vp3_draws)) rfl rfl rfl (fun b12 => ?_))
  refine Ow_cons rfl (OpW_box (cs := (Result.cells p4)) rfl rfl rfl (fun b13 => ?_))
  refine Ow_q rfl rfl rfl (Qt_assign rfl) ?_
  refine Ow_nil ?_
  refine Cw_seq ?_
  refine Cw_region ?_
  refine Ow_q rfl rfl rfl (Qt_move rfl) ?_
  refine Ow_q rfl rfl rfl (Qt_loadA (m := 7) (cs := (Op.cells p1 vp1_cases vp1_draws)) rfl rfl rfl rfl ⟨rfl, Rdc.blk (.tail _ (.tail _ (.tail _ (.head _)))) rfl⟩) ?_
  refine Ow_q rfl rfl rfl (Qt_loadA (m := 5) (cs := (Result.cells p2)) rfl rfl rfl rfl ⟨rfl, Rdc.blk (.tail _ (.tail _ (.head _))) rfl⟩) ?_
  refine Ow_q rfl rfl rfl (Qt_loadA (m := 7) (cs := (Op.cells p3 vp3_cases vp3_draws)) rfl rfl rfl rfl ⟨rfl, Rdc.blk (.tail _ (.head _)) rfl⟩) ?_
  refine Ow_q rfl rfl rfl (Qt_loadA (m := 5) (cs := (Result.cells p4)) rfl rfl rfl rfl ⟨rfl, Rdc.blk (.head _) rfl⟩) ?_
  obtain ⟨x19, hx20, H⟩ := bnd H
  refine Ow_cons rfl (OpW_call rfl Tryd.call46 rfl rfl (c_M_model_pair p0 vp0 p1 vp1_cases vp1_draws p2 p3 vp3_cases vp3_draws p4 x19 hx20 _ _ hp0 hp1_cases hp1_draws hp3_cases hp3_draws) ?_)
  rintro _ _ _ - ⟨rfl, rfl, rfl⟩
  refine Ow_q rfl rfl rfl (Qt_move rfl) ?_
  refine Ow_caseG rfl rfl rfl ?_ ?_
  · intro h21
    have H := ift h21 H
    refine Ow_pass rfl rfl rfl rfl rfl rfl rfl ?_
    refine Ow_pass rfl rfl rfl rfl rfl rfl rfl ?_
    refine Ow_pass rfl rfl rfl rfl rfl rfl rfl ?_
    refine Ow_pass rfl rfl rfl rfl rfl rfl rfl ?_
    refine Ow_pass rfl rfl rfl rfl rfl rfl rfl ?_
    refine Ow_pass rfl rfl rfl rfl rfl rfl rfl ?_
    refine Ow_q rfl rfl rfl (Qt_pick_t rfl rfl) ?_
    refine Ow_q rfl rfl rfl (Qt_assign rfl) ?_
    refine Ow_nil ?_
    refine Cw_ret ?_
    obtain ey0 := inj1 H
    subst y0
    refine ⟨(by first | exact .inl rfl | exact .inr rfl), [(.bool true)], ⟨(.bool true), _, rfl, rfl, rfl⟩, ?_⟩
    refine Shift.rem .here ?_
    refine Shift.rem .here ?_
    refine Shift.rem .here ?_
    refine Shift.rem .here ?_
    refine Shift.done ?_
    exact ⟨rfl, rfl, rfl⟩
  · intro h21
    have H := iff_ (btf h21) H
    refine Ow_qw rfl rfl rfl rfl rfl rfl (Qt_move rfl) ?_
    refine Ow_qw rfl rfl rfl rfl rfl rfl (Qt_loadA (m := 7) (cs := (Op.cells p3 vp3_cases vp3_draws)) rfl rfl rfl rfl ⟨rfl, Rdc.blk (.tail _ (.head _)) rfl⟩) ?_
    refine Ow_qw rfl rfl rfl rfl rfl rfl (Qt_loadA (m := 5) (cs := (Result.cells p4)) rfl rfl rfl rfl ⟨rfl, Rdc.blk (.head _) rfl⟩) ?_
    refine Ow_qw rfl rfl rfl rfl rfl rfl (Qt_loadA (m := 7) (cs := (Op.cells p1 vp1_cases vp1_draws)) rfl rfl rfl rfl ⟨rfl, Rdc.blk (.tail _ (.tail _ (.tail _ (.head _)))) rfl⟩) ?_
    refine Ow_qw rfl rfl rfl rfl rfl rfl (Qt_loadA (m := 5) (cs := (Result.cells p2)) rfl rfl rfl rfl ⟨rfl, Rdc.blk (.tail _ (.tail _ (.head _))) rfl⟩) ?_
    obtain ⟨x22, hx23, H⟩ := bnd H
    refine Ow_want rfl rfl rfl rfl (OpW_call rfl Tryd.call46 rfl rfl (c_M_model_pair p0 vp0 p3 vp3_cases vp3_draws p4 p1 vp1_cases vp1_draws p2 x22 hx23 _ _ hp0 hp3_cases hp3_draws hp1_cases hp1_draws) ?_)
    rintro _ _ _ - ⟨rfl, rfl, rfl⟩
    refine Ow_q rfl rfl rfl (Qt_pick_f rfl rfl) ?_
    refine Ow_q rfl rfl rfl (Qt_assign rfl) ?_
    refine Ow_nil ?_
    refine Cw_ret ?_
    obtain ey0 := inj1 H
    subst y0
    refine ⟨(by first | exact .inl rfl | exact .inr rfl), [(.bool x22)], ⟨(.bool x22), _, rfl, rfl, rfl⟩, ?_⟩
    refine Shift.rem .here ?_
    refine Shift.rem .here ?_
    refine Shift.rem .here ?_
    refine Shift.rem .here ?_
    refine Shift.done ?_
    exact ⟨rfl, rfl, rfl⟩



end Go.Hx
