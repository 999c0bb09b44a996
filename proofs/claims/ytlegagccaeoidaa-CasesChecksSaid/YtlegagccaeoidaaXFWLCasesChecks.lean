/- Printed by program. -/
import Derived.Test.YtlegagccaeoidaaXFM
import Derived.Test.YtlegagccaeoidaaXFWCases2
import Derived.Test.YtlegagccaeoidaaXFWDraw
import Derived.Test.YtlegagccaeoidaaXFWDraw1
import Derived.Test.YtlegagccaeoidaaXFWDraw2
import Derived.Test.YtlegagccaeoidaaXFWLaw3
import Derived.Test.YtlegagccaeoidaaXFWRef3
namespace Go.Hx
open Go Go.Proofs
set_option linter.unusedSimpArgs false
set_option linter.unusedVariables false
set_option maxRecDepth 10000
set_option maxHeartbeats 1000000 in
theorem c_M_law3_CasesChecks (p0 : Op) (vp0_cases : SV) (vp0_draws : SV) (p1 : List Int) (vp1 : SV) (y0 : Bool) (H : M_law3_CasesChecks p0 p1 = some y0) (K : Kp) (G : List Ent) (hp0_cases : Slr TyCase K (sv vp0_cases) p0.cases) (hp0_draws : Slr Ty.i64 K (sv vp0_draws) p0.draws) (hp1 : Slr Ty.u8 K (sv vp1) p1) :
    Fc Try.prog 3 #[(.agg (Op.cells p0 vp0_cases vp0_draws).toArray), (sv vp1)] K (G) (fun v K' G' => v = (.bool y0) ∧ G = G') := by
  refine Fc_body Try.func3 rfl Try.ntmps3 Try.results3 rfl ?_
  unfold M_law3_CasesChecks at H
  refine Cw_seq ?_
  refine Cw_region ?_
  refine Ow_cons rfl (OpW_box (cs := (Op.cells p0 vp0_cases vp0_draws)) rfl rfl rfl (fun b154 => ?_))
  refine Ow_q rfl rfl rfl (Qt_assign rfl) ?_
  refine Ow_nil ?_
  refine Cw_seq ?_
  refine Cw_seq ?_
  refine Cw_region ?_
  obtain ⟨x160, hx161, H⟩ := bnd H
  refine Ow_cons rfl (OpW_call rfl Try.call7 rfl rfl (c_M_law3_awake  x160 hx161 _ _ ) ?_)
  rintro _ K162 _ hK163 ⟨rfl, rfl⟩
  refine Ow_q rfl rfl rfl (Qt_not rfl) ?_
  refine Ow_nil ?_
  refine Cw_cond rfl ?_ ?_
  · intro h164
    have h164 := nt_t (h164)
    have H := iff_ (btf h164) H
    refine Cw_seq ?_
    refine Cw_region ?_
    refine Ow_q rfl rfl rfl (Qt_assign rfl) ?_
    refine Ow_nil ?_
    refine Cw_ret ?_
    obtain ey0 := inj1 H
    subst y0
    refine ⟨(by first | exact .inl rfl | exact .inr rfl), [(.bool false)], ⟨(.bool false), _, rfl, rfl, rfl⟩, ?_⟩
    refine Shift.rem .here ?_
    refine Shift.done ?_
    exact ⟨rfl, rfl⟩
  · intro h164
    have h164 := nt_f (h164)
    have H := ift h164 H
    refine Cw_skip ?_
    refine Cw_seq ?_
    refine Cw_seq ?_
    refine Cw_region ?_
    refine Ow_q rfl rfl rfl (Qt_loadA (m := 7) (cs := (Op.cells p0 vp0_cases vp0_draws)) rfl rfl rfl rfl ⟨rfl, Rdc.blk (.head _) rfl⟩) ?_
    obtain ⟨x170, hx171, H⟩ := bnd H
    have hs172 := (hp0_cases).mono hK163
    have hs173 := (hp0_draws).mono hK163
    refine Ow_cons rfl (OpW_call rfl Try.call8 rfl rfl (c_M_law3_big p0 vp0_cases vp0_draws x170 hx171 _ _ hs172 hs173) ?_)
    rintro _ _ _ - ⟨rfl, rfl, rfl⟩
    refine Ow_nil ?_
    refine Cw_cond rfl ?_ ?_
    · intro h174
      have H := ift h174 H
      refine Cw_seq ?_
      refine Cw_region ?_
      refine Ow_q rfl rfl rfl (Qt_assign rfl) ?_
      refine Ow_nil ?_
      refine Cw_ret ?_
      obtain ey0 := inj1 H
      subst y0
      refine ⟨(by first | exact .inl rfl | exact .inr rfl), [(.bool true)], ⟨(.bool true), _, rfl, rfl, rfl⟩, ?_⟩
      refine Shift.rem .here ?_
      refine Shift.done ?_
      exact ⟨rfl, rfl⟩
    · intro h174
      have H := iff_ (btf h174) H
      refine Cw_skip ?_
      refine Cw_seq ?_
      refine Cw_region ?_
      refine Ow_q rfl rfl rfl (Qt_move rfl) ?_
      obtain ⟨x175, hx176, H⟩ := bnd H
      have hs177 := (hp1).mono hK163
      refine Ow_cons rfl (OpW_call rfl Try.call9 rfl rfl (c_M_draw_New p1 vp1 60 x175 hx176 _ _ hs177) ?_)
      rintro _ _ _ - ⟨b178, v179, rfl, rfl, rfl, hs180⟩
      refine Ow_q rfl rfl rfl (Qt_assign rfl) ?_
      refine Ow_nil ?_
      refine Cw_seq ?_
      refine Cw_region ?_
      refine Ow_q rfl rfl rfl (Qt_move rfl) ?_
      obtain ⟨x181, x182, x183, hx184, H⟩ := bnd3 H
      refine Ow_cons rfl (OpW_call rfl Try.call10 rfl rfl (c_M_draw_Codes_Config b178 x175 v179 x181 x182 x183 hx184 _ _ hs180) ?_)
      rintro _ K187 _ hK188 ⟨v185, v186, rfl, rfl, hs189, hs190⟩
      refine Ow_cons rfl (OpW_alloc (cs := (Config.cells (Config.mk [] [] 0) nilS nilS)) rfl rfl rfl rfl (fun b191 => ?_))
      refine Ow_cons rfl (OpW_store (vs := (Config.cells x181 v185 v186)) (all' := (Config.cells x181 v185 v186)) rfl rfl rfl rfl rfl .here rfl rfl rfl ?_)
      refine Ow_nil ?_
      refine Cw_seq ?_
      refine Cw_region ?_
      refine Ow_q rfl rfl rfl (Qt_move rfl) ?_
      refine Ow_q rfl rfl rfl (Qt_loadA (m := 3) (cs := (Config.cells x181 v185 v186)) rfl rfl rfl rfl ⟨rfl, Rdc.blk (.head _) rfl⟩) ?_
      obtain ⟨x192, x193, x194, hx195, H⟩ := bnd3 H
      refine Ow.shift (Shift.pull (.there .here) (Shift.done ?_))
      have hs196 := (hs180).mono hK188
      refine Ow_cons rfl (OpW_call rfl Try.call11 rfl rfl (c_M_draw_Codes_Op b178 (Draw_Codes.mk x175.list x182 x183) v179 x181 v185 v186 x192 x193 x194 hx195 _ _ hs196 hs189 hs190) ?_)
      rintro _ K199 _ hK200 ⟨v197, v198, rfl, rfl, hs201, hs202⟩
      refine Ow_cons rfl (OpW_alloc (cs := (Op.cells (Op.mk 0 0 0 0 0 [] []) nilS nilS)) rfl rfl rfl rfl (fun b203 => ?_))
      refine Ow_cons rfl (OpW_store (vs := (Op.cells x192 v197 v198)) (all' := (Op.cells x192 v197 v198)) rfl rfl rfl rfl rfl .here rfl rfl rfl ?_)
      refine Ow_nil ?_
      refine Cw_seq ?_
      refine Cw_seq ?_
      refine Cw_region ?_
      refine Ow_q rfl rfl rfl (Qt_loadA (m := 7) (cs := (Op.cells x192 v197 v198)) rfl rfl rfl rfl ⟨rfl, Rdc.blk (.head _) rfl⟩) ?_
      obtain ⟨x209, hx210, H⟩ := bnd H
      refine Ow_cons rfl (OpW_call rfl Try.call12 rfl rfl (c_M_cases_Check x192 v197 v198 x209 hx210 _ _ hs201 hs202) ?_)
      rintro _ K211 _ hK212 ⟨rfl, rfl⟩
      refine Ow_q rfl rfl rfl (Qt_cmp rfl rfl rfl) ?_
      refine Ow_nil ?_
      refine Cw_cond rfl ?_ ?_
      · intro h213
        have h213 := dcd_f (nt_t (h213))
        have H := iff_ h213 H
        refine Cw_seq ?_
        refine Cw_region ?_
        refine Ow_q rfl rfl rfl (Qt_assign rfl) ?_
        refine Ow_nil ?_
        refine Cw_ret ?_
        obtain ey0 := inj1 H
        subst y0
        refine ⟨(by first | exact .inl rfl | exact .inr rfl), [(.bool false)], ⟨(.bool false), _, rfl, rfl, rfl⟩, ?_⟩
        refine Shift.rem .here ?_
        refine Shift.rem .here ?_
        refine Shift.rem .here ?_
        refine Shift.rem .here ?_
        refine Shift.rem .here ?_
        refine Shift.rem .here ?_
        refine Shift.done ?_
        exact ⟨rfl, rfl⟩
      · intro h213
        have h213 := dcd_t (nt_f (h213))
        have H := ift h213 H
        refine Cw_skip ?_
        refine Cw_seq ?_
        refine Cw_region ?_
        refine Ow_q rfl rfl rfl (Qt_move rfl) ?_
        refine Ow_q rfl rfl rfl (Qt_loadA (m := 7) (cs := (Op.cells x192 v197 v198)) rfl rfl rfl rfl ⟨rfl, Rdc.blk (.head _) rfl⟩) ?_
        obtain ⟨x214, x215, x216, hx217, H⟩ := bnd3 H
        refine Ow.shift (Shift.pull (.there .here) (Shift.done ?_))
        have hs218 := ((hs196).mono hK200).mono hK212
        have hs219 := (hs201).mono hK212
        have hs220 := (hs202).mono hK212
        refine Ow_cons rfl (OpW_call rfl Try.call13 rfl rfl (c_M_draw_Codes_Spoil b178 (Draw_Codes.mk x175.list x193 x194) v179 x192 v197 v198 x214 x215 x216 hx217 _ _ hs218 hs219 hs220) ?_)
        rintro _ K224 _ hK225 ⟨v221, v222, rs223, rfl, rfl, hs226, hs227⟩
        refine Ow_cons rfl (OpW_alloc (cs := (Op.cells (Op.mk 0 0 0 0 0 [] []) nilS nilS)) rfl rfl rfl rfl (fun b228 => ?_))
        refine Ow_cons rfl (OpW_store (vs := (Op.cells x214 v221 v222)) (all' := (Op.cells x214 v221 v222)) rfl rfl rfl rfl rfl .here rfl rfl rfl ?_)
        refine Ow_nil ?_
        refine Cw_seq ?_
        refine Cw_region ?_
        refine Ow_q rfl rfl rfl (Qt_move rfl) ?_
        refine Ow_q rfl rfl rfl (Qt_loadA (m := 7) (cs := (Op.cells x214 v221 v222)) rfl rfl rfl rfl ⟨rfl, Rdc.blk (.head _) rfl⟩) ?_
        refine Ow.shift (Shift.settle (T := Ty.i64) (.there (.there (.there .here))) hs227 rfl (fun K229 hK230 hs231 => Shift.done ?_))
        obtain ⟨x232, x233, x234, hx235, H⟩ := bnd3 H
        refine Ow.shift (Shift.pull (.there .here) (Shift.done ?_))
        have hs236 := ((hs218).mono hK225).mono hK230
        have hs237 := (hs226).mono hK230
        refine Ow_cons rfl (OpW_call rfl Try.call13 rfl rfl (c_M_draw_Codes_Spoil b178 (Draw_Codes.mk x175.list x215 x216) v179 x214 v221 v222 x232 x233 x234 hx235 _ _ hs236 hs237 hs231) ?_)
        rintro _ K241 _ hK242 ⟨v238, v239, rs240, rfl, rfl, hs243, hs244⟩
        refine Ow_cons rfl (OpW_alloc (cs := (Op.cells (Op.mk 0 0 0 0 0 [] []) nilS nilS)) rfl rfl rfl rfl (fun b245 => ?_))
        refine Ow_cons rfl (OpW_store (vs := (Op.cells x232 v238 v239)) (all' := (Op.cells x232 v238 v239)) rfl rfl rfl rfl rfl .here rfl rfl rfl ?_)
        refine Ow_nil ?_
        refine Cw_join (fun env' K' G' => [] = env' ∧ G = G' ∧ M_law3_CasesChecks_J1 = some y0) ?_ ?_
        · skip
          refine Cw_seq ?_
          refine Cw_region ?_
          refine Ow_q rfl rfl rfl (Qt_loadA (m := 7) (cs := (Op.cells p0 vp0_cases vp0_draws)) rfl rfl rfl rfl ⟨rfl, Rdc.blk (.tail _ (.tail _ (.tail _ (.tail _ (.tail _ (.tail _ (.tail _ (.tail _ (.tail _ (.tail _ (.tail _ (.head _)))))))))))) rfl⟩) ?_
          refine Ow_q rfl rfl rfl (Qt_loadA (m := 7) (cs := (Op.cells x214 v221 v222)) rfl rfl rfl rfl ⟨rfl, Rdc.blk (.tail _ (.tail _ (.tail _ (.tail _ (.head _))))) rfl⟩) ?_
          refine Ow_q rfl rfl rfl (Qt_loadA (m := 7) (cs := (Op.cells x232 v238 v239)) rfl rfl rfl rfl ⟨rfl, Rdc.blk (.head _) rfl⟩) ?_
          refine Ow.shift (Shift.settle (T := Ty.i64) (.there (.there (.there .here))) hs244 rfl (fun K320 hK321 hs322 => Shift.done ?_))
          have hs325 := (hs243).mono hK321
          have hs326 := ((hs237).mono hK242).mono hK321
          have hs327 := ((hs231).mono hK242).mono hK321
          have hs328 := (((((((hs172).mono hK188).mono hK200).mono hK212).mono hK225).mono hK230).mono hK242).mono hK321
          have hs329 := (((((((hs173).mono hK188).mono hK200).mono hK212).mono hK225).mono hK230).mono hK242).mono hK321
          have hR324 : RowR TyOp K320 [(Op.cells p0 vp0_cases vp0_draws), (Op.cells x214 v221 v222), (Op.cells x232 v238 v239)] [p0, x214, x232] := RowR.cons ⟨vp0_cases, vp0_draws, rfl, hs328, hs329⟩ (RowR.cons ⟨v221, v222, rfl, hs326, hs327⟩ (RowR.cons ⟨v238, v239, rfl, hs325, hs322⟩ (RowR.nil)))
          refine Ow_cons rfl (O_lit (T := TyOp) (rows := [(Op.cells p0 vp0_cases vp0_draws), (Op.cells x214 v221 v222), (Op.cells x232 v238 v239)]) (l := [p0, x214, x232]) rfl rfl rfl hR324 rfl rfl rfl rfl rfl rfl rfl rfl (fun v323 => ?_))
          refine Ow_q rfl rfl rfl (Q_lenR (T := TyOp) (.head _) hR324 rfl rfl rfl) ?_
          refine Ow_q rfl rfl rfl (Qt_move rfl) ?_
          refine Ow_nil ?_
          refine Cw_block ?_
          refine Cw_loopM (fun n394 env' K' G' => ∃ (i393 : Int), [(35, (sv v323)), (36, (.int .i64 ([p0, x214, x232].length : Int))), (37, (.int .i64 i393))] = env' ∧ (.row (sv v323) 26 7 [(Op.cells p0 vp0_cases vp0_draws), (Op.cells x214 v221 v222), (Op.cells x232 v238 v239)].flatten) :: G = G' ∧ lp1 (M_law3_CasesChecks_L1 p0 x214 x232) n394 i393 = some y0) BIG ?_ ?_
          · skip
            refine Shift.rem (.there .here) ?_
            refine Shift.rem (.there .here) ?_
            refine Shift.rem (.there .here) ?_
            refine Shift.rem (.there .here) ?_
            refine Shift.rem (.there .here) ?_
            refine Shift.rem (.there .here) ?_
            refine Shift.rem (.there .here) ?_
            refine Shift.rem (.there .here) ?_
            refine Shift.rem (.there .here) ?_
            refine Shift.rem (.there .here) ?_
            refine Shift.rem (.there .here) ?_
            refine Shift.rem (.there .here) ?_
            refine Shift.done ?_
            exact ⟨[(35, (sv v323)), (36, (.int .i64 ([p0, x214, x232].length : Int))), (37, (.int .i64 0))], ⟨rfl, rfl, rfl, trivial⟩, 0, rfl, rfl, H⟩
          rintro n394 _ K395 _ hK396 ⟨i393, rfl, rfl, H⟩
          obtain ⟨m397, k398, rfl, hkk399, H⟩ := lps1 H
          unfold M_law3_CasesChecks_L1 at H
          refine Cw_seq ?_
          refine Cw_region ?_
          refine Ow_q rfl rfl rfl (Qt_cmp rfl rfl rfl) ?_
          refine Ow_nil ?_
          refine Cw_seq ?_
          refine Cw_cond rfl ?_ ?_
          · intro h401
            have h401 := dcd_t (h401)
            have H := ift h401 H
            refine Cw_skip ?_
            refine Cw_seq ?_
            refine Cw_block ?_
            refine Cw_seq ?_
            refine Cw_region ?_
            obtain ⟨x430, hx431, H⟩ := bnd H
            have hs432 := (hR324).mono hK396
            obtain ⟨r433, hq434, hr435⟩ := RowR.at hs432 hx431
            obtain ⟨v436, v437, rfl, hs438, hs439⟩ := hr435
            refine Ow_q rfl rfl rfl (Q_ixR (T := TyOp) (.head _) hs432 hq434 (getI_ix hx431).1 rfl rfl rfl rfl rfl) ?_
            refine Ow_q rfl rfl rfl (Qt_loadA (m := 7) (cs := (Op.cells x430 v436 v437)) rfl rfl rfl rfl ⟨rfl, Rd_row (T := TyOp) (.head _) hs432 hq434 rfl rfl⟩) ?_
            refine Ow_cons rfl (OpW_alloc (cs := (Op.cells (Op.mk 0 0 0 0 0 [] []) nilS nilS)) rfl rfl rfl rfl (fun b440 => ?_))
            refine Ow_cons rfl (OpW_store (vs := (Op.cells x430 v436 v437)) (all' := (Op.cells x430 v436 v437)) rfl rfl rfl rfl rfl .here rfl rfl rfl ?_)
            refine Ow_nil ?_
            refine Cw_seq ?_
            obtain ⟨x457, hx458, H⟩ := bnd H
            obtain ⟨x461, hx462, H⟩ := bnd H
            refine Cw_region_any [.blk b440 26 (Op.cells x430 v436 v437), .row (sv v323) 26 7 [(Op.cells p0 vp0_cases vp0_draws), (Op.cells x214 v221 v222), (Op.cells x232 v238 v239)].flatten] rfl (Inc.cons (.head _) (Inc.cons (.tail _ (.head _)) Inc.nil)) ?_
            refine Aw_q 0 rfl (by kernel_rfl) (by kernel_rfl) (by kernel_rfl) rfl rfl rfl (Qt_loadA (m := 7) (cs := (Op.cells x430 v436 v437)) rfl rfl rfl rfl ⟨rfl, Rdc.blk (.head _) rfl⟩) ?_
            refine Aw_q 2 rfl (by kernel_rfl) (by kernel_rfl) (by kernel_rfl) rfl rfl rfl (Qt_loadA (m := 7) (cs := (Op.cells x430 v436 v437)) rfl rfl rfl rfl ⟨rfl, Rdc.blk (.head _) rfl⟩) ?_
            refine Aw_one 1 (by kernel_rfl) (Ax_mk rfl rfl ?_)
            refine OpW_call rfl Try.call12 rfl rfl (c_M_cases_Check x430 v436 v437 x457 hx458 _ _ hs438 hs439) ?_
            rintro _ K467 _ hK468 ⟨rfl, rfl⟩
            refine ⟨(Inc.cons (.head _) (Inc.cons (.tail _ (.head _)) Inc.nil)), ?_⟩
            refine Aw_one 3 (by kernel_rfl) (Ax_mk rfl rfl ?_)
            have hs469 := (hs438).mono hK468
            have hs470 := (hs439).mono hK468
            refine OpW_call rfl Try.call14 rfl rfl (c_M_ref3_Check x430 v436 v437 x461 hx462 _ _ hs469 hs470) ?_
            rintro _ K471 _ hK472 ⟨rfl, rfl⟩
            refine ⟨(Inc.cons (.head _) (Inc.cons (.tail _ (.head _)) Inc.nil)), ?_⟩
            refine Aw_q 4 rfl (by kernel_rfl) (by kernel_rfl) (by kernel_rfl) rfl rfl rfl (Qt_cmp rfl rfl rfl) ?_
            refine Aw_done (by kernel_rfl) ?_
            refine Cw_cond rfl ?_ ?_
            · intro h473
              have h473 := dcd_f (nt_t (h473))
              have H := iff_ h473 H
              refine Cw_seq ?_
              refine Cw_region ?_
              refine Ow_q rfl rfl rfl (Qt_assign rfl) ?_
              refine Ow_nil ?_
              refine Cw_ret ?_
              obtain ey0 := inj1 H
              subst y0
              refine ⟨(by first | exact .inl rfl | exact .inr rfl), [(.bool false)], ⟨(.bool false), _, rfl, rfl, rfl⟩, ?_⟩
              refine Shift.rem .here ?_
              refine Shift.rem .here ?_
              refine Shift.done ?_
              exact ⟨rfl, rfl⟩
            · intro h473
              have h473 := dcd_t (nt_f (h473))
              have H := ift h473 H
              refine Cw_skip ?_
              refine Cw_region ?_
              refine Ow_q rfl rfl rfl (Qt_arith (e := wI (i393 + 1)) rfl rfl rfl rfl) ?_
              refine Ow_q rfl rfl rfl (Qt_move rfl) ?_
              refine Ow_nil ?_
              refine Shift.pull (.there .here) ?_
              refine Shift.rem (.there .here) ?_
              refine Shift.done ?_
              exact ⟨[(35, (sv v323)), (36, (.int .i64 ([p0, x214, x232].length : Int))), (37, (.int .i64 (wI (i393 + 1))))], ⟨rfl, rfl, rfl, trivial⟩, _, Nat.lt_succ_self _, (wI (i393 + 1)), rfl, rfl, (hkk399 ▸ H)⟩
          · intro h401
            have h401 := dcd_f (h401)
            have H := iff_ h401 H
            refine Cw_exit ?_
            refine Shift.rem .here ?_
            refine Shift.done ?_
            exact ⟨[], trivial, rfl, rfl, H⟩
        rintro _ K474 _ hK475 ⟨rfl, rfl, H⟩
        unfold M_law3_CasesChecks_J1 at H
        refine Cw_seq ?_
        refine Cw_region ?_
        refine Ow_q rfl rfl rfl (Qt_assign rfl) ?_
        refine Ow_nil ?_
        refine Cw_ret ?_
        obtain ey0 := inj1 H
        subst y0
        refine ⟨(by first | exact .inl rfl | exact .inr rfl), [(.bool true)], ⟨(.bool true), _, rfl, rfl, rfl⟩, ?_⟩
        refine Shift.done ?_
        exact ⟨rfl, rfl⟩


end Go.Hx
