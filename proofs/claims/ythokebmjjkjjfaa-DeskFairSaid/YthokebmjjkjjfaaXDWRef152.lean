/- Printed by program. -/
import Derived.Test.YthokebmjjkjjfaaXDM
import Derived.Test.YthokebmjjkjjfaaXDWRef15
import Derived.Test.YthokebmjjkjjfaaXDWRef151
import Derived.Test.YthokebmjjkjjfaaXDWRef3
import Derived.Test.YthokebmjjkjjfaaXDWRef31
namespace Go.Hx
open Go Go.Proofs
set_option linter.unusedSimpArgs false
set_option linter.unusedVariables false
set_option maxRecDepth 10000
set_option maxHeartbeats 1000000 in
theorem c_M_118z (p0 : Desk) (vp0_chans : SV) (vp0_waiting : SV) (p1 : Int) (p2 : Op) (vp2_cases : SV) (vp2_draws : SV) (y0 : Int) (H : M_118z p0 p1 p2 = some y0) (K : Kp) (G : List Ent) (hp0_chans : Slr TyChan K (sv vp0_chans) p0.chans) (hp0_waiting : Slr TyWaiter K (sv vp0_waiting) p0.waiting) (hp2_cases : Slr TyCase K (sv vp2_cases) p2.cases) (hp2_draws : Slr Ty.i64 K (sv vp2_draws) p2.draws) :
  Fc Try.prog 19 #[(.agg (Desk.cells p0 vp0_chans vp0_waiting).toArray), (.int .i64 p1), (.agg (Op.cells p2 vp2_cases vp2_draws).toArray)] K (G) (fun v K' G' => v = (.int .i64 y0) ∧ G = G') := by
 refine Fc_body Try.func19 rfl Try.ntmps19 Try.results19 rfl ?_
 unfold M_118z at H
 refine Cw_seq ?_
 refine Cw_region ?_
 refine Ow_cons rfl (OpW_box (cs := (Desk.cells p0 vp0_chans vp0_waiting)) rfl rfl rfl (fun b92 => ?_))
 refine Ow_cons rfl (OpW_box (cs := (Op.cells p2 vp2_cases vp2_draws)) rfl rfl rfl (fun b93 => ?_))
 refine Ow_q rfl rfl rfl (Qt_assign rfl) ?_
 refine Ow_nil ?_
 refine Cw_seq ?_
 refine Cw_region ?_
 refine Ow_q rfl rfl rfl (Qt_loadA (m := 7) (cs := (Op.cells p2 vp2_cases vp2_draws)) rfl rfl rfl rfl ⟨rfl, Rdc.blk (.head _) rfl⟩) ?_
 obtain ⟨x94, hx95, H⟩ := bnd H
 refine Ow_cons rfl (OpW_call rfl Try.call26 rfl rfl (c_M_5z p2 vp2_cases vp2_draws x94 hx95 _ _ hp2_cases hp2_draws) ?_)
 rintro _ K98 _ hK99 ⟨v96, rs97, rfl, rfl, hs100⟩
 refine Ow_q rfl rfl rfl (Qt_assign rfl) ?_
 refine Ow_nil ?_
 refine Cw_join (fun env' K' G' => [] = env' ∧ G = G' ∧ M_175z = some y0) ?_ ?_
 ·skip
  refine Cw_seq ?_
  refine Cw_region ?_
  refine Ow_q rfl rfl rfl (Qt_assign rfl) ?_
  refine Ow_nil ?_
  refine Cw_block ?_
  refine Cw_loopM (fun n261 env' K' G' => ∃ (i260 : Int), [(1, (.int .i64 p1)), (3, (.pointer (some ((⟨b92, 0, none⟩ : Addr).add 0)))), (5, (.pointer (some ((⟨b93, 0, none⟩ : Addr).add 0)))), (7, (sv v96)), (8, (.int .i64 i260))] = env' ∧ (.blk b93 41 (Op.cells p2 vp2_cases vp2_draws)) :: (.blk b92 34 (Desk.cells p0 vp0_chans vp0_waiting)) :: (.row (sv v96) 3 1 rs97.flatten) :: G = G' ∧ lp1 (M_117z p1 x94 p2 p0) n261 i260 = some y0) BIG ?_ ?_
  ·skip
   refine Shift.pull (.there (.there .here)) ?_
   refine Shift.pull (.there (.there .here)) ?_
   refine Shift.done ?_
   exact ⟨[(1, (.int .i64 p1)), (3, (.pointer (some ((⟨b92, 0, none⟩ : Addr).add 0)))), (5, (.pointer (some ((⟨b93, 0, none⟩ : Addr).add 0)))), (7, (sv v96)), (8, (.int .i64 0))], ⟨rfl, rfl, rfl, rfl, rfl, trivial⟩, 0, rfl, rfl, H⟩
  rintro n261 _ K262 _ hK263 ⟨i260, rfl, rfl, H⟩
  obtain ⟨m264, k265, rfl, hkk266, H⟩ := lps1 H
  unfold M_117z at H
  refine Cw_seq ?_
  refine Cw_seq ?_
  refine Cw_region ?_
  refine Ow_q rfl rfl rfl (Qt_move rfl) ?_
  refine Ow_q rfl rfl rfl (Qt_move rfl) ?_
  have hs269 := (hs100).mono hK263
  refine Ow_q rfl rfl rfl (Q_lenR (T := Ty.i64) (.tail _ (.tail _ (.head _))) hs269 rfl rfl rfl) ?_
  refine Ow_q rfl rfl rfl (Qt_cmp rfl rfl rfl) ?_
  refine Ow_nil ?_
  refine Cw_cond rfl ?_ ?_
  ·intro h270
   have h270 := dcd_t (h270)
   have H := ift h270 H
   refine Cw_skip ?_
   refine Cw_seq ?_
   refine Cw_block ?_
   refine Cw_seq ?_
   obtain ⟨x306, hx307, H⟩ := bnd H
   obtain ⟨x311, hx312, H⟩ := bnd H
   obtain ⟨x317, hx318, H⟩ := bnd H
   refine Cw_region_any [.blk b93 41 (Op.cells p2 vp2_cases vp2_draws), .blk b92 34 (Desk.cells p0 vp0_chans vp0_waiting), .row (sv v96) 3 1 rs97.flatten] rfl (Inc.cons (.head _) (Inc.cons (.tail _ (.head _)) (Inc.cons (.tail _ (.tail _ (.head _))) Inc.nil))) ?_
   refine Aw_q 0 rfl (by kernel_rfl) (by kernel_rfl) (by kernel_rfl) rfl rfl rfl (Qt_loadA (m := 3) (cs := (Desk.cells p0 vp0_chans vp0_waiting)) rfl rfl rfl rfl ⟨rfl, Rdc.blk (.tail _ (.head _)) rfl⟩) ?_
   refine Aw_q 1 rfl (by kernel_rfl) (by kernel_rfl) (by kernel_rfl) rfl rfl rfl (Qt_move rfl) ?_
   refine Aw_q 2 rfl (by kernel_rfl) (by kernel_rfl) (by kernel_rfl) rfl rfl rfl (Qt_fieldAddr (m := 5) rfl rfl rfl rfl rfl) ?_
   refine Aw_q 3 rfl (by kernel_rfl) (by kernel_rfl) (by kernel_rfl) rfl rfl rfl (Qt_load1 (v := (sv vp2_cases)) rfl rfl rfl (Rdc.blk (.head _) rfl)) ?_
   refine Aw_q 4 rfl (by kernel_rfl) (by kernel_rfl) (by kernel_rfl) rfl rfl rfl (Qt_move rfl) ?_
   refine Aw_q 5 rfl (by kernel_rfl) (by kernel_rfl) (by kernel_rfl) rfl rfl rfl (Qt_move rfl) ?_
   obtain ⟨r323, hq324, hr325⟩ := RowR.at hs269 hx307
   obtain rfl := hr325
   refine Aw_q 6 rfl (by kernel_rfl) (by kernel_rfl) (by kernel_rfl) rfl rfl rfl (Q_ixR (T := Ty.i64) (.tail _ (.tail _ (.head _))) hs269 hq324 (getI_ix hx307).1 rfl rfl rfl rfl rfl) ?_
   refine Aw_q 7 rfl (by kernel_rfl) (by kernel_rfl) (by kernel_rfl) rfl rfl rfl (Qt_load1 (v := (.int .i64 x306)) rfl rfl rfl (Rd_row (T := Ty.i64) (.tail _ (.tail _ (.head _))) hs269 hq324 rfl rfl)) ?_
   have hs326 := ((hp2_cases).mono hK99).mono hK263
   obtain ⟨r327, hr328, hk329⟩ := Slr.at hs326 hx312
   obtain rfl := hr328
   refine Aw_q 8 rfl (by kernel_rfl) (by kernel_rfl) (by kernel_rfl) rfl rfl rfl (Q_ix (T := TyCase) hs326 hx312 rfl rfl rfl rfl rfl) ?_
   refine Aw_q 9 rfl (by kernel_rfl) (by kernel_rfl) (by kernel_rfl) rfl rfl rfl (Qt_loadA (m := 3) (cs := (Case.cells x311)) rfl rfl rfl rfl ⟨rfl, Rdc.k hk329 rfl⟩) ?_
   refine Aw_one 10 (by kernel_rfl) (Ax_mk rfl rfl ?_)
   have hs330 := ((hp0_chans).mono hK99).mono hK263
   have hs331 := ((hp0_waiting).mono hK99).mono hK263
   refine OpW_call rfl Try.call17 rfl rfl (c_M_6z p0 vp0_chans vp0_waiting p1 x311 x317 hx318 _ _ hs330 hs331) ?_
   rintro _ K332 _ hK333 ⟨rfl, rfl⟩
   refine ⟨(Inc.cons (.head _) (Inc.cons (.tail _ (.head _)) (Inc.cons (.tail _ (.tail _ (.head _))) Inc.nil))), ?_⟩
   refine Aw_done (by kernel_rfl) ?_
   refine Cw_cond rfl ?_ ?_
   ·intro h334
    have H := ift h334 H
    refine Cw_seq ?_
    refine Cw_region ?_
    refine Ow_q rfl rfl rfl (Qt_move rfl) ?_
    refine Ow_q rfl rfl rfl (Qt_move rfl) ?_
    obtain ⟨x335, hx336, H⟩ := bnd H
    have hs337 := (hs269).mono hK333
    obtain ⟨r338, hq339, hr340⟩ := RowR.at hs337 hx336
    obtain rfl := hr340
    refine Ow_q rfl rfl rfl (Q_ixR (T := Ty.i64) (.tail _ (.tail _ (.head _))) hs337 hq339 (getI_ix hx336).1 rfl rfl rfl rfl rfl) ?_
    refine Ow_q rfl rfl rfl (Qt_load1 (v := (.int .i64 x335)) rfl rfl rfl (Rd_row (T := Ty.i64) (.tail _ (.tail _ (.head _))) hs337 hq339 rfl rfl)) ?_
    refine Ow_q rfl rfl rfl (Qt_assign rfl) ?_
    refine Ow_nil ?_
    refine Cw_ret ?_
    obtain ey0 := inj1 H
    subst y0
    refine ⟨(by first | exact .inl rfl | exact .inr rfl), [(.int .i64 x335)], ⟨(.int .i64 x335), _, rfl, rfl, rfl⟩, ?_⟩
    refine Shift.rem .here ?_
    refine Shift.rem .here ?_
    refine Shift.rem .here ?_
    refine Shift.done ?_
    exact ⟨rfl, rfl⟩
   ·intro h334
    have H := iff_ (btf h334) H
    refine Cw_skip ?_
    refine Cw_region ?_
    refine Ow_q rfl rfl rfl (Qt_move rfl) ?_
    refine Ow_q rfl rfl rfl (Qt_arith (e := wI (i260 + 1)) rfl rfl rfl rfl) ?_
    refine Ow_q rfl rfl rfl (Qt_assign rfl) ?_
    refine Ow_nil ?_
    refine Shift.pull (.there (.there .here)) ?_
    refine Shift.pull (.there (.there .here)) ?_
    refine Shift.pull (.there (.there .here)) ?_
    refine Shift.done ?_
    exact ⟨[(1, (.int .i64 p1)), (3, (.pointer (some ((⟨b92, 0, none⟩ : Addr).add 0)))), (5, (.pointer (some ((⟨b93, 0, none⟩ : Addr).add 0)))), (7, (sv v96)), (8, (.int .i64 (wI (i260 + 1))))], ⟨rfl, rfl, rfl, rfl, rfl, trivial⟩, _, Nat.lt_succ_self _, (wI (i260 + 1)), rfl, rfl, (hkk266 ▸ H)⟩
  ·intro h270
   have h270 := dcd_f (h270)
   have H := iff_ h270 H
   refine Cw_exit ?_
   refine Shift.rem .here ?_
   refine Shift.rem .here ?_
   refine Shift.rem .here ?_
   refine Shift.done ?_
   exact ⟨[], trivial, rfl, rfl, H⟩
 rintro _ K341 _ hK342 ⟨rfl, rfl, H⟩
 unfold M_175z at H
 refine Cw_seq ?_
 refine Cw_region ?_
 refine Ow_q rfl rfl rfl (Qt_assign rfl) ?_
 refine Ow_nil ?_
 refine Cw_ret ?_
 obtain ey0 := inj1 H
 subst y0
 refine ⟨(by first | exact .inl rfl | exact .inr rfl), [(.int .i64 (-1))], ⟨(.int .i64 (-1)), _, rfl, rfl, rfl⟩, ?_⟩
 refine Shift.done ?_
 exact ⟨rfl, rfl⟩

set_option maxHeartbeats 1000000 in
theorem c_M_119z (p0 : Desk) (vp0_chans : SV) (vp0_waiting : SV) (p1 : Int) (p2 : Op) (vp2_cases : SV) (vp2_draws : SV) (p3 : Int) (p4 : Case) (y0 : Desk) (y1 : List Done) (H : M_119z p0 p1 p2 p3 p4 = some (y0, y1)) (K : Kp) (G : List Ent) (hp0_chans : Slr TyChan K (sv vp0_chans) p0.chans) (hp0_waiting : Slr TyWaiter K (sv vp0_waiting) p0.waiting) (hp2_cases : Slr TyCase K (sv vp2_cases) p2.cases) (hp2_draws : Slr Ty.i64 K (sv vp2_draws) p2.draws) :
  Fc Try.prog 64 #[(.agg (Desk.cells p0 vp0_chans vp0_waiting).toArray), (.int .i64 p1), (.agg (Op.cells p2 vp2_cases vp2_draws).toArray), (.int .i64 p3), (.agg (Case.cells p4).toArray)] K (G) (fun v K' G' => ∃ (wy0_chans : SV) (wy0_waiting : SV) (wy1 : SV), v = (.tuple #[(.agg (Desk.cells y0 wy0_chans wy0_waiting).toArray), (sv wy1)]) ∧ (.tok 75 6 [(sv wy1)]) :: G = G' ∧ Slr TyChan K' (sv wy0_chans) y0.chans ∧ Slr TyWaiter K' (sv wy0_waiting) y0.waiting ∧ Slr TyDone K' (sv wy1) y1) := by
 refine Fc_body Try.func64 rfl Try.ntmps64 Try.results64 rfl ?_
 unfold M_119z at H
 refine Cw_seq ?_
 refine Cw_region ?_
 refine Ow_cons rfl (OpW_box (cs := (Desk.cells p0 vp0_chans vp0_waiting)) rfl rfl rfl (fun b337 => ?_))
 refine Ow_cons rfl (OpW_box (cs := (Op.cells p2 vp2_cases vp2_draws)) rfl rfl rfl (fun b338 => ?_))
 refine Ow_cons rfl (OpW_box (cs := (Case.cells p4)) rfl rfl rfl (fun b339 => ?_))
 refine Ow_cons rfl (OpW_alloc (cs := (Desk.cells (Desk.mk [] [] 0) nilS nilS)) rfl rfl rfl rfl (fun b340 => ?_))
 refine Ow_q rfl rfl rfl (Qt_assign rfl) ?_
 refine Ow_nil ?_
 refine Cw_seq ?_
 refine Cw_region ?_
 refine Ow_q rfl rfl rfl (Qt_fieldAddr (m := 0) rfl rfl rfl rfl rfl) ?_
 refine Ow_q rfl rfl rfl (Qt_load1 (v := (sv vp0_chans)) rfl rfl rfl (Rdc.blk (.tail _ (.tail _ (.tail _ (.head _)))) rfl)) ?_
 refine Ow_q rfl rfl rfl (Qt_fieldAddr (m := 1) rfl rfl rfl rfl rfl) ?_
 refine Ow_q rfl rfl rfl (Qt_load1 (v := (.int .i64 p4.channel)) rfl rfl rfl (Rdc.blk (.tail _ (.head _)) rfl)) ?_
 obtain ⟨x341, hx342, H⟩ := bnd H
 obtain ⟨r343, hr344, hk345⟩ := Slr.at hp0_chans hx342
 obtain ⟨v346, rfl, hs347⟩ := hr344
 refine Ow_q rfl rfl rfl (Q_ix (T := TyChan) hp0_chans hx342 rfl rfl rfl rfl rfl) ?_
 refine Ow_q rfl rfl rfl (Qt_loadA (m := 3) (cs := (Chan.cells x341 v346)) rfl rfl rfl rfl ⟨rfl, Rdc.k hk345 rfl⟩) ?_
 refine Ow_cons rfl (OpW_alloc (cs := (Chan.cells (Chan.mk 0 [] false) nilS)) rfl rfl rfl rfl (fun b348 => ?_))
 refine Ow_cons rfl (OpW_store (vs := (Chan.cells x341 v346)) (all' := (Chan.cells x341 v346)) rfl rfl rfl rfl rfl .here rfl rfl rfl ?_)
 refine Ow_nil ?_
 refine Cw_seq ?_
 refine Cw_region ?_
 refine Ow_q rfl rfl rfl (Qt_loadA (m := 7) (cs := (Op.cells p2 vp2_cases vp2_draws)) rfl rfl rfl rfl ⟨rfl, Rdc.blk (.tail _ (.tail _ (.tail _ (.head _)))) rfl⟩) ?_
 refine Ow_q rfl rfl rfl (Qt_move rfl) ?_
 obtain ⟨x349, hx350, H⟩ := bnd H
 refine Ow_cons rfl (OpW_call rfl Try.call85 rfl rfl (c_M_19z p2 vp2_cases vp2_draws p3 x349 hx350 _ _ hp2_cases hp2_draws) ?_)
 rintro _ _ _ - ⟨rfl, rfl, rfl⟩
 refine Ow_q rfl rfl rfl (Qt_assign rfl) ?_
 refine Ow_nil ?_
 refine Cw_seq ?_
 refine Cw_region ?_
 refine Ow_q rfl rfl rfl (Qt_loadA (m := 3) (cs := (Desk.cells p0 vp0_chans vp0_waiting)) rfl rfl rfl rfl ⟨rfl, Rdc.blk (.tail _ (.tail _ (.tail _ (.tail _ (.head _))))) rfl⟩) ?_
 refine Ow_q rfl rfl rfl (Qt_move rfl) ?_
 refine Ow_q rfl rfl rfl (Qt_loadA (m := 3) (cs := (Case.cells p4)) rfl rfl rfl rfl ⟨rfl, Rdc.blk (.tail _ (.tail _ (.head _))) rfl⟩) ?_
 obtain ⟨x351, hx352, H⟩ := bnd H
 refine Ow_cons rfl (OpW_call rfl Try.call42 rfl rfl (c_M_63z p0 vp0_chans vp0_waiting p1 p4 x351 hx352 _ _ hp0_chans hp0_waiting) ?_)
 rintro _ K353 _ hK354 ⟨rfl, rfl⟩
 refine Ow_q rfl rfl rfl (Qt_assign rfl) ?_
 refine Ow_nil ?_
 refine Cw_seq ?_
 refine Cw_seq ?_
 refine Cw_region ?_
 refine Ow_q rfl rfl rfl (Qt_fieldAddr (m := 0) rfl rfl rfl rfl rfl) ?_
 refine Ow_q rfl rfl rfl (Qt_load1 (v := (.bool p4.send)) rfl rfl rfl (Rdc.blk (.tail _ (.tail _ (.head _))) rfl)) ?_
 refine Ow_nil ?_
 refine Cw_cond rfl ?_ ?_
 ·intro h487
  have H := ift h487 H
  refine Cw_seq ?_
  refine Cw_seq ?_
  refine Cw_region ?_
  refine Ow_q rfl rfl rfl (Qt_fieldAddr (m := 2) rfl rfl rfl rfl rfl) ?_
  refine Ow_q rfl rfl rfl (Qt_load1 (v := (.bool x341.closed)) rfl rfl rfl (Rdc.blk (.head _) rfl)) ?_
  refine Ow_nil ?_
  refine Cw_cond rfl ?_ ?_
  ·intro h491
   have H := ift h491 H
   refine Cw_seq ?_
   refine Cw_region ?_
   refine Ow_q rfl rfl rfl (Qt_loadA (m := 3) (cs := (Desk.cells p0 vp0_chans vp0_waiting)) rfl rfl rfl rfl ⟨rfl, Rdc.blk (.tail _ (.tail _ (.tail _ (.tail _ (.head _))))) rfl⟩) ?_
   refine Ow_q rfl rfl rfl (Qt_move rfl) ?_
   refine Ow_q rfl rfl rfl (Qt_move rfl) ?_
   refine Ow_q rfl rfl rfl (Qt_build (cs := (Result.cells (Result.mk 5 x349 0 false 0))) rfl rfl rfl rfl rfl rfl) ?_
   refine Ow_q rfl rfl rfl (Qt_build (cs := (Done.cells (Done.mk p1 (Result.mk 5 x349 0 false 0)))) rfl rfl rfl rfl rfl rfl) ?_
   have hR493 : RowR TyDone K353 [(Done.cells (Done.mk p1 (Result.mk 5 x349 0 false 0)))] [(Done.mk p1 (Result.mk 5 x349 0 false 0))] := RowR.cons rfl (RowR.nil)
   refine Ow_cons rfl (O_lit (T := TyDone) (rows := [(Done.cells (Done.mk p1 (Result.mk 5 x349 0 false 0)))]) (l := [(Done.mk p1 (Result.mk 5 x349 0 false 0))]) rfl rfl rfl hR493 rfl rfl rfl rfl rfl rfl rfl rfl (fun v492 => ?_))
   refine Ow_cons rfl (OpW_store (vs := (Desk.cells p0 vp0_chans vp0_waiting)) (all' := (Desk.cells p0 vp0_chans vp0_waiting)) rfl rfl rfl rfl rfl (.there (.there .here)) rfl rfl rfl ?_)
   refine Ow_q rfl rfl rfl (Qt_assign rfl) ?_
   refine Ow_nil ?_
   refine Cw_ret ?_
   obtain ⟨ey0, ey1⟩ := inj2 H
   subst y0 y1
   refine ⟨(by first | exact .inl rfl | exact .inr rfl), [(.agg (Desk.cells p0 vp0_chans vp0_waiting).toArray), (sv v492)], ⟨(.agg (Desk.cells p0 vp0_chans vp0_waiting).toArray), _, rfl, ⟨_, 3, (Desk.cells p0 vp0_chans vp0_waiting), rfl, rfl, rfl, rfl, ⟨rfl, Rdc.blk (.tail _ (.tail _ (.head _))) rfl⟩, rfl⟩, ⟨(sv v492), _, rfl, rfl, rfl⟩⟩, ?_⟩
   refine Shift.settle (T := TyDone) .here hR493 rfl ?_
   intro K494 hK495 hs496
   refine Shift.rem (.there .here) ?_
   refine Shift.rem (.there .here) ?_
   refine Shift.rem (.there .here) ?_
   refine Shift.rem (.there .here) ?_
   refine Shift.rem (.there .here) ?_
   have hs497 := ((hp0_chans).mono hK354).mono hK495
   have hs498 := ((hp0_waiting).mono hK354).mono hK495
   refine Shift.done ?_
   exact ⟨vp0_chans, vp0_waiting, v492, rfl, rfl, hs497, hs498, hs496⟩
  ·intro h491
   have H := iff_ (btf h491) H
   refine Cw_skip ?_
   refine Cw_seq ?_
   refine Cw_region ?_
   refine Ow_q rfl rfl rfl (Qt_move rfl) ?_
   refine Ow_q rfl rfl rfl (Qt_move rfl) ?_
   refine Ow_q rfl rfl rfl (Qt_build (cs := (Result.cells (Result.mk 1 x349 0 false 0))) rfl rfl rfl rfl rfl rfl) ?_
   refine Ow_q rfl rfl rfl (Qt_build (cs := (Done.cells (Done.mk p1 (Result.mk 1 x349 0 false 0)))) rfl rfl rfl rfl rfl rfl) ?_
   have hR500 : RowR TyDone K353 [(Done.cells (Done.mk p1 (Result.mk 1 x349 0 false 0)))] [(Done.mk p1 (Result.mk 1 x349 0 false 0))] := RowR.cons rfl (RowR.nil)
   refine Ow_cons rfl (O_lit (T := TyDone) (rows := [(Done.cells (Done.mk p1 (Result.mk 1 x349 0 false 0)))]) (l := [(Done.mk p1 (Result.mk 1 x349 0 false 0))]) rfl rfl rfl hR500 rfl rfl rfl rfl rfl rfl rfl rfl (fun v499 => ?_))
   refine Ow_q rfl rfl rfl (Qt_assign rfl) ?_
   refine Ow_nil ?_
   refine Cw_seq ?_
   refine Cw_seq ?_
   refine Cw_region ?_
   refine Ow_q rfl rfl rfl (Qt_move rfl) ?_
   refine Ow_q rfl rfl rfl (Qt_cmp rfl rfl rfl) ?_
   refine Ow_nil ?_
   refine Cw_cond rfl ?_ ?_
   ·intro h563
    have h563 := dcd_t (h563)
    have H := ift h563 H
    refine Cw_seq ?_
    refine Cw_region ?_
    refine Ow_q rfl rfl rfl (Qt_fieldAddr (m := 1) rfl rfl rfl rfl rfl) ?_
    refine Ow_q rfl rfl rfl (Qt_load1 (v := (sv vp0_waiting)) rfl rfl rfl (Rdc.blk (.tail _ (.tail _ (.tail _ (.tail _ (.tail _ (.head _)))))) rfl)) ?_
    refine Ow_q rfl rfl rfl (Qt_move rfl) ?_
    obtain ⟨x564, hx565, H⟩ := bnd H
    have hs566 := (hp0_waiting).mono hK354
    obtain ⟨r567, hr568, hk569⟩ := Slr.at hs566 hx565
    obtain ⟨v570, v571, rfl, hs572, hs573⟩ := hr568
    refine Ow_q rfl rfl rfl (Q_ix (T := TyWaiter) hs566 hx565 rfl rfl rfl rfl rfl) ?_
    refine Ow_q rfl rfl rfl (Qt_loadA (m := 8) (cs := (Waiter.cells x564 v570 v571)) rfl rfl rfl rfl ⟨rfl, Rdc.k hk569 rfl⟩) ?_
    refine Ow_cons rfl (OpW_alloc (cs := (Waiter.cells (Waiter.mk 0 (Op.mk 0 0 0 0 0 [] [])) nilS nilS)) rfl rfl rfl rfl (fun b574 => ?_))
    refine Ow_cons rfl (OpW_store (vs := (Waiter.cells x564 v570 v571)) (all' := (Waiter.cells x564 v570 v571)) rfl rfl rfl rfl rfl .here rfl rfl rfl ?_)
    refine Ow_nil ?_
    refine Cw_seq ?_
    obtain ⟨x625, hx626, H⟩ := bnd H
    obtain ⟨x634, hx635, H⟩ := bnd H
    obtain ⟨x640, hx641, H⟩ := bnd H
    obtain ⟨x648, hx649, H⟩ := bnd H
    refine Cw_region_any [.blk b574 52 (Waiter.cells x564 v570 v571), .blk b348 71 (Chan.cells x341 v346), .blk b339 45 (Case.cells p4), .blk b338 41 (Op.cells p2 vp2_cases vp2_draws), .blk b337 34 (Desk.cells p0 vp0_chans vp0_waiting)] rfl (Inc.cons (.head _) (Inc.cons (.tail _ (.tail _ (.head _))) (Inc.cons (.tail _ (.tail _ (.tail _ (.tail _ (.head _))))) (Inc.cons (.tail _ (.tail _ (.tail _ (.tail _ (.tail _ (.head _)))))) (Inc.cons (.tail _ (.tail _ (.tail _ (.tail _ (.tail _ (.tail _ (.head _))))))) Inc.nil))))) ?_
    refine Aw_q 0 rfl (by kernel_rfl) (by kernel_rfl) (by kernel_rfl) rfl rfl rfl (Qt_loadA (m := 3) (cs := (Desk.cells p0 vp0_chans vp0_waiting)) rfl rfl rfl rfl ⟨rfl, Rdc.blk (.tail _ (.tail _ (.tail _ (.tail _ (.head _))))) rfl⟩) ?_
    refine Aw_q 1 rfl (by kernel_rfl) (by kernel_rfl) (by kernel_rfl) rfl rfl rfl (Qt_move rfl) ?_
    refine Aw_q 3 rfl (by kernel_rfl) (by kernel_rfl) (by kernel_rfl) rfl rfl rfl (Qt_move rfl) ?_
    refine Aw_q 4 rfl (by kernel_rfl) (by kernel_rfl) (by kernel_rfl) rfl rfl rfl (Qt_fieldAddr (m := 0) rfl rfl rfl rfl rfl) ?_
    refine Aw_q 5 rfl (by kernel_rfl) (by kernel_rfl) (by kernel_rfl) rfl rfl rfl (Qt_load1 (v := (.int .i64 x564.thread)) rfl rfl rfl (Rdc.blk (.head _) rfl)) ?_
    refine Aw_q 6 rfl (by kernel_rfl) (by kernel_rfl) (by kernel_rfl) rfl rfl rfl (Qt_fieldAddr (m := 1) rfl rfl rfl rfl rfl) ?_
    refine Aw_q 7 rfl (by kernel_rfl) (by kernel_rfl) (by kernel_rfl) rfl rfl rfl (Qt_loadA (m := 7) (cs := (Op.cells x564.op v570 v571)) rfl rfl rfl rfl ⟨rfl, Rdc.blk (.head _) rfl⟩) ?_
    refine Aw_q 8 rfl (by kernel_rfl) (by kernel_rfl) (by kernel_rfl) rfl rfl rfl (Qt_fieldAddr (m := 1) rfl rfl rfl rfl rfl) ?_
    refine Aw_q 9 rfl (by kernel_rfl) (by kernel_rfl) (by kernel_rfl) rfl rfl rfl (Qt_loadA (m := 7) (cs := (Op.cells x564.op v570 v571)) rfl rfl rfl rfl ⟨rfl, Rdc.blk (.head _) rfl⟩) ?_
    refine Aw_q 10 rfl (by kernel_rfl) (by kernel_rfl) (by kernel_rfl) rfl rfl rfl (Qt_fieldAddr (m := 1) rfl rfl rfl rfl rfl) ?_
    refine Aw_q 11 rfl (by kernel_rfl) (by kernel_rfl) (by kernel_rfl) rfl rfl rfl (Qt_load1 (v := (.int .i64 p4.channel)) rfl rfl rfl (Rdc.blk (.tail _ (.tail _ (.head _))) rfl)) ?_
    refine Aw_q 14 rfl (by kernel_rfl) (by kernel_rfl) (by kernel_rfl) rfl rfl rfl (Qt_fieldAddr (m := 2) rfl rfl rfl rfl rfl) ?_
    refine Aw_q 15 rfl (by kernel_rfl) (by kernel_rfl) (by kernel_rfl) rfl rfl rfl (Qt_load1 (v := (.int .u64 p4.value)) rfl rfl rfl (Rdc.blk (.tail _ (.tail _ (.head _))) rfl)) ?_
    refine Aw_one 2 (by kernel_rfl) (Ax_mk rfl rfl ?_)
    have hs654 := (hp0_chans).mono hK354
    refine OpW_call rfl Try.call60 rfl rfl (c_M_3z p0 vp0_chans vp0_waiting x351 x625 hx626 _ _ hs654 hs566) ?_
    rintro _ K657 _ hK658 ⟨v655, v656, rfl, rfl, hs659, hs660⟩
    refine ⟨(Inc.cons (.tail _ (.head _)) (Inc.cons (.tail _ (.tail _ (.tail _ (.head _)))) (Inc.cons (.tail _ (.tail _ (.tail _ (.tail _ (.tail _ (.head _)))))) (Inc.cons (.tail _ (.tail _ (.tail _ (.tail _ (.tail _ (.tail _ (.head _))))))) (Inc.cons (.tail _ (.tail _ (.tail _ (.tail _ (.tail _ (.tail _ (.tail _ (.head _)))))))) Inc.nil))))), ?_⟩
    refine Aw_one 12 (by kernel_rfl) (Ax_mk rfl rfl ?_)
    have hs661 := (hs572).mono hK658
    have hs662 := (hs573).mono hK658
    refine OpW_call rfl Try.call72 rfl rfl (c_M_18z x564.op v570 v571 p4.channel false x634 hx635 _ _ hs661 hs662) ?_
    rintro _ K663 _ hK664 ⟨rfl, rfl⟩
    refine ⟨(Inc.cons (.tail _ (.head _)) (Inc.cons (.tail _ (.tail _ (.tail _ (.head _)))) (Inc.cons (.tail _ (.tail _ (.tail _ (.tail _ (.tail _ (.head _)))))) (Inc.cons (.tail _ (.tail _ (.tail _ (.tail _ (.tail _ (.tail _ (.head _))))))) (Inc.cons (.tail _ (.tail _ (.tail _ (.tail _ (.tail _ (.tail _ (.tail _ (.head _)))))))) Inc.nil))))), ?_⟩
    refine Aw_one 13 (by kernel_rfl) (Ax_mk rfl rfl ?_)
    have hs665 := (hs661).mono hK664
    have hs666 := (hs662).mono hK664
    refine OpW_call rfl Try.call85 rfl rfl (c_M_19z x564.op v570 v571 x634 x640 hx641 _ _ hs665 hs666) ?_
    rintro _ _ _ - ⟨rfl, rfl, rfl⟩
    refine ⟨(Inc.cons (.tail _ (.head _)) (Inc.cons (.tail _ (.tail _ (.tail _ (.head _)))) (Inc.cons (.tail _ (.tail _ (.tail _ (.tail _ (.tail _ (.head _)))))) (Inc.cons (.tail _ (.tail _ (.tail _ (.tail _ (.tail _ (.tail _ (.head _))))))) (Inc.cons (.tail _ (.tail _ (.tail _ (.tail _ (.tail _ (.tail _ (.tail _ (.head _)))))))) Inc.nil))))), ?_⟩
    refine Aw_q 16 rfl (by kernel_rfl) (by kernel_rfl) (by kernel_rfl) rfl rfl rfl (Qt_build (cs := (Result.cells (Result.mk 2 x640 p4.value true 0))) rfl rfl rfl rfl rfl rfl) ?_
    refine Aw_one 17 (by kernel_rfl) (Ax_mk rfl rfl ?_)
    have hs670 := ((hR500).mono hK658).mono hK664
    refine OpW.shift (Shift.settle (T := TyDone) (.there (.there .here)) hs670 rfl (fun K667 hK668 hs669 => Shift.done ?_))
    refine OpW_call rfl Try.call61 rfl rfl (c_M_14z [(Done.mk p1 (Result.mk 1 x349 0 false 0))] v499 x564.thread (Result.mk 2 x640 p4.value true 0) x648 hx649 _ _ hs669) ?_
    rintro _ K672 _ hK673 ⟨v671, rfl, rfl, hs674⟩
    refine ⟨(Inc.cons (.tail _ (.tail _ (.head _))) (Inc.cons (.tail _ (.tail _ (.tail _ (.tail _ (.head _))))) (Inc.cons (.tail _ (.tail _ (.tail _ (.tail _ (.tail _ (.tail _ (.head _))))))) (Inc.cons (.tail _ (.tail _ (.tail _ (.tail _ (.tail _ (.tail _ (.tail _ (.head _)))))))) (Inc.cons (.tail _ (.tail _ (.tail _ (.tail _ (.tail _ (.tail _ (.tail _ (.tail _ (.head _))))))))) Inc.nil))))), ?_⟩
    refine Aw_one 18 (by kernel_rfl) (Ax_mk rfl rfl ?_)
    refine OpW_store (vs := (Desk.cells x625 v655 v656)) (all' := (Desk.cells x625 v655 v656)) rfl rfl rfl rfl rfl (.there (.there (.there (.there (.there .here))))) rfl rfl rfl ⟨(Inc.cons (.tail _ (.tail _ (.head _))) (Inc.cons (.tail _ (.tail _ (.tail _ (.tail _ (.head _))))) (Inc.cons (.tail _ (.tail _ (.tail _ (.tail _ (.tail _ (.tail _ (.head _))))))) (Inc.cons (.tail _ (.tail _ (.tail _ (.tail _ (.tail _ (.tail _ (.tail _ (.head _)))))))) (Inc.cons (.tail _ (.tail _ (.tail _ (.tail _ (.tail _ (.tail _ (.tail _ (.tail _ (.head _))))))))) Inc.nil))))), ?_⟩
    refine Aw_q 19 rfl (by kernel_rfl) (by kernel_rfl) (by kernel_rfl) rfl rfl rfl (Qt_assign rfl) ?_
    refine Aw_done (by kernel_rfl) ?_
    refine Cw_ret ?_
    obtain ⟨ey0, ey1⟩ := inj2 H
    subst y0 y1
    refine ⟨(by first | exact .inl rfl | exact .inr rfl), [(.agg (Desk.cells x625 v655 v656).toArray), (sv v671)], ⟨(.agg (Desk.cells x625 v655 v656).toArray), _, rfl, ⟨_, 3, (Desk.cells x625 v655 v656), rfl, rfl, rfl, rfl, ⟨rfl, Rdc.blk (.tail _ (.tail _ (.tail _ (.tail _ (.tail _ (.head _)))))) rfl⟩, rfl⟩, ⟨(sv v671), _, rfl, rfl, rfl⟩⟩, ?_⟩
    refine Shift.rem (.there .here) ?_
    refine Shift.rem (.there .here) ?_
    refine Shift.rem (.there .here) ?_
    refine Shift.rem (.there .here) ?_
    refine Shift.rem (.there .here) ?_
    refine Shift.rem (.there .here) ?_
    refine Shift.rem (.there .here) ?_
    refine Shift.rem (.there .here) ?_
    have hs675 := (((hs659).mono hK664).mono hK668).mono hK673
    have hs676 := (((hs660).mono hK664).mono hK668).mono hK673
    refine Shift.done ?_
    exact ⟨v655, v656, v671, rfl, rfl, hs675, hs676, hs674⟩
   ·intro h563
    have h563 := dcd_f (h563)
    have H := iff_ h563 H
    refine Cw_skip ?_
    refine Cw_join (fun env' K' G' => ∃ (v727 : SV) (l728 : List Int), [(5, (.pointer (some ((⟨b337, 0, none⟩ : Addr).add 0)))), (9, (.pointer (some ((⟨b339, 0, none⟩ : Addr).add 0)))), (10, (.pointer (some ((⟨b340, 0, none⟩ : Addr).add 0)))), (12, (.pointer (some ((⟨b348, 0, none⟩ : Addr).add 0)))), (15, (sv v499))] = env' ∧ (.blk b348 71 (Chan.cells (Chan.mk x341.capacity l728 x341.closed) v727)) :: (.blk b340 34 (Desk.cells (Desk.mk [] [] 0) nilS nilS)) :: (.blk b339 45 (Case.cells p4)) :: (.blk b337 34 (Desk.cells p0 vp0_chans vp0_waiting)) :: (.tok 38 1 [(sv v727)]) :: (.row (sv v499) 75 6 [(Done.cells (Done.mk p1 (Result.mk 1 x349 0 false 0)))].flatten) :: G = G' ∧ M_159z p1 x349 x341 p4 p0 l728 = some (y0, y1) ∧ Slr Ty.u64 K' (sv v727) l728) ?_ ?_
    ·skip
     obtain ⟨x730, hx731, H⟩ := bnd H
     obtain ⟨x739, hx740, H⟩ := bnd H
     refine Cw_region_any [.row (sv v499) 75 6 [(Done.cells (Done.mk p1 (Result.mk 1 x349 0 false 0)))].flatten, .blk b340 34 (Desk.cells (Desk.mk [] [] 0) nilS nilS), .blk b339 45 (Case.cells p4), .blk b338 41 (Op.cells p2 vp2_cases vp2_draws), .blk b337 34 (Desk.cells p0 vp0_chans vp0_waiting)] rfl (Inc.cons (.head _) (Inc.cons (.tail _ (.tail _ (.head _))) (Inc.cons (.tail _ (.tail _ (.tail _ (.head _)))) (Inc.cons (.tail _ (.tail _ (.tail _ (.tail _ (.head _))))) (Inc.cons (.tail _ (.tail _ (.tail _ (.tail _ (.tail _ (.head _)))))) Inc.nil))))) ?_
     refine Aw_q 0 rfl (by kernel_rfl) (by kernel_rfl) (by kernel_rfl) rfl rfl rfl (Qt_fieldAddr (m := 1) rfl rfl rfl rfl rfl) ?_
     refine Aw_q 3 rfl (by kernel_rfl) (by kernel_rfl) (by kernel_rfl) rfl rfl rfl (Qt_fieldAddr (m := 2) rfl rfl rfl rfl rfl) ?_
     refine Aw_q 4 rfl (by kernel_rfl) (by kernel_rfl) (by kernel_rfl) rfl rfl rfl (Qt_load1 (v := (.int .u64 p4.value)) rfl rfl rfl (Rdc.blk (.tail _ (.tail _ (.head _))) rfl)) ?_
     refine Aw_two 1 5 (by kernel_rfl) ?_ ?_
     ·skip
      refine id (Ax_mk rfl rfl (OpW_of_Qt rfl rfl (Qt_load1 (v := (sv v346)) rfl rfl rfl (Rdc.blk (.tail _ (.head _)) rfl)) ⟨(Inc.cons (.head _) (Inc.cons (.tail _ (.tail _ (.head _))) (Inc.cons (.tail _ (.tail _ (.tail _ (.head _)))) (Inc.cons (.tail _ (.tail _ (.tail _ (.tail _ (.head _))))) (Inc.cons (.tail _ (.tail _ (.tail _ (.tail _ (.tail _ (.head _)))))) Inc.nil))))), ?_⟩))
      refine Aw_two 2 5 (by kernel_rfl) ?_ ?_
      ·skip
       refine id (Ax_mk rfl rfl ?_)
       refine OpW.shift (Shift.nilTok1 38 1 (Shift.done ?_))
       have hs745 := (hs347).mono hK354
       refine O_appTok (T := Ty.u64) (bytes := 8) (q := 0) rfl rfl rfl (Slr.nil Ty.u64 _) (.head _) rfl (SrcT.sl hs745) hx731 rfl rfl rfl rfl rfl rfl rfl rfl (fun v746 K747 hK748 hs749 => ⟨_, .here, ⟨(Inc.cons (.tail _ (.head _)) (Inc.cons (.tail _ (.tail _ (.tail _ (.head _)))) (Inc.cons (.tail _ (.tail _ (.tail _ (.tail _ (.head _))))) (Inc.cons (.tail _ (.tail _ (.tail _ (.tail _ (.tail _ (.head _)))))) (Inc.cons (.tail _ (.tail _ (.tail _ (.tail _ (.tail _ (.tail _ (.head _))))))) Inc.nil))))), ?_⟩⟩)
       refine Aw_one 5 (by kernel_rfl) (Ax_mk rfl rfl ?_)
       have hR751 : RowR Ty.u64 K747 [[(.int .u64 p4.value)]] [p4.value] := RowR.cons rfl (RowR.nil)
       refine O_lit (T := Ty.u64) (rows := [[(.int .u64 p4.value)]]) (l := [p4.value]) rfl rfl rfl hR751 rfl rfl rfl rfl rfl rfl rfl rfl (fun v750 => ⟨(Inc.cons (.tail _ (.tail _ (.head _))) (Inc.cons (.tail _ (.tail _ (.tail _ (.tail _ (.head _))))) (Inc.cons (.tail _ (.tail _ (.tail _ (.tail _ (.tail _ (.head _)))))) (Inc.cons (.tail _ (.tail _ (.tail _ (.tail _ (.tail _ (.tail _ (.head _))))))) (Inc.cons (.tail _ (.tail _ (.tail _ (.tail _ (.tail _ (.tail _ (.tail _ (.head _)))))))) Inc.nil))))), ?_⟩)
       refine Aw_one 6 (by kernel_rfl) (Ax_mk rfl rfl ?_)
       refine O_appTok (T := Ty.u64) (bytes := 8) (q := 0) rfl rfl rfl hs749 (.tail _ (.head _)) rfl (SrcT.row (.head _) hR751 rfl) hx740 rfl rfl rfl rfl rfl rfl rfl rfl (fun v752 K753 hK754 hs755 => ⟨_, (.there .here), ⟨(Inc.cons (.tail _ (.tail _ (.head _))) (Inc.cons (.tail _ (.tail _ (.tail _ (.tail _ (.head _))))) (Inc.cons (.tail _ (.tail _ (.tail _ (.tail _ (.tail _ (.head _)))))) (Inc.cons (.tail _ (.tail _ (.tail _ (.tail _ (.tail _ (.tail _ (.head _))))))) (Inc.cons (.tail _ (.tail _ (.tail _ (.tail _ (.tail _ (.tail _ (.tail _ (.head _)))))))) Inc.nil))))), ?_⟩⟩)
       refine Aw.shift (Shift.rem .here (Shift.done ⟨(Inc.cons (.tail _ (.head _)) (Inc.cons (.tail _ (.tail _ (.tail _ (.head _)))) (Inc.cons (.tail _ (.tail _ (.tail _ (.tail _ (.head _))))) (Inc.cons (.tail _ (.tail _ (.tail _ (.tail _ (.tail _ (.head _)))))) (Inc.cons (.tail _ (.tail _ (.tail _ (.tail _ (.tail _ (.tail _ (.head _))))))) Inc.nil))))), ?_⟩))
       refine Aw_q 7 rfl (by kernel_rfl) (by kernel_rfl) (by kernel_rfl) rfl rfl rfl (Qt_fieldAddr (m := 1) rfl rfl rfl rfl rfl) ?_
       refine Aw_one 8 (by kernel_rfl) (Ax_mk rfl rfl ?_)
       refine OpW_store (vs := [(sv v752)]) (all' := (Chan.cells (Chan.mk x341.capacity x739 x341.closed) v752)) rfl rfl rfl rfl rfl (.there (.there .here)) rfl rfl rfl ⟨(Inc.cons (.tail _ (.head _)) (Inc.cons (.tail _ (.tail _ (.tail _ (.head _)))) (Inc.cons (.tail _ (.tail _ (.tail _ (.tail _ (.head _))))) (Inc.cons (.tail _ (.tail _ (.tail _ (.tail _ (.tail _ (.head _)))))) (Inc.cons (.tail _ (.tail _ (.tail _ (.tail _ (.tail _ (.tail _ (.head _))))))) Inc.nil))))), ?_⟩
       refine Aw_done (by kernel_rfl) ?_
       refine Shift.pull (.there .here) ?_
       refine Shift.pull (.there .here) ?_
       refine Shift.pull (.there (.there (.there (.there (.there (.there .here)))))) ?_
       refine Shift.pull (.there (.there (.there (.there (.there .here))))) ?_
       refine Shift.pull (.there (.there (.there (.there (.there .here))))) ?_
       refine Shift.pull (.there (.there (.there (.there (.there .here))))) ?_
       refine Shift.rem (.there (.there (.there (.there (.there (.there .here)))))) ?_
       refine Shift.done ?_
       exact ⟨[(5, (.pointer (some ((⟨b337, 0, none⟩ : Addr).add 0)))), (9, (.pointer (some ((⟨b339, 0, none⟩ : Addr).add 0)))), (10, (.pointer (some ((⟨b340, 0, none⟩ : Addr).add 0)))), (12, (.pointer (some ((⟨b348, 0, none⟩ : Addr).add 0)))), (15, (sv v499))], ⟨rfl, rfl, rfl, rfl, rfl, trivial⟩, v752, x739, rfl, rfl, H, hs755⟩
      ·skip
       refine id (Ax_mk rfl rfl ?_)
       have hR757 : RowR Ty.u64 K353 [[(.int .u64 p4.value)]] [p4.value] := RowR.cons rfl (RowR.nil)
       refine O_lit (T := Ty.u64) (rows := [[(.int .u64 p4.value)]]) (l := [p4.value]) rfl rfl rfl hR757 rfl rfl rfl rfl rfl rfl rfl rfl (fun v756 => ⟨(Inc.cons (.tail _ (.head _)) (Inc.cons (.tail _ (.tail _ (.tail _ (.head _)))) (Inc.cons (.tail _ (.tail _ (.tail _ (.tail _ (.head _))))) (Inc.cons (.tail _ (.tail _ (.tail _ (.tail _ (.tail _ (.head _)))))) (Inc.cons (.tail _ (.tail _ (.tail _ (.tail _ (.tail _ (.tail _ (.head _))))))) Inc.nil))))), ?_⟩)
       refine Aw_one 2 (by kernel_rfl) (Ax_mk rfl rfl ?_)
       refine OpW.shift (Shift.nilTok1 38 1 (Shift.done ?_))
       have hs758 := (hs347).mono hK354
       refine O_appTok (T := Ty.u64) (bytes := 8) (q := 0) rfl rfl rfl (Slr.nil Ty.u64 _) (.head _) rfl (SrcT.sl hs758) hx731 rfl rfl rfl rfl rfl rfl rfl rfl (fun v759 K760 hK761 hs762 => ⟨_, .here, ⟨(Inc.cons (.tail _ (.tail _ (.head _))) (Inc.cons (.tail _ (.tail _ (.tail _ (.tail _ (.head _))))) (Inc.cons (.tail _ (.tail _ (.tail _ (.tail _ (.tail _ (.head _)))))) (Inc.cons (.tail _ (.tail _ (.tail _ (.tail _ (.tail _ (.tail _ (.head _))))))) (Inc.cons (.tail _ (.tail _ (.tail _ (.tail _ (.tail _ (.tail _ (.tail _ (.head _)))))))) Inc.nil))))), ?_⟩⟩)
       refine Aw_one 6 (by kernel_rfl) (Ax_mk rfl rfl ?_)
       have hs763 := (hR757).mono hK761
       refine O_appTok (T := Ty.u64) (bytes := 8) (q := 0) rfl rfl rfl hs762 (.head _) rfl (SrcT.row (.tail _ (.head _)) hs763 rfl) hx740 rfl rfl rfl rfl rfl rfl rfl rfl (fun v764 K765 hK766 hs767 => ⟨_, .here, ⟨(Inc.cons (.tail _ (.tail _ (.head _))) (Inc.cons (.tail _ (.tail _ (.tail _ (.tail _ (.head _))))) (Inc.cons (.tail _ (.tail _ (.tail _ (.tail _ (.tail _ (.head _)))))) (Inc.cons (.tail _ (.tail _ (.tail _ (.tail _ (.tail _ (.tail _ (.head _))))))) (Inc.cons (.tail _ (.tail _ (.tail _ (.tail _ (.tail _ (.tail _ (.tail _ (.head _)))))))) Inc.nil))))), ?_⟩⟩)
       refine Aw.shift (Shift.rem (.there .here) (Shift.done ⟨(Inc.cons (.tail _ (.head _)) (Inc.cons (.tail _ (.tail _ (.tail _ (.head _)))) (Inc.cons (.tail _ (.tail _ (.tail _ (.tail _ (.head _))))) (Inc.cons (.tail _ (.tail _ (.tail _ (.tail _ (.tail _ (.head _)))))) (Inc.cons (.tail _ (.tail _ (.tail _ (.tail _ (.tail _ (.tail _ (.head _))))))) Inc.nil))))), ?_⟩))
       refine Aw_q 7 rfl (by kernel_rfl) (by kernel_rfl) (by kernel_rfl) rfl rfl rfl (Qt_fieldAddr (m := 1) rfl rfl rfl rfl rfl) ?_
       refine Aw_one 8 (by kernel_rfl) (Ax_mk rfl rfl ?_)
       refine OpW_store (vs := [(sv v764)]) (all' := (Chan.cells (Chan.mk x341.capacity x739 x341.closed) v764)) rfl rfl rfl rfl rfl (.there (.there .here)) rfl rfl rfl ⟨(Inc.cons (.tail _ (.head _)) (Inc.cons (.tail _ (.tail _ (.tail _ (.head _)))) (Inc.cons (.tail _ (.tail _ (.tail _ (.tail _ (.head _))))) (Inc.cons (.tail _ (.tail _ (.tail _ (.tail _ (.tail _ (.head _)))))) (Inc.cons (.tail _ (.tail _ (.tail _ (.tail _ (.tail _ (.tail _ (.head _))))))) Inc.nil))))), ?_⟩
       refine Aw_done (by kernel_rfl) ?_
       refine Shift.pull (.there .here) ?_
       refine Shift.pull (.there .here) ?_
       refine Shift.pull (.there (.there (.there (.there (.there (.there .here)))))) ?_
       refine Shift.pull (.there (.there (.there (.there (.there .here))))) ?_
       refine Shift.pull (.there (.there (.there (.there (.there .here))))) ?_
       refine Shift.pull (.there (.there (.there (.there (.there .here))))) ?_
       refine Shift.rem (.there (.there (.there (.there (.there (.there .here)))))) ?_
       refine Shift.done ?_
       exact ⟨[(5, (.pointer (some ((⟨b337, 0, none⟩ : Addr).add 0)))), (9, (.pointer (some ((⟨b339, 0, none⟩ : Addr).add 0)))), (10, (.pointer (some ((⟨b340, 0, none⟩ : Addr).add 0)))), (12, (.pointer (some ((⟨b348, 0, none⟩ : Addr).add 0)))), (15, (sv v499))], ⟨rfl, rfl, rfl, rfl, rfl, trivial⟩, v764, x739, rfl, rfl, H, hs767⟩
     ·skip
      refine id (Ax_mk rfl rfl ?_)
      have hR769 : RowR Ty.u64 K353 [[(.int .u64 p4.value)]] [p4.value] := RowR.cons rfl (RowR.nil)
      refine O_lit (T := Ty.u64) (rows := [[(.int .u64 p4.value)]]) (l := [p4.value]) rfl rfl rfl hR769 rfl rfl rfl rfl rfl rfl rfl rfl (fun v768 => ⟨(Inc.cons (.tail _ (.head _)) (Inc.cons (.tail _ (.tail _ (.tail _ (.head _)))) (Inc.cons (.tail _ (.tail _ (.tail _ (.tail _ (.head _))))) (Inc.cons (.tail _ (.tail _ (.tail _ (.tail _ (.tail _ (.head _)))))) (Inc.cons (.tail _ (.tail _ (.tail _ (.tail _ (.tail _ (.tail _ (.head _))))))) Inc.nil))))), ?_⟩)
      refine Aw_one 1 (by kernel_rfl) (Ax_mk rfl rfl (OpW_of_Qt rfl rfl (Qt_load1 (v := (sv v346)) rfl rfl rfl (Rdc.blk (.tail _ (.tail _ (.head _))) rfl)) ⟨(Inc.cons (.tail _ (.head _)) (Inc.cons (.tail _ (.tail _ (.tail _ (.head _)))) (Inc.cons (.tail _ (.tail _ (.tail _ (.tail _ (.head _))))) (Inc.cons (.tail _ (.tail _ (.tail _ (.tail _ (.tail _ (.head _)))))) (Inc.cons (.tail _ (.tail _ (.tail _ (.tail _ (.tail _ (.tail _ (.head _))))))) Inc.nil))))), ?_⟩))
      refine Aw_one 2 (by kernel_rfl) (Ax_mk rfl rfl ?_)
      refine OpW.shift (Shift.nilTok1 38 1 (Shift.done ?_))
      have hs770 := (hs347).mono hK354
      refine O_appTok (T := Ty.u64) (bytes := 8) (q := 0) rfl rfl rfl (Slr.nil Ty.u64 _) (.head _) rfl (SrcT.sl hs770) hx731 rfl rfl rfl rfl rfl rfl rfl rfl (fun v771 K772 hK773 hs774 => ⟨_, .here, ⟨(Inc.cons (.tail _ (.tail _ (.head _))) (Inc.cons (.tail _ (.tail _ (.tail _ (.tail _ (.head _))))) (Inc.cons (.tail _ (.tail _ (.tail _ (.tail _ (.tail _ (.head _)))))) (Inc.cons (.tail _ (.tail _ (.tail _ (.tail _ (.tail _ (.tail _ (.head _))))))) (Inc.cons (.tail _ (.tail _ (.tail _ (.tail _ (.tail _ (.tail _ (.tail _ (.head _)))))))) Inc.nil))))), ?_⟩⟩)
      refine Aw_one 6 (by kernel_rfl) (Ax_mk rfl rfl ?_)
      have hs775 := (hR769).mono hK773
      refine O_appTok (T := Ty.u64) (bytes := 8) (q := 0) rfl rfl rfl hs774 (.head _) rfl (SrcT.row (.tail _ (.head _)) hs775 rfl) hx740 rfl rfl rfl rfl rfl rfl rfl rfl (fun v776 K777 hK778 hs779 => ⟨_, .here, ⟨(Inc.cons (.tail _ (.tail _ (.head _))) (Inc.cons (.tail _ (.tail _ (.tail _ (.tail _ (.head _))))) (Inc.cons (.tail _ (.tail _ (.tail _ (.tail _ (.tail _ (.head _)))))) (Inc.cons (.tail _ (.tail _ (.tail _ (.tail _ (.tail _ (.tail _ (.head _))))))) (Inc.cons (.tail _ (.tail _ (.tail _ (.tail _ (.tail _ (.tail _ (.tail _ (.head _)))))))) Inc.nil))))), ?_⟩⟩)
      refine Aw.shift (Shift.rem (.there .here) (Shift.done ⟨(Inc.cons (.tail _ (.head _)) (Inc.cons (.tail _ (.tail _ (.tail _ (.head _)))) (Inc.cons (.tail _ (.tail _ (.tail _ (.tail _ (.head _))))) (Inc.cons (.tail _ (.tail _ (.tail _ (.tail _ (.tail _ (.head _)))))) (Inc.cons (.tail _ (.tail _ (.tail _ (.tail _ (.tail _ (.tail _ (.head _))))))) Inc.nil))))), ?_⟩))
      refine Aw_q 7 rfl (by kernel_rfl) (by kernel_rfl) (by kernel_rfl) rfl rfl rfl (Qt_fieldAddr (m := 1) rfl rfl rfl rfl rfl) ?_
      refine Aw_one 8 (by kernel_rfl) (Ax_mk rfl rfl ?_)
      refine OpW_store (vs := [(sv v776)]) (all' := (Chan.cells (Chan.mk x341.capacity x739 x341.closed) v776)) rfl rfl rfl rfl rfl (.there (.there .here)) rfl rfl rfl ⟨(Inc.cons (.tail _ (.head _)) (Inc.cons (.tail _ (.tail _ (.tail _ (.head _)))) (Inc.cons (.tail _ (.tail _ (.tail _ (.tail _ (.head _))))) (Inc.cons (.tail _ (.tail _ (.tail _ (.tail _ (.tail _ (.head _)))))) (Inc.cons (.tail _ (.tail _ (.tail _ (.tail _ (.tail _ (.tail _ (.head _))))))) Inc.nil))))), ?_⟩
      refine Aw_done (by kernel_rfl) ?_
      refine Shift.pull (.there .here) ?_
      refine Shift.pull (.there .here) ?_
      refine Shift.pull (.there (.there (.there (.there (.there (.there .here)))))) ?_
      refine Shift.pull (.there (.there (.there (.there (.there .here))))) ?_
      refine Shift.pull (.there (.there (.there (.there (.there .here))))) ?_
      refine Shift.pull (.there (.there (.there (.there (.there .here))))) ?_
      refine Shift.rem (.there (.there (.there (.there (.there (.there .here)))))) ?_
      refine Shift.done ?_
      exact ⟨[(5, (.pointer (some ((⟨b337, 0, none⟩ : Addr).add 0)))), (9, (.pointer (some ((⟨b339, 0, none⟩ : Addr).add 0)))), (10, (.pointer (some ((⟨b340, 0, none⟩ : Addr).add 0)))), (12, (.pointer (some ((⟨b348, 0, none⟩ : Addr).add 0)))), (15, (sv v499))], ⟨rfl, rfl, rfl, rfl, rfl, trivial⟩, v776, x739, rfl, rfl, H, hs779⟩
    rintro _ K780 _ hK781 ⟨v727, l728, rfl, rfl, H, hs729⟩
    unfold M_159z at H
    refine Cw_seq ?_
    refine Cw_region ?_
    refine Ow_q rfl rfl rfl (Qt_loadA (m := 3) (cs := (Desk.cells p0 vp0_chans vp0_waiting)) rfl rfl rfl rfl ⟨rfl, Rdc.blk (.tail _ (.tail _ (.tail _ (.head _)))) rfl⟩) ?_
    refine Ow_q rfl rfl rfl (Qt_fieldAddr (m := 1) rfl rfl rfl rfl rfl) ?_
    refine Ow_q rfl rfl rfl (Qt_load1 (v := (.int .i64 p4.channel)) rfl rfl rfl (Rdc.blk (.tail _ (.tail _ (.head _))) rfl)) ?_
    refine Ow_q rfl rfl rfl (Qt_loadA (m := 3) (cs := (Chan.cells (Chan.mk x341.capacity l728 x341.closed) v727)) rfl rfl rfl rfl ⟨rfl, Rdc.blk (.head _) rfl⟩) ?_
    obtain ⟨x782, hx783, H⟩ := bnd H
    have hs784 := ((hp0_chans).mono hK354).mono hK781
    have hs785 := ((hp0_waiting).mono hK354).mono hK781
    refine Ow_cons rfl (OpW_call rfl Try.call84 rfl rfl (c_M_16z p0 vp0_chans vp0_waiting p4.channel (Chan.mk x341.capacity l728 x341.closed) v727 x782 hx783 _ _ hs784 hs785 hs729) ?_)
    rintro _ _ _ - ⟨v786, rs787, v788, rfl, rfl, rfl, hs789, hs790⟩
    refine Ow_q rfl rfl rfl (Qt_move rfl) ?_
    refine Ow_cons rfl (OpW_store (vs := (Desk.cells x782 v786 v788)) (all' := (Desk.cells x782 v786 v788)) rfl rfl rfl rfl rfl (.there (.there .here)) rfl rfl rfl ?_)
    refine Ow_q rfl rfl rfl (Qt_assign rfl) ?_
    refine Ow_nil ?_
    refine Cw_ret ?_
    obtain ⟨ey0, ey1⟩ := inj2 H
    subst y0 y1
    refine ⟨(by first | exact .inl rfl | exact .inr rfl), [(.agg (Desk.cells x782 v786 v788).toArray), (sv v499)], ⟨(.agg (Desk.cells x782 v786 v788).toArray), _, rfl, ⟨_, 3, (Desk.cells x782 v786 v788), rfl, rfl, rfl, rfl, ⟨rfl, Rdc.blk (.tail _ (.tail _ (.head _))) rfl⟩, rfl⟩, ⟨(sv v499), _, rfl, rfl, rfl⟩⟩, ?_⟩
    refine Shift.settle (T := TyChan) .here hs789 rfl ?_
    intro K791 hK792 hs793
    have hs797 := ((hR500).mono hK781).mono hK792
    refine Shift.settle (T := TyDone) (.there (.there (.there (.there (.there (.there .here)))))) hs797 rfl ?_
    intro K794 hK795 hs796
    refine Shift.pull (.there (.there (.there (.there (.there (.there .here)))))) ?_
    refine Shift.rem (.there .here) ?_
    refine Shift.rem (.there .here) ?_
    refine Shift.rem (.there .here) ?_
    refine Shift.rem (.there .here) ?_
    refine Shift.rem (.there .here) ?_
    refine Shift.rem (.there .here) ?_
    have hs798 := (hs793).mono hK795
    have hs799 := ((hs790).mono hK792).mono hK795
    refine Shift.done ?_
    exact ⟨v786, v788, v499, rfl, rfl, hs798, hs799, hs796⟩
 ·intro h487
  have H := iff_ (btf h487) H
  refine Cw_skip ?_
  refine Cw_seq ?_
  refine Cw_region ?_
  refine Ow_q rfl rfl rfl (Qt_move rfl) ?_
  refine Ow_q rfl rfl rfl (Qt_build (cs := (Result.cells (Result.mk 2 x349 0 false 0))) rfl rfl rfl rfl rfl rfl) ?_
  refine Ow_cons rfl (OpW_alloc (cs := (Result.cells (Result.mk 0 0 0 false 0))) rfl rfl rfl rfl (fun b800 => ?_))
  refine Ow_cons rfl (OpW_store (vs := (Result.cells (Result.mk 2 x349 0 false 0))) (all' := (Result.cells (Result.mk 2 x349 0 false 0))) rfl rfl rfl rfl rfl .here rfl rfl rfl ?_)
  refine Ow_nil ?_
  refine Cw_join (fun env' K' G' => ∃ (i818 : Int) (t819 : Bool) (v820 : SV) (l821 : List Int), [(1, (.int .i64 p1)), (5, (.pointer (some ((⟨b337, 0, none⟩ : Addr).add 0)))), (9, (.pointer (some ((⟨b339, 0, none⟩ : Addr).add 0)))), (10, (.pointer (some ((⟨b340, 0, none⟩ : Addr).add 0)))), (12, (.pointer (some ((⟨b348, 0, none⟩ : Addr).add 0)))), (14, (.int .i64 x351)), (17, (.pointer (some ((⟨b800, 0, none⟩ : Addr).add 0))))] = env' ∧ K353 = K' ∧ (.blk b800 73 (Result.cells (Result.mk 2 x349 i818 t819 0))) :: (.blk b348 71 (Chan.cells (Chan.mk x341.capacity l821 x341.closed) v820)) :: (.blk b340 34 (Desk.cells (Desk.mk [] [] 0) nilS nilS)) :: (.blk b339 45 (Case.cells p4)) :: (.blk b337 34 (Desk.cells p0 vp0_chans vp0_waiting)) :: G = G' ∧ M_34z p1 x351 x349 x341 p4 p0 i818 t819 l821 = some (y0, y1) ∧ Slr Ty.u64 K' (sv v820) l821) ?_ ?_
  ·skip
   refine Cw_seq ?_
   refine Cw_region ?_
   refine Ow_q rfl rfl rfl (Qt_fieldAddr (m := 1) rfl rfl rfl rfl rfl) ?_
   refine Ow_q rfl rfl rfl (Qt_load1 (v := (sv v346)) rfl rfl rfl (Rdc.blk (.tail _ (.head _)) rfl)) ?_
   have hs823 := (hs347).mono hK354
   refine Ow_q rfl rfl rfl (Q_len (T := Ty.u64) hs823 rfl rfl) ?_
   refine Ow_q rfl rfl rfl (Qt_cmp rfl rfl rfl) ?_
   refine Ow_nil ?_
   refine Cw_cond rfl ?_ ?_
   ·intro h824
    have h824 := dcd_t (h824)
    have H := ift h824 H
    refine Cw_seq ?_
    refine Cw_region ?_
    refine Ow_q rfl rfl rfl (Qt_fieldAddr (m := 1) rfl rfl rfl rfl rfl) ?_
    refine Ow_q rfl rfl rfl (Qt_load1 (v := (sv v346)) rfl rfl rfl (Rdc.blk (.tail _ (.head _)) rfl)) ?_
    obtain ⟨x825, hx826, H⟩ := bnd H
    obtain ⟨r827, hr828, hk829⟩ := Slr.at hs823 hx826
    obtain rfl := hr828
    refine Ow_q rfl rfl rfl (Q_ix (T := Ty.u64) hs823 hx826 rfl rfl rfl rfl rfl) ?_
    refine Ow_q rfl rfl rfl (Qt_load1 (v := (.int .u64 x825)) rfl rfl rfl (Rdc.k hk829 rfl)) ?_
    refine Ow_q rfl rfl rfl (Qt_fieldAddr (m := 2) rfl rfl rfl rfl rfl) ?_
    refine Ow_cons rfl (OpW_store (vs := [(.int .u64 x825)]) (all' := (Result.cells (Result.mk 2 x349 x825 false 0))) rfl rfl rfl rfl rfl .here rfl rfl rfl ?_)
    refine Ow_q rfl rfl rfl (Qt_fieldAddr (m := 3) rfl rfl rfl rfl rfl) ?_
    refine Ow_cons rfl (OpW_store (vs := [(.bool true)]) (all' := (Result.cells (Result.mk 2 x349 x825 true 0))) rfl rfl rfl rfl rfl .here rfl rfl rfl ?_)
    refine Ow_nil ?_
    refine Cw_region ?_
    refine Ow_q rfl rfl rfl (Qt_fieldAddr (m := 1) rfl rfl rfl rfl rfl) ?_
    refine Ow_q rfl rfl rfl (Qt_load1 (v := (sv v346)) rfl rfl rfl (Rdc.blk (.tail _ (.head _)) rfl)) ?_
    obtain ⟨x830, hx831, H⟩ := bnd H
    have hs832 := Slr.cutL hs823 hx831
    refine Ow_q rfl rfl rfl (Q_cutL (T := Ty.u64) hs823 hx831 rfl rfl rfl rfl rfl) ?_
    refine Ow_q rfl rfl rfl (Qt_fieldAddr (m := 1) rfl rfl rfl rfl rfl) ?_
    refine Ow_cons rfl (OpW_store (vs := [(sv (cutS v346 1 ((1 : Int).toNat) x341.buffer.length))]) (all' := (Chan.cells (Chan.mk x341.capacity x830 x341.closed) (cutS v346 1 ((1 : Int).toNat) x341.buffer.length))) rfl rfl rfl rfl rfl (.there .here) rfl rfl rfl ?_)
    refine Ow_nil ?_
    refine Shift.pull (.there (.there (.there (.there (.there .here))))) ?_
    refine Shift.pull (.there (.there (.there (.there .here)))) ?_
    refine Shift.pull (.there (.there (.there (.there .here)))) ?_
    refine Shift.pull (.there (.there (.there (.there .here)))) ?_
    refine Shift.pull (.there (.there (.there (.there .here)))) ?_
    refine Shift.rem (.there (.there (.there (.there (.there .here))))) ?_
    refine Shift.done ?_
    exact ⟨[(1, (.int .i64 p1)), (5, (.pointer (some ((⟨b337, 0, none⟩ : Addr).add 0)))), (9, (.pointer (some ((⟨b339, 0, none⟩ : Addr).add 0)))), (10, (.pointer (some ((⟨b340, 0, none⟩ : Addr).add 0)))), (12, (.pointer (some ((⟨b348, 0, none⟩ : Addr).add 0)))), (14, (.int .i64 x351)), (17, (.pointer (some ((⟨b800, 0, none⟩ : Addr).add 0))))], ⟨rfl, rfl, rfl, rfl, rfl, rfl, rfl, trivial⟩, x825, true, (cutS v346 1 ((1 : Int).toNat) x341.buffer.length), x830, rfl, rfl, rfl, H, hs832⟩
   ·intro h824
    have h824 := dcd_f (h824)
    have H := iff_ h824 H
    refine Cw_seq ?_
    refine Cw_region ?_
    refine Ow_q rfl rfl rfl (Qt_move rfl) ?_
    refine Ow_q rfl rfl rfl (Qt_cmp rfl rfl rfl) ?_
    refine Ow_nil ?_
    refine Cw_cond rfl ?_ ?_
    ·intro h833
     have h833 := dcd_t (h833)
     have H := ift h833 H
     refine Cw_seq ?_
     refine Cw_region_any [.blk b800 73 (Result.cells (Result.mk 2 x349 0 false 0)), .blk b348 71 (Chan.cells x341 v346), .blk b339 45 (Case.cells p4), .blk b338 41 (Op.cells p2 vp2_cases vp2_draws), .blk b337 34 (Desk.cells p0 vp0_chans vp0_waiting)] rfl (Inc.cons (.head _) (Inc.cons (.tail _ (.head _)) (Inc.cons (.tail _ (.tail _ (.tail _ (.head _)))) (Inc.cons (.tail _ (.tail _ (.tail _ (.tail _ (.head _))))) (Inc.cons (.tail _ (.tail _ (.tail _ (.tail _ (.tail _ (.head _)))))) Inc.nil))))) ?_
     refine Aw_q 0 rfl (by kernel_rfl) (by kernel_rfl) (by kernel_rfl) rfl rfl rfl (Qt_loadA (m := 3) (cs := (Desk.cells p0 vp0_chans vp0_waiting)) rfl rfl rfl rfl ⟨rfl, Rdc.blk (.tail _ (.tail _ (.tail _ (.tail _ (.head _))))) rfl⟩) ?_
     refine Aw_q 1 rfl (by kernel_rfl) (by kernel_rfl) (by kernel_rfl) rfl rfl rfl (Qt_move rfl) ?_
     refine Aw_q 2 rfl (by kernel_rfl) (by kernel_rfl) (by kernel_rfl) rfl rfl rfl (Qt_loadA (m := 5) (cs := (Result.cells (Result.mk 2 x349 0 false 0))) rfl rfl rfl rfl ⟨rfl, Rdc.blk (.head _) rfl⟩) ?_
     refine Aw_q 3 rfl (by kernel_rfl) (by kernel_rfl) (by kernel_rfl) rfl rfl rfl (Qt_build (cs := (Done.cells (Done.mk p1 (Result.mk 2 x349 0 false 0)))) rfl rfl rfl rfl rfl rfl) ?_
     refine Aw_two 4 5 (by kernel_rfl) ?_ ?_
     ·skip
      refine id (Ax_mk rfl rfl ?_)
      have hR843 : RowR TyDone K353 [(Done.cells (Done.mk p1 (Result.mk 2 x349 0 false 0)))] [(Done.mk p1 (Result.mk 2 x349 0 false 0))] := RowR.cons rfl (RowR.nil)
      refine O_lit (T := TyDone) (rows := [(Done.cells (Done.mk p1 (Result.mk 2 x349 0 false 0)))]) (l := [(Done.mk p1 (Result.mk 2 x349 0 false 0))]) rfl rfl rfl hR843 rfl rfl rfl rfl rfl rfl rfl rfl (fun v842 => ⟨(Inc.cons (.tail _ (.head _)) (Inc.cons (.tail _ (.tail _ (.head _))) (Inc.cons (.tail _ (.tail _ (.tail _ (.tail _ (.head _))))) (Inc.cons (.tail _ (.tail _ (.tail _ (.tail _ (.tail _ (.head _)))))) (Inc.cons (.tail _ (.tail _ (.tail _ (.tail _ (.tail _ (.tail _ (.head _))))))) Inc.nil))))), ?_⟩)
      refine Aw_one 5 (by kernel_rfl) (Ax_mk rfl rfl ?_)
      refine OpW_store (vs := (Desk.cells p0 vp0_chans vp0_waiting)) (all' := (Desk.cells p0 vp0_chans vp0_waiting)) rfl rfl rfl rfl rfl (.there (.there (.there .here))) rfl rfl rfl ⟨(Inc.cons (.tail _ (.head _)) (Inc.cons (.tail _ (.tail _ (.head _))) (Inc.cons (.tail _ (.tail _ (.tail _ (.tail _ (.head _))))) (Inc.cons (.tail _ (.tail _ (.tail _ (.tail _ (.tail _ (.head _)))))) (Inc.cons (.tail _ (.tail _ (.tail _ (.tail _ (.tail _ (.tail _ (.head _))))))) Inc.nil))))), ?_⟩
      refine Aw_q 6 rfl (by kernel_rfl) (by kernel_rfl) (by kernel_rfl) rfl rfl rfl (Qt_assign rfl) ?_
      refine Aw_done (by kernel_rfl) ?_
      refine Cw_ret ?_
      obtain ⟨ey0, ey1⟩ := inj2 H
      subst y0 y1
      refine ⟨(by first | exact .inl rfl | exact .inr rfl), [(.agg (Desk.cells p0 vp0_chans vp0_waiting).toArray), (sv v842)], ⟨(.agg (Desk.cells p0 vp0_chans vp0_waiting).toArray), _, rfl, ⟨_, 3, (Desk.cells p0 vp0_chans vp0_waiting), rfl, rfl, rfl, rfl, ⟨rfl, Rdc.blk (.tail _ (.tail _ (.tail _ (.head _)))) rfl⟩, rfl⟩, ⟨(sv v842), _, rfl, rfl, rfl⟩⟩, ?_⟩
      refine Shift.settle (T := TyDone) .here hR843 rfl ?_
      intro K844 hK845 hs846
      refine Shift.rem (.there .here) ?_
      refine Shift.rem (.there .here) ?_
      refine Shift.rem (.there .here) ?_
      refine Shift.rem (.there .here) ?_
      refine Shift.rem (.there .here) ?_
      refine Shift.rem (.there .here) ?_
      have hs847 := ((hp0_chans).mono hK354).mono hK845
      have hs848 := ((hp0_waiting).mono hK354).mono hK845
      refine Shift.done ?_
      exact ⟨vp0_chans, vp0_waiting, v842, rfl, rfl, hs847, hs848, hs846⟩
     ·skip
      refine id (Ax_mk rfl rfl ?_)
      refine OpW_store (vs := (Desk.cells p0 vp0_chans vp0_waiting)) (all' := (Desk.cells p0 vp0_chans vp0_waiting)) rfl rfl rfl rfl rfl (.there (.there .here)) rfl rfl rfl ⟨(Inc.cons (.head _) (Inc.cons (.tail _ (.head _)) (Inc.cons (.tail _ (.tail _ (.tail _ (.head _)))) (Inc.cons (.tail _ (.tail _ (.tail _ (.tail _ (.head _))))) (Inc.cons (.tail _ (.tail _ (.tail _ (.tail _ (.tail _ (.head _)))))) Inc.nil))))), ?_⟩
      refine Aw_one 4 (by kernel_rfl) (Ax_mk rfl rfl ?_)
      have hR850 : RowR TyDone K353 [(Done.cells (Done.mk p1 (Result.mk 2 x349 0 false 0)))] [(Done.mk p1 (Result.mk 2 x349 0 false 0))] := RowR.cons rfl (RowR.nil)
      refine O_lit (T := TyDone) (rows := [(Done.cells (Done.mk p1 (Result.mk 2 x349 0 false 0)))]) (l := [(Done.mk p1 (Result.mk 2 x349 0 false 0))]) rfl rfl rfl hR850 rfl rfl rfl rfl rfl rfl rfl rfl (fun v849 => ⟨(Inc.cons (.tail _ (.head _)) (Inc.cons (.tail _ (.tail _ (.head _))) (Inc.cons (.tail _ (.tail _ (.tail _ (.tail _ (.head _))))) (Inc.cons (.tail _ (.tail _ (.tail _ (.tail _ (.tail _ (.head _)))))) (Inc.cons (.tail _ (.tail _ (.tail _ (.tail _ (.tail _ (.tail _ (.head _))))))) Inc.nil))))), ?_⟩)
      refine Aw_q 6 rfl (by kernel_rfl) (by kernel_rfl) (by kernel_rfl) rfl rfl rfl (Qt_assign rfl) ?_
      refine Aw_done (by kernel_rfl) ?_
      refine Cw_ret ?_
      obtain ⟨ey0, ey1⟩ := inj2 H
      subst y0 y1
      refine ⟨(by first | exact .inl rfl | exact .inr rfl), [(.agg (Desk.cells p0 vp0_chans vp0_waiting).toArray), (sv v849)], ⟨(.agg (Desk.cells p0 vp0_chans vp0_waiting).toArray), _, rfl, ⟨_, 3, (Desk.cells p0 vp0_chans vp0_waiting), rfl, rfl, rfl, rfl, ⟨rfl, Rdc.blk (.tail _ (.tail _ (.tail _ (.head _)))) rfl⟩, rfl⟩, ⟨(sv v849), _, rfl, rfl, rfl⟩⟩, ?_⟩
      refine Shift.settle (T := TyDone) .here hR850 rfl ?_
      intro K851 hK852 hs853
      refine Shift.rem (.there .here) ?_
      refine Shift.rem (.there .here) ?_
      refine Shift.rem (.there .here) ?_
      refine Shift.rem (.there .here) ?_
      refine Shift.rem (.there .here) ?_
      refine Shift.rem (.there .here) ?_
      have hs854 := ((hp0_chans).mono hK354).mono hK852
      have hs855 := ((hp0_waiting).mono hK354).mono hK852
      refine Shift.done ?_
      exact ⟨vp0_chans, vp0_waiting, v849, rfl, rfl, hs854, hs855, hs853⟩
    ·intro h833
     have h833 := dcd_f (h833)
     have H := iff_ h833 H
     refine Cw_skip ?_
     refine Shift.pull (.there (.there (.there (.there (.there .here))))) ?_
     refine Shift.pull (.there (.there (.there (.there .here)))) ?_
     refine Shift.pull (.there (.there (.there (.there .here)))) ?_
     refine Shift.pull (.there (.there (.there (.there .here)))) ?_
     refine Shift.pull (.there (.there (.there (.there .here)))) ?_
     refine Shift.rem (.there (.there (.there (.there (.there .here))))) ?_
     refine Shift.done ?_
     exact ⟨[(1, (.int .i64 p1)), (5, (.pointer (some ((⟨b337, 0, none⟩ : Addr).add 0)))), (9, (.pointer (some ((⟨b339, 0, none⟩ : Addr).add 0)))), (10, (.pointer (some ((⟨b340, 0, none⟩ : Addr).add 0)))), (12, (.pointer (some ((⟨b348, 0, none⟩ : Addr).add 0)))), (14, (.int .i64 x351)), (17, (.pointer (some ((⟨b800, 0, none⟩ : Addr).add 0))))], ⟨rfl, rfl, rfl, rfl, rfl, rfl, rfl, trivial⟩, 0, false, v346, x341.buffer, rfl, rfl, rfl, H, hs823⟩
  rintro _ _ _ - ⟨i818, t819, v820, l821, rfl, rfl, rfl, H, hs822⟩
  unfold M_34z at H
  refine Cw_seq ?_
  refine Cw_seq ?_
  refine Cw_region ?_
  refine Ow_q rfl rfl rfl (Qt_move rfl) ?_
  refine Ow_q rfl rfl rfl (Qt_cmp rfl rfl rfl) ?_
  refine Ow_nil ?_
  refine Cw_cond rfl ?_ ?_
  ·intro h899
   have h899 := dcd_t (h899)
   have H := ift h899 H
   refine Cw_join (fun env' K' G' => ∃ (v931 : SV) (rs933 : List (List Value)) (v934 : SV) (l935 : List Chan) (rs937 : List (List Value)) (v938 : SV) (l939 : List Waiter) (i941 : Int), [(10, (.pointer (some ((⟨b340, 0, none⟩ : Addr).add 0)))), (11, (sv v931))] = env' ∧ K353 = K' ∧ (.blk b340 34 (Desk.cells (Desk.mk l935 l939 i941) v934 v938)) :: (.row (sv v931) 75 6 rs933.flatten) :: (.row (sv v934) 71 3 rs937.flatten) :: G = G' ∧ M_176z p1 x349 i818 t819 l935 l939 i941 = some (y0, y1) ∧ RowR TyDone K' rs933 [(Done.mk p1 (Result.mk 2 x349 i818 t819 0))] ∧ RowR TyChan K' rs937 l935 ∧ Slr TyWaiter K' (sv v938) l939) ?_ ?_
   ·skip
    obtain ⟨x942, hx943, H⟩ := bnd H
    refine Cw_region_any [.blk b800 73 (Result.cells (Result.mk 2 x349 i818 t819 0)), .blk b348 71 (Chan.cells (Chan.mk x341.capacity l821 x341.closed) v820), .blk b339 45 (Case.cells p4), .blk b337 34 (Desk.cells p0 vp0_chans vp0_waiting)] rfl (Inc.cons (.head _) (Inc.cons (.tail _ (.head _)) (Inc.cons (.tail _ (.tail _ (.tail _ (.head _)))) (Inc.cons (.tail _ (.tail _ (.tail _ (.tail _ (.head _))))) Inc.nil)))) ?_
    refine Aw_q 0 rfl (by kernel_rfl) (by kernel_rfl) (by kernel_rfl) rfl rfl rfl (Qt_loadA (m := 3) (cs := (Desk.cells p0 vp0_chans vp0_waiting)) rfl rfl rfl rfl ⟨rfl, Rdc.blk (.tail _ (.tail _ (.tail _ (.head _)))) rfl⟩) ?_
    refine Aw_q 1 rfl (by kernel_rfl) (by kernel_rfl) (by kernel_rfl) rfl rfl rfl (Qt_fieldAddr (m := 1) rfl rfl rfl rfl rfl) ?_
    refine Aw_q 2 rfl (by kernel_rfl) (by kernel_rfl) (by kernel_rfl) rfl rfl rfl (Qt_load1 (v := (.int .i64 p4.channel)) rfl rfl rfl (Rdc.blk (.tail _ (.tail _ (.head _))) rfl)) ?_
    refine Aw_q 3 rfl (by kernel_rfl) (by kernel_rfl) (by kernel_rfl) rfl rfl rfl (Qt_loadA (m := 3) (cs := (Chan.cells (Chan.mk x341.capacity l821 x341.closed) v820)) rfl rfl rfl rfl ⟨rfl, Rdc.blk (.tail _ (.head _)) rfl⟩) ?_
    refine Aw_q 5 rfl (by kernel_rfl) (by kernel_rfl) (by kernel_rfl) rfl rfl rfl (Qt_move rfl) ?_
    refine Aw_q 6 rfl (by kernel_rfl) (by kernel_rfl) (by kernel_rfl) rfl rfl rfl (Qt_loadA (m := 5) (cs := (Result.cells (Result.mk 2 x349 i818 t819 0))) rfl rfl rfl rfl ⟨rfl, Rdc.blk (.head _) rfl⟩) ?_
    refine Aw_q 7 rfl (by kernel_rfl) (by kernel_rfl) (by kernel_rfl) rfl rfl rfl (Qt_build (cs := (Done.cells (Done.mk p1 (Result.mk 2 x349 i818 t819 0)))) rfl rfl rfl rfl rfl rfl) ?_
    refine Aw_two 4 8 (by kernel_rfl) ?_ ?_
    ·skip
     refine id (Ax_mk rfl rfl ?_)
     have hs953 := (hp0_chans).mono hK354
     have hs954 := (hp0_waiting).mono hK354
     refine OpW_call rfl Try.call84 rfl rfl (c_M_16z p0 vp0_chans vp0_waiting p4.channel (Chan.mk x341.capacity l821 x341.closed) v820 x942 hx943 _ _ hs953 hs954 hs822) ?_
     rintro _ _ _ - ⟨v955, rs956, v957, rfl, rfl, rfl, hs958, hs959⟩
     refine ⟨(Inc.cons (.tail _ (.head _)) (Inc.cons (.tail _ (.tail _ (.head _))) (Inc.cons (.tail _ (.tail _ (.tail _ (.tail _ (.head _))))) (Inc.cons (.tail _ (.tail _ (.tail _ (.tail _ (.tail _ (.head _)))))) Inc.nil)))), ?_⟩
     refine Aw_two 8 9 (by kernel_rfl) ?_ ?_
     ·skip
      refine id (Ax_mk rfl rfl ?_)
      have hR961 : RowR TyDone K353 [(Done.cells (Done.mk p1 (Result.mk 2 x349 i818 t819 0)))] [(Done.mk p1 (Result.mk 2 x349 i818 t819 0))] := RowR.cons rfl (RowR.nil)
      refine O_lit (T := TyDone) (rows := [(Done.cells (Done.mk p1 (Result.mk 2 x349 i818 t819 0)))]) (l := [(Done.mk p1 (Result.mk 2 x349 i818 t819 0))]) rfl rfl rfl hR961 rfl rfl rfl rfl rfl rfl rfl rfl (fun v960 => ⟨(Inc.cons (.tail _ (.tail _ (.head _))) (Inc.cons (.tail _ (.tail _ (.tail _ (.head _)))) (Inc.cons (.tail _ (.tail _ (.tail _ (.tail _ (.tail _ (.head _)))))) (Inc.cons (.tail _ (.tail _ (.tail _ (.tail _ (.tail _ (.tail _ (.head _))))))) Inc.nil)))), ?_⟩)
      refine Aw_one 9 (by kernel_rfl) (Ax_mk rfl rfl ?_)
      refine OpW_store (vs := (Desk.cells x942 v955 v957)) (all' := (Desk.cells x942 v955 v957)) rfl rfl rfl rfl rfl (.there (.there (.there (.there .here)))) rfl rfl rfl ⟨(Inc.cons (.tail _ (.tail _ (.head _))) (Inc.cons (.tail _ (.tail _ (.tail _ (.head _)))) (Inc.cons (.tail _ (.tail _ (.tail _ (.tail _ (.tail _ (.head _)))))) (Inc.cons (.tail _ (.tail _ (.tail _ (.tail _ (.tail _ (.tail _ (.head _))))))) Inc.nil)))), ?_⟩
      refine Aw_q 10 rfl (by kernel_rfl) (by kernel_rfl) (by kernel_rfl) rfl rfl rfl (Qt_assign rfl) ?_
      refine Aw_done (by kernel_rfl) ?_
      refine Shift.pull (.there .here) ?_
      refine Shift.pull (.there .here) ?_
      refine Shift.pull (.there (.there (.there (.there .here)))) ?_
      refine Shift.rem (.there (.there (.there .here))) ?_
      refine Shift.rem (.there (.there (.there .here))) ?_
      refine Shift.rem (.there (.there (.there .here))) ?_
      refine Shift.rem (.there (.there (.there .here))) ?_
      refine Shift.done ?_
      exact ⟨[(10, (.pointer (some ((⟨b340, 0, none⟩ : Addr).add 0)))), (11, (sv v960))], ⟨rfl, rfl, trivial⟩, v960, [(Done.cells (Done.mk p1 (Result.mk 2 x349 i818 t819 0)))], v955, x942.chans, rs956, v957, x942.waiting, x942.tick, rfl, rfl, rfl, H, hR961, hs958, hs959⟩
     ·skip
      refine id (Ax_mk rfl rfl ?_)
      refine OpW_store (vs := (Desk.cells x942 v955 v957)) (all' := (Desk.cells x942 v955 v957)) rfl rfl rfl rfl rfl (.there (.there (.there .here))) rfl rfl rfl ⟨(Inc.cons (.tail _ (.head _)) (Inc.cons (.tail _ (.tail _ (.head _))) (Inc.cons (.tail _ (.tail _ (.tail _ (.tail _ (.head _))))) (Inc.cons (.tail _ (.tail _ (.tail _ (.tail _ (.tail _ (.head _)))))) Inc.nil)))), ?_⟩
      refine Aw_one 8 (by kernel_rfl) (Ax_mk rfl rfl ?_)
      have hR963 : RowR TyDone K353 [(Done.cells (Done.mk p1 (Result.mk 2 x349 i818 t819 0)))] [(Done.mk p1 (Result.mk 2 x349 i818 t819 0))] := RowR.cons rfl (RowR.nil)
      refine O_lit (T := TyDone) (rows := [(Done.cells (Done.mk p1 (Result.mk 2 x349 i818 t819 0)))]) (l := [(Done.mk p1 (Result.mk 2 x349 i818 t819 0))]) rfl rfl rfl hR963 rfl rfl rfl rfl rfl rfl rfl rfl (fun v962 => ⟨(Inc.cons (.tail _ (.tail _ (.head _))) (Inc.cons (.tail _ (.tail _ (.tail _ (.head _)))) (Inc.cons (.tail _ (.tail _ (.tail _ (.tail _ (.tail _ (.head _)))))) (Inc.cons (.tail _ (.tail _ (.tail _ (.tail _ (.tail _ (.tail _ (.head _))))))) Inc.nil)))), ?_⟩)
      refine Aw_q 10 rfl (by kernel_rfl) (by kernel_rfl) (by kernel_rfl) rfl rfl rfl (Qt_assign rfl) ?_
      refine Aw_done (by kernel_rfl) ?_
      refine Shift.pull (.there .here) ?_
      refine Shift.pull (.there .here) ?_
      refine Shift.pull (.there (.there (.there (.there .here)))) ?_
      refine Shift.rem (.there (.there (.there .here))) ?_
      refine Shift.rem (.there (.there (.there .here))) ?_
      refine Shift.rem (.there (.there (.there .here))) ?_
      refine Shift.rem (.there (.there (.there .here))) ?_
      refine Shift.done ?_
      exact ⟨[(10, (.pointer (some ((⟨b340, 0, none⟩ : Addr).add 0)))), (11, (sv v962))], ⟨rfl, rfl, trivial⟩, v962, [(Done.cells (Done.mk p1 (Result.mk 2 x349 i818 t819 0)))], v955, x942.chans, rs956, v957, x942.waiting, x942.tick, rfl, rfl, rfl, H, hR963, hs958, hs959⟩
    ·skip
     refine id (Ax_mk rfl rfl ?_)
     have hR965 : RowR TyDone K353 [(Done.cells (Done.mk p1 (Result.mk 2 x349 i818 t819 0)))] [(Done.mk p1 (Result.mk 2 x349 i818 t819 0))] := RowR.cons rfl (RowR.nil)
     refine O_lit (T := TyDone) (rows := [(Done.cells (Done.mk p1 (Result.mk 2 x349 i818 t819 0)))]) (l := [(Done.mk p1 (Result.mk 2 x349 i818 t819 0))]) rfl rfl rfl hR965 rfl rfl rfl rfl rfl rfl rfl rfl (fun v964 => ⟨(Inc.cons (.tail _ (.head _)) (Inc.cons (.tail _ (.tail _ (.head _))) (Inc.cons (.tail _ (.tail _ (.tail _ (.tail _ (.head _))))) (Inc.cons (.tail _ (.tail _ (.tail _ (.tail _ (.tail _ (.head _)))))) Inc.nil)))), ?_⟩)
     refine Aw_one 4 (by kernel_rfl) (Ax_mk rfl rfl ?_)
     have hs966 := (hp0_chans).mono hK354
     have hs967 := (hp0_waiting).mono hK354
     refine OpW_call rfl Try.call84 rfl rfl (c_M_16z p0 vp0_chans vp0_waiting p4.channel (Chan.mk x341.capacity l821 x341.closed) v820 x942 hx943 _ _ hs966 hs967 hs822) ?_
     rintro _ _ _ - ⟨v968, rs969, v970, rfl, rfl, rfl, hs971, hs972⟩
     refine ⟨(Inc.cons (.tail _ (.tail _ (.head _))) (Inc.cons (.tail _ (.tail _ (.tail _ (.head _)))) (Inc.cons (.tail _ (.tail _ (.tail _ (.tail _ (.tail _ (.head _)))))) (Inc.cons (.tail _ (.tail _ (.tail _ (.tail _ (.tail _ (.tail _ (.head _))))))) Inc.nil)))), ?_⟩
     refine Aw_one 9 (by kernel_rfl) (Ax_mk rfl rfl ?_)
     refine OpW_store (vs := (Desk.cells x942 v968 v970)) (all' := (Desk.cells x942 v968 v970)) rfl rfl rfl rfl rfl (.there (.there (.there (.there .here)))) rfl rfl rfl ⟨(Inc.cons (.tail _ (.tail _ (.head _))) (Inc.cons (.tail _ (.tail _ (.tail _ (.head _)))) (Inc.cons (.tail _ (.tail _ (.tail _ (.tail _ (.tail _ (.head _)))))) (Inc.cons (.tail _ (.tail _ (.tail _ (.tail _ (.tail _ (.tail _ (.head _))))))) Inc.nil)))), ?_⟩
     refine Aw_q 10 rfl (by kernel_rfl) (by kernel_rfl) (by kernel_rfl) rfl rfl rfl (Qt_assign rfl) ?_
     refine Aw_done (by kernel_rfl) ?_
     refine Shift.pull (.there .here) ?_
     refine Shift.pull (.there (.there (.there (.there .here)))) ?_
     refine Shift.rem (.there (.there (.there .here))) ?_
     refine Shift.rem (.there (.there (.there .here))) ?_
     refine Shift.rem (.there (.there (.there .here))) ?_
     refine Shift.rem (.there (.there (.there .here))) ?_
     refine Shift.done ?_
     exact ⟨[(10, (.pointer (some ((⟨b340, 0, none⟩ : Addr).add 0)))), (11, (sv v964))], ⟨rfl, rfl, trivial⟩, v964, [(Done.cells (Done.mk p1 (Result.mk 2 x349 i818 t819 0)))], v968, x942.chans, rs969, v970, x942.waiting, x942.tick, rfl, rfl, rfl, H, hR965, hs971, hs972⟩
   rintro _ _ _ - ⟨v931, rs933, v934, l935, rs937, v938, l939, i941, rfl, rfl, rfl, H, hR932, hR936, hs940⟩
   unfold M_176z at H
   refine Cw_ret ?_
   obtain ⟨ey0, ey1⟩ := inj2 H
   subst y0 y1
   refine ⟨(by first | exact .inl rfl | exact .inr rfl), [(.agg (Desk.cells (Desk.mk l935 l939 i941) v934 v938).toArray), (sv v931)], ⟨(.agg (Desk.cells (Desk.mk l935 l939 i941) v934 v938).toArray), _, rfl, ⟨_, 3, (Desk.cells (Desk.mk l935 l939 i941) v934 v938), rfl, rfl, rfl, rfl, ⟨rfl, Rdc.blk (.head _) rfl⟩, rfl⟩, ⟨(sv v931), _, rfl, rfl, rfl⟩⟩, ?_⟩
   refine Shift.settle (T := TyChan) (.there (.there .here)) hR936 rfl ?_
   intro K973 hK974 hs975
   have hs979 := (hR932).mono hK974
   refine Shift.settle (T := TyDone) (.there .here) hs979 rfl ?_
   intro K976 hK977 hs978
   refine Shift.pull (.there .here) ?_
   refine Shift.rem (.there .here) ?_
   refine Shift.rem (.there .here) ?_
   have hs980 := (hs975).mono hK977
   have hs981 := ((hs940).mono hK974).mono hK977
   refine Shift.done ?_
   exact ⟨v934, v938, v931, rfl, rfl, hs980, hs981, hs978⟩
  ·intro h899
   have h899 := dcd_f (h899)
   have H := iff_ h899 H
   refine Cw_skip ?_
   refine Cw_seq ?_
   refine Cw_region ?_
   refine Ow_q rfl rfl rfl (Qt_fieldAddr (m := 1) rfl rfl rfl rfl rfl) ?_
   refine Ow_q rfl rfl rfl (Qt_load1 (v := (sv vp0_waiting)) rfl rfl rfl (Rdc.blk (.tail _ (.tail _ (.tail _ (.tail _ (.head _))))) rfl)) ?_
   refine Ow_q rfl rfl rfl (Qt_move rfl) ?_
   obtain ⟨x982, hx983, H⟩ := bnd H
   have hs984 := (hp0_waiting).mono hK354
   obtain ⟨r985, hr986, hk987⟩ := Slr.at hs984 hx983
   obtain ⟨v988, v989, rfl, hs990, hs991⟩ := hr986
   refine Ow_q rfl rfl rfl (Q_ix (T := TyWaiter) hs984 hx983 rfl rfl rfl rfl rfl) ?_
   refine Ow_q rfl rfl rfl (Qt_loadA (m := 8) (cs := (Waiter.cells x982 v988 v989)) rfl rfl rfl rfl ⟨rfl, Rdc.k hk987 rfl⟩) ?_
   refine Ow_cons rfl (OpW_alloc (cs := (Waiter.cells (Waiter.mk 0 (Op.mk 0 0 0 0 0 [] [])) nilS nilS)) rfl rfl rfl rfl (fun b992 => ?_))
   refine Ow_cons rfl (OpW_store (vs := (Waiter.cells x982 v988 v989)) (all' := (Waiter.cells x982 v988 v989)) rfl rfl rfl rfl rfl .here rfl rfl rfl ?_)
   refine Ow_nil ?_
   refine Cw_seq ?_
   refine Cw_region ?_
   refine Ow_q rfl rfl rfl (Qt_fieldAddr (m := 1) rfl rfl rfl rfl rfl) ?_
   refine Ow_q rfl rfl rfl (Qt_loadA (m := 7) (cs := (Op.cells x982.op v988 v989)) rfl rfl rfl rfl ⟨rfl, Rdc.blk (.head _) rfl⟩) ?_
   refine Ow_q rfl rfl rfl (Qt_fieldAddr (m := 1) rfl rfl rfl rfl rfl) ?_
   refine Ow_q rfl rfl rfl (Qt_load1 (v := (.int .i64 p4.channel)) rfl rfl rfl (Rdc.blk (.tail _ (.tail _ (.tail _ (.tail _ (.head _))))) rfl)) ?_
   obtain ⟨x993, hx994, H⟩ := bnd H
   refine Ow_cons rfl (OpW_call rfl Try.call72 rfl rfl (c_M_18z x982.op v988 v989 p4.channel true x993 hx994 _ _ hs990 hs991) ?_)
   rintro _ K995 _ hK996 ⟨rfl, rfl⟩
   refine Ow_q rfl rfl rfl (Qt_assign rfl) ?_
   refine Ow_nil ?_
   refine Cw_seq ?_
   refine Cw_region ?_
   refine Ow_q rfl rfl rfl (Qt_fieldAddr (m := 1) rfl rfl rfl rfl rfl) ?_
   refine Ow_q rfl rfl rfl (Qt_loadA (m := 7) (cs := (Op.cells x982.op v988 v989)) rfl rfl rfl rfl ⟨rfl, Rdc.blk (.head _) rfl⟩) ?_
   obtain ⟨x997, hx998, H⟩ := bnd H
   have hs999 := (hs990).mono hK996
   have hs1000 := (hs991).mono hK996
   refine Ow_cons rfl (OpW_call rfl Try.call63 rfl rfl (c_M_17z x982.op v988 v989 x997 hx998 _ _ hs999 hs1000) ?_)
   rintro _ K1002 _ hK1003 ⟨v1001, rfl, rfl, hs1004⟩
   refine Ow_q rfl rfl rfl (Qt_move rfl) ?_
   obtain ⟨x1005, hx1006, H⟩ := bnd H
   obtain ⟨r1007, hr1008, hk1009⟩ := Slr.at hs1004 hx1006
   obtain rfl := hr1008
   refine Ow_q rfl rfl rfl (Q_ix (T := TyCase) hs1004 hx1006 rfl rfl rfl rfl rfl) ?_
   refine Ow_q rfl rfl rfl (Qt_fieldAddr (m := 2) rfl rfl rfl rfl rfl) ?_
   refine Ow_q rfl rfl rfl (Qt_load1 (v := (.int .u64 x1005.value)) rfl rfl rfl (Rdc.k hk1009 rfl)) ?_
   refine Ow_q rfl rfl rfl (Qt_assign rfl) ?_
   refine Ow_nil ?_
   refine Cw_join (fun env' K' G' => ∃ (i1026 : Int) (t1027 : Bool) (v1028 : SV) (l1029 : List Int), [(1, (.int .i64 p1)), (5, (.pointer (some ((⟨b337, 0, none⟩ : Addr).add 0)))), (9, (.pointer (some ((⟨b339, 0, none⟩ : Addr).add 0)))), (10, (.pointer (some ((⟨b340, 0, none⟩ : Addr).add 0)))), (12, (.pointer (some ((⟨b348, 0, none⟩ : Addr).add 0)))), (14, (.int .i64 x351)), (17, (.pointer (some ((⟨b800, 0, none⟩ : Addr).add 0)))), (18, (.pointer (some ((⟨b992, 0, none⟩ : Addr).add 0)))), (19, (.int .i64 x993))] = env' ∧ (.blk b992 52 (Waiter.cells x982 v988 v989)) :: (.blk b800 73 (Result.cells (Result.mk 2 x349 i1026 t1027 0))) :: (.blk b348 71 (Chan.cells (Chan.mk x341.capacity l1029 x341.closed) v1028)) :: (.blk b340 34 (Desk.cells (Desk.mk [] [] 0) nilS nilS)) :: (.blk b339 45 (Case.cells p4)) :: (.blk b337 34 (Desk.cells p0 vp0_chans vp0_waiting)) :: G = G' ∧ M_64z p1 x351 x993 x982 x349 x341 p4 p0 i1026 t1027 l1029 = some (y0, y1) ∧ Slr Ty.u64 K' (sv v1028) l1029) ?_ ?_
   ·skip
    refine Cw_seq ?_
    refine Cw_region ?_
    refine Ow_q rfl rfl rfl (Qt_fieldAddr (m := 3) rfl rfl rfl rfl rfl) ?_
    refine Ow_q rfl rfl rfl (Qt_load1 (v := (.bool t819)) rfl rfl rfl (Rdc.blk (.tail _ (.head _)) rfl)) ?_
    refine Ow_nil ?_
    refine Cw_cond rfl ?_ ?_
    ·intro h1031
     have H := ift h1031 H
     refine Cw_region ?_
     refine Ow_q rfl rfl rfl (Qt_fieldAddr (m := 1) rfl rfl rfl rfl rfl) ?_
     refine Ow_q rfl rfl rfl (Qt_load1 (v := (sv v820)) rfl rfl rfl (Rdc.blk (.tail _ (.tail _ (.head _))) rfl)) ?_
     refine Ow.shift (Shift.nilTok1 38 1 (Shift.done ?_))
     obtain ⟨x1032, hx1033, H⟩ := bnd H
     have hs1034 := ((hs822).mono hK996).mono hK1003
     refine Ow_cons rfl (O_appTok (T := Ty.u64) (bytes := 8) (q := 0) rfl rfl rfl (Slr.nil Ty.u64 _) (.head _) rfl (SrcT.sl hs1034) hx1033 rfl rfl rfl rfl rfl rfl rfl rfl (fun v1035 K1036 hK1037 hs1038 => ⟨_, .here, ?_⟩))
     refine Ow_q rfl rfl rfl (Qt_move rfl) ?_
     have hR1040 : RowR Ty.u64 K1036 [[(.int .u64 x1005.value)]] [x1005.value] := RowR.cons rfl (RowR.nil)
     refine Ow_cons rfl (O_lit (T := Ty.u64) (rows := [[(.int .u64 x1005.value)]]) (l := [x1005.value]) rfl rfl rfl hR1040 rfl rfl rfl rfl rfl rfl rfl rfl (fun v1039 => ?_))
     obtain ⟨x1041, hx1042, H⟩ := bnd H
     refine Ow_cons rfl (O_appTok (T := Ty.u64) (bytes := 8) (q := 0) rfl rfl rfl hs1038 (.tail _ (.head _)) rfl (SrcT.row (.head _) hR1040 rfl) hx1042 rfl rfl rfl rfl rfl rfl rfl rfl (fun v1043 K1044 hK1045 hs1046 => ⟨_, (.there .here), ?_⟩))
     refine Ow.shift (Shift.rem .here (Shift.done ?_))
     refine Ow_q rfl rfl rfl (Qt_fieldAddr (m := 1) rfl rfl rfl rfl rfl) ?_
     refine Ow_cons rfl (OpW_store (vs := [(sv v1043)]) (all' := (Chan.cells (Chan.mk x341.capacity x1041 x341.closed) v1043)) rfl rfl rfl rfl rfl (.there (.there (.there .here))) rfl rfl rfl ?_)
     refine Ow_nil ?_
     refine Shift.pull (.there (.there (.there (.there (.there (.there .here)))))) ?_
     refine Shift.pull (.there (.there (.there (.there (.there (.there .here)))))) ?_
     refine Shift.pull (.there (.there (.there (.there (.there (.there .here)))))) ?_
     refine Shift.pull (.there (.there (.there (.there (.there (.there .here)))))) ?_
     refine Shift.pull (.there (.there (.there (.there (.there (.there .here)))))) ?_
     refine Shift.pull (.there (.there (.there (.there (.there (.there .here)))))) ?_
     refine Shift.rem (.there (.there (.there (.there (.there (.there .here)))))) ?_
     refine Shift.done ?_
     exact ⟨[(1, (.int .i64 p1)), (5, (.pointer (some ((⟨b337, 0, none⟩ : Addr).add 0)))), (9, (.pointer (some ((⟨b339, 0, none⟩ : Addr).add 0)))), (10, (.pointer (some ((⟨b340, 0, none⟩ : Addr).add 0)))), (12, (.pointer (some ((⟨b348, 0, none⟩ : Addr).add 0)))), (14, (.int .i64 x351)), (17, (.pointer (some ((⟨b800, 0, none⟩ : Addr).add 0)))), (18, (.pointer (some ((⟨b992, 0, none⟩ : Addr).add 0)))), (19, (.int .i64 x993))], ⟨rfl, rfl, rfl, rfl, rfl, rfl, rfl, rfl, rfl, trivial⟩, i818, t819, v1043, x1041, rfl, rfl, H, hs1046⟩
    ·intro h1031
     have H := iff_ (btf h1031) H
     refine Cw_region ?_
     refine Ow_q rfl rfl rfl (Qt_move rfl) ?_
     refine Ow_q rfl rfl rfl (Qt_fieldAddr (m := 2) rfl rfl rfl rfl rfl) ?_
     refine Ow_cons rfl (OpW_store (vs := [(.int .u64 x1005.value)]) (all' := (Result.cells (Result.mk 2 x349 x1005.value t819 0))) rfl rfl rfl rfl rfl (.there .here) rfl rfl rfl ?_)
     refine Ow_q rfl rfl rfl (Qt_fieldAddr (m := 3) rfl rfl rfl rfl rfl) ?_
     refine Ow_cons rfl (OpW_store (vs := [(.bool true)]) (all' := (Result.cells (Result.mk 2 x349 x1005.value true 0))) rfl rfl rfl rfl rfl (.there .here) rfl rfl rfl ?_)
     refine Ow_nil ?_
     refine Shift.pull (.there (.there (.there (.there (.there .here))))) ?_
     refine Shift.pull (.there (.there (.there (.there (.there .here))))) ?_
     refine Shift.pull (.there (.there (.there (.there (.there .here))))) ?_
     refine Shift.pull (.there (.there (.there (.there (.there .here))))) ?_
     refine Shift.pull (.there (.there (.there (.there (.there .here))))) ?_
     refine Shift.pull (.there (.there (.there (.there (.there .here))))) ?_
     have hs1047 := ((hs822).mono hK996).mono hK1003
     refine Shift.done ?_
     exact ⟨[(1, (.int .i64 p1)), (5, (.pointer (some ((⟨b337, 0, none⟩ : Addr).add 0)))), (9, (.pointer (some ((⟨b339, 0, none⟩ : Addr).add 0)))), (10, (.pointer (some ((⟨b340, 0, none⟩ : Addr).add 0)))), (12, (.pointer (some ((⟨b348, 0, none⟩ : Addr).add 0)))), (14, (.int .i64 x351)), (17, (.pointer (some ((⟨b800, 0, none⟩ : Addr).add 0)))), (18, (.pointer (some ((⟨b992, 0, none⟩ : Addr).add 0)))), (19, (.int .i64 x993))], ⟨rfl, rfl, rfl, rfl, rfl, rfl, rfl, rfl, rfl, trivial⟩, x1005.value, true, v820, l821, rfl, rfl, H, hs1047⟩
   rintro _ K1048 _ hK1049 ⟨i1026, t1027, v1028, l1029, rfl, rfl, H, hs1030⟩
   unfold M_64z at H
   refine Cw_seq ?_
   obtain ⟨x1082, hx1083, H⟩ := bnd H
   obtain ⟨x1092, hx1093, H⟩ := bnd H
   refine Cw_region_any [.blk b992 52 (Waiter.cells x982 v988 v989), .blk b800 73 (Result.cells (Result.mk 2 x349 i1026 t1027 0)), .blk b348 71 (Chan.cells (Chan.mk x341.capacity l1029 x341.closed) v1028), .blk b340 34 (Desk.cells (Desk.mk [] [] 0) nilS nilS), .blk b339 45 (Case.cells p4)] rfl (Inc.cons (.head _) (Inc.cons (.tail _ (.head _)) (Inc.cons (.tail _ (.tail _ (.head _))) (Inc.cons (.tail _ (.tail _ (.tail _ (.head _)))) (Inc.cons (.tail _ (.tail _ (.tail _ (.tail _ (.head _))))) Inc.nil))))) ?_
   refine Aw_q 1 rfl (by kernel_rfl) (by kernel_rfl) (by kernel_rfl) rfl rfl rfl (Qt_move rfl) ?_
   refine Aw_q 3 rfl (by kernel_rfl) (by kernel_rfl) (by kernel_rfl) rfl rfl rfl (Qt_fieldAddr (m := 1) rfl rfl rfl rfl rfl) ?_
   refine Aw_q 4 rfl (by kernel_rfl) (by kernel_rfl) (by kernel_rfl) rfl rfl rfl (Qt_load1 (v := (.int .i64 p4.channel)) rfl rfl rfl (Rdc.blk (.tail _ (.tail _ (.tail _ (.tail _ (.head _))))) rfl)) ?_
   refine Aw_q 5 rfl (by kernel_rfl) (by kernel_rfl) (by kernel_rfl) rfl rfl rfl (Qt_loadA (m := 3) (cs := (Chan.cells (Chan.mk x341.capacity l1029 x341.closed) v1028)) rfl rfl rfl rfl ⟨rfl, Rdc.blk (.tail _ (.tail _ (.head _))) rfl⟩) ?_
   refine Aw_one 0 (by kernel_rfl) (Ax_mk rfl rfl (OpW_of_Qt rfl rfl (Qt_loadA (m := 3) (cs := (Desk.cells p0 vp0_chans vp0_waiting)) rfl rfl rfl rfl ⟨rfl, Rdc.blk (.tail _ (.tail _ (.tail _ (.tail _ (.tail _ (.head _)))))) rfl⟩) ⟨(Inc.cons (.head _) (Inc.cons (.tail _ (.head _)) (Inc.cons (.tail _ (.tail _ (.head _))) (Inc.cons (.tail _ (.tail _ (.tail _ (.head _)))) (Inc.cons (.tail _ (.tail _ (.tail _ (.tail _ (.head _))))) Inc.nil))))), ?_⟩))
   refine Aw_one 2 (by kernel_rfl) (Ax_mk rfl rfl ?_)
   have hs1100 := ((((hp0_chans).mono hK354).mono hK996).mono hK1003).mono hK1049
   have hs1101 := (((hs984).mono hK996).mono hK1003).mono hK1049
   refine OpW_call rfl Try.call60 rfl rfl (c_M_3z p0 vp0_chans vp0_waiting x351 x1082 hx1083 _ _ hs1100 hs1101) ?_
   rintro _ K1104 _ hK1105 ⟨v1102, v1103, rfl, rfl, hs1106, hs1107⟩
   refine ⟨(Inc.cons (.tail _ (.head _)) (Inc.cons (.tail _ (.tail _ (.head _))) (Inc.cons (.tail _ (.tail _ (.tail _ (.head _)))) (Inc.cons (.tail _ (.tail _ (.tail _ (.tail _ (.head _))))) (Inc.cons (.tail _ (.tail _ (.tail _ (.tail _ (.tail _ (.head _)))))) Inc.nil))))), ?_⟩
   refine Aw_one 6 (by kernel_rfl) (Ax_mk rfl rfl ?_)
   have hs1108 := (hs1030).mono hK1105
   refine OpW_call rfl Try.call84 rfl rfl (c_M_16z x1082 v1102 v1103 p4.channel (Chan.mk x341.capacity l1029 x341.closed) v1028 x1092 hx1093 _ _ hs1106 hs1107 hs1108) ?_
   rintro _ _ _ - ⟨v1109, rs1110, v1111, rfl, rfl, rfl, hs1112, hs1113⟩
   refine ⟨(Inc.cons (.tail _ (.tail _ (.head _))) (Inc.cons (.tail _ (.tail _ (.tail _ (.head _)))) (Inc.cons (.tail _ (.tail _ (.tail _ (.tail _ (.head _))))) (Inc.cons (.tail _ (.tail _ (.tail _ (.tail _ (.tail _ (.head _)))))) (Inc.cons (.tail _ (.tail _ (.tail _ (.tail _ (.tail _ (.tail _ (.head _))))))) Inc.nil))))), ?_⟩
   refine Aw_one 7 (by kernel_rfl) (Ax_mk rfl rfl ?_)
   refine OpW_store (vs := (Desk.cells x1092 v1109 v1111)) (all' := (Desk.cells x1092 v1109 v1111)) rfl rfl rfl rfl rfl (.there (.there (.there (.there (.there (.there (.there .here))))))) rfl rfl rfl ⟨(Inc.cons (.tail _ (.tail _ (.head _))) (Inc.cons (.tail _ (.tail _ (.tail _ (.head _)))) (Inc.cons (.tail _ (.tail _ (.tail _ (.tail _ (.head _))))) (Inc.cons (.tail _ (.tail _ (.tail _ (.tail _ (.tail _ (.head _)))))) (Inc.cons (.tail _ (.tail _ (.tail _ (.tail _ (.tail _ (.tail _ (.head _))))))) Inc.nil))))), ?_⟩
   refine Aw_done (by kernel_rfl) ?_
   refine Cw_seq ?_
   obtain ⟨x1153, hx1154, H⟩ := bnd H
   obtain ⟨x1160, hx1161, H⟩ := bnd H
   refine Cw_region_any [.row (sv v1109) 71 3 rs1110.flatten, .tok 52 8 [(sv v1103)], .blk b992 52 (Waiter.cells x982 v988 v989), .blk b800 73 (Result.cells (Result.mk 2 x349 i1026 t1027 0)), .blk b348 71 (Chan.cells (Chan.mk x341.capacity l1029 x341.closed) v1028), .blk b339 45 (Case.cells p4), .blk b337 34 (Desk.cells x1092 v1109 v1111)] rfl (Inc.cons (.head _) (Inc.cons (.tail _ (.head _)) (Inc.cons (.tail _ (.tail _ (.head _))) (Inc.cons (.tail _ (.tail _ (.tail _ (.head _)))) (Inc.cons (.tail _ (.tail _ (.tail _ (.tail _ (.head _))))) (Inc.cons (.tail _ (.tail _ (.tail _ (.tail _ (.tail _ (.tail _ (.head _))))))) (Inc.cons (.tail _ (.tail _ (.tail _ (.tail _ (.tail _ (.tail _ (.tail _ (.head _)))))))) Inc.nil))))))) ?_
   refine Aw_q 0 rfl (by kernel_rfl) (by kernel_rfl) (by kernel_rfl) rfl rfl rfl (Qt_loadA (m := 3) (cs := (Desk.cells x1092 v1109 v1111)) rfl rfl rfl rfl ⟨rfl, Rdc.blk (.tail _ (.tail _ (.tail _ (.tail _ (.tail _ (.tail _ (.head _))))))) rfl⟩) ?_
   refine Aw_q 1 rfl (by kernel_rfl) (by kernel_rfl) (by kernel_rfl) rfl rfl rfl (Qt_move rfl) ?_
   refine Aw_q 2 rfl (by kernel_rfl) (by kernel_rfl) (by kernel_rfl) rfl rfl rfl (Qt_loadA (m := 5) (cs := (Result.cells (Result.mk 2 x349 i1026 t1027 0))) rfl rfl rfl rfl ⟨rfl, Rdc.blk (.tail _ (.tail _ (.tail _ (.head _)))) rfl⟩) ?_
   refine Aw_q 3 rfl (by kernel_rfl) (by kernel_rfl) (by kernel_rfl) rfl rfl rfl (Qt_build (cs := (Done.cells (Done.mk p1 (Result.mk 2 x349 i1026 t1027 0)))) rfl rfl rfl rfl rfl rfl) ?_
   refine Aw_q 5 rfl (by kernel_rfl) (by kernel_rfl) (by kernel_rfl) rfl rfl rfl (Qt_fieldAddr (m := 0) rfl rfl rfl rfl rfl) ?_
   refine Aw_q 6 rfl (by kernel_rfl) (by kernel_rfl) (by kernel_rfl) rfl rfl rfl (Qt_load1 (v := (.int .i64 x982.thread)) rfl rfl rfl (Rdc.blk (.tail _ (.tail _ (.head _))) rfl)) ?_
   refine Aw_q 7 rfl (by kernel_rfl) (by kernel_rfl) (by kernel_rfl) rfl rfl rfl (Qt_fieldAddr (m := 1) rfl rfl rfl rfl rfl) ?_
   refine Aw_q 8 rfl (by kernel_rfl) (by kernel_rfl) (by kernel_rfl) rfl rfl rfl (Qt_loadA (m := 7) (cs := (Op.cells x982.op v988 v989)) rfl rfl rfl rfl ⟨rfl, Rdc.blk (.tail _ (.tail _ (.head _))) rfl⟩) ?_
   refine Aw_q 9 rfl (by kernel_rfl) (by kernel_rfl) (by kernel_rfl) rfl rfl rfl (Qt_move rfl) ?_
   refine Aw_two 4 10 (by kernel_rfl) ?_ ?_
   ·skip
    refine id (Ax_mk rfl rfl ?_)
    have hR1167 : RowR TyDone K1104 [(Done.cells (Done.mk p1 (Result.mk 2 x349 i1026 t1027 0)))] [(Done.mk p1 (Result.mk 2 x349 i1026 t1027 0))] := RowR.cons rfl (RowR.nil)
    refine O_lit (T := TyDone) (rows := [(Done.cells (Done.mk p1 (Result.mk 2 x349 i1026 t1027 0)))]) (l := [(Done.mk p1 (Result.mk 2 x349 i1026 t1027 0))]) rfl rfl rfl hR1167 rfl rfl rfl rfl rfl rfl rfl rfl (fun v1166 => ⟨(Inc.cons (.tail _ (.head _)) (Inc.cons (.tail _ (.tail _ (.head _))) (Inc.cons (.tail _ (.tail _ (.tail _ (.head _)))) (Inc.cons (.tail _ (.tail _ (.tail _ (.tail _ (.head _))))) (Inc.cons (.tail _ (.tail _ (.tail _ (.tail _ (.tail _ (.head _)))))) (Inc.cons (.tail _ (.tail _ (.tail _ (.tail _ (.tail _ (.tail _ (.tail _ (.head _)))))))) (Inc.cons (.tail _ (.tail _ (.tail _ (.tail _ (.tail _ (.tail _ (.tail _ (.tail _ (.head _))))))))) Inc.nil))))))), ?_⟩)
    refine Aw_one 10 (by kernel_rfl) (Ax_mk rfl rfl ?_)
    have hs1168 := (((hs999).mono hK1003).mono hK1049).mono hK1105
    have hs1169 := (((hs1000).mono hK1003).mono hK1049).mono hK1105
    refine OpW_call rfl Try.call85 rfl rfl (c_M_19z x982.op v988 v989 x993 x1153 hx1154 _ _ hs1168 hs1169) ?_
    rintro _ _ _ - ⟨rfl, rfl, rfl⟩
    refine ⟨(Inc.cons (.tail _ (.head _)) (Inc.cons (.tail _ (.tail _ (.head _))) (Inc.cons (.tail _ (.tail _ (.tail _ (.head _)))) (Inc.cons (.tail _ (.tail _ (.tail _ (.tail _ (.head _))))) (Inc.cons (.tail _ (.tail _ (.tail _ (.tail _ (.tail _ (.head _)))))) (Inc.cons (.tail _ (.tail _ (.tail _ (.tail _ (.tail _ (.tail _ (.tail _ (.head _)))))))) (Inc.cons (.tail _ (.tail _ (.tail _ (.tail _ (.tail _ (.tail _ (.tail _ (.tail _ (.head _))))))))) Inc.nil))))))), ?_⟩
    refine Aw_q 11 rfl (by kernel_rfl) (by kernel_rfl) (by kernel_rfl) rfl rfl rfl (Qt_build (cs := (Result.cells (Result.mk 1 x1153 0 false 0))) rfl rfl rfl rfl rfl rfl) ?_
    refine Aw_one 12 (by kernel_rfl) (Ax_mk rfl rfl ?_)
    refine OpW.shift (Shift.settle (T := TyDone) .here hR1167 rfl (fun K1170 hK1171 hs1172 => Shift.done ?_))
    refine OpW_call rfl Try.call61 rfl rfl (c_M_14z [(Done.mk p1 (Result.mk 2 x349 i1026 t1027 0))] v1166 x982.thread (Result.mk 1 x1153 0 false 0) x1160 hx1161 _ _ hs1172) ?_
    rintro _ K1174 _ hK1175 ⟨v1173, rfl, rfl, hs1176⟩
    refine ⟨(Inc.cons (.tail _ (.tail _ (.head _))) (Inc.cons (.tail _ (.tail _ (.tail _ (.head _)))) (Inc.cons (.tail _ (.tail _ (.tail _ (.tail _ (.head _))))) (Inc.cons (.tail _ (.tail _ (.tail _ (.tail _ (.tail _ (.head _)))))) (Inc.cons (.tail _ (.tail _ (.tail _ (.tail _ (.tail _ (.tail _ (.head _))))))) (Inc.cons (.tail _ (.tail _ (.tail _ (.tail _ (.tail _ (.tail _ (.tail _ (.tail _ (.head _))))))))) (Inc.cons (.tail _ (.tail _ (.tail _ (.tail _ (.tail _ (.tail _ (.tail _ (.tail _ (.tail _ (.head _)))))))))) Inc.nil))))))), ?_⟩
    refine Aw_one 13 (by kernel_rfl) (Ax_mk rfl rfl ?_)
    refine OpW_store (vs := (Desk.cells x1092 v1109 v1111)) (all' := (Desk.cells x1092 v1109 v1111)) rfl rfl rfl rfl rfl (.there (.there (.there (.there (.there (.there (.there .here))))))) rfl rfl rfl ⟨(Inc.cons (.tail _ (.tail _ (.head _))) (Inc.cons (.tail _ (.tail _ (.tail _ (.head _)))) (Inc.cons (.tail _ (.tail _ (.tail _ (.tail _ (.head _))))) (Inc.cons (.tail _ (.tail _ (.tail _ (.tail _ (.tail _ (.head _)))))) (Inc.cons (.tail _ (.tail _ (.tail _ (.tail _ (.tail _ (.tail _ (.head _))))))) (Inc.cons (.tail _ (.tail _ (.tail _ (.tail _ (.tail _ (.tail _ (.tail _ (.tail _ (.head _))))))))) (Inc.cons (.tail _ (.tail _ (.tail _ (.tail _ (.tail _ (.tail _ (.tail _ (.tail _ (.tail _ (.head _)))))))))) Inc.nil))))))), ?_⟩
    refine Aw_q 14 rfl (by kernel_rfl) (by kernel_rfl) (by kernel_rfl) rfl rfl rfl (Qt_assign rfl) ?_
    refine Aw_done (by kernel_rfl) ?_
    refine Cw_ret ?_
    obtain ⟨ey0, ey1⟩ := inj2 H
    subst y0 y1
    refine ⟨(by first | exact .inl rfl | exact .inr rfl), [(.agg (Desk.cells x1092 v1109 v1111).toArray), (sv v1173)], ⟨(.agg (Desk.cells x1092 v1109 v1111).toArray), _, rfl, ⟨_, 3, (Desk.cells x1092 v1109 v1111), rfl, rfl, rfl, rfl, ⟨rfl, Rdc.blk (.tail _ (.tail _ (.tail _ (.tail _ (.tail _ (.tail _ (.tail _ (.head _)))))))) rfl⟩, rfl⟩, ⟨(sv v1173), _, rfl, rfl, rfl⟩⟩, ?_⟩
    have hs1180 := ((hs1112).mono hK1171).mono hK1175
    refine Shift.settle (T := TyChan) (.there (.there .here)) hs1180 rfl ?_
    intro K1177 hK1178 hs1179
    refine Shift.rem (.there .here) ?_
    refine Shift.rem (.there .here) ?_
    refine Shift.rem (.there .here) ?_
    refine Shift.rem (.there .here) ?_
    refine Shift.rem (.there .here) ?_
    refine Shift.rem (.there .here) ?_
    refine Shift.rem (.there .here) ?_
    refine Shift.rem (.there .here) ?_
    refine Shift.rem (.there .here) ?_
    have hs1181 := (((hs1113).mono hK1171).mono hK1175).mono hK1178
    have hs1182 := (hs1176).mono hK1178
    refine Shift.done ?_
    exact ⟨v1109, v1111, v1173, rfl, rfl, hs1179, hs1181, hs1182⟩
   ·skip
    refine id (Ax_mk rfl rfl ?_)
    have hs1183 := (((hs999).mono hK1003).mono hK1049).mono hK1105
    have hs1184 := (((hs1000).mono hK1003).mono hK1049).mono hK1105
    refine OpW_call rfl Try.call85 rfl rfl (c_M_19z x982.op v988 v989 x993 x1153 hx1154 _ _ hs1183 hs1184) ?_
    rintro _ _ _ - ⟨rfl, rfl, rfl⟩
    refine ⟨(Inc.cons (.head _) (Inc.cons (.tail _ (.head _)) (Inc.cons (.tail _ (.tail _ (.head _))) (Inc.cons (.tail _ (.tail _ (.tail _ (.head _)))) (Inc.cons (.tail _ (.tail _ (.tail _ (.tail _ (.head _))))) (Inc.cons (.tail _ (.tail _ (.tail _ (.tail _ (.tail _ (.tail _ (.head _))))))) (Inc.cons (.tail _ (.tail _ (.tail _ (.tail _ (.tail _ (.tail _ (.tail _ (.head _)))))))) Inc.nil))))))), ?_⟩
    refine Aw_q 11 rfl (by kernel_rfl) (by kernel_rfl) (by kernel_rfl) rfl rfl rfl (Qt_build (cs := (Result.cells (Result.mk 1 x1153 0 false 0))) rfl rfl rfl rfl rfl rfl) ?_
    refine Aw_one 4 (by kernel_rfl) (Ax_mk rfl rfl ?_)
    have hR1186 : RowR TyDone K1104 [(Done.cells (Done.mk p1 (Result.mk 2 x349 i1026 t1027 0)))] [(Done.mk p1 (Result.mk 2 x349 i1026 t1027 0))] := RowR.cons rfl (RowR.nil)
    refine O_lit (T := TyDone) (rows := [(Done.cells (Done.mk p1 (Result.mk 2 x349 i1026 t1027 0)))]) (l := [(Done.mk p1 (Result.mk 2 x349 i1026 t1027 0))]) rfl rfl rfl hR1186 rfl rfl rfl rfl rfl rfl rfl rfl (fun v1185 => ⟨(Inc.cons (.tail _ (.head _)) (Inc.cons (.tail _ (.tail _ (.head _))) (Inc.cons (.tail _ (.tail _ (.tail _ (.head _)))) (Inc.cons (.tail _ (.tail _ (.tail _ (.tail _ (.head _))))) (Inc.cons (.tail _ (.tail _ (.tail _ (.tail _ (.tail _ (.head _)))))) (Inc.cons (.tail _ (.tail _ (.tail _ (.tail _ (.tail _ (.tail _ (.tail _ (.head _)))))))) (Inc.cons (.tail _ (.tail _ (.tail _ (.tail _ (.tail _ (.tail _ (.tail _ (.tail _ (.head _))))))))) Inc.nil))))))), ?_⟩)
    refine Aw_one 12 (by kernel_rfl) (Ax_mk rfl rfl ?_)
    refine OpW.shift (Shift.settle (T := TyDone) .here hR1186 rfl (fun K1187 hK1188 hs1189 => Shift.done ?_))
    refine OpW_call rfl Try.call61 rfl rfl (c_M_14z [(Done.mk p1 (Result.mk 2 x349 i1026 t1027 0))] v1185 x982.thread (Result.mk 1 x1153 0 false 0) x1160 hx1161 _ _ hs1189) ?_
    rintro _ K1191 _ hK1192 ⟨v1190, rfl, rfl, hs1193⟩
    refine ⟨(Inc.cons (.tail _ (.tail _ (.head _))) (Inc.cons (.tail _ (.tail _ (.tail _ (.head _)))) (Inc.cons (.tail _ (.tail _ (.tail _ (.tail _ (.head _))))) (Inc.cons (.tail _ (.tail _ (.tail _ (.tail _ (.tail _ (.head _)))))) (Inc.cons (.tail _ (.tail _ (.tail _ (.tail _ (.tail _ (.tail _ (.head _))))))) (Inc.cons (.tail _ (.tail _ (.tail _ (.tail _ (.tail _ (.tail _ (.tail _ (.tail _ (.head _))))))))) (Inc.cons (.tail _ (.tail _ (.tail _ (.tail _ (.tail _ (.tail _ (.tail _ (.tail _ (.tail _ (.head _)))))))))) Inc.nil))))))), ?_⟩
    refine Aw_one 13 (by kernel_rfl) (Ax_mk rfl rfl ?_)
    refine OpW_store (vs := (Desk.cells x1092 v1109 v1111)) (all' := (Desk.cells x1092 v1109 v1111)) rfl rfl rfl rfl rfl (.there (.there (.there (.there (.there (.there (.there .here))))))) rfl rfl rfl ⟨(Inc.cons (.tail _ (.tail _ (.head _))) (Inc.cons (.tail _ (.tail _ (.tail _ (.head _)))) (Inc.cons (.tail _ (.tail _ (.tail _ (.tail _ (.head _))))) (Inc.cons (.tail _ (.tail _ (.tail _ (.tail _ (.tail _ (.head _)))))) (Inc.cons (.tail _ (.tail _ (.tail _ (.tail _ (.tail _ (.tail _ (.head _))))))) (Inc.cons (.tail _ (.tail _ (.tail _ (.tail _ (.tail _ (.tail _ (.tail _ (.tail _ (.head _))))))))) (Inc.cons (.tail _ (.tail _ (.tail _ (.tail _ (.tail _ (.tail _ (.tail _ (.tail _ (.tail _ (.head _)))))))))) Inc.nil))))))), ?_⟩
    refine Aw_q 14 rfl (by kernel_rfl) (by kernel_rfl) (by kernel_rfl) rfl rfl rfl (Qt_assign rfl) ?_
    refine Aw_done (by kernel_rfl) ?_
    refine Cw_ret ?_
    obtain ⟨ey0, ey1⟩ := inj2 H
    subst y0 y1
    refine ⟨(by first | exact .inl rfl | exact .inr rfl), [(.agg (Desk.cells x1092 v1109 v1111).toArray), (sv v1190)], ⟨(.agg (Desk.cells x1092 v1109 v1111).toArray), _, rfl, ⟨_, 3, (Desk.cells x1092 v1109 v1111), rfl, rfl, rfl, rfl, ⟨rfl, Rdc.blk (.tail _ (.tail _ (.tail _ (.tail _ (.tail _ (.tail _ (.tail _ (.head _)))))))) rfl⟩, rfl⟩, ⟨(sv v1190), _, rfl, rfl, rfl⟩⟩, ?_⟩
    have hs1197 := ((hs1112).mono hK1188).mono hK1192
    refine Shift.settle (T := TyChan) (.there (.there .here)) hs1197 rfl ?_
    intro K1194 hK1195 hs1196
    refine Shift.rem (.there .here) ?_
    refine Shift.rem (.there .here) ?_
    refine Shift.rem (.there .here) ?_
    refine Shift.rem (.there .here) ?_
    refine Shift.rem (.there .here) ?_
    refine Shift.rem (.there .here) ?_
    refine Shift.rem (.there .here) ?_
    refine Shift.rem (.there .here) ?_
    refine Shift.rem (.there .here) ?_
    have hs1198 := (((hs1113).mono hK1188).mono hK1192).mono hK1195
    have hs1199 := (hs1193).mono hK1195
    refine Shift.done ?_
    exact ⟨v1109, v1111, v1190, rfl, rfl, hs1196, hs1198, hs1199⟩



end Go.Hx
