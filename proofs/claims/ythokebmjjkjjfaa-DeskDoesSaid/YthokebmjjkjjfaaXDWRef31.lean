/- Printed by program. -/
import Derived.Test.YthokebmjjkjjfaaXDM
import Derived.Test.YthokebmjjkjjfaaXDWDraw1
namespace Go.Hx
open Go Go.Proofs
set_option linter.unusedSimpArgs false
set_option linter.unusedVariables false
set_option maxRecDepth 10000
set_option maxHeartbeats 1000000 in
theorem c_M_18z (p0 : Op) (vp0_cases : SV) (vp0_draws : SV) (y0 : List Int) (H : M_18z p0 = some y0) (K : Kp) (G : List Ent) (hp0_cases : Slr TyCase K (sv vp0_cases) p0.cases) (hp0_draws : Slr Ty.i64 K (sv vp0_draws) p0.draws) :
  Fc Try.prog 26 #[(.agg (Op.cells p0 vp0_cases vp0_draws).toArray)] K (G) (fun v K' G' => ∃ (wy0 : SV) (rswy0 : List (List Value)), v = (sv wy0) ∧ (.row (sv wy0) 3 1 rswy0.flatten) :: G = G' ∧ RowR Ty.i64 K' rswy0 y0) := by
 refine Fc_body Try.func26 rfl Try.ntmps26 Try.results26 rfl ?_
 unfold M_18z at H
 refine Cw_seq ?_
 refine Cw_region ?_
 refine Ow_cons rfl (OpW_box (cs := (Op.cells p0 vp0_cases vp0_draws)) rfl rfl rfl (fun b9 => ?_))
 refine Ow_q rfl rfl rfl (Qt_assign rfl) ?_
 refine Ow_nil ?_
 refine Cw_seq ?_
 refine Cw_region ?_
 refine Ow_q rfl rfl rfl (Qt_fieldAddr (m := 5) rfl rfl rfl rfl rfl) ?_
 refine Ow_q rfl rfl rfl (Qt_load1 (v := (sv vp0_cases)) rfl rfl rfl (Rdc.blk (.head _) rfl)) ?_
 refine Ow_q rfl rfl rfl (Q_len (T := TyCase) hp0_cases rfl rfl) ?_
 refine Ow_q rfl rfl rfl (Qt_fieldAddr (m := 6) rfl rfl rfl rfl rfl) ?_
 refine Ow_q rfl rfl rfl (Qt_load1 (v := (sv vp0_draws)) rfl rfl rfl (Rdc.blk (.head _) rfl)) ?_
 obtain ⟨x10, hx11, H⟩ := bnd H
 refine Ow_cons rfl (OpW_call rfl Try.call55 rfl rfl (c_M_31z (p0.cases.length : Int) p0.draws vp0_draws x10 hx11 _ _ hp0_draws) ?_)
 rintro _ K14 _ hK15 ⟨v12, rs13, rfl, rfl, hs16⟩
 refine Ow_q rfl rfl rfl (Qt_assign rfl) ?_
 refine Ow_nil ?_
 refine Cw_ret ?_
 obtain ey0 := inj1 H
 subst y0
 refine ⟨(by first | exact .inl rfl | exact .inr rfl), [(sv v12)], ⟨(sv v12), _, rfl, rfl, rfl⟩, ?_⟩
 refine Re1 ?_
 refine Shift.done ?_
 exact ⟨v12, rs13, rfl, rfl, hs16⟩



end Go.Hx

namespace Go.Hx
open Go Go.Proofs
set_option linter.unusedSimpArgs false
set_option linter.unusedVariables false
set_option maxRecDepth 10000
set_option maxHeartbeats 1000000 in
theorem c_M_119z (p0 : Desk) (vp0_chans : SV) (vp0_waiting : SV) (p1 : Int) (p2 : Op) (vp2_cases : SV) (vp2_draws : SV) (y0 : Int) (H : M_119z p0 p1 p2 = some y0) (K : Kp) (G : List Ent) (hp0_chans : Slr TyChan K (sv vp0_chans) p0.chans) (hp0_waiting : Slr TyWaiter K (sv vp0_waiting) p0.waiting) (hp2_cases : Slr TyCase K (sv vp2_cases) p2.cases) (hp2_draws : Slr Ty.i64 K (sv vp2_draws) p2.draws) :
  Fc Try.prog 19 #[(.agg (Desk.cells p0 vp0_chans vp0_waiting).toArray), (.int .i64 p1), (.agg (Op.cells p2 vp2_cases vp2_draws).toArray)] K (G) (fun v K' G' => v = (.int .i64 y0) ∧ G = G') := by
 refine Fc_body Try.func19 rfl Try.ntmps19 Try.results19 rfl ?_
 unfold M_119z at H
 refine Cw_seq ?_
 refine Cw_region ?_
 refine Ow_cons rfl (OpW_box (cs := (Desk.cells p0 vp0_chans vp0_waiting)) rfl rfl rfl (fun b92 => ?_))
 refine Ow_cons rfl (OpW_box (cs := (Op.cells p2 vp2_cases vp2_draws)) rfl rfl rfl (fun b93 => ?_))
 refine Ow_q rfl rfl rfl (Qt_assign rfl) ?_
 refine Ow_nil ?_
 refine Cw_seq ?_
 refine Cw_region ?_
 refine Ow_q rfl rfl rfl (Qt_loadA (m := 7) (cs := (Op.cells p2 vp2_cases vp2_draws)) rfl rfl rfl rfl ⟨rfl, Rdc.blk (.head _) rfl⟩) ?_
 obtain ⟨x94, hx95, H⟩ := bnd H
 refine Ow_cons rfl (OpW_call rfl Try.call26 rfl rfl (c_M_18z p2 vp2_cases vp2_draws x94 hx95 _ _ hp2_cases hp2_draws) ?_)
 rintro _ K98 _ hK99 ⟨v96, rs97, rfl, rfl, hs100⟩
 refine Ow_q rfl rfl rfl (Qt_assign rfl) ?_
 refine Ow_nil ?_
 refine Cw_join (fun env' K' G' => [] = env' ∧ G = G' ∧ M_193z = some y0) ?_ ?_
 ·skip
  refine Cw_seq ?_
  refine Cw_region ?_
  refine Ow_q rfl rfl rfl (Qt_assign rfl) ?_
  refine Ow_nil ?_
  refine Cw_block ?_
  refine Cw_loopM (fun n261 env' K' G' => ∃ (i260 : Int), [(1, (.int .i64 p1)), (3, (.pointer (some ((⟨b92, 0, none⟩ : Addr).add 0)))), (5, (.pointer (some ((⟨b93, 0, none⟩ : Addr).add 0)))), (7, (sv v96)), (8, (.int .i64 i260))] = env' ∧ (.blk b93 41 (Op.cells p2 vp2_cases vp2_draws)) :: (.blk b92 34 (Desk.cells p0 vp0_chans vp0_waiting)) :: (.row (sv v96) 3 1 rs97.flatten) :: G = G' ∧ lp1 (M_118z p1 x94 p2 p0) n261 i260 = some y0) BIG ?_ ?_
  ·skip
   refine Pu2 ?_
   refine Pu2 ?_
   refine Shift.done ?_
   exact ⟨_, by exact ⟨rfl, rfl, rfl, rfl, rfl, trivial⟩, 0, rfl, rfl, H⟩
  rintro n261 _ K262 _ hK263 ⟨i260, rfl, rfl, H⟩
  obtain ⟨m264, k265, rfl, hkk266, H⟩ := lps1 H
  unfold M_118z at H
  refine Cw_seq ?_
  refine Cw_seq ?_
  refine Cw_region ?_
  refine Ow_q rfl rfl rfl (Qt_move rfl) ?_
  refine Ow_q rfl rfl rfl (Qt_move rfl) ?_
  have hs269 := (hs100).mono hK263
  refine Ow_q rfl rfl rfl (Q_lenR (T := Ty.i64) (.tail _ (.tail _ (.head _))) hs269 rfl rfl rfl) ?_
  refine Ow_q rfl rfl rfl (Qt_cmp rfl rfl rfl) ?_
  refine Ow_nil ?_
  refine Cw_cond rfl ?_ ?_
  ·intro h270
   have h270 := dcd_t (h270)
   have H := ift h270 H
   refine Cw_skip ?_
   refine Cw_seq ?_
   refine Cw_block ?_
   refine Cw_seq ?_
   obtain ⟨x306, hx307, H⟩ := bnd H
   obtain ⟨x311, hx312, H⟩ := bnd H
   obtain ⟨x317, hx318, H⟩ := bnd H
   refine Cw_region_any [.blk b93 41 (Op.cells p2 vp2_cases vp2_draws), .blk b92 34 (Desk.cells p0 vp0_chans vp0_waiting), .row (sv v96) 3 1 rs97.flatten] rfl (Inc.cons (.head _) (Inc.cons (.tail _ (.head _)) (Inc.cons (.tail _ (.tail _ (.head _))) Inc.nil))) ?_
   refine Awq 0 rfl (by kernel_rfl) rfl rfl rfl (Qt_loadA (m := 3) (cs := (Desk.cells p0 vp0_chans vp0_waiting)) rfl rfl rfl rfl ⟨rfl, Rdc.blk (.tail _ (.head _)) rfl⟩) ?_
   refine Awq 1 rfl (by kernel_rfl) rfl rfl rfl (Qt_move rfl) ?_
   refine Awq 2 rfl (by kernel_rfl) rfl rfl rfl (Qt_fieldAddr (m := 5) rfl rfl rfl rfl rfl) ?_
   refine Awq 3 rfl (by kernel_rfl) rfl rfl rfl (Qt_load1 (v := (sv vp2_cases)) rfl rfl rfl (Rdc.blk (.head _) rfl)) ?_
   refine Awq 4 rfl (by kernel_rfl) rfl rfl rfl (Qt_move rfl) ?_
   refine Awq 5 rfl (by kernel_rfl) rfl rfl rfl (Qt_move rfl) ?_
   obtain ⟨r323, hq324, hr325⟩ := RowR.at hs269 hx307
   obtain rfl := hr325
   refine Awq 6 rfl (by kernel_rfl) rfl rfl rfl (Q_ixR (T := Ty.i64) (.tail _ (.tail _ (.head _))) hs269 hq324 (getI_ix hx307).1 rfl rfl rfl rfl rfl) ?_
   refine Awq 7 rfl (by kernel_rfl) rfl rfl rfl (Qt_load1 (v := (.int .i64 x306)) rfl rfl rfl (Rd_row (T := Ty.i64) (.tail _ (.tail _ (.head _))) hs269 hq324 rfl rfl)) ?_
   have hs326 := ((hp2_cases).mono hK99).mono hK263
   obtain ⟨r327, hr328, hk329⟩ := Slr.at hs326 hx312
   obtain rfl := hr328
   refine Awq 8 rfl (by kernel_rfl) rfl rfl rfl (Q_ix (T := TyCase) hs326 hx312 rfl rfl rfl rfl rfl) ?_
   refine Awq 9 rfl (by kernel_rfl) rfl rfl rfl (Qt_loadA (m := 3) (cs := (Case.cells x311)) rfl rfl rfl rfl ⟨rfl, Rdc.k hk329 rfl⟩) ?_
   refine Aw_one 10 (by kernel_rfl) (Ax_mk rfl rfl ?_)
   have hs330 := ((hp0_chans).mono hK99).mono hK263
   have hs331 := ((hp0_waiting).mono hK99).mono hK263
   refine OpW_call rfl Try.call17 rfl rfl (c_M_64z p0 vp0_chans vp0_waiting p1 x311 x317 hx318 _ _ hs330 hs331) ?_
   rintro _ K332 _ hK333 ⟨rfl, rfl⟩
   refine ⟨(Inc.cons (.head _) (Inc.cons (.tail _ (.head _)) (Inc.cons (.tail _ (.tail _ (.head _))) Inc.nil))), ?_⟩
   refine Aw_done (by kernel_rfl) ?_
   refine Cw_cond rfl ?_ ?_
   ·intro h334
    have H := ift h334 H
    refine Cw_seq ?_
    refine Cw_region ?_
    refine Ow_q rfl rfl rfl (Qt_move rfl) ?_
    refine Ow_q rfl rfl rfl (Qt_move rfl) ?_
    obtain ⟨x335, hx336, H⟩ := bnd H
    have hs337 := (hs269).mono hK333
    obtain ⟨r338, hq339, hr340⟩ := RowR.at hs337 hx336
    obtain rfl := hr340
    refine Ow_q rfl rfl rfl (Q_ixR (T := Ty.i64) (.tail _ (.tail _ (.head _))) hs337 hq339 (getI_ix hx336).1 rfl rfl rfl rfl rfl) ?_
    refine Ow_q rfl rfl rfl (Qt_load1 (v := (.int .i64 x335)) rfl rfl rfl (Rd_row (T := Ty.i64) (.tail _ (.tail _ (.head _))) hs337 hq339 rfl rfl)) ?_
    refine Ow_q rfl rfl rfl (Qt_assign rfl) ?_
    refine Ow_nil ?_
    refine Cw_ret ?_
    obtain ey0 := inj1 H
    subst y0
    refine ⟨(by first | exact .inl rfl | exact .inr rfl), [(.int .i64 x335)], ⟨(.int .i64 x335), _, rfl, rfl, rfl⟩, ?_⟩
    refine Re0 ?_
    refine Re0 ?_
    refine Re0 ?_
    refine Shift.done ?_
    exact ⟨rfl, rfl⟩
   ·intro h334
    have H := iff_ (btf h334) H
    refine Cw_skip ?_
    refine Cw_region ?_
    refine Ow_q rfl rfl rfl (Qt_move rfl) ?_
    refine Ow_q rfl rfl rfl (Qt_arith (e := wI (i260 + 1)) rfl rfl rfl rfl) ?_
    refine Ow_q rfl rfl rfl (Qt_assign rfl) ?_
    refine Ow_nil ?_
    refine Pu2 ?_
    refine Pu2 ?_
    refine Pu2 ?_
    refine Shift.done ?_
    exact ⟨_, by exact ⟨rfl, rfl, rfl, rfl, rfl, trivial⟩, _, Nat.lt_succ_self _, (wI (i260 + 1)), rfl, rfl, (hkk266 ▸ H)⟩
  ·intro h270
   have h270 := dcd_f (h270)
   have H := iff_ h270 H
   refine Cw_exit ?_
   refine Re0 ?_
   refine Re0 ?_
   refine Re0 ?_
   refine Shift.done ?_
   exact ⟨[], trivial, rfl, rfl, H⟩
 rintro _ K341 _ hK342 ⟨rfl, rfl, H⟩
 unfold M_193z at H
 refine Cw_seq ?_
 refine Cw_region ?_
 refine Ow_q rfl rfl rfl (Qt_assign rfl) ?_
 refine Ow_nil ?_
 refine Cw_ret ?_
 obtain ey0 := inj1 H
 subst y0
 refine ⟨(by first | exact .inl rfl | exact .inr rfl), [(.int .i64 (-1))], ⟨(.int .i64 (-1)), _, rfl, rfl, rfl⟩, ?_⟩
 refine Shift.done ?_
 exact ⟨rfl, rfl⟩

set_option maxHeartbeats 1000000 in
theorem c_M_120z (p0 : Desk) (vp0_chans : SV) (vp0_waiting : SV) (p1 : Int) (p2 : Op) (vp2_cases : SV) (vp2_draws : SV) (p3 : Int) (p4 : Case) (y0 : Desk) (y1 : List Done) (H : M_120z p0 p1 p2 p3 p4 = some (y0, y1)) (K : Kp) (G : List Ent) (hp0_chans : Slr TyChan K (sv vp0_chans) p0.chans) (hp0_waiting : Slr TyWaiter K (sv vp0_waiting) p0.waiting) (hp2_cases : Slr TyCase K (sv vp2_cases) p2.cases) (hp2_draws : Slr Ty.i64 K (sv vp2_draws) p2.draws) :
  Fc Try.prog 64 #[(.agg (Desk.cells p0 vp0_chans vp0_waiting).toArray), (.int .i64 p1), (.agg (Op.cells p2 vp2_cases vp2_draws).toArray), (.int .i64 p3), (.agg (Case.cells p4).toArray)] K (G) (fun v K' G' => ∃ (wy0_chans : SV) (wy0_waiting : SV) (wy1 : SV), v = (.tuple #[(.agg (Desk.cells y0 wy0_chans wy0_waiting).toArray), (sv wy1)]) ∧ (.tok 75 6 [(sv wy1)]) :: G = G' ∧ Slr TyChan K' (sv wy0_chans) y0.chans ∧ Slr TyWaiter K' (sv wy0_waiting) y0.waiting ∧ Slr TyDone K' (sv wy1) y1) := by
 refine Fc_body Try.func64 rfl Try.ntmps64 Try.results64 rfl ?_
 unfold M_120z at H
 refine Cw_seq ?_
 refine Cw_region ?_
 refine Ow_cons rfl (OpW_box (cs := (Desk.cells p0 vp0_chans vp0_waiting)) rfl rfl rfl (fun b337 => ?_))
 refine Ow_cons rfl (OpW_box (cs := (Op.cells p2 vp2_cases vp2_draws)) rfl rfl rfl (fun b338 => ?_))
 refine Ow_cons rfl (OpW_box (cs := (Case.cells p4)) rfl rfl rfl (fun b339 => ?_))
 refine Ow_cons rfl (OpW_alloc (cs := (Desk.cells (Desk.mk [] [] 0) nilS nilS)) rfl rfl rfl rfl (fun b340 => ?_))
 refine Ow_q rfl rfl rfl (Qt_assign rfl) ?_
 refine Ow_nil ?_
 refine Cw_seq ?_
 refine Cw_region ?_
 refine Ow_q rfl rfl rfl (Qt_fieldAddr (m := 0) rfl rfl rfl rfl rfl) ?_
 refine Ow_q rfl rfl rfl (Qt_load1 (v := (sv vp0_chans)) rfl rfl rfl (Rdc.blk (.tail _ (.tail _ (.tail _ (.head _)))) rfl)) ?_
 refine Ow_q rfl rfl rfl (Qt_fieldAddr (m := 1) rfl rfl rfl rfl rfl) ?_
 refine Ow_q rfl rfl rfl (Qt_load1 (v := (.int .i64 p4.channel)) rfl rfl rfl (Rdc.blk (.tail _ (.head _)) rfl)) ?_
 obtain ⟨x341, hx342, H⟩ := bnd H
 obtain ⟨r343, hr344, hk345⟩ := Slr.at hp0_chans hx342
 obtain ⟨v346, rfl, hs347⟩ := hr344
 refine Ow_q rfl rfl rfl (Q_ix (T := TyChan) hp0_chans hx342 rfl rfl rfl rfl rfl) ?_
 refine Ow_q rfl rfl rfl (Qt_loadA (m := 3) (cs := (Chan.cells x341 v346)) rfl rfl rfl rfl ⟨rfl, Rdc.k hk345 rfl⟩) ?_
 refine Ow_cons rfl (OpW_alloc (cs := (Chan.cells (Chan.mk 0 [] false) nilS)) rfl rfl rfl rfl (fun b348 => ?_))
 refine Ow_cons rfl (OpW_store (vs := (Chan.cells x341 v346)) (all' := (Chan.cells x341 v346)) rfl rfl rfl rfl rfl .here rfl rfl rfl ?_)
 refine Ow_nil ?_
 refine Cw_seq ?_
 refine Cw_region ?_
 refine Ow_q rfl rfl rfl (Qt_loadA (m := 7) (cs := (Op.cells p2 vp2_cases vp2_draws)) rfl rfl rfl rfl ⟨rfl, Rdc.blk (.tail _ (.tail _ (.tail _ (.head _)))) rfl⟩) ?_
 refine Ow_q rfl rfl rfl (Qt_move rfl) ?_
 obtain ⟨x349, hx350, H⟩ := bnd H
 refine Ow_cons rfl (OpW_call rfl Try.call85 rfl rfl (c_M_17z p2 vp2_cases vp2_draws p3 x349 hx350 _ _ hp2_cases hp2_draws) ?_)
 rintro _ _ _ - ⟨rfl, rfl, rfl⟩
 refine Ow_q rfl rfl rfl (Qt_assign rfl) ?_
 refine Ow_nil ?_
 refine Cw_seq ?_
 refine Cw_region ?_
 refine Ow_q rfl rfl rfl (Qt_loadA (m := 3) (cs := (Desk.cells p0 vp0_chans vp0_waiting)) rfl rfl rfl rfl ⟨rfl, Rdc.blk (.tail _ (.tail _ (.tail _ (.tail _ (.head _))))) rfl⟩) ?_
 refine Ow_q rfl rfl rfl (Qt_move rfl) ?_
 refine Ow_q rfl rfl rfl (Qt_loadA (m := 3) (cs := (Case.cells p4)) rfl rfl rfl rfl ⟨rfl, Rdc.blk (.tail _ (.tail _ (.head _))) rfl⟩) ?_
 obtain ⟨x351, hx352, H⟩ := bnd H
 refine Ow_cons rfl (OpW_call rfl Try.call42 rfl rfl (c_M_63z p0 vp0_chans vp0_waiting p1 p4 x351 hx352 _ _ hp0_chans hp0_waiting) ?_)
 rintro _ K353 _ hK354 ⟨rfl, rfl⟩
 refine Ow_q rfl rfl rfl (Qt_assign rfl) ?_
 refine Ow_nil ?_
 refine Cw_seq ?_
 refine Cw_seq ?_
 refine Cw_region ?_
 refine Ow_q rfl rfl rfl (Qt_fieldAddr (m := 0) rfl rfl rfl rfl rfl) ?_
 refine Ow_q rfl rfl rfl (Qt_load1 (v := (.bool p4.send)) rfl rfl rfl (Rdc.blk (.tail _ (.tail _ (.head _))) rfl)) ?_
 refine Ow_nil ?_
 refine Cw_cond rfl ?_ ?_
 ·intro h487
  have H := ift h487 H
  refine Cw_seq ?_
  refine Cw_seq ?_
  refine Cw_region ?_
  refine Ow_q rfl rfl rfl (Qt_fieldAddr (m := 2) rfl rfl rfl rfl rfl) ?_
  refine Ow_q rfl rfl rfl (Qt_load1 (v := (.bool x341.closed)) rfl rfl rfl (Rdc.blk (.head _) rfl)) ?_
  refine Ow_nil ?_
  refine Cw_cond rfl ?_ ?_
  ·intro h491
   have H := ift h491 H
   refine Cw_seq ?_
   refine Cw_region ?_
   refine Ow_q rfl rfl rfl (Qt_loadA (m := 3) (cs := (Desk.cells p0 vp0_chans vp0_waiting)) rfl rfl rfl rfl ⟨rfl, Rdc.blk (.tail _ (.tail _ (.tail _ (.tail _ (.head _))))) rfl⟩) ?_
   refine Ow_q rfl rfl rfl (Qt_move rfl) ?_
   refine Ow_q rfl rfl rfl (Qt_move rfl) ?_
   refine Ow_q rfl rfl rfl (Qt_build (cs := (Result.cells (Result.mk 5 x349 0 false 0))) rfl rfl rfl rfl rfl rfl) ?_
   refine Ow_q rfl rfl rfl (Qt_build (cs := (Done.cells (Done.mk p1 (Result.mk 5 x349 0 false 0)))) rfl rfl rfl rfl rfl rfl) ?_
   have hR493 : RowR TyDone K353 [(Done.cells (Done.mk p1 (Result.mk 5 x349 0 false 0)))] [(Done.mk p1 (Result.mk 5 x349 0 false 0))] := RowR.cons rfl (RowR.nil)
   refine Ow_cons rfl (O_lit (T := TyDone) (rows := [(Done.cells (Done.mk p1 (Result.mk 5 x349 0 false 0)))]) (l := [(Done.mk p1 (Result.mk 5 x349 0 false 0))]) rfl rfl rfl hR493 rfl rfl rfl rfl rfl rfl rfl rfl (fun v492 => ?_))
   refine Ow_cons rfl (OpW_store (vs := (Desk.cells p0 vp0_chans vp0_waiting)) (all' := (Desk.cells p0 vp0_chans vp0_waiting)) rfl rfl rfl rfl rfl (.there (.there .here)) rfl rfl rfl ?_)
   refine Ow_q rfl rfl rfl (Qt_assign rfl) ?_
   refine Ow_nil ?_
   refine Cw_ret ?_
   obtain ⟨ey0, ey1⟩ := inj2 H
   subst y0 y1
   refine ⟨(by first | exact .inl rfl | exact .inr rfl), [(.agg (Desk.cells p0 vp0_chans vp0_waiting).toArray), (sv v492)], ⟨(.agg (Desk.cells p0 vp0_chans vp0_waiting).toArray), _, rfl, ⟨_, 3, (Desk.cells p0 vp0_chans vp0_waiting), rfl, rfl, rfl, rfl, ⟨rfl, Rdc.blk (.tail _ (.tail _ (.head _))) rfl⟩, rfl⟩, ⟨(sv v492), _, rfl, rfl, rfl⟩⟩, ?_⟩
   refine Shift.settle (T := TyDone) .here hR493 rfl ?_
   intro K494 hK495 hs496
   refine Re1 ?_
   refine Re1 ?_
   refine Re1 ?_
   refine Re1 ?_
   refine Re1 ?_
   have hs497 := ((hp0_chans).mono hK354).mono hK495
   have hs498 := ((hp0_waiting).mono hK354).mono hK495
   refine Shift.done ?_
   exact ⟨vp0_chans, vp0_waiting, v492, rfl, rfl, hs497, hs498, hs496⟩
  ·intro h491
   have H := iff_ (btf h491) H
   refine Cw_skip ?_
   refine Cw_seq ?_
   refine Cw_region ?_
   refine Ow_q rfl rfl rfl (Qt_move rfl) ?_
   refine Ow_q rfl rfl rfl (Qt_move rfl) ?_
   refine Ow_q rfl rfl rfl (Qt_build (cs := (Result.cells (Result.mk 1 x349 0 false 0))) rfl rfl rfl rfl rfl rfl) ?_
   refine Ow_q rfl rfl rfl (Qt_build (cs := (Done.cells (Done.mk p1 (Result.mk 1 x349 0 false 0)))) rfl rfl rfl rfl rfl rfl) ?_
   have hR500 : RowR TyDone K353 [(Done.cells (Done.mk p1 (Result.mk 1 x349 0 false 0)))] [(Done.mk p1 (Result.mk 1 x349 0 false 0))] := RowR.cons rfl (RowR.nil)
   refine Ow_cons rfl (O_lit (T := TyDone) (rows := [(Done.cells (Done.mk p1 (Result.mk 1 x349 0 false 0)))]) (l := [(Done.mk p1 (Result.mk 1 x349 0 false 0))]) rfl rfl rfl hR500 rfl rfl rfl rfl rfl rfl rfl rfl (fun v499 => ?_))
   refine Ow_q rfl rfl rfl (Qt_assign rfl) ?_
   refine Ow_nil ?_
   refine Cw_seq ?_
   refine Cw_seq ?_
   refine Cw_region ?_
   refine Ow_q rfl rfl rfl (Qt_move rfl) ?_
   refine Ow_q rfl rfl rfl (Qt_cmp rfl rfl rfl) ?_
   refine Ow_nil ?_
   refine Cw_cond rfl ?_ ?_
   ·intro h563
    have h563 := dcd_t (h563)
    have H := ift h563 H
    refine Cw_seq ?_
    refine Cw_region ?_
    refine Ow_q rfl rfl rfl (Qt_fieldAddr (m := 1) rfl rfl rfl rfl rfl) ?_
    refine Ow_q rfl rfl rfl (Qt_load1 (v := (sv vp0_waiting)) rfl rfl rfl (Rdc.blk (.tail _ (.tail _ (.tail _ (.tail _ (.tail _ (.head _)))))) rfl)) ?_
    refine Ow_q rfl rfl rfl (Qt_move rfl) ?_
    obtain ⟨x564, hx565, H⟩ := bnd H
    have hs566 := (hp0_waiting).mono hK354
    obtain ⟨r567, hr568, hk569⟩ := Slr.at hs566 hx565
    obtain ⟨v570, v571, rfl, hs572, hs573⟩ := hr568
    refine Ow_q rfl rfl rfl (Q_ix (T := TyWaiter) hs566 hx565 rfl rfl rfl rfl rfl) ?_
    refine Ow_q rfl rfl rfl (Qt_loadA (m := 8) (cs := (Waiter.cells x564 v570 v571)) rfl rfl rfl rfl ⟨rfl, Rdc.k hk569 rfl⟩) ?_
    refine Ow_cons rfl (OpW_alloc (cs := (Waiter.cells (Waiter.mk 0 (Op.mk 0 0 0 0 0 [] [])) nilS nilS)) rfl rfl rfl rfl (fun b574 => ?_))
    refine Ow_cons rfl (OpW_store (vs := (Waiter.cells x564 v570 v571)) (all' := (Waiter.cells x564 v570 v571)) rfl rfl rfl rfl rfl .here rfl rfl rfl ?_)
    refine Ow_nil ?_
    refine Cw_seq ?_
    obtain ⟨x625, hx626, H⟩ := bnd H
    obtain ⟨x634, hx635, H⟩ := bnd H
    obtain ⟨x640, hx641, H⟩ := bnd H
    obtain ⟨x648, hx649, H⟩ := bnd H
    refine Cw_region_any [.blk b574 52 (Waiter.cells x564 v570 v571), .blk b348 71 (Chan.cells x341 v346), .blk b339 45 (Case.cells p4), .blk b338 41 (Op.cells p2 vp2_cases vp2_draws), .blk b337 34 (Desk.cells p0 vp0_chans vp0_waiting)] rfl (Inc.cons (.head _) (Inc.cons (.tail _ (.tail _ (.head _))) (Inc.cons (.tail _ (.tail _ (.tail _ (.tail _ (.head _))))) (Inc.cons (.tail _ (.tail _ (.tail _ (.tail _ (.tail _ (.head _)))))) (Inc.cons (.tail _ (.tail _ (.tail _ (.tail _ (.tail _ (.tail _ (.head _))))))) Inc.nil))))) ?_
    refine Awq 0 rfl (by kernel_rfl) rfl rfl rfl (Qt_loadA (m := 3) (cs := (Desk.cells p0 vp0_chans vp0_waiting)) rfl rfl rfl rfl ⟨rfl, Rdc.blk (.tail _ (.tail _ (.tail _ (.tail _ (.head _))))) rfl⟩) ?_
    refine Awq 1 rfl (by kernel_rfl) rfl rfl rfl (Qt_move rfl) ?_
    refine Awq 3 rfl (by kernel_rfl) rfl rfl rfl (Qt_move rfl) ?_
    refine Awq 4 rfl (by kernel_rfl) rfl rfl rfl (Qt_fieldAddr (m := 0) rfl rfl rfl rfl rfl) ?_
    refine Awq 5 rfl (by kernel_rfl) rfl rfl rfl (Qt_load1 (v := (.int .i64 x564.thread)) rfl rfl rfl (Rdc.blk (.head _) rfl)) ?_
    refine Awq 6 rfl (by kernel_rfl) rfl rfl rfl (Qt_fieldAddr (m := 1) rfl rfl rfl rfl rfl) ?_
    refine Awq 7 rfl (by kernel_rfl) rfl rfl rfl (Qt_loadA (m := 7) (cs := (Op.cells x564.op v570 v571)) rfl rfl rfl rfl ⟨rfl, Rdc.blk (.head _) rfl⟩) ?_
    refine Awq 8 rfl (by kernel_rfl) rfl rfl rfl (Qt_fieldAddr (m := 1) rfl rfl rfl rfl rfl) ?_
    refine Awq 9 rfl (by kernel_rfl) rfl rfl rfl (Qt_loadA (m := 7) (cs := (Op.cells x564.op v570 v571)) rfl rfl rfl rfl ⟨rfl, Rdc.blk (.head _) rfl⟩) ?_
    refine Awq 10 rfl (by kernel_rfl) rfl rfl rfl (Qt_fieldAddr (m := 1) rfl rfl rfl rfl rfl) ?_
    refine Awq 11 rfl (by kernel_rfl) rfl rfl rfl (Qt_load1 (v := (.int .i64 p4.channel)) rfl rfl rfl (Rdc.blk (.tail _ (.tail _ (.head _))) rfl)) ?_
    refine Awq 14 rfl (by kernel_rfl) rfl rfl rfl (Qt_fieldAddr (m := 2) rfl rfl rfl rfl rfl) ?_
    refine Awq 15 rfl (by kernel_rfl) rfl rfl rfl (Qt_load1 (v := (.int .u64 p4.value)) rfl rfl rfl (Rdc.blk (.tail _ (.tail _ (.head _))) rfl)) ?_
    refine Aw_one 2 (by kernel_rfl) (Ax_mk rfl rfl ?_)
    have hs654 := (hp0_chans).mono hK354
    refine OpW_call rfl Try.call60 rfl rfl (c_M_3z p0 vp0_chans vp0_waiting x351 x625 hx626 _ _ hs654 hs566) ?_
    rintro _ K657 _ hK658 ⟨v655, v656, rfl, rfl, hs659, hs660⟩
    refine ⟨(Inc.cons (.tail _ (.head _)) (Inc.cons (.tail _ (.tail _ (.tail _ (.head _)))) (Inc.cons (.tail _ (.tail _ (.tail _ (.tail _ (.tail _ (.head _)))))) (Inc.cons (.tail _ (.tail _ (.tail _ (.tail _ (.tail _ (.tail _ (.head _))))))) (Inc.cons (.tail _ (.tail _ (.tail _ (.tail _ (.tail _ (.tail _ (.tail _ (.head _)))))))) Inc.nil))))), ?_⟩
    refine Aw_one 12 (by kernel_rfl) (Ax_mk rfl rfl ?_)
    have hs661 := (hs572).mono hK658
    have hs662 := (hs573).mono hK658
    refine OpW_call rfl Try.call72 rfl rfl (c_M_16z x564.op v570 v571 p4.channel false x634 hx635 _ _ hs661 hs662) ?_
    rintro _ K663 _ hK664 ⟨rfl, rfl⟩
    refine ⟨(Inc.cons (.tail _ (.head _)) (Inc.cons (.tail _ (.tail _ (.tail _ (.head _)))) (Inc.cons (.tail _ (.tail _ (.tail _ (.tail _ (.tail _ (.head _)))))) (Inc.cons (.tail _ (.tail _ (.tail _ (.tail _ (.tail _ (.tail _ (.head _))))))) (Inc.cons (.tail _ (.tail _ (.tail _ (.tail _ (.tail _ (.tail _ (.tail _ (.head _)))))))) Inc.nil))))), ?_⟩
    refine Aw_one 13 (by kernel_rfl) (Ax_mk rfl rfl ?_)
    have hs665 := (hs661).mono hK664
    have hs666 := (hs662).mono hK664
    refine OpW_call rfl Try.call85 rfl rfl (c_M_17z x564.op v570 v571 x634 x640 hx641 _ _ hs665 hs666) ?_
    rintro _ _ _ - ⟨rfl, rfl, rfl⟩
    refine ⟨(Inc.cons (.tail _ (.head _)) (Inc.cons (.tail _ (.tail _ (.tail _ (.head _)))) (Inc.cons (.tail _ (.tail _ (.tail _ (.tail _ (.tail _ (.head _)))))) (Inc.cons (.tail _ (.tail _ (.tail _ (.tail _ (.tail _ (.tail _ (.head _))))))) (Inc.cons (.tail _ (.tail _ (.tail _ (.tail _ (.tail _ (.tail _ (.tail _ (.head _)))))))) Inc.nil))))), ?_⟩
    refine Awq 16 rfl (by kernel_rfl) rfl rfl rfl (Qt_build (cs := (Result.cells (Result.mk 2 x640 p4.value true 0))) rfl rfl rfl rfl rfl rfl) ?_
    refine Aw_one 17 (by kernel_rfl) (Ax_mk rfl rfl ?_)
    have hs670 := ((hR500).mono hK658).mono hK664
    refine OpW.shift (Shift.settle (T := TyDone) (.there (.there .here)) hs670 rfl (fun K667 hK668 hs669 => Shift.done ?_))
    refine OpW_call rfl Try.call61 rfl rfl (c_M_12z [(Done.mk p1 (Result.mk 1 x349 0 false 0))] v499 x564.thread (Result.mk 2 x640 p4.value true 0) x648 hx649 _ _ hs669) ?_
    rintro _ K672 _ hK673 ⟨v671, rfl, rfl, hs674⟩
    refine ⟨(Inc.cons (.tail _ (.tail _ (.head _))) (Inc.cons (.tail _ (.tail _ (.tail _ (.tail _ (.head _))))) (Inc.cons (.tail _ (.tail _ (.tail _ (.tail _ (.tail _ (.tail _ (.head _))))))) (Inc.cons (.tail _ (.tail _ (.tail _ (.tail _ (.tail _ (.tail _ (.tail _ (.head _)))))))) (Inc.cons (.tail _ (.tail _ (.tail _ (.tail _ (.tail _ (.tail _ (.tail _ (.tail _ (.head _))))))))) Inc.nil))))), ?_⟩
    refine Aw_one 18 (by kernel_rfl) (Ax_mk rfl rfl ?_)
    refine OpW_store (vs := (Desk.cells x625 v655 v656)) (all' := (Desk.cells x625 v655 v656)) rfl rfl rfl rfl rfl (.there (.there (.there (.there (.there .here))))) rfl rfl rfl ⟨(Inc.cons (.tail _ (.tail _ (.head _))) (Inc.cons (.tail _ (.tail _ (.tail _ (.tail _ (.head _))))) (Inc.cons (.tail _ (.tail _ (.tail _ (.tail _ (.tail _ (.tail _ (.head _))))))) (Inc.cons (.tail _ (.tail _ (.tail _ (.tail _ (.tail _ (.tail _ (.tail _ (.head _)))))))) (Inc.cons (.tail _ (.tail _ (.tail _ (.tail _ (.tail _ (.tail _ (.tail _ (.tail _ (.head _))))))))) Inc.nil))))), ?_⟩
    refine Awq 19 rfl (by kernel_rfl) rfl rfl rfl (Qt_assign rfl) ?_
    refine Aw_done (by kernel_rfl) ?_
    refine Cw_ret ?_
    obtain ⟨ey0, ey1⟩ := inj2 H
    subst y0 y1
    refine ⟨(by first | exact .inl rfl | exact .inr rfl), [(.agg (Desk.cells x625 v655 v656).toArray), (sv v671)], ⟨(.agg (Desk.cells x625 v655 v656).toArray), _, rfl, ⟨_, 3, (Desk.cells x625 v655 v656), rfl, rfl, rfl, rfl, ⟨rfl, Rdc.blk (.tail _ (.tail _ (.tail _ (.tail _ (.tail _ (.head _)))))) rfl⟩, rfl⟩, ⟨(sv v671), _, rfl, rfl, rfl⟩⟩, ?_⟩
    refine Re1 ?_
    refine Re1 ?_
    refine Re1 ?_
    refine Re1 ?_
    refine Re1 ?_
    refine Re1 ?_
    refine Re1 ?_
    refine Re1 ?_
    have hs675 := (((hs659).mono hK664).mono hK668).mono hK673
    have hs676 := (((hs660).mono hK664).mono hK668).mono hK673
    refine Shift.done ?_
    exact ⟨v655, v656, v671, rfl, rfl, hs675, hs676, hs674⟩
   ·intro h563
    have h563 := dcd_f (h563)
    have H := iff_ h563 H
    refine Cw_skip ?_
    refine Cw_join (fun env' K' G' => ∃ (v727 : SV) (l728 : List Int), [(5, (.pointer (some ((⟨b337, 0, none⟩ : Addr).add 0)))), (9, (.pointer (some ((⟨b339, 0, none⟩ : Addr).add 0)))), (10, (.pointer (some ((⟨b340, 0, none⟩ : Addr).add 0)))), (12, (.pointer (some ((⟨b348, 0, none⟩ : Addr).add 0)))), (15, (sv v499))] = env' ∧ (.blk b348 71 (Chan.cells (Chan.mk x341.capacity l728 x341.closed) v727)) :: (.blk b340 34 (Desk.cells (Desk.mk [] [] 0) nilS nilS)) :: (.blk b339 45 (Case.cells p4)) :: (.blk b337 34 (Desk.cells p0 vp0_chans vp0_waiting)) :: (.tok 38 1 [(sv v727)]) :: (.row (sv v499) 75 6 [(Done.cells (Done.mk p1 (Result.mk 1 x349 0 false 0)))].flatten) :: G = G' ∧ M_166z p1 x349 x341 p4 p0 l728 = some (y0, y1) ∧ Slr Ty.u64 K' (sv v727) l728) ?_ ?_
    ·skip
     obtain ⟨x730, hx731, H⟩ := bnd H
     obtain ⟨x739, hx740, H⟩ := bnd H
     refine Cw_region_any [.row (sv v499) 75 6 [(Done.cells (Done.mk p1 (Result.mk 1 x349 0 false 0)))].flatten, .blk b340 34 (Desk.cells (Desk.mk [] [] 0) nilS nilS), .blk b339 45 (Case.cells p4), .blk b338 41 (Op.cells p2 vp2_cases vp2_draws), .blk b337 34 (Desk.cells p0 vp0_chans vp0_waiting)] rfl (Inc.cons (.head _) (Inc.cons (.tail _ (.tail _ (.head _))) (Inc.cons (.tail _ (.tail _ (.tail _ (.head _)))) (Inc.cons (.tail _ (.tail _ (.tail _ (.tail _ (.head _))))) (Inc.cons (.tail _ (.tail _ (.tail _ (.tail _ (.tail _ (.head _)))))) Inc.nil))))) ?_
     refine Awq 0 rfl (by kernel_rfl) rfl rfl rfl (Qt_fieldAddr (m := 1) rfl rfl rfl rfl rfl) ?_
     refine Awq 3 rfl (by kernel_rfl) rfl rfl rfl (Qt_fieldAddr (m := 2) rfl rfl rfl rfl rfl) ?_
     refine Awq 4 rfl (by kernel_rfl) rfl rfl rfl (Qt_load1 (v := (.int .u64 p4.value)) rfl rfl rfl (Rdc.blk (.tail _ (.tail _ (.head _))) rfl)) ?_
     refine Aw_two 1 5 (by kernel_rfl) ?_ ?_
     ·skip
      refine id (Ax_mk rfl rfl (OpW_of_Qt rfl rfl (Qt_load1 (v := (sv v346)) rfl rfl rfl (Rdc.blk (.tail _ (.head _)) rfl)) ⟨(Inc.cons (.head _) (Inc.cons (.tail _ (.tail _ (.head _))) (Inc.cons (.tail _ (.tail _ (.tail _ (.head _)))) (Inc.cons (.tail _ (.tail _ (.tail _ (.tail _ (.head _))))) (Inc.cons (.tail _ (.tail _ (.tail _ (.tail _ (.tail _ (.head _)))))) Inc.nil))))), ?_⟩))
      refine Aw_two 2 5 (by kernel_rfl) ?_ ?_
      ·skip
       refine id (Ax_mk rfl rfl ?_)
       refine OpW.shift (Shift.nilTok1 38 1 (Shift.done ?_))
       have hs745 := (hs347).mono hK354
       refine O_appTok (T := Ty.u64) (bytes := 8) (q := 0) rfl rfl rfl (Slr.nil Ty.u64 _) (.head _) rfl (SrcT.sl hs745) hx731 rfl rfl rfl rfl rfl rfl rfl rfl (fun v746 K747 hK748 hs749 => ⟨_, .here, ⟨(Inc.cons (.tail _ (.head _)) (Inc.cons (.tail _ (.tail _ (.tail _ (.head _)))) (Inc.cons (.tail _ (.tail _ (.tail _ (.tail _ (.head _))))) (Inc.cons (.tail _ (.tail _ (.tail _ (.tail _ (.tail _ (.head _)))))) (Inc.cons (.tail _ (.tail _ (.tail _ (.tail _ (.tail _ (.tail _ (.head _))))))) Inc.nil))))), ?_⟩⟩)
       refine Aw_one 5 (by kernel_rfl) (Ax_mk rfl rfl ?_)
       have hR751 : RowR Ty.u64 K747 [[(.int .u64 p4.value)]] [p4.value] := RowR.cons rfl (RowR.nil)
       refine O_lit (T := Ty.u64) (rows := [[(.int .u64 p4.value)]]) (l := [p4.value]) rfl rfl rfl hR751 rfl rfl rfl rfl rfl rfl rfl rfl (fun v750 => ⟨(Inc.cons (.tail _ (.tail _ (.head _))) (Inc.cons (.tail _ (.tail _ (.tail _ (.tail _ (.head _))))) (Inc.cons (.tail _ (.tail _ (.tail _ (.tail _ (.tail _ (.head _)))))) (Inc.cons (.tail _ (.tail _ (.tail _ (.tail _ (.tail _ (.tail _ (.head _))))))) (Inc.cons (.tail _ (.tail _ (.tail _ (.tail _ (.tail _ (.tail _ (.tail _ (.head _)))))))) Inc.nil))))), ?_⟩)
       refine Aw_one 6 (by kernel_rfl) (Ax_mk rfl rfl ?_)
       refine O_appTok (T := Ty.u64) (bytes := 8) (q := 0) rfl rfl rfl hs749 (.tail _ (.head _)) rfl (SrcT.row (.head _) hR751 rfl) hx740 rfl rfl rfl rfl rfl rfl rfl rfl (fun v752 K753 hK754 hs755 => ⟨_, (.there .here), ⟨(Inc.cons (.tail _ (.tail _ (.head _))) (Inc.cons (.tail _ (.tail _ (.tail _ (.tail _ (.head _))))) (Inc.cons (.tail _ (.tail _ (.tail _ (.tail _ (.tail _ (.head _)))))) (Inc.cons (.tail _ (.tail _ (.tail _ (.tail _ (.tail _ (.tail _ (.head _))))))) (Inc.cons (.tail _ (.tail _ (.tail _ (.tail _ (.tail _ (.tail _ (.tail _ (.head _)))))))) Inc.nil))))), ?_⟩⟩)
       refine Aw.shift (Re0 (Shift.done ⟨(Inc.cons (.tail _ (.head _)) (Inc.cons (.tail _ (.tail _ (.tail _ (.head _)))) (Inc.cons (.tail _ (.tail _ (.tail _ (.tail _ (.head _))))) (Inc.cons (.tail _ (.tail _ (.tail _ (.tail _ (.tail _ (.head _)))))) (Inc.cons (.tail _ (.tail _ (.tail _ (.tail _ (.tail _ (.tail _ (.head _))))))) Inc.nil))))), ?_⟩))
       refine Awq 7 rfl (by kernel_rfl) rfl rfl rfl (Qt_fieldAddr (m := 1) rfl rfl rfl rfl rfl) ?_
       refine Aw_one 8 (by kernel_rfl) (Ax_mk rfl rfl ?_)
       refine OpW_store (vs := [(sv v752)]) (all' := (Chan.cells (Chan.mk x341.capacity x739 x341.closed) v752)) rfl rfl rfl rfl rfl (.there (.there .here)) rfl rfl rfl ⟨(Inc.cons (.tail _ (.head _)) (Inc.cons (.tail _ (.tail _ (.tail _ (.head _)))) (Inc.cons (.tail _ (.tail _ (.tail _ (.tail _ (.head _))))) (Inc.cons (.tail _ (.tail _ (.tail _ (.tail _ (.tail _ (.head _)))))) (Inc.cons (.tail _ (.tail _ (.tail _ (.tail _ (.tail _ (.tail _ (.head _))))))) Inc.nil))))), ?_⟩
       refine Aw_done (by kernel_rfl) ?_
       refine Pu1 ?_
       refine Pu1 ?_
       refine Pu6 ?_
       refine Pu5 ?_
       refine Pu5 ?_
       refine Pu5 ?_
       refine Re6 ?_
       refine Shift.done ?_
       exact ⟨_, by exact ⟨rfl, rfl, rfl, rfl, rfl, trivial⟩, v752, x739, rfl, rfl, H, hs755⟩
      ·skip
       refine id (Ax_mk rfl rfl ?_)
       have hR757 : RowR Ty.u64 K353 [[(.int .u64 p4.value)]] [p4.value] := RowR.cons rfl (RowR.nil)
       refine O_lit (T := Ty.u64) (rows := [[(.int .u64 p4.value)]]) (l := [p4.value]) rfl rfl rfl hR757 rfl rfl rfl rfl rfl rfl rfl rfl (fun v756 => ⟨(Inc.cons (.tail _ (.head _)) (Inc.cons (.tail _ (.tail _ (.tail _ (.head _)))) (Inc.cons (.tail _ (.tail _ (.tail _ (.tail _ (.head _))))) (Inc.cons (.tail _ (.tail _ (.tail _ (.tail _ (.tail _ (.head _)))))) (Inc.cons (.tail _ (.tail _ (.tail _ (.tail _ (.tail _ (.tail _ (.head _))))))) Inc.nil))))), ?_⟩)
       refine Aw_one 2 (by kernel_rfl) (Ax_mk rfl rfl ?_)
       refine OpW.shift (Shift.nilTok1 38 1 (Shift.done ?_))
       have hs758 := (hs347).mono hK354
       refine O_appTok (T := Ty.u64) (bytes := 8) (q := 0) rfl rfl rfl (Slr.nil Ty.u64 _) (.head _) rfl (SrcT.sl hs758) hx731 rfl rfl rfl rfl rfl rfl rfl rfl (fun v759 K760 hK761 hs762 => ⟨_, .here, ⟨(Inc.cons (.tail _ (.tail _ (.head _))) (Inc.cons (.tail _ (.tail _ (.tail _ (.tail _ (.head _))))) (Inc.cons (.tail _ (.tail _ (.tail _ (.tail _ (.tail _ (.head _)))))) (Inc.cons (.tail _ (.tail _ (.tail _ (.tail _ (.tail _ (.tail _ (.head _))))))) (Inc.cons (.tail _ (.tail _ (.tail _ (.tail _ (.tail _ (.tail _ (.tail _ (.head _)))))))) Inc.nil))))), ?_⟩⟩)
       refine Aw_one 6 (by kernel_rfl) (Ax_mk rfl rfl ?_)
       have hs763 := (hR757).mono hK761
       refine O_appTok (T := Ty.u64) (bytes := 8) (q := 0) rfl rfl rfl hs762 (.head _) rfl (SrcT.row (.tail _ (.head _)) hs763 rfl) hx740 rfl rfl rfl rfl rfl rfl rfl rfl (fun v764 K765 hK766 hs767 => ⟨_, .here, ⟨(Inc.cons (.tail _ (.tail _ (.head _))) (Inc.cons (.tail _ (.tail _ (.tail _ (.tail _ (.head _))))) (Inc.cons (.tail _ (.tail _ (.tail _ (.tail _ (.tail _ (.head _)))))) (Inc.cons (.tail _ (.tail _ (.tail _ (.tail _ (.tail _ (.tail _ (.head _))))))) (Inc.cons (.tail _ (.tail _ (.tail _ (.tail _ (.tail _ (.tail _ (.tail _ (.head _)))))))) Inc.nil))))), ?_⟩⟩)
       refine Aw.shift (Re1 (Shift.done ⟨(Inc.cons (.tail _ (.head _)) (Inc.cons (.tail _ (.tail _ (.tail _ (.head _)))) (Inc.cons (.tail _ (.tail _ (.tail _ (.tail _ (.head _))))) (Inc.cons (.tail _ (.tail _ (.tail _ (.tail _ (.tail _ (.head _)))))) (Inc.cons (.tail _ (.tail _ (.tail _ (.tail _ (.tail _ (.tail _ (.head _))))))) Inc.nil))))), ?_⟩))
       refine Awq 7 rfl (by kernel_rfl) rfl rfl rfl (Qt_fieldAddr (m := 1) rfl rfl rfl rfl rfl) ?_
       refine Aw_one 8 (by kernel_rfl) (Ax_mk rfl rfl ?_)
       refine OpW_store (vs := [(sv v764)]) (all' := (Chan.cells (Chan.mk x341.capacity x739 x341.closed) v764)) rfl rfl rfl rfl rfl (.there (.there .here)) rfl rfl rfl ⟨(Inc.cons (.tail _ (.head _)) (Inc.cons (.tail _ (.tail _ (.tail _ (.head _)))) (Inc.cons (.tail _ (.tail _ (.tail _ (.tail _ (.head _))))) (Inc.cons (.tail _ (.tail _ (.tail _ (.tail _ (.tail _ (.head _)))))) (Inc.cons (.tail _ (.tail _ (.tail _ (.tail _ (.tail _ (.tail _ (.head _))))))) Inc.nil))))), ?_⟩
       refine Aw_done (by kernel_rfl) ?_
       refine Pu1 ?_
       refine Pu1 ?_
       refine Pu6 ?_
       refine Pu5 ?_
       refine Pu5 ?_
       refine Pu5 ?_
       refine Re6 ?_
       refine Shift.done ?_
       exact ⟨_, by exact ⟨rfl, rfl, rfl, rfl, rfl, trivial⟩, v764, x739, rfl, rfl, H, hs767⟩
     ·skip
      refine id (Ax_mk rfl rfl ?_)
      have hR769 : RowR Ty.u64 K353 [[(.int .u64 p4.value)]] [p4.value] := RowR.cons rfl (RowR.nil)
      refine O_lit (T := Ty.u64) (rows := [[(.int .u64 p4.value)]]) (l := [p4.value]) rfl rfl rfl hR769 rfl rfl rfl rfl rfl rfl rfl rfl (fun v768 => ⟨(Inc.cons (.tail _ (.head _)) (Inc.cons (.tail _ (.tail _ (.tail _ (.head _)))) (Inc.cons (.tail _ (.tail _ (.tail _ (.tail _ (.head _))))) (Inc.cons (.tail _ (.tail _ (.tail _ (.tail _ (.tail _ (.head _)))))) (Inc.cons (.tail _ (.tail _ (.tail _ (.tail _ (.tail _ (.tail _ (.head _))))))) Inc.nil))))), ?_⟩)
      refine Aw_one 1 (by kernel_rfl) (Ax_mk rfl rfl (OpW_of_Qt rfl rfl (Qt_load1 (v := (sv v346)) rfl rfl rfl (Rdc.blk (.tail _ (.tail _ (.head _))) rfl)) ⟨(Inc.cons (.tail _ (.head _)) (Inc.cons (.tail _ (.tail _ (.tail _ (.head _)))) (Inc.cons (.tail _ (.tail _ (.tail _ (.tail _ (.head _))))) (Inc.cons (.tail _ (.tail _ (.tail _ (.tail _ (.tail _ (.head _)))))) (Inc.cons (.tail _ (.tail _ (.tail _ (.tail _ (.tail _ (.tail _ (.head _))))))) Inc.nil))))), ?_⟩))
      refine Aw_one 2 (by kernel_rfl) (Ax_mk rfl rfl ?_)
      refine OpW.shift (Shift.nilTok1 38 1 (Shift.done ?_))
      have hs770 := (hs347).mono hK354
      refine O_appTok (T := Ty.u64) (bytes := 8) (q := 0) rfl rfl rfl (Slr.nil Ty.u64 _) (.head _) rfl (SrcT.sl hs770) hx731 rfl rfl rfl rfl rfl rfl rfl rfl (fun v771 K772 hK773 hs774 => ⟨_, .here, ⟨(Inc.cons (.tail _ (.tail _ (.head _))) (Inc.cons (.tail _ (.tail _ (.tail _ (.tail _ (.head _))))) (Inc.cons (.tail _ (.tail _ (.tail _ (.tail _ (.tail _ (.head _)))))) (Inc.cons (.tail _ (.tail _ (.tail _ (.tail _ (.tail _ (.tail _ (.head _))))))) (Inc.cons (.tail _ (.tail _ (.tail _ (.tail _ (.tail _ (.tail _ (.tail _ (.head _)))))))) Inc.nil))))), ?_⟩⟩)
      refine Aw_one 6 (by kernel_rfl) (Ax_mk rfl rfl ?_)
      have hs775 := (hR769).mono hK773
      refine O_appTok (T := Ty.u64) (bytes := 8) (q := 0) rfl rfl rfl hs774 (.head _) rfl (SrcT.row (.tail _ (.head _)) hs775 rfl) hx740 rfl rfl rfl rfl rfl rfl rfl rfl (fun v776 K777 hK778 hs779 => ⟨_, .here, ⟨(Inc.cons (.tail _ (.tail _ (.head _))) (Inc.cons (.tail _ (.tail _ (.tail _ (.tail _ (.head _))))) (Inc.cons (.tail _ (.tail _ (.tail _ (.tail _ (.tail _ (.head _)))))) (Inc.cons (.tail _ (.tail _ (.tail _ (.tail _ (.tail _ (.tail _ (.head _))))))) (Inc.cons (.tail _ (.tail _ (.tail _ (.tail _ (.tail _ (.tail _ (.tail _ (.head _)))))))) Inc.nil))))), ?_⟩⟩)
      refine Aw.shift (Re1 (Shift.done ⟨(Inc.cons (.tail _ (.head _)) (Inc.cons (.tail _ (.tail _ (.tail _ (.head _)))) (Inc.cons (.tail _ (.tail _ (.tail _ (.tail _ (.head _))))) (Inc.cons (.tail _ (.tail _ (.tail _ (.tail _ (.tail _ (.head _)))))) (Inc.cons (.tail _ (.tail _ (.tail _ (.tail _ (.tail _ (.tail _ (.head _))))))) Inc.nil))))), ?_⟩))
      refine Awq 7 rfl (by kernel_rfl) rfl rfl rfl (Qt_fieldAddr (m := 1) rfl rfl rfl rfl rfl) ?_
      refine Aw_one 8 (by kernel_rfl) (Ax_mk rfl rfl ?_)
      refine OpW_store (vs := [(sv v776)]) (all' := (Chan.cells (Chan.mk x341.capacity x739 x341.closed) v776)) rfl rfl rfl rfl rfl (.there (.there .here)) rfl rfl rfl ⟨(Inc.cons (.tail _ (.head _)) (Inc.cons (.tail _ (.tail _ (.tail _ (.head _)))) (Inc.cons (.tail _ (.tail _ (.tail _ (.tail _ (.head _))))) (Inc.cons (.tail _ (.tail _ (.tail _ (.tail _ (.tail _ (.head _)))))) (Inc.cons (.tail _ (.tail _ (.tail _ (.tail _ (.tail _ (.tail _ (.head _))))))) Inc.nil))))), ?_⟩
      refine Aw_done (by kernel_rfl) ?_
      refine Pu1 ?_
      refine Pu1 ?_
      refine Pu6 ?_
      refine Pu5 ?_
      refine Pu5 ?_
      refine Pu5 ?_
      refine Re6 ?_
      refine Shift.done ?_
      exact ⟨_, by exact ⟨rfl, rfl, rfl, rfl, rfl, trivial⟩, v776, x739, rfl, rfl, H, hs779⟩
    rintro _ K780 _ hK781 ⟨v727, l728, rfl, rfl, H, hs729⟩
    unfold M_166z at H
    refine Cw_seq ?_
    refine Cw_region ?_
    refine Ow_q rfl rfl rfl (Qt_loadA (m := 3) (cs := (Desk.cells p0 vp0_chans vp0_waiting)) rfl rfl rfl rfl ⟨rfl, Rdc.blk (.tail _ (.tail _ (.tail _ (.head _)))) rfl⟩) ?_
    refine Ow_q rfl rfl rfl (Qt_fieldAddr (m := 1) rfl rfl rfl rfl rfl) ?_
    refine Ow_q rfl rfl rfl (Qt_load1 (v := (.int .i64 p4.channel)) rfl rfl rfl (Rdc.blk (.tail _ (.tail _ (.head _))) rfl)) ?_
    refine Ow_q rfl rfl rfl (Qt_loadA (m := 3) (cs := (Chan.cells (Chan.mk x341.capacity l728 x341.closed) v727)) rfl rfl rfl rfl ⟨rfl, Rdc.blk (.head _) rfl⟩) ?_
    obtain ⟨x782, hx783, H⟩ := bnd H
    have hs784 := ((hp0_chans).mono hK354).mono hK781
    have hs785 := ((hp0_waiting).mono hK354).mono hK781
    refine Ow_cons rfl (OpW_call rfl Try.call84 rfl rfl (c_M_14z p0 vp0_chans vp0_waiting p4.channel (Chan.mk x341.capacity l728 x341.closed) v727 x782 hx783 _ _ hs784 hs785 hs729) ?_)
    rintro _ _ _ - ⟨v786, rs787, v788, rfl, rfl, rfl, hs789, hs790⟩
    refine Ow_q rfl rfl rfl (Qt_move rfl) ?_
    refine Ow_cons rfl (OpW_store (vs := (Desk.cells x782 v786 v788)) (all' := (Desk.cells x782 v786 v788)) rfl rfl rfl rfl rfl (.there (.there .here)) rfl rfl rfl ?_)
    refine Ow_q rfl rfl rfl (Qt_assign rfl) ?_
    refine Ow_nil ?_
    refine Cw_ret ?_
    obtain ⟨ey0, ey1⟩ := inj2 H
    subst y0 y1
    refine ⟨(by first | exact .inl rfl | exact .inr rfl), [(.agg (Desk.cells x782 v786 v788).toArray), (sv v499)], ⟨(.agg (Desk.cells x782 v786 v788).toArray), _, rfl, ⟨_, 3, (Desk.cells x782 v786 v788), rfl, rfl, rfl, rfl, ⟨rfl, Rdc.blk (.tail _ (.tail _ (.head _))) rfl⟩, rfl⟩, ⟨(sv v499), _, rfl, rfl, rfl⟩⟩, ?_⟩
    refine Shift.settle (T := TyChan) .here hs789 rfl ?_
    intro K791 hK792 hs793
    have hs797 := ((hR500).mono hK781).mono hK792
    refine Shift.settle (T := TyDone) (.there (.there (.there (.there (.there (.there .here)))))) hs797 rfl ?_
    intro K794 hK795 hs796
    refine Pu6 ?_
    refine Re1 ?_
    refine Re1 ?_
    refine Re1 ?_
    refine Re1 ?_
    refine Re1 ?_
    refine Re1 ?_
    have hs798 := (hs793).mono hK795
    have hs799 := ((hs790).mono hK792).mono hK795
    refine Shift.done ?_
    exact ⟨v786, v788, v499, rfl, rfl, hs798, hs799, hs796⟩
 ·intro h487
  have H := iff_ (btf h487) H
  refine Cw_skip ?_
  refine Cw_seq ?_
  refine Cw_region ?_
  refine Ow_q rfl rfl rfl (Qt_move rfl) ?_
  refine Ow_q rfl rfl rfl (Qt_build (cs := (Result.cells (Result.mk 2 x349 0 false 0))) rfl rfl rfl rfl rfl rfl) ?_
  refine Ow_cons rfl (OpW_alloc (cs := (Result.cells (Result.mk 0 0 0 false 0))) rfl rfl rfl rfl (fun b800 => ?_))
  refine Ow_cons rfl (OpW_store (vs := (Result.cells (Result.mk 2 x349 0 false 0))) (all' := (Result.cells (Result.mk 2 x349 0 false 0))) rfl rfl rfl rfl rfl .here rfl rfl rfl ?_)
  refine Ow_nil ?_
  refine Cw_join (fun env' K' G' => ∃ (i818 : Int) (t819 : Bool) (v820 : SV) (l821 : List Int), [(1, (.int .i64 p1)), (5, (.pointer (some ((⟨b337, 0, none⟩ : Addr).add 0)))), (9, (.pointer (some ((⟨b339, 0, none⟩ : Addr).add 0)))), (10, (.pointer (some ((⟨b340, 0, none⟩ : Addr).add 0)))), (12, (.pointer (some ((⟨b348, 0, none⟩ : Addr).add 0)))), (14, (.int .i64 x351)), (17, (.pointer (some ((⟨b800, 0, none⟩ : Addr).add 0))))] = env' ∧ K353 = K' ∧ (.blk b800 73 (Result.cells (Result.mk 2 x349 i818 t819 0))) :: (.blk b348 71 (Chan.cells (Chan.mk x341.capacity l821 x341.closed) v820)) :: (.blk b340 34 (Desk.cells (Desk.mk [] [] 0) nilS nilS)) :: (.blk b339 45 (Case.cells p4)) :: (.blk b337 34 (Desk.cells p0 vp0_chans vp0_waiting)) :: G = G' ∧ M_32z p1 x351 x349 x341 p4 p0 i818 t819 l821 = some (y0, y1) ∧ Slr Ty.u64 K' (sv v820) l821) ?_ ?_
  ·skip
   refine Cw_seq ?_
   refine Cw_region ?_
   refine Ow_q rfl rfl rfl (Qt_fieldAddr (m := 1) rfl rfl rfl rfl rfl) ?_
   refine Ow_q rfl rfl rfl (Qt_load1 (v := (sv v346)) rfl rfl rfl (Rdc.blk (.tail _ (.head _)) rfl)) ?_
   have hs823 := (hs347).mono hK354
   refine Ow_q rfl rfl rfl (Q_len (T := Ty.u64) hs823 rfl rfl) ?_
   refine Ow_q rfl rfl rfl (Qt_cmp rfl rfl rfl) ?_
   refine Ow_nil ?_
   refine Cw_cond rfl ?_ ?_
   ·intro h824
    have h824 := dcd_t (h824)
    have H := ift h824 H
    refine Cw_seq ?_
    refine Cw_region ?_
    refine Ow_q rfl rfl rfl (Qt_fieldAddr (m := 1) rfl rfl rfl rfl rfl) ?_
    refine Ow_q rfl rfl rfl (Qt_load1 (v := (sv v346)) rfl rfl rfl (Rdc.blk (.tail _ (.head _)) rfl)) ?_
    obtain ⟨x825, hx826, H⟩ := bnd H
    obtain ⟨r827, hr828, hk829⟩ := Slr.at hs823 hx826
    obtain rfl := hr828
    refine Ow_q rfl rfl rfl (Q_ix (T := Ty.u64) hs823 hx826 rfl rfl rfl rfl rfl) ?_
    refine Ow_q rfl rfl rfl (Qt_load1 (v := (.int .u64 x825)) rfl rfl rfl (Rdc.k hk829 rfl)) ?_
    refine Ow_q rfl rfl rfl (Qt_fieldAddr (m := 2) rfl rfl rfl rfl rfl) ?_
    refine Ow_cons rfl (OpW_store (vs := [(.int .u64 x825)]) (all' := (Result.cells (Result.mk 2 x349 x825 false 0))) rfl rfl rfl rfl rfl .here rfl rfl rfl ?_)
    refine Ow_q rfl rfl rfl (Qt_fieldAddr (m := 3) rfl rfl rfl rfl rfl) ?_
    refine Ow_cons rfl (OpW_store (vs := [(.bool true)]) (all' := (Result.cells (Result.mk 2 x349 x825 true 0))) rfl rfl rfl rfl rfl .here rfl rfl rfl ?_)
    refine Ow_nil ?_
    refine Cw_region ?_
    refine Ow_q rfl rfl rfl (Qt_fieldAddr (m := 1) rfl rfl rfl rfl rfl) ?_
    refine Ow_q rfl rfl rfl (Qt_load1 (v := (sv v346)) rfl rfl rfl (Rdc.blk (.tail _ (.head _)) rfl)) ?_
    obtain ⟨x830, hx831, H⟩ := bnd H
    have hs832 := Slr.cutL hs823 hx831
    refine Ow_q rfl rfl rfl (Q_cutL (T := Ty.u64) hs823 hx831 rfl rfl rfl rfl rfl) ?_
    refine Ow_q rfl rfl rfl (Qt_fieldAddr (m := 1) rfl rfl rfl rfl rfl) ?_
    refine Ow_cons rfl (OpW_store (vs := [(sv (cutS v346 1 ((1 : Int).toNat) x341.buffer.length))]) (all' := (Chan.cells (Chan.mk x341.capacity x830 x341.closed) (cutS v346 1 ((1 : Int).toNat) x341.buffer.length))) rfl rfl rfl rfl rfl (.there .here) rfl rfl rfl ?_)
    refine Ow_nil ?_
    refine Pu5 ?_
    refine Pu4 ?_
    refine Pu4 ?_
    refine Pu4 ?_
    refine Pu4 ?_
    refine Re5 ?_
    refine Shift.done ?_
    exact ⟨_, by exact ⟨rfl, rfl, rfl, rfl, rfl, rfl, rfl, trivial⟩, x825, true, (cutS v346 1 ((1 : Int).toNat) x341.buffer.length), x830, rfl, rfl, rfl, H, hs832⟩
   ·intro h824
    have h824 := dcd_f (h824)
    have H := iff_ h824 H
    refine Cw_seq ?_
    refine Cw_region ?_
    refine Ow_q rfl rfl rfl (Qt_move rfl) ?_
    refine Ow_q rfl rfl rfl (Qt_cmp rfl rfl rfl) ?_
    refine Ow_nil ?_
    refine Cw_cond rfl ?_ ?_
    ·intro h833
     have h833 := dcd_t (h833)
     have H := ift h833 H
     refine Cw_seq ?_
     refine Cw_region_any [.blk b800 73 (Result.cells (Result.mk 2 x349 0 false 0)), .blk b348 71 (Chan.cells x341 v346), .blk b339 45 (Case.cells p4), .blk b338 41 (Op.cells p2 vp2_cases vp2_draws), .blk b337 34 (Desk.cells p0 vp0_chans vp0_waiting)] rfl (Inc.cons (.head _) (Inc.cons (.tail _ (.head _)) (Inc.cons (.tail _ (.tail _ (.tail _ (.head _)))) (Inc.cons (.tail _ (.tail _ (.tail _ (.tail _ (.head _))))) (Inc.cons (.tail _ (.tail _ (.tail _ (.tail _ (.tail _ (.head _)))))) Inc.nil))))) ?_
     refine Awq 0 rfl (by kernel_rfl) rfl rfl rfl (Qt_loadA (m := 3) (cs := (Desk.cells p0 vp0_chans vp0_waiting)) rfl rfl rfl rfl ⟨rfl, Rdc.blk (.tail _ (.tail _ (.tail _ (.tail _ (.head _))))) rfl⟩) ?_
     refine Awq 1 rfl (by kernel_rfl) rfl rfl rfl (Qt_move rfl) ?_
     refine Awq 2 rfl (by kernel_rfl) rfl rfl rfl (Qt_loadA (m := 5) (cs := (Result.cells (Result.mk 2 x349 0 false 0))) rfl rfl rfl rfl ⟨rfl, Rdc.blk (.head _) rfl⟩) ?_
     refine Awq 3 rfl (by kernel_rfl) rfl rfl rfl (Qt_build (cs := (Done.cells (Done.mk p1 (Result.mk 2 x349 0 false 0)))) rfl rfl rfl rfl rfl rfl) ?_
     refine Aw_two 4 5 (by kernel_rfl) ?_ ?_
     ·skip
      refine id (Ax_mk rfl rfl ?_)
      have hR843 : RowR TyDone K353 [(Done.cells (Done.mk p1 (Result.mk 2 x349 0 false 0)))] [(Done.mk p1 (Result.mk 2 x349 0 false 0))] := RowR.cons rfl (RowR.nil)
      refine O_lit (T := TyDone) (rows := [(Done.cells (Done.mk p1 (Result.mk 2 x349 0 false 0)))]) (l := [(Done.mk p1 (Result.mk 2 x349 0 false 0))]) rfl rfl rfl hR843 rfl rfl rfl rfl rfl rfl rfl rfl (fun v842 => ⟨(Inc.cons (.tail _ (.head _)) (Inc.cons (.tail _ (.tail _ (.head _))) (Inc.cons (.tail _ (.tail _ (.tail _ (.tail _ (.head _))))) (Inc.cons (.tail _ (.tail _ (.tail _ (.tail _ (.tail _ (.head _)))))) (Inc.cons (.tail _ (.tail _ (.tail _ (.tail _ (.tail _ (.tail _ (.head _))))))) Inc.nil))))), ?_⟩)
      refine Aw_one 5 (by kernel_rfl) (Ax_mk rfl rfl ?_)
      refine OpW_store (vs := (Desk.cells p0 vp0_chans vp0_waiting)) (all' := (Desk.cells p0 vp0_chans vp0_waiting)) rfl rfl rfl rfl rfl (.there (.there (.there .here))) rfl rfl rfl ⟨(Inc.cons (.tail _ (.head _)) (Inc.cons (.tail _ (.tail _ (.head _))) (Inc.cons (.tail _ (.tail _ (.tail _ (.tail _ (.head _))))) (Inc.cons (.tail _ (.tail _ (.tail _ (.tail _ (.tail _ (.head _)))))) (Inc.cons (.tail _ (.tail _ (.tail _ (.tail _ (.tail _ (.tail _ (.head _))))))) Inc.nil))))), ?_⟩
      refine Awq 6 rfl (by kernel_rfl) rfl rfl rfl (Qt_assign rfl) ?_
      refine Aw_done (by kernel_rfl) ?_
      refine Cw_ret ?_
      obtain ⟨ey0, ey1⟩ := inj2 H
      subst y0 y1
      refine ⟨(by first | exact .inl rfl | exact .inr rfl), [(.agg (Desk.cells p0 vp0_chans vp0_waiting).toArray), (sv v842)], ⟨(.agg (Desk.cells p0 vp0_chans vp0_waiting).toArray), _, rfl, ⟨_, 3, (Desk.cells p0 vp0_chans vp0_waiting), rfl, rfl, rfl, rfl, ⟨rfl, Rdc.blk (.tail _ (.tail _ (.tail _ (.head _)))) rfl⟩, rfl⟩, ⟨(sv v842), _, rfl, rfl, rfl⟩⟩, ?_⟩
      refine Shift.settle (T := TyDone) .here hR843 rfl ?_
      intro K844 hK845 hs846
      refine Re1 ?_
      refine Re1 ?_
      refine Re1 ?_
      refine Re1 ?_
      refine Re1 ?_
      refine Re1 ?_
      have hs847 := ((hp0_chans).mono hK354).mono hK845
      have hs848 := ((hp0_waiting).mono hK354).mono hK845
      refine Shift.done ?_
      exact ⟨vp0_chans, vp0_waiting, v842, rfl, rfl, hs847, hs848, hs846⟩
     ·skip
      refine id (Ax_mk rfl rfl ?_)
      refine OpW_store (vs := (Desk.cells p0 vp0_chans vp0_waiting)) (all' := (Desk.cells p0 vp0_chans vp0_waiting)) rfl rfl rfl rfl rfl (.there (.there .here)) rfl rfl rfl ⟨(Inc.cons (.head _) (Inc.cons (.tail _ (.head _)) (Inc.cons (.tail _ (.tail _ (.tail _ (.head _)))) (Inc.cons (.tail _ (.tail _ (.tail _ (.tail _ (.head _))))) (Inc.cons (.tail _ (.tail _ (.tail _ (.tail _ (.tail _ (.head _)))))) Inc.nil))))), ?_⟩
      refine Aw_one 4 (by kernel_rfl) (Ax_mk rfl rfl ?_)
      have hR850 : RowR TyDone K353 [(Done.cells (Done.mk p1 (Result.mk 2 x349 0 false 0)))] [(Done.mk p1 (Result.mk 2 x349 0 false 0))] := RowR.cons rfl (RowR.nil)
      refine O_lit (T := TyDone) (rows := [(Done.cells (Done.mk p1 (Result.mk 2 x349 0 false 0)))]) (l := [(Done.mk p1 (Result.mk 2 x349 0 false 0))]) rfl rfl rfl hR850 rfl rfl rfl rfl rfl rfl rfl rfl (fun v849 => ⟨(Inc.cons (.tail _ (.head _)) (Inc.cons (.tail _ (.tail _ (.head _))) (Inc.cons (.tail _ (.tail _ (.tail _ (.tail _ (.head _))))) (Inc.cons (.tail _ (.tail _ (.tail _ (.tail _ (.tail _ (.head _)))))) (Inc.cons (.tail _ (.tail _ (.tail _ (.tail _ (.tail _ (.tail _ (.head _))))))) Inc.nil))))), ?_⟩)
      refine Awq 6 rfl (by kernel_rfl) rfl rfl rfl (Qt_assign rfl) ?_
      refine Aw_done (by kernel_rfl) ?_
      refine Cw_ret ?_
      obtain ⟨ey0, ey1⟩ := inj2 H
      subst y0 y1
      refine ⟨(by first | exact .inl rfl | exact .inr rfl), [(.agg (Desk.cells p0 vp0_chans vp0_waiting).toArray), (sv v849)], ⟨(.agg (Desk.cells p0 vp0_chans vp0_waiting).toArray), _, rfl, ⟨_, 3, (Desk.cells p0 vp0_chans vp0_waiting), rfl, rfl, rfl, rfl, ⟨rfl, Rdc.blk (.tail _ (.tail _ (.tail _ (.head _)))) rfl⟩, rfl⟩, ⟨(sv v849), _, rfl, rfl, rfl⟩⟩, ?_⟩
      refine Shift.settle (T := TyDone) .here hR850 rfl ?_
      intro K851 hK852 hs853
      refine Re1 ?_
      refine Re1 ?_
      refine Re1 ?_
      refine Re1 ?_
      refine Re1 ?_
      refine Re1 ?_
      have hs854 := ((hp0_chans).mono hK354).mono hK852
      have hs855 := ((hp0_waiting).mono hK354).mono hK852
      refine Shift.done ?_
      exact ⟨vp0_chans, vp0_waiting, v849, rfl, rfl, hs854, hs855, hs853⟩
    ·intro h833
     have h833 := dcd_f (h833)
     have H := iff_ h833 H
     refine Cw_skip ?_
     refine Pu5 ?_
     refine Pu4 ?_
     refine Pu4 ?_
     refine Pu4 ?_
     refine Pu4 ?_
     refine Re5 ?_
     refine Shift.done ?_
     exact ⟨_, by exact ⟨rfl, rfl, rfl, rfl, rfl, rfl, rfl, trivial⟩, 0, false, v346, x341.buffer, rfl, rfl, rfl, H, hs823⟩
  rintro _ _ _ - ⟨i818, t819, v820, l821, rfl, rfl, rfl, H, hs822⟩
  unfold M_32z at H
  refine Cw_seq ?_
  refine Cw_seq ?_
  refine Cw_region ?_
  refine Ow_q rfl rfl rfl (Qt_move rfl) ?_
  refine Ow_q rfl rfl rfl (Qt_cmp rfl rfl rfl) ?_
  refine Ow_nil ?_
  refine Cw_cond rfl ?_ ?_
  ·intro h899
   have h899 := dcd_t (h899)
   have H := ift h899 H
   refine Cw_join (fun env' K' G' => ∃ (v931 : SV) (rs933 : List (List Value)) (v934 : SV) (l935 : List Chan) (rs937 : List (List Value)) (v938 : SV) (l939 : List Waiter) (i941 : Int), [(10, (.pointer (some ((⟨b340, 0, none⟩ : Addr).add 0)))), (11, (sv v931))] = env' ∧ K353 = K' ∧ (.blk b340 34 (Desk.cells (Desk.mk l935 l939 i941) v934 v938)) :: (.row (sv v931) 75 6 rs933.flatten) :: (.row (sv v934) 71 3 rs937.flatten) :: G = G' ∧ M_194z p1 x349 i818 t819 l935 l939 i941 = some (y0, y1) ∧ RowR TyDone K' rs933 [(Done.mk p1 (Result.mk 2 x349 i818 t819 0))] ∧ RowR TyChan K' rs937 l935 ∧ Slr TyWaiter K' (sv v938) l939) ?_ ?_
   ·skip
    obtain ⟨x942, hx943, H⟩ := bnd H
    refine Cw_region_any [.blk b800 73 (Result.cells (Result.mk 2 x349 i818 t819 0)), .blk b348 71 (Chan.cells (Chan.mk x341.capacity l821 x341.closed) v820), .blk b339 45 (Case.cells p4), .blk b337 34 (Desk.cells p0 vp0_chans vp0_waiting)] rfl (Inc.cons (.head _) (Inc.cons (.tail _ (.head _)) (Inc.cons (.tail _ (.tail _ (.tail _ (.head _)))) (Inc.cons (.tail _ (.tail _ (.tail _ (.tail _ (.head _))))) Inc.nil)))) ?_
    refine Awq 0 rfl (by kernel_rfl) rfl rfl rfl (Qt_loadA (m := 3) (cs := (Desk.cells p0 vp0_chans vp0_waiting)) rfl rfl rfl rfl ⟨rfl, Rdc.blk (.tail _ (.tail _ (.tail _ (.head _)))) rfl⟩) ?_
    refine Awq 1 rfl (by kernel_rfl) rfl rfl rfl (Qt_fieldAddr (m := 1) rfl rfl rfl rfl rfl) ?_
    refine Awq 2 rfl (by kernel_rfl) rfl rfl rfl (Qt_load1 (v := (.int .i64 p4.channel)) rfl rfl rfl (Rdc.blk (.tail _ (.tail _ (.head _))) rfl)) ?_
    refine Awq 3 rfl (by kernel_rfl) rfl rfl rfl (Qt_loadA (m := 3) (cs := (Chan.cells (Chan.mk x341.capacity l821 x341.closed) v820)) rfl rfl rfl rfl ⟨rfl, Rdc.blk (.tail _ (.head _)) rfl⟩) ?_
    refine Awq 5 rfl (by kernel_rfl) rfl rfl rfl (Qt_move rfl) ?_
    refine Awq 6 rfl (by kernel_rfl) rfl rfl rfl (Qt_loadA (m := 5) (cs := (Result.cells (Result.mk 2 x349 i818 t819 0))) rfl rfl rfl rfl ⟨rfl, Rdc.blk (.head _) rfl⟩) ?_
    refine Awq 7 rfl (by kernel_rfl) rfl rfl rfl (Qt_build (cs := (Done.cells (Done.mk p1 (Result.mk 2 x349 i818 t819 0)))) rfl rfl rfl rfl rfl rfl) ?_
    refine Aw_two 4 8 (by kernel_rfl) ?_ ?_
    ·skip
     refine id (Ax_mk rfl rfl ?_)
     have hs953 := (hp0_chans).mono hK354
     have hs954 := (hp0_waiting).mono hK354
     refine OpW_call rfl Try.call84 rfl rfl (c_M_14z p0 vp0_chans vp0_waiting p4.channel (Chan.mk x341.capacity l821 x341.closed) v820 x942 hx943 _ _ hs953 hs954 hs822) ?_
     rintro _ _ _ - ⟨v955, rs956, v957, rfl, rfl, rfl, hs958, hs959⟩
     refine ⟨(Inc.cons (.tail _ (.head _)) (Inc.cons (.tail _ (.tail _ (.head _))) (Inc.cons (.tail _ (.tail _ (.tail _ (.tail _ (.head _))))) (Inc.cons (.tail _ (.tail _ (.tail _ (.tail _ (.tail _ (.head _)))))) Inc.nil)))), ?_⟩
     refine Aw_two 8 9 (by kernel_rfl) ?_ ?_
     ·skip
      refine id (Ax_mk rfl rfl ?_)
      have hR961 : RowR TyDone K353 [(Done.cells (Done.mk p1 (Result.mk 2 x349 i818 t819 0)))] [(Done.mk p1 (Result.mk 2 x349 i818 t819 0))] := RowR.cons rfl (RowR.nil)
      refine O_lit (T := TyDone) (rows := [(Done.cells (Done.mk p1 (Result.mk 2 x349 i818 t819 0)))]) (l := [(Done.mk p1 (Result.mk 2 x349 i818 t819 0))]) rfl rfl rfl hR961 rfl rfl rfl rfl rfl rfl rfl rfl (fun v960 => ⟨(Inc.cons (.tail _ (.tail _ (.head _))) (Inc.cons (.tail _ (.tail _ (.tail _ (.head _)))) (Inc.cons (.tail _ (.tail _ (.tail _ (.tail _ (.tail _ (.head _)))))) (Inc.cons (.tail _ (.tail _ (.tail _ (.tail _ (.tail _ (.tail _ (.head _))))))) Inc.nil)))), ?_⟩)
      refine Aw_one 9 (by kernel_rfl) (Ax_mk rfl rfl ?_)
      refine OpW_store (vs := (Desk.cells x942 v955 v957)) (all' := (Desk.cells x942 v955 v957)) rfl rfl rfl rfl rfl (.there (.there (.there (.there .here)))) rfl rfl rfl ⟨(Inc.cons (.tail _ (.tail _ (.head _))) (Inc.cons (.tail _ (.tail _ (.tail _ (.head _)))) (Inc.cons (.tail _ (.tail _ (.tail _ (.tail _ (.tail _ (.head _)))))) (Inc.cons (.tail _ (.tail _ (.tail _ (.tail _ (.tail _ (.tail _ (.head _))))))) Inc.nil)))), ?_⟩
      refine Awq 10 rfl (by kernel_rfl) rfl rfl rfl (Qt_assign rfl) ?_
      refine Aw_done (by kernel_rfl) ?_
      refine Pu1 ?_
      refine Pu1 ?_
      refine Pu4 ?_
      refine Re3 ?_
      refine Re3 ?_
      refine Re3 ?_
      refine Re3 ?_
      refine Shift.done ?_
      exact ⟨_, by exact ⟨rfl, rfl, trivial⟩, v960, [(Done.cells (Done.mk p1 (Result.mk 2 x349 i818 t819 0)))], v955, x942.chans, rs956, v957, x942.waiting, x942.tick, rfl, rfl, rfl, H, hR961, hs958, hs959⟩
     ·skip
      refine id (Ax_mk rfl rfl ?_)
      refine OpW_store (vs := (Desk.cells x942 v955 v957)) (all' := (Desk.cells x942 v955 v957)) rfl rfl rfl rfl rfl (.there (.there (.there .here))) rfl rfl rfl ⟨(Inc.cons (.tail _ (.head _)) (Inc.cons (.tail _ (.tail _ (.head _))) (Inc.cons (.tail _ (.tail _ (.tail _ (.tail _ (.head _))))) (Inc.cons (.tail _ (.tail _ (.tail _ (.tail _ (.tail _ (.head _)))))) Inc.nil)))), ?_⟩
      refine Aw_one 8 (by kernel_rfl) (Ax_mk rfl rfl ?_)
      have hR963 : RowR TyDone K353 [(Done.cells (Done.mk p1 (Result.mk 2 x349 i818 t819 0)))] [(Done.mk p1 (Result.mk 2 x349 i818 t819 0))] := RowR.cons rfl (RowR.nil)
      refine O_lit (T := TyDone) (rows := [(Done.cells (Done.mk p1 (Result.mk 2 x349 i818 t819 0)))]) (l := [(Done.mk p1 (Result.mk 2 x349 i818 t819 0))]) rfl rfl rfl hR963 rfl rfl rfl rfl rfl rfl rfl rfl (fun v962 => ⟨(Inc.cons (.tail _ (.tail _ (.head _))) (Inc.cons (.tail _ (.tail _ (.tail _ (.head _)))) (Inc.cons (.tail _ (.tail _ (.tail _ (.tail _ (.tail _ (.head _)))))) (Inc.cons (.tail _ (.tail _ (.tail _ (.tail _ (.tail _ (.tail _ (.head _))))))) Inc.nil)))), ?_⟩)
      refine Awq 10 rfl (by kernel_rfl) rfl rfl rfl (Qt_assign rfl) ?_
      refine Aw_done (by kernel_rfl) ?_
      refine Pu1 ?_
      refine Pu1 ?_
      refine Pu4 ?_
      refine Re3 ?_
      refine Re3 ?_
      refine Re3 ?_
      refine Re3 ?_
      refine Shift.done ?_
      exact ⟨_, by exact ⟨rfl, rfl, trivial⟩, v962, [(Done.cells (Done.mk p1 (Result.mk 2 x349 i818 t819 0)))], v955, x942.chans, rs956, v957, x942.waiting, x942.tick, rfl, rfl, rfl, H, hR963, hs958, hs959⟩
    ·skip
     refine id (Ax_mk rfl rfl ?_)
     have hR965 : RowR TyDone K353 [(Done.cells (Done.mk p1 (Result.mk 2 x349 i818 t819 0)))] [(Done.mk p1 (Result.mk 2 x349 i818 t819 0))] := RowR.cons rfl (RowR.nil)
     refine O_lit (T := TyDone) (rows := [(Done.cells (Done.mk p1 (Result.mk 2 x349 i818 t819 0)))]) (l := [(Done.mk p1 (Result.mk 2 x349 i818 t819 0))]) rfl rfl rfl hR965 rfl rfl rfl rfl rfl rfl rfl rfl (fun v964 => ⟨(Inc.cons (.tail _ (.head _)) (Inc.cons (.tail _ (.tail _ (.head _))) (Inc.cons (.tail _ (.tail _ (.tail _ (.tail _ (.head _))))) (Inc.cons (.tail _ (.tail _ (.tail _ (.tail _ (.tail _ (.head _)))))) Inc.nil)))), ?_⟩)
     refine Aw_one 4 (by kernel_rfl) (Ax_mk rfl rfl ?_)
     have hs966 := (hp0_chans).mono hK354
     have hs967 := (hp0_waiting).mono hK354
     refine OpW_call rfl Try.call84 rfl rfl (c_M_14z p0 vp0_chans vp0_waiting p4.channel (Chan.mk x341.capacity l821 x341.closed) v820 x942 hx943 _ _ hs966 hs967 hs822) ?_
     rintro _ _ _ - ⟨v968, rs969, v970, rfl, rfl, rfl, hs971, hs972⟩
     refine ⟨(Inc.cons (.tail _ (.tail _ (.head _))) (Inc.cons (.tail _ (.tail _ (.tail _ (.head _)))) (Inc.cons (.tail _ (.tail _ (.tail _ (.tail _ (.tail _ (.head _)))))) (Inc.cons (.tail _ (.tail _ (.tail _ (.tail _ (.tail _ (.tail _ (.head _))))))) Inc.nil)))), ?_⟩
     refine Aw_one 9 (by kernel_rfl) (Ax_mk rfl rfl ?_)
     refine OpW_store (vs := (Desk.cells x942 v968 v970)) (all' := (Desk.cells x942 v968 v970)) rfl rfl rfl rfl rfl (.there (.there (.there (.there .here)))) rfl rfl rfl ⟨(Inc.cons (.tail _ (.tail _ (.head _))) (Inc.cons (.tail _ (.tail _ (.tail _ (.head _)))) (Inc.cons (.tail _ (.tail _ (.tail _ (.tail _ (.tail _ (.head _)))))) (Inc.cons (.tail _ (.tail _ (.tail _ (.tail _ (.tail _ (.tail _ (.head _))))))) Inc.nil)))), ?_⟩
     refine Awq 10 rfl (by kernel_rfl) rfl rfl rfl (Qt_assign rfl) ?_
     refine Aw_done (by kernel_rfl) ?_
     refine Pu1 ?_
     refine Pu4 ?_
     refine Re3 ?_
     refine Re3 ?_
     refine Re3 ?_
     refine Re3 ?_
     refine Shift.done ?_
     exact ⟨_, by exact ⟨rfl, rfl, trivial⟩, v964, [(Done.cells (Done.mk p1 (Result.mk 2 x349 i818 t819 0)))], v968, x942.chans, rs969, v970, x942.waiting, x942.tick, rfl, rfl, rfl, H, hR965, hs971, hs972⟩
   rintro _ _ _ - ⟨v931, rs933, v934, l935, rs937, v938, l939, i941, rfl, rfl, rfl, H, hR932, hR936, hs940⟩
   unfold M_194z at H
   refine Cw_ret ?_
   obtain ⟨ey0, ey1⟩ := inj2 H
   subst y0 y1
   refine ⟨(by first | exact .inl rfl | exact .inr rfl), [(.agg (Desk.cells (Desk.mk l935 l939 i941) v934 v938).toArray), (sv v931)], ⟨(.agg (Desk.cells (Desk.mk l935 l939 i941) v934 v938).toArray), _, rfl, ⟨_, 3, (Desk.cells (Desk.mk l935 l939 i941) v934 v938), rfl, rfl, rfl, rfl, ⟨rfl, Rdc.blk (.head _) rfl⟩, rfl⟩, ⟨(sv v931), _, rfl, rfl, rfl⟩⟩, ?_⟩
   refine Shift.settle (T := TyChan) (.there (.there .here)) hR936 rfl ?_
   intro K973 hK974 hs975
   have hs979 := (hR932).mono hK974
   refine Shift.settle (T := TyDone) (.there .here) hs979 rfl ?_
   intro K976 hK977 hs978
   refine Pu1 ?_
   refine Re1 ?_
   refine Re1 ?_
   have hs980 := (hs975).mono hK977
   have hs981 := ((hs940).mono hK974).mono hK977
   refine Shift.done ?_
   exact ⟨v934, v938, v931, rfl, rfl, hs980, hs981, hs978⟩
  ·intro h899
   have h899 := dcd_f (h899)
   have H := iff_ h899 H
   refine Cw_skip ?_
   refine Cw_seq ?_
   refine Cw_region ?_
   refine Ow_q rfl rfl rfl (Qt_fieldAddr (m := 1) rfl rfl rfl rfl rfl) ?_
   refine Ow_q rfl rfl rfl (Qt_load1 (v := (sv vp0_waiting)) rfl rfl rfl (Rdc.blk (.tail _ (.tail _ (.tail _ (.tail _ (.head _))))) rfl)) ?_
   refine Ow_q rfl rfl rfl (Qt_move rfl) ?_
   obtain ⟨x982, hx983, H⟩ := bnd H
   have hs984 := (hp0_waiting).mono hK354
   obtain ⟨r985, hr986, hk987⟩ := Slr.at hs984 hx983
   obtain ⟨v988, v989, rfl, hs990, hs991⟩ := hr986
   refine Ow_q rfl rfl rfl (Q_ix (T := TyWaiter) hs984 hx983 rfl rfl rfl rfl rfl) ?_
   refine Ow_q rfl rfl rfl (Qt_loadA (m := 8) (cs := (Waiter.cells x982 v988 v989)) rfl rfl rfl rfl ⟨rfl, Rdc.k hk987 rfl⟩) ?_
   refine Ow_cons rfl (OpW_alloc (cs := (Waiter.cells (Waiter.mk 0 (Op.mk 0 0 0 0 0 [] [])) nilS nilS)) rfl rfl rfl rfl (fun b992 => ?_))
   refine Ow_cons rfl (OpW_store (vs := (Waiter.cells x982 v988 v989)) (all' := (Waiter.cells x982 v988 v989)) rfl rfl rfl rfl rfl .here rfl rfl rfl ?_)
   refine Ow_nil ?_
   refine Cw_seq ?_
   refine Cw_region ?_
   refine Ow_q rfl rfl rfl (Qt_fieldAddr (m := 1) rfl rfl rfl rfl rfl) ?_
   refine Ow_q rfl rfl rfl (Qt_loadA (m := 7) (cs := (Op.cells x982.op v988 v989)) rfl rfl rfl rfl ⟨rfl, Rdc.blk (.head _) rfl⟩) ?_
   refine Ow_q rfl rfl rfl (Qt_fieldAddr (m := 1) rfl rfl rfl rfl rfl) ?_
   refine Ow_q rfl rfl rfl (Qt_load1 (v := (.int .i64 p4.channel)) rfl rfl rfl (Rdc.blk (.tail _ (.tail _ (.tail _ (.tail _ (.head _))))) rfl)) ?_
   obtain ⟨x993, hx994, H⟩ := bnd H
   refine Ow_cons rfl (OpW_call rfl Try.call72 rfl rfl (c_M_16z x982.op v988 v989 p4.channel true x993 hx994 _ _ hs990 hs991) ?_)
   rintro _ K995 _ hK996 ⟨rfl, rfl⟩
   refine Ow_q rfl rfl rfl (Qt_assign rfl) ?_
   refine Ow_nil ?_
   refine Cw_seq ?_
   refine Cw_region ?_
   refine Ow_q rfl rfl rfl (Qt_fieldAddr (m := 1) rfl rfl rfl rfl rfl) ?_
   refine Ow_q rfl rfl rfl (Qt_loadA (m := 7) (cs := (Op.cells x982.op v988 v989)) rfl rfl rfl rfl ⟨rfl, Rdc.blk (.head _) rfl⟩) ?_
   obtain ⟨x997, hx998, H⟩ := bnd H
   have hs999 := (hs990).mono hK996
   have hs1000 := (hs991).mono hK996
   refine Ow_cons rfl (OpW_call rfl Try.call63 rfl rfl (c_M_15z x982.op v988 v989 x997 hx998 _ _ hs999 hs1000) ?_)
   rintro _ K1002 _ hK1003 ⟨v1001, rfl, rfl, hs1004⟩
   refine Ow_q rfl rfl rfl (Qt_move rfl) ?_
   obtain ⟨x1005, hx1006, H⟩ := bnd H
   obtain ⟨r1007, hr1008, hk1009⟩ := Slr.at hs1004 hx1006
   obtain rfl := hr1008
   refine Ow_q rfl rfl rfl (Q_ix (T := TyCase) hs1004 hx1006 rfl rfl rfl rfl rfl) ?_
   refine Ow_q rfl rfl rfl (Qt_fieldAddr (m := 2) rfl rfl rfl rfl rfl) ?_
   refine Ow_q rfl rfl rfl (Qt_load1 (v := (.int .u64 x1005.value)) rfl rfl rfl (Rdc.k hk1009 rfl)) ?_
   refine Ow_q rfl rfl rfl (Qt_assign rfl) ?_
   refine Ow_nil ?_
   refine Cw_join (fun env' K' G' => ∃ (i1026 : Int) (t1027 : Bool) (v1028 : SV) (l1029 : List Int), [(1, (.int .i64 p1)), (5, (.pointer (some ((⟨b337, 0, none⟩ : Addr).add 0)))), (9, (.pointer (some ((⟨b339, 0, none⟩ : Addr).add 0)))), (10, (.pointer (some ((⟨b340, 0, none⟩ : Addr).add 0)))), (12, (.pointer (some ((⟨b348, 0, none⟩ : Addr).add 0)))), (14, (.int .i64 x351)), (17, (.pointer (some ((⟨b800, 0, none⟩ : Addr).add 0)))), (18, (.pointer (some ((⟨b992, 0, none⟩ : Addr).add 0)))), (19, (.int .i64 x993))] = env' ∧ (.blk b992 52 (Waiter.cells x982 v988 v989)) :: (.blk b800 73 (Result.cells (Result.mk 2 x349 i1026 t1027 0))) :: (.blk b348 71 (Chan.cells (Chan.mk x341.capacity l1029 x341.closed) v1028)) :: (.blk b340 34 (Desk.cells (Desk.mk [] [] 0) nilS nilS)) :: (.blk b339 45 (Case.cells p4)) :: (.blk b337 34 (Desk.cells p0 vp0_chans vp0_waiting)) :: G = G' ∧ M_65z p1 x351 x993 x982 x349 x341 p4 p0 i1026 t1027 l1029 = some (y0, y1) ∧ Slr Ty.u64 K' (sv v1028) l1029) ?_ ?_
   ·skip
    refine Cw_seq ?_
    refine Cw_region ?_
    refine Ow_q rfl rfl rfl (Qt_fieldAddr (m := 3) rfl rfl rfl rfl rfl) ?_
    refine Ow_q rfl rfl rfl (Qt_load1 (v := (.bool t819)) rfl rfl rfl (Rdc.blk (.tail _ (.head _)) rfl)) ?_
    refine Ow_nil ?_
    refine Cw_cond rfl ?_ ?_
    ·intro h1031
     have H := ift h1031 H
     refine Cw_region ?_
     refine Ow_q rfl rfl rfl (Qt_fieldAddr (m := 1) rfl rfl rfl rfl rfl) ?_
     refine Ow_q rfl rfl rfl (Qt_load1 (v := (sv v820)) rfl rfl rfl (Rdc.blk (.tail _ (.tail _ (.head _))) rfl)) ?_
     refine Ow.shift (Shift.nilTok1 38 1 (Shift.done ?_))
     obtain ⟨x1032, hx1033, H⟩ := bnd H
     have hs1034 := ((hs822).mono hK996).mono hK1003
     refine Ow_cons rfl (O_appTok (T := Ty.u64) (bytes := 8) (q := 0) rfl rfl rfl (Slr.nil Ty.u64 _) (.head _) rfl (SrcT.sl hs1034) hx1033 rfl rfl rfl rfl rfl rfl rfl rfl (fun v1035 K1036 hK1037 hs1038 => ⟨_, .here, ?_⟩))
     refine Ow_q rfl rfl rfl (Qt_move rfl) ?_
     have hR1040 : RowR Ty.u64 K1036 [[(.int .u64 x1005.value)]] [x1005.value] := RowR.cons rfl (RowR.nil)
     refine Ow_cons rfl (O_lit (T := Ty.u64) (rows := [[(.int .u64 x1005.value)]]) (l := [x1005.value]) rfl rfl rfl hR1040 rfl rfl rfl rfl rfl rfl rfl rfl (fun v1039 => ?_))
     obtain ⟨x1041, hx1042, H⟩ := bnd H
     refine Ow_cons rfl (O_appTok (T := Ty.u64) (bytes := 8) (q := 0) rfl rfl rfl hs1038 (.tail _ (.head _)) rfl (SrcT.row (.head _) hR1040 rfl) hx1042 rfl rfl rfl rfl rfl rfl rfl rfl (fun v1043 K1044 hK1045 hs1046 => ⟨_, (.there .here), ?_⟩))
     refine Ow.shift (Re0 (Shift.done ?_))
     refine Ow_q rfl rfl rfl (Qt_fieldAddr (m := 1) rfl rfl rfl rfl rfl) ?_
     refine Ow_cons rfl (OpW_store (vs := [(sv v1043)]) (all' := (Chan.cells (Chan.mk x341.capacity x1041 x341.closed) v1043)) rfl rfl rfl rfl rfl (.there (.there (.there .here))) rfl rfl rfl ?_)
     refine Ow_nil ?_
     refine Pu6 ?_
     refine Pu6 ?_
     refine Pu6 ?_
     refine Pu6 ?_
     refine Pu6 ?_
     refine Pu6 ?_
     refine Re6 ?_
     refine Shift.done ?_
     exact ⟨_, by exact ⟨rfl, rfl, rfl, rfl, rfl, rfl, rfl, rfl, rfl, trivial⟩, i818, t819, v1043, x1041, rfl, rfl, H, hs1046⟩
    ·intro h1031
     have H := iff_ (btf h1031) H
     refine Cw_region ?_
     refine Ow_q rfl rfl rfl (Qt_move rfl) ?_
     refine Ow_q rfl rfl rfl (Qt_fieldAddr (m := 2) rfl rfl rfl rfl rfl) ?_
     refine Ow_cons rfl (OpW_store (vs := [(.int .u64 x1005.value)]) (all' := (Result.cells (Result.mk 2 x349 x1005.value t819 0))) rfl rfl rfl rfl rfl (.there .here) rfl rfl rfl ?_)
     refine Ow_q rfl rfl rfl (Qt_fieldAddr (m := 3) rfl rfl rfl rfl rfl) ?_
     refine Ow_cons rfl (OpW_store (vs := [(.bool true)]) (all' := (Result.cells (Result.mk 2 x349 x1005.value true 0))) rfl rfl rfl rfl rfl (.there .here) rfl rfl rfl ?_)
     refine Ow_nil ?_
     refine Pu5 ?_
     refine Pu5 ?_
     refine Pu5 ?_
     refine Pu5 ?_
     refine Pu5 ?_
     refine Pu5 ?_
     have hs1047 := ((hs822).mono hK996).mono hK1003
     refine Shift.done ?_
     exact ⟨_, by exact ⟨rfl, rfl, rfl, rfl, rfl, rfl, rfl, rfl, rfl, trivial⟩, x1005.value, true, v820, l821, rfl, rfl, H, hs1047⟩
   rintro _ K1048 _ hK1049 ⟨i1026, t1027, v1028, l1029, rfl, rfl, H, hs1030⟩
   unfold M_65z at H
   refine Cw_seq ?_
   obtain ⟨x1082, hx1083, H⟩ := bnd H
   obtain ⟨x1092, hx1093, H⟩ := bnd H
   refine Cw_region_any [.blk b992 52 (Waiter.cells x982 v988 v989), .blk b800 73 (Result.cells (Result.mk 2 x349 i1026 t1027 0)), .blk b348 71 (Chan.cells (Chan.mk x341.capacity l1029 x341.closed) v1028), .blk b340 34 (Desk.cells (Desk.mk [] [] 0) nilS nilS), .blk b339 45 (Case.cells p4)] rfl (Inc.cons (.head _) (Inc.cons (.tail _ (.head _)) (Inc.cons (.tail _ (.tail _ (.head _))) (Inc.cons (.tail _ (.tail _ (.tail _ (.head _)))) (Inc.cons (.tail _ (.tail _ (.tail _ (.tail _ (.head _))))) Inc.nil))))) ?_
   refine Awq 1 rfl (by kernel_rfl) rfl rfl rfl (Qt_move rfl) ?_
   refine Awq 3 rfl (by kernel_rfl) rfl rfl rfl (Qt_fieldAddr (m := 1) rfl rfl rfl rfl rfl) ?_
   refine Awq 4 rfl (by kernel_rfl) rfl rfl rfl (Qt_load1 (v := (.int .i64 p4.channel)) rfl rfl rfl (Rdc.blk (.tail _ (.tail _ (.tail _ (.tail _ (.head _))))) rfl)) ?_
   refine Awq 5 rfl (by kernel_rfl) rfl rfl rfl (Qt_loadA (m := 3) (cs := (Chan.cells (Chan.mk x341.capacity l1029 x341.closed) v1028)) rfl rfl rfl rfl ⟨rfl, Rdc.blk (.tail _ (.tail _ (.head _))) rfl⟩) ?_
   refine Aw_one 0 (by kernel_rfl) (Ax_mk rfl rfl (OpW_of_Qt rfl rfl (Qt_loadA (m := 3) (cs := (Desk.cells p0 vp0_chans vp0_waiting)) rfl rfl rfl rfl ⟨rfl, Rdc.blk (.tail _ (.tail _ (.tail _ (.tail _ (.tail _ (.head _)))))) rfl⟩) ⟨(Inc.cons (.head _) (Inc.cons (.tail _ (.head _)) (Inc.cons (.tail _ (.tail _ (.head _))) (Inc.cons (.tail _ (.tail _ (.tail _ (.head _)))) (Inc.cons (.tail _ (.tail _ (.tail _ (.tail _ (.head _))))) Inc.nil))))), ?_⟩))
   refine Aw_one 2 (by kernel_rfl) (Ax_mk rfl rfl ?_)
   have hs1100 := ((((hp0_chans).mono hK354).mono hK996).mono hK1003).mono hK1049
   have hs1101 := (((hs984).mono hK996).mono hK1003).mono hK1049
   refine OpW_call rfl Try.call60 rfl rfl (c_M_3z p0 vp0_chans vp0_waiting x351 x1082 hx1083 _ _ hs1100 hs1101) ?_
   rintro _ K1104 _ hK1105 ⟨v1102, v1103, rfl, rfl, hs1106, hs1107⟩
   refine ⟨(Inc.cons (.tail _ (.head _)) (Inc.cons (.tail _ (.tail _ (.head _))) (Inc.cons (.tail _ (.tail _ (.tail _ (.head _)))) (Inc.cons (.tail _ (.tail _ (.tail _ (.tail _ (.head _))))) (Inc.cons (.tail _ (.tail _ (.tail _ (.tail _ (.tail _ (.head _)))))) Inc.nil))))), ?_⟩
   refine Aw_one 6 (by kernel_rfl) (Ax_mk rfl rfl ?_)
   have hs1108 := (hs1030).mono hK1105
   refine OpW_call rfl Try.call84 rfl rfl (c_M_14z x1082 v1102 v1103 p4.channel (Chan.mk x341.capacity l1029 x341.closed) v1028 x1092 hx1093 _ _ hs1106 hs1107 hs1108) ?_
   rintro _ _ _ - ⟨v1109, rs1110, v1111, rfl, rfl, rfl, hs1112, hs1113⟩
   refine ⟨(Inc.cons (.tail _ (.tail _ (.head _))) (Inc.cons (.tail _ (.tail _ (.tail _ (.head _)))) (Inc.cons (.tail _ (.tail _ (.tail _ (.tail _ (.head _))))) (Inc.cons (.tail _ (.tail _ (.tail _ (.tail _ (.tail _ (.head _)))))) (Inc.cons (.tail _ (.tail _ (.tail _ (.tail _ (.tail _ (.tail _ (.head _))))))) Inc.nil))))), ?_⟩
   refine Aw_one 7 (by kernel_rfl) (Ax_mk rfl rfl ?_)
   refine OpW_store (vs := (Desk.cells x1092 v1109 v1111)) (all' := (Desk.cells x1092 v1109 v1111)) rfl rfl rfl rfl rfl (.there (.there (.there (.there (.there (.there (.there .here))))))) rfl rfl rfl ⟨(Inc.cons (.tail _ (.tail _ (.head _))) (Inc.cons (.tail _ (.tail _ (.tail _ (.head _)))) (Inc.cons (.tail _ (.tail _ (.tail _ (.tail _ (.head _))))) (Inc.cons (.tail _ (.tail _ (.tail _ (.tail _ (.tail _ (.head _)))))) (Inc.cons (.tail _ (.tail _ (.tail _ (.tail _ (.tail _ (.tail _ (.head _))))))) Inc.nil))))), ?_⟩
   refine Aw_done (by kernel_rfl) ?_
   refine Cw_seq ?_
   obtain ⟨x1153, hx1154, H⟩ := bnd H
   obtain ⟨x1160, hx1161, H⟩ := bnd H
   refine Cw_region_any [.row (sv v1109) 71 3 rs1110.flatten, .tok 52 8 [(sv v1103)], .blk b992 52 (Waiter.cells x982 v988 v989), .blk b800 73 (Result.cells (Result.mk 2 x349 i1026 t1027 0)), .blk b348 71 (Chan.cells (Chan.mk x341.capacity l1029 x341.closed) v1028), .blk b339 45 (Case.cells p4), .blk b337 34 (Desk.cells x1092 v1109 v1111)] rfl (Inc.cons (.head _) (Inc.cons (.tail _ (.head _)) (Inc.cons (.tail _ (.tail _ (.head _))) (Inc.cons (.tail _ (.tail _ (.tail _ (.head _)))) (Inc.cons (.tail _ (.tail _ (.tail _ (.tail _ (.head _))))) (Inc.cons (.tail _ (.tail _ (.tail _ (.tail _ (.tail _ (.tail _ (.head _))))))) (Inc.cons (.tail _ (.tail _ (.tail _ (.tail _ (.tail _ (.tail _ (.tail _ (.head _)))))))) Inc.nil))))))) ?_
   refine Awq 0 rfl (by kernel_rfl) rfl rfl rfl (Qt_loadA (m := 3) (cs := (Desk.cells x1092 v1109 v1111)) rfl rfl rfl rfl ⟨rfl, Rdc.blk (.tail _ (.tail _ (.tail _ (.tail _ (.tail _ (.tail _ (.head _))))))) rfl⟩) ?_
   refine Awq 1 rfl (by kernel_rfl) rfl rfl rfl (Qt_move rfl) ?_
   refine Awq 2 rfl (by kernel_rfl) rfl rfl rfl (Qt_loadA (m := 5) (cs := (Result.cells (Result.mk 2 x349 i1026 t1027 0))) rfl rfl rfl rfl ⟨rfl, Rdc.blk (.tail _ (.tail _ (.tail _ (.head _)))) rfl⟩) ?_
   refine Awq 3 rfl (by kernel_rfl) rfl rfl rfl (Qt_build (cs := (Done.cells (Done.mk p1 (Result.mk 2 x349 i1026 t1027 0)))) rfl rfl rfl rfl rfl rfl) ?_
   refine Awq 5 rfl (by kernel_rfl) rfl rfl rfl (Qt_fieldAddr (m := 0) rfl rfl rfl rfl rfl) ?_
   refine Awq 6 rfl (by kernel_rfl) rfl rfl rfl (Qt_load1 (v := (.int .i64 x982.thread)) rfl rfl rfl (Rdc.blk (.tail _ (.tail _ (.head _))) rfl)) ?_
   refine Awq 7 rfl (by kernel_rfl) rfl rfl rfl (Qt_fieldAddr (m := 1) rfl rfl rfl rfl rfl) ?_
   refine Awq 8 rfl (by kernel_rfl) rfl rfl rfl (Qt_loadA (m := 7) (cs := (Op.cells x982.op v988 v989)) rfl rfl rfl rfl ⟨rfl, Rdc.blk (.tail _ (.tail _ (.head _))) rfl⟩) ?_
   refine Awq 9 rfl (by kernel_rfl) rfl rfl rfl (Qt_move rfl) ?_
   refine Aw_two 4 10 (by kernel_rfl) ?_ ?_
   ·skip
    refine id (Ax_mk rfl rfl ?_)
    have hR1167 : RowR TyDone K1104 [(Done.cells (Done.mk p1 (Result.mk 2 x349 i1026 t1027 0)))] [(Done.mk p1 (Result.mk 2 x349 i1026 t1027 0))] := RowR.cons rfl (RowR.nil)
    refine O_lit (T := TyDone) (rows := [(Done.cells (Done.mk p1 (Result.mk 2 x349 i1026 t1027 0)))]) (l := [(Done.mk p1 (Result.mk 2 x349 i1026 t1027 0))]) rfl rfl rfl hR1167 rfl rfl rfl rfl rfl rfl rfl rfl (fun v1166 => ⟨(Inc.cons (.tail _ (.head _)) (Inc.cons (.tail _ (.tail _ (.head _))) (Inc.cons (.tail _ (.tail _ (.tail _ (.head _)))) (Inc.cons (.tail _ (.tail _ (.tail _ (.tail _ (.head _))))) (Inc.cons (.tail _ (.tail _ (.tail _ (.tail _ (.tail _ (.head _)))))) (Inc.cons (.tail _ (.tail _ (.tail _ (.tail _ (.tail _ (.tail _ (.tail _ (.head _)))))))) (Inc.cons (.tail _ (.tail _ (.tail _ (.tail _ (.tail _ (.tail _ (.tail _ (.tail _ (.head _))))))))) Inc.nil))))))), ?_⟩)
    refine Aw_one 10 (by kernel_rfl) (Ax_mk rfl rfl ?_)
    have hs1168 := (((hs999).mono hK1003).mono hK1049).mono hK1105
    have hs1169 := (((hs1000).mono hK1003).mono hK1049).mono hK1105
    refine OpW_call rfl Try.call85 rfl rfl (c_M_17z x982.op v988 v989 x993 x1153 hx1154 _ _ hs1168 hs1169) ?_
    rintro _ _ _ - ⟨rfl, rfl, rfl⟩
    refine ⟨(Inc.cons (.tail _ (.head _)) (Inc.cons (.tail _ (.tail _ (.head _))) (Inc.cons (.tail _ (.tail _ (.tail _ (.head _)))) (Inc.cons (.tail _ (.tail _ (.tail _ (.tail _ (.head _))))) (Inc.cons (.tail _ (.tail _ (.tail _ (.tail _ (.tail _ (.head _)))))) (Inc.cons (.tail _ (.tail _ (.tail _ (.tail _ (.tail _ (.tail _ (.tail _ (.head _)))))))) (Inc.cons (.tail _ (.tail _ (.tail _ (.tail _ (.tail _ (.tail _ (.tail _ (.tail _ (.head _))))))))) Inc.nil))))))), ?_⟩
    refine Awq 11 rfl (by kernel_rfl) rfl rfl rfl (Qt_build (cs := (Result.cells (Result.mk 1 x1153 0 false 0))) rfl rfl rfl rfl rfl rfl) ?_
    refine Aw_one 12 (by kernel_rfl) (Ax_mk rfl rfl ?_)
    refine OpW.shift (Shift.settle (T := TyDone) .here hR1167 rfl (fun K1170 hK1171 hs1172 => Shift.done ?_))
    refine OpW_call rfl Try.call61 rfl rfl (c_M_12z [(Done.mk p1 (Result.mk 2 x349 i1026 t1027 0))] v1166 x982.thread (Result.mk 1 x1153 0 false 0) x1160 hx1161 _ _ hs1172) ?_
    rintro _ K1174 _ hK1175 ⟨v1173, rfl, rfl, hs1176⟩
    refine ⟨(Inc.cons (.tail _ (.tail _ (.head _))) (Inc.cons (.tail _ (.tail _ (.tail _ (.head _)))) (Inc.cons (.tail _ (.tail _ (.tail _ (.tail _ (.head _))))) (Inc.cons (.tail _ (.tail _ (.tail _ (.tail _ (.tail _ (.head _)))))) (Inc.cons (.tail _ (.tail _ (.tail _ (.tail _ (.tail _ (.tail _ (.head _))))))) (Inc.cons (.tail _ (.tail _ (.tail _ (.tail _ (.tail _ (.tail _ (.tail _ (.tail _ (.head _))))))))) (Inc.cons (.tail _ (.tail _ (.tail _ (.tail _ (.tail _ (.tail _ (.tail _ (.tail _ (.tail _ (.head _)))))))))) Inc.nil))))))), ?_⟩
    refine Aw_one 13 (by kernel_rfl) (Ax_mk rfl rfl ?_)
    refine OpW_store (vs := (Desk.cells x1092 v1109 v1111)) (all' := (Desk.cells x1092 v1109 v1111)) rfl rfl rfl rfl rfl (.there (.there (.there (.there (.there (.there (.there .here))))))) rfl rfl rfl ⟨(Inc.cons (.tail _ (.tail _ (.head _))) (Inc.cons (.tail _ (.tail _ (.tail _ (.head _)))) (Inc.cons (.tail _ (.tail _ (.tail _ (.tail _ (.head _))))) (Inc.cons (.tail _ (.tail _ (.tail _ (.tail _ (.tail _ (.head _)))))) (Inc.cons (.tail _ (.tail _ (.tail _ (.tail _ (.tail _ (.tail _ (.head _))))))) (Inc.cons (.tail _ (.tail _ (.tail _ (.tail _ (.tail _ (.tail _ (.tail _ (.tail _ (.head _))))))))) (Inc.cons (.tail _ (.tail _ (.tail _ (.tail _ (.tail _ (.tail _ (.tail _ (.tail _ (.tail _ (.head _)))))))))) Inc.nil))))))), ?_⟩
    refine Awq 14 rfl (by kernel_rfl) rfl rfl rfl (Qt_assign rfl) ?_
    refine Aw_done (by kernel_rfl) ?_
    refine Cw_ret ?_
    obtain ⟨ey0, ey1⟩ := inj2 H
    subst y0 y1
    refine ⟨(by first | exact .inl rfl | exact .inr rfl), [(.agg (Desk.cells x1092 v1109 v1111).toArray), (sv v1173)], ⟨(.agg (Desk.cells x1092 v1109 v1111).toArray), _, rfl, ⟨_, 3, (Desk.cells x1092 v1109 v1111), rfl, rfl, rfl, rfl, ⟨rfl, Rdc.blk (.tail _ (.tail _ (.tail _ (.tail _ (.tail _ (.tail _ (.tail _ (.head _)))))))) rfl⟩, rfl⟩, ⟨(sv v1173), _, rfl, rfl, rfl⟩⟩, ?_⟩
    have hs1180 := ((hs1112).mono hK1171).mono hK1175
    refine Shift.settle (T := TyChan) (.there (.there .here)) hs1180 rfl ?_
    intro K1177 hK1178 hs1179
    refine Re1 ?_
    refine Re1 ?_
    refine Re1 ?_
    refine Re1 ?_
    refine Re1 ?_
    refine Re1 ?_
    refine Re1 ?_
    refine Re1 ?_
    refine Re1 ?_
    have hs1181 := (((hs1113).mono hK1171).mono hK1175).mono hK1178
    have hs1182 := (hs1176).mono hK1178
    refine Shift.done ?_
    exact ⟨v1109, v1111, v1173, rfl, rfl, hs1179, hs1181, hs1182⟩
   ·skip
    refine id (Ax_mk rfl rfl ?_)
    have hs1183 := (((hs999).mono hK1003).mono hK1049).mono hK1105
    have hs1184 := (((hs1000).mono hK1003).mono hK1049).mono hK1105
    refine OpW_call rfl Try.call85 rfl rfl (c_M_17z x982.op v988 v989 x993 x1153 hx1154 _ _ hs1183 hs1184) ?_
    rintro _ _ _ - ⟨rfl, rfl, rfl⟩
    refine ⟨(Inc.cons (.head _) (Inc.cons (.tail _ (.head _)) (Inc.cons (.tail _ (.tail _ (.head _))) (Inc.cons (.tail _ (.tail _ (.tail _ (.head _)))) (Inc.cons (.tail _ (.tail _ (.tail _ (.tail _ (.head _))))) (Inc.cons (.tail _ (.tail _ (.tail _ (.tail _ (.tail _ (.tail _ (.head _))))))) (Inc.cons (.tail _ (.tail _ (.tail _ (.tail _ (.tail _ (.tail _ (.tail _ (.head _)))))))) Inc.nil))))))), ?_⟩
    refine Awq 11 rfl (by kernel_rfl) rfl rfl rfl (Qt_build (cs := (Result.cells (Result.mk 1 x1153 0 false 0))) rfl rfl rfl rfl rfl rfl) ?_
    refine Aw_one 4 (by kernel_rfl) (Ax_mk rfl rfl ?_)
    have hR1186 : RowR TyDone K1104 [(Done.cells (Done.mk p1 (Result.mk 2 x349 i1026 t1027 0)))] [(Done.mk p1 (Result.mk 2 x349 i1026 t1027 0))] := RowR.cons rfl (RowR.nil)
    refine O_lit (T := TyDone) (rows := [(Done.cells (Done.mk p1 (Result.mk 2 x349 i1026 t1027 0)))]) (l := [(Done.mk p1 (Result.mk 2 x349 i1026 t1027 0))]) rfl rfl rfl hR1186 rfl rfl rfl rfl rfl rfl rfl rfl (fun v1185 => ⟨(Inc.cons (.tail _ (.head _)) (Inc.cons (.tail _ (.tail _ (.head _))) (Inc.cons (.tail _ (.tail _ (.tail _ (.head _)))) (Inc.cons (.tail _ (.tail _ (.tail _ (.tail _ (.head _))))) (Inc.cons (.tail _ (.tail _ (.tail _ (.tail _ (.tail _ (.head _)))))) (Inc.cons (.tail _ (.tail _ (.tail _ (.tail _ (.tail _ (.tail _ (.tail _ (.head _)))))))) (Inc.cons (.tail _ (.tail _ (.tail _ (.tail _ (.tail _ (.tail _ (.tail _ (.tail _ (.head _))))))))) Inc.nil))))))), ?_⟩)
    refine Aw_one 12 (by kernel_rfl) (Ax_mk rfl rfl ?_)
    refine OpW.shift (Shift.settle (T := TyDone) .here hR1186 rfl (fun K1187 hK1188 hs1189 => Shift.done ?_))
    refine OpW_call rfl Try.call61 rfl rfl (c_M_12z [(Done.mk p1 (Result.mk 2 x349 i1026 t1027 0))] v1185 x982.thread (Result.mk 1 x1153 0 false 0) x1160 hx1161 _ _ hs1189) ?_
    rintro _ K1191 _ hK1192 ⟨v1190, rfl, rfl, hs1193⟩
    refine ⟨(Inc.cons (.tail _ (.tail _ (.head _))) (Inc.cons (.tail _ (.tail _ (.tail _ (.head _)))) (Inc.cons (.tail _ (.tail _ (.tail _ (.tail _ (.head _))))) (Inc.cons (.tail _ (.tail _ (.tail _ (.tail _ (.tail _ (.head _)))))) (Inc.cons (.tail _ (.tail _ (.tail _ (.tail _ (.tail _ (.tail _ (.head _))))))) (Inc.cons (.tail _ (.tail _ (.tail _ (.tail _ (.tail _ (.tail _ (.tail _ (.tail _ (.head _))))))))) (Inc.cons (.tail _ (.tail _ (.tail _ (.tail _ (.tail _ (.tail _ (.tail _ (.tail _ (.tail _ (.head _)))))))))) Inc.nil))))))), ?_⟩
    refine Aw_one 13 (by kernel_rfl) (Ax_mk rfl rfl ?_)
    refine OpW_store (vs := (Desk.cells x1092 v1109 v1111)) (all' := (Desk.cells x1092 v1109 v1111)) rfl rfl rfl rfl rfl (.there (.there (.there (.there (.there (.there (.there .here))))))) rfl rfl rfl ⟨(Inc.cons (.tail _ (.tail _ (.head _))) (Inc.cons (.tail _ (.tail _ (.tail _ (.head _)))) (Inc.cons (.tail _ (.tail _ (.tail _ (.tail _ (.head _))))) (Inc.cons (.tail _ (.tail _ (.tail _ (.tail _ (.tail _ (.head _)))))) (Inc.cons (.tail _ (.tail _ (.tail _ (.tail _ (.tail _ (.tail _ (.head _))))))) (Inc.cons (.tail _ (.tail _ (.tail _ (.tail _ (.tail _ (.tail _ (.tail _ (.tail _ (.head _))))))))) (Inc.cons (.tail _ (.tail _ (.tail _ (.tail _ (.tail _ (.tail _ (.tail _ (.tail _ (.tail _ (.head _)))))))))) Inc.nil))))))), ?_⟩
    refine Awq 14 rfl (by kernel_rfl) rfl rfl rfl (Qt_assign rfl) ?_
    refine Aw_done (by kernel_rfl) ?_
    refine Cw_ret ?_
    obtain ⟨ey0, ey1⟩ := inj2 H
    subst y0 y1
    refine ⟨(by first | exact .inl rfl | exact .inr rfl), [(.agg (Desk.cells x1092 v1109 v1111).toArray), (sv v1190)], ⟨(.agg (Desk.cells x1092 v1109 v1111).toArray), _, rfl, ⟨_, 3, (Desk.cells x1092 v1109 v1111), rfl, rfl, rfl, rfl, ⟨rfl, Rdc.blk (.tail _ (.tail _ (.tail _ (.tail _ (.tail _ (.tail _ (.tail _ (.head _)))))))) rfl⟩, rfl⟩, ⟨(sv v1190), _, rfl, rfl, rfl⟩⟩, ?_⟩
    have hs1197 := ((hs1112).mono hK1188).mono hK1192
    refine Shift.settle (T := TyChan) (.there (.there .here)) hs1197 rfl ?_
    intro K1194 hK1195 hs1196
    refine Re1 ?_
    refine Re1 ?_
    refine Re1 ?_
    refine Re1 ?_
    refine Re1 ?_
    refine Re1 ?_
    refine Re1 ?_
    refine Re1 ?_
    refine Re1 ?_
    have hs1198 := (((hs1113).mono hK1188).mono hK1192).mono hK1195
    have hs1199 := (hs1193).mono hK1195
    refine Shift.done ?_
    exact ⟨v1109, v1111, v1190, rfl, rfl, hs1196, hs1198, hs1199⟩



end Go.Hx

namespace Go.Hx
open Go Go.Proofs
set_option linter.unusedSimpArgs false
set_option linter.unusedVariables false
set_option maxRecDepth 10000
set_option maxHeartbeats 1000000 in
theorem c_M_68z (p0 : Desk) (vp0_chans : SV) (vp0_waiting : SV) (p1 : Int) (p2 : Op) (vp2_cases : SV) (vp2_draws : SV) (y0 : Desk) (y1 : List Done) (y2 : Bool) (H : M_68z p0 p1 p2 = some (y0, y1, y2)) (K : Kp) (G : List Ent) (hp0_chans : Slr TyChan K (sv vp0_chans) p0.chans) (hp0_waiting : Slr TyWaiter K (sv vp0_waiting) p0.waiting) (hp2_cases : Slr TyCase K (sv vp2_cases) p2.cases) (hp2_draws : Slr Ty.i64 K (sv vp2_draws) p2.draws) :
  Fc Try.prog 33 #[(.agg (Desk.cells p0 vp0_chans vp0_waiting).toArray), (.int .i64 p1), (.agg (Op.cells p2 vp2_cases vp2_draws).toArray)] K (G) (fun v K' G' => ∃ (wy0_chans : SV) (wy0_waiting : SV) (wy1 : SV), v = (.tuple #[(.agg (Desk.cells y0 wy0_chans wy0_waiting).toArray), (sv wy1), (.bool y2)]) ∧ (.tok 75 6 [(sv wy1)]) :: G = G' ∧ Slr TyChan K' (sv wy0_chans) y0.chans ∧ Slr TyWaiter K' (sv wy0_waiting) y0.waiting ∧ Slr TyDone K' (sv wy1) y1) := by
 refine Fc_body Try.func33 rfl Try.ntmps33 Try.results33 rfl ?_
 unfold M_68z at H
 refine Cw_seq ?_
 refine Cw_region ?_
 refine Ow_cons rfl (OpW_box (cs := (Desk.cells p0 vp0_chans vp0_waiting)) rfl rfl rfl (fun b298 => ?_))
 refine Ow_cons rfl (OpW_box (cs := (Op.cells p2 vp2_cases vp2_draws)) rfl rfl rfl (fun b299 => ?_))
 refine Ow_cons rfl (OpW_alloc (cs := (Desk.cells (Desk.mk [] [] 0) nilS nilS)) rfl rfl rfl rfl (fun b300 => ?_))
 refine Ow_q rfl rfl rfl (Qt_assign rfl) ?_
 refine Ow_q rfl rfl rfl (Qt_assign rfl) ?_
 refine Ow_nil ?_
 refine Cw_seq ?_
 refine Cw_seq ?_
 refine Cw_region ?_
 refine Ow_q rfl rfl rfl (Qt_fieldAddr (m := 0) rfl rfl rfl rfl rfl) ?_
 refine Ow_q rfl rfl rfl (Qt_load1 (v := (.int .i64 p2.kind)) rfl rfl rfl (Rdc.blk (.tail _ (.head _)) rfl)) ?_
 refine Ow_nil ?_
 refine Cw_block ?_
 refine Cw_seq ?_
 refine Cw_region ?_
 refine Ow_q rfl rfl rfl (Qt_cmp rfl rfl rfl) ?_
 refine Ow_q rfl rfl rfl (Qt_assign rfl) ?_
 refine Ow_nil ?_
 refine Cw_cond rfl ?_ ?_
 ·intro h338
  have h338 := dcd_t (h338)
  have H := ift h338 H
  refine Cw_seq ?_
  refine Cw_region ?_
  refine Ow_q rfl rfl rfl (Qt_loadA (m := 3) (cs := (Desk.cells p0 vp0_chans vp0_waiting)) rfl rfl rfl rfl ⟨rfl, Rdc.blk (.tail _ (.tail _ (.head _))) rfl⟩) ?_
  refine Ow_q rfl rfl rfl (Qt_move rfl) ?_
  refine Ow_q rfl rfl rfl (Qt_loadA (m := 7) (cs := (Op.cells p2 vp2_cases vp2_draws)) rfl rfl rfl rfl ⟨rfl, Rdc.blk (.tail _ (.head _)) rfl⟩) ?_
  obtain ⟨x339, x340, hx341, H⟩ := bnd2 H
  refine Ow_cons rfl (OpW_call rfl Try.call62 rfl rfl (c_M_110z p0 vp0_chans vp0_waiting p1 p2 vp2_cases vp2_draws x339 x340 hx341 _ _ hp0_chans hp0_waiting hp2_cases hp2_draws) ?_)
  rintro _ K345 _ hK346 ⟨v342, v343, v344, rfl, rfl, hs347, hs348, hs349⟩
  refine Ow_q rfl rfl rfl (Qt_move rfl) ?_
  refine Ow_q rfl rfl rfl (Qt_extract rfl rfl) ?_
  refine Ow_q rfl rfl rfl (Qt_extract rfl rfl) ?_
  refine Ow_cons rfl (OpW_alloc (cs := (Desk.cells (Desk.mk [] [] 0) nilS nilS)) rfl rfl rfl rfl (fun b350 => ?_))
  refine Ow_cons rfl (OpW_store (vs := (Desk.cells x339 v342 v343)) (all' := (Desk.cells x339 v342 v343)) rfl rfl rfl rfl rfl .here rfl rfl rfl ?_)
  refine Ow_q rfl rfl rfl (Qt_assign rfl) ?_
  refine Ow_nil ?_
  refine Cw_seq ?_
  refine Cw_region ?_
  refine Ow_q rfl rfl rfl (Qt_loadA (m := 3) (cs := (Desk.cells x339 v342 v343)) rfl rfl rfl rfl ⟨rfl, Rdc.blk (.head _) rfl⟩) ?_
  refine Ow_q rfl rfl rfl (Qt_move rfl) ?_
  refine Ow_cons rfl (OpW_store (vs := (Desk.cells x339 v342 v343)) (all' := (Desk.cells x339 v342 v343)) rfl rfl rfl rfl rfl (.there (.there .here)) rfl rfl rfl ?_)
  refine Ow_q rfl rfl rfl (Qt_assign rfl) ?_
  refine Ow_q rfl rfl rfl (Qt_assign rfl) ?_
  refine Ow_nil ?_
  refine Cw_ret ?_
  obtain ⟨ey0, ey1, ey2⟩ := inj3 H
  subst y0 y1 y2
  refine ⟨(by first | exact .inl rfl | exact .inr rfl), [(.agg (Desk.cells x339 v342 v343).toArray), (sv v344), (.bool false)], ⟨(.agg (Desk.cells x339 v342 v343).toArray), _, rfl, ⟨_, 3, (Desk.cells x339 v342 v343), rfl, rfl, rfl, rfl, ⟨rfl, Rdc.blk (.tail _ (.tail _ (.head _))) rfl⟩, rfl⟩, ⟨(sv v344), _, rfl, rfl, ⟨(.bool false), _, rfl, rfl, rfl⟩⟩⟩, ?_⟩
  refine Pu1 ?_
  refine Re1 ?_
  refine Re1 ?_
  refine Re1 ?_
  refine Re1 ?_
  refine Shift.done ?_
  exact ⟨v342, v343, v344, rfl, rfl, hs347, hs348, hs349⟩
 ·intro h338
  have h338 := dcd_f (h338)
  have H := iff_ h338 H
  refine Cw_join (fun env' K' G' => ∃ (t352 : Bool), [(1, (.int .i64 p1)), (3, (.pointer (some ((⟨b298, 0, none⟩ : Addr).add 0)))), (5, (.pointer (some ((⟨b299, 0, none⟩ : Addr).add 0)))), (6, (.pointer (some ((⟨b300, 0, none⟩ : Addr).add 0)))), (28, (.bool t352))] = env' ∧ K = K' ∧ (.blk b300 34 (Desk.cells (Desk.mk [] [] 0) nilS nilS)) :: (.blk b299 41 (Op.cells p2 vp2_cases vp2_draws)) :: (.blk b298 34 (Desk.cells p0 vp0_chans vp0_waiting)) :: G = G' ∧ M_34z p1 p2 p0 t352 = some (y0, y1, y2)) ?_ ?_
  ·skip
   refine Cw_seq ?_
   refine Cw_region ?_
   refine Ow_q rfl rfl rfl (Qt_cmp rfl rfl rfl) ?_
   refine Ow_q rfl rfl rfl (Qt_assign rfl) ?_
   refine Ow_nil ?_
   refine Cw_cond rfl ?_ ?_
   ·intro h353
    have h353 := dcd_t (h353)
    have H := ift h353 H
    refine Cw_skip ?_
    refine Pu2 ?_
    refine Pu2 ?_
    refine Pu2 ?_
    refine Shift.done ?_
    exact ⟨_, by exact ⟨rfl, rfl, rfl, rfl, rfl, trivial⟩, (dcd (p2.kind = 5)), rfl, rfl, rfl, H⟩
   ·intro h353
    have h353 := dcd_f (h353)
    have H := iff_ h353 H
    refine Cw_region ?_
    refine Ow_q rfl rfl rfl (Qt_cmp rfl rfl rfl) ?_
    refine Ow_q rfl rfl rfl (Qt_assign rfl) ?_
    refine Ow_nil ?_
    refine Pu2 ?_
    refine Pu2 ?_
    refine Pu2 ?_
    refine Shift.done ?_
    exact ⟨_, by exact ⟨rfl, rfl, rfl, rfl, rfl, trivial⟩, (dcd (p2.kind = 6)), rfl, rfl, rfl, H⟩
  rintro _ _ _ - ⟨t352, rfl, rfl, rfl, H⟩
  unfold M_34z at H
  refine Cw_cond rfl ?_ ?_
  ·intro h354
   have H := ift h354 H
   refine Cw_seq ?_
   refine Cw_region ?_
   refine Ow_q rfl rfl rfl (Qt_assign rfl) ?_
   refine Ow_nil ?_
   refine Cw_join (fun env' K' G' => ∃ (i373 : Int), [(1, (.int .i64 p1)), (3, (.pointer (some ((⟨b298, 0, none⟩ : Addr).add 0)))), (6, (.pointer (some ((⟨b300, 0, none⟩ : Addr).add 0)))), (11, (.int .i64 i373))] = env' ∧ K = K' ∧ (.blk b300 34 (Desk.cells (Desk.mk [] [] 0) nilS nilS)) :: (.blk b298 34 (Desk.cells p0 vp0_chans vp0_waiting)) :: G = G' ∧ M_66z p1 p0 i373 = some (y0, y1, y2)) ?_ ?_
   ·skip
    refine Cw_join (fun env' K' G' => ∃ (t375 : Bool), [(1, (.int .i64 p1)), (3, (.pointer (some ((⟨b298, 0, none⟩ : Addr).add 0)))), (5, (.pointer (some ((⟨b299, 0, none⟩ : Addr).add 0)))), (6, (.pointer (some ((⟨b300, 0, none⟩ : Addr).add 0)))), (11, (.int .i64 0)), (41, (.bool t375))] = env' ∧ K = K' ∧ (.blk b300 34 (Desk.cells (Desk.mk [] [] 0) nilS nilS)) :: (.blk b299 41 (Op.cells p2 vp2_cases vp2_draws)) :: (.blk b298 34 (Desk.cells p0 vp0_chans vp0_waiting)) :: G = G' ∧ M_121z p1 p2 p0 t375 = some (y0, y1, y2)) ?_ ?_
    ·skip
     refine Cw_region ?_
     refine Ow_q rfl rfl rfl (Qt_fieldAddr (m := 2) rfl rfl rfl rfl rfl) ?_
     refine Ow_q rfl rfl rfl (Qt_load1 (v := (.int .i64 p2.channel)) rfl rfl rfl (Rdc.blk (.tail _ (.head _)) rfl)) ?_
     refine Ow_q rfl rfl rfl (Qt_cmp rfl rfl rfl) ?_
     refine Ow_q rfl rfl rfl (Qt_move rfl) ?_
     refine Ow_caseG rfl rfl rfl ?_ ?_
     ·intro h376
      have h376 := dcd_t (h376)
      have H := ift h376 H
      refine Ow_qw rfl rfl rfl rfl rfl rfl (Qt_fieldAddr (m := 2) rfl rfl rfl rfl rfl) ?_
      refine Ow_qw rfl rfl rfl rfl rfl rfl (Qt_load1 (v := (.int .i64 p2.channel)) rfl rfl rfl (Rdc.blk (.tail _ (.head _)) rfl)) ?_
      refine Ow_qw rfl rfl rfl rfl rfl rfl (Qt_fieldAddr (m := 0) rfl rfl rfl rfl rfl) ?_
      refine Ow_qw rfl rfl rfl rfl rfl rfl (Qt_load1 (v := (sv vp0_chans)) rfl rfl rfl (Rdc.blk (.tail _ (.tail _ (.head _))) rfl)) ?_
      refine Ow_qw rfl rfl rfl rfl rfl rfl (Q_len (T := TyChan) hp0_chans rfl rfl) ?_
      refine Ow_qw rfl rfl rfl rfl rfl rfl (Qt_cmp rfl rfl rfl) ?_
      refine Ow_q rfl rfl rfl (Qt_pick_t rfl rfl) ?_
      refine Ow_nil ?_
      refine Pu2 ?_
      refine Pu2 ?_
      refine Pu2 ?_
      refine Shift.done ?_
      exact ⟨_, by exact ⟨rfl, rfl, rfl, rfl, rfl, rfl, trivial⟩, (dcd (p2.channel < (p0.chans.length : Int))), rfl, rfl, rfl, H⟩
     ·intro h376
      have h376 := dcd_f (h376)
      have H := iff_ h376 H
      refine Ow_pass rfl rfl rfl rfl rfl rfl rfl ?_
      refine Ow_pass rfl rfl rfl rfl rfl rfl rfl ?_
      refine Ow_pass rfl rfl rfl rfl rfl rfl rfl ?_
      refine Ow_pass rfl rfl rfl rfl rfl rfl rfl ?_
      refine Ow_pass rfl rfl rfl rfl rfl rfl rfl ?_
      refine Ow_pass rfl rfl rfl rfl rfl rfl rfl ?_
      refine Ow_q rfl rfl rfl (Qt_pick_f rfl rfl) ?_
      refine Ow_nil ?_
      refine Pu2 ?_
      refine Pu2 ?_
      refine Pu2 ?_
      refine Shift.done ?_
      exact ⟨_, by exact ⟨rfl, rfl, rfl, rfl, rfl, rfl, trivial⟩, false, rfl, rfl, rfl, H⟩
    rintro _ _ _ - ⟨t375, rfl, rfl, rfl, H⟩
    unfold M_121z at H
    refine Cw_cond rfl ?_ ?_
    ·intro h377
     have H := ift h377 H
     refine Cw_seq ?_
     refine Cw_region ?_
     refine Ow_q rfl rfl rfl (Qt_fieldAddr (m := 0) rfl rfl rfl rfl rfl) ?_
     refine Ow_q rfl rfl rfl (Qt_load1 (v := (sv vp0_chans)) rfl rfl rfl (Rdc.blk (.tail _ (.tail _ (.head _))) rfl)) ?_
     refine Ow_q rfl rfl rfl (Qt_fieldAddr (m := 2) rfl rfl rfl rfl rfl) ?_
     refine Ow_q rfl rfl rfl (Qt_load1 (v := (.int .i64 p2.channel)) rfl rfl rfl (Rdc.blk (.tail _ (.head _)) rfl)) ?_
     obtain ⟨x378, hx379, H⟩ := bnd H
     obtain ⟨r380, hr381, hk382⟩ := Slr.at hp0_chans hx379
     obtain ⟨v383, rfl, hs384⟩ := hr381
     refine Ow_q rfl rfl rfl (Q_ix (T := TyChan) hp0_chans hx379 rfl rfl rfl rfl rfl) ?_
     refine Ow_q rfl rfl rfl (Qt_fieldAddr (m := 1) rfl rfl rfl rfl rfl) ?_
     refine Ow_q rfl rfl rfl (Qt_load1 (v := (sv v383)) rfl rfl rfl (Rdc.k hk382 rfl)) ?_
     refine Ow_q rfl rfl rfl (Q_len (T := Ty.u64) hs384 rfl rfl) ?_
     refine Ow_q rfl rfl rfl (Qt_assign rfl) ?_
     refine Ow_nil ?_
     refine Cw_seq ?_
     refine Cw_region ?_
     refine Ow_q rfl rfl rfl (Qt_fieldAddr (m := 0) rfl rfl rfl rfl rfl) ?_
     refine Ow_q rfl rfl rfl (Qt_load1 (v := (.int .i64 p2.kind)) rfl rfl rfl (Rdc.blk (.tail _ (.head _)) rfl)) ?_
     refine Ow_q rfl rfl rfl (Qt_cmp rfl rfl rfl) ?_
     refine Ow_nil ?_
     refine Cw_cond rfl ?_ ?_
     ·intro h385
      have h385 := dcd_t (h385)
      have H := ift h385 H
      refine Cw_region ?_
      refine Ow_q rfl rfl rfl (Qt_fieldAddr (m := 0) rfl rfl rfl rfl rfl) ?_
      refine Ow_q rfl rfl rfl (Qt_load1 (v := (sv vp0_chans)) rfl rfl rfl (Rdc.blk (.tail _ (.tail _ (.head _))) rfl)) ?_
      refine Ow_q rfl rfl rfl (Qt_fieldAddr (m := 2) rfl rfl rfl rfl rfl) ?_
      refine Ow_q rfl rfl rfl (Qt_load1 (v := (.int .i64 p2.channel)) rfl rfl rfl (Rdc.blk (.tail _ (.head _)) rfl)) ?_
      obtain ⟨x386, hx387, H⟩ := bnd H
      obtain ⟨r388, hr389, hk390⟩ := Slr.at hp0_chans hx387
      obtain ⟨v391, rfl, hs392⟩ := hr389
      refine Ow_q rfl rfl rfl (Q_ix (T := TyChan) hp0_chans hx387 rfl rfl rfl rfl rfl) ?_
      refine Ow_q rfl rfl rfl (Qt_fieldAddr (m := 0) rfl rfl rfl rfl rfl) ?_
      refine Ow_q rfl rfl rfl (Qt_load1 (v := (.int .i64 x386.capacity)) rfl rfl rfl (Rdc.k hk390 rfl)) ?_
      refine Ow_q rfl rfl rfl (Qt_assign rfl) ?_
      refine Ow_nil ?_
      refine Pu2 ?_
      refine Pu1 ?_
      refine Re2 ?_
      refine Shift.done ?_
      exact ⟨_, by exact ⟨rfl, rfl, rfl, rfl, trivial⟩, x386.capacity, rfl, rfl, rfl, H⟩
     ·intro h385
      have h385 := dcd_f (h385)
      have H := iff_ h385 H
      refine Cw_skip ?_
      refine Pu2 ?_
      refine Pu1 ?_
      refine Re2 ?_
      refine Shift.done ?_
      exact ⟨_, by exact ⟨rfl, rfl, rfl, rfl, trivial⟩, (x378.buffer.length : Int), rfl, rfl, rfl, H⟩
    ·intro h377
     have H := iff_ (btf h377) H
     refine Cw_skip ?_
     refine Pu2 ?_
     refine Pu1 ?_
     refine Re2 ?_
     refine Shift.done ?_
     exact ⟨_, by exact ⟨rfl, rfl, rfl, rfl, trivial⟩, 0, rfl, rfl, rfl, H⟩
   rintro _ _ _ - ⟨i373, rfl, rfl, rfl, H⟩
   unfold M_66z at H
   refine Cw_seq ?_
   refine Cw_region ?_
   refine Ow_q rfl rfl rfl (Qt_loadA (m := 3) (cs := (Desk.cells p0 vp0_chans vp0_waiting)) rfl rfl rfl rfl ⟨rfl, Rdc.blk (.tail _ (.head _)) rfl⟩) ?_
   refine Ow_q rfl rfl rfl (Qt_move rfl) ?_
   refine Ow_q rfl rfl rfl (Qt_move rfl) ?_
   refine Ow_q rfl rfl rfl (Qt_build (cs := (Result.cells (Result.mk 7 (-1) 0 false i373))) rfl rfl rfl rfl rfl rfl) ?_
   refine Ow_q rfl rfl rfl (Qt_build (cs := (Done.cells (Done.mk p1 (Result.mk 7 (-1) 0 false i373)))) rfl rfl rfl rfl rfl rfl) ?_
   have hR394 : RowR TyDone K [(Done.cells (Done.mk p1 (Result.mk 7 (-1) 0 false i373)))] [(Done.mk p1 (Result.mk 7 (-1) 0 false i373))] := RowR.cons rfl (RowR.nil)
   refine Ow_cons rfl (O_lit (T := TyDone) (rows := [(Done.cells (Done.mk p1 (Result.mk 7 (-1) 0 false i373)))]) (l := [(Done.mk p1 (Result.mk 7 (-1) 0 false i373))]) rfl rfl rfl hR394 rfl rfl rfl rfl rfl rfl rfl rfl (fun v393 => ?_))
   refine Ow_cons rfl (OpW_store (vs := (Desk.cells p0 vp0_chans vp0_waiting)) (all' := (Desk.cells p0 vp0_chans vp0_waiting)) rfl rfl rfl rfl rfl (.there .here) rfl rfl rfl ?_)
   refine Ow_q rfl rfl rfl (Qt_assign rfl) ?_
   refine Ow_q rfl rfl rfl (Qt_assign rfl) ?_
   refine Ow_nil ?_
   refine Cw_ret ?_
   obtain ⟨ey0, ey1, ey2⟩ := inj3 H
   subst y0 y1 y2
   refine ⟨(by first | exact .inl rfl | exact .inr rfl), [(.agg (Desk.cells p0 vp0_chans vp0_waiting).toArray), (sv v393), (.bool false)], ⟨(.agg (Desk.cells p0 vp0_chans vp0_waiting).toArray), _, rfl, ⟨_, 3, (Desk.cells p0 vp0_chans vp0_waiting), rfl, rfl, rfl, rfl, ⟨rfl, Rdc.blk (.tail _ (.head _)) rfl⟩, rfl⟩, ⟨(sv v393), _, rfl, rfl, ⟨(.bool false), _, rfl, rfl, rfl⟩⟩⟩, ?_⟩
   refine Shift.settle (T := TyDone) .here hR394 rfl ?_
   intro K395 hK396 hs397
   refine Re1 ?_
   refine Re1 ?_
   have hs398 := (hp0_chans).mono hK396
   have hs399 := (hp0_waiting).mono hK396
   refine Shift.done ?_
   exact ⟨vp0_chans, vp0_waiting, v393, rfl, rfl, hs398, hs399, hs397⟩
  ·intro h354
   have H := iff_ (btf h354) H
   refine Cw_skip ?_
   refine Cw_seq ?_
   refine Cw_region ?_
   refine Ow_q rfl rfl rfl (Qt_assign rfl) ?_
   refine Ow_nil ?_
   refine Cw_join (fun env' K' G' => ∃ (i434 : Int), [(1, (.int .i64 p1)), (3, (.pointer (some ((⟨b298, 0, none⟩ : Addr).add 0)))), (5, (.pointer (some ((⟨b299, 0, none⟩ : Addr).add 0)))), (6, (.pointer (some ((⟨b300, 0, none⟩ : Addr).add 0)))), (12, (.int .i64 i434))] = env' ∧ (.blk b300 34 (Desk.cells (Desk.mk [] [] 0) nilS nilS)) :: (.blk b299 41 (Op.cells p2 vp2_cases vp2_draws)) :: (.blk b298 34 (Desk.cells p0 vp0_chans vp0_waiting)) :: G = G' ∧ M_33z p1 p2 p0 i434 = some (y0, y1, y2)) ?_ ?_
   ·skip
    refine Cw_seq ?_
    refine Cw_region ?_
    refine Ow_q rfl rfl rfl (Qt_fieldAddr (m := 0) rfl rfl rfl rfl rfl) ?_
    refine Ow_q rfl rfl rfl (Qt_load1 (v := (.int .i64 p2.kind)) rfl rfl rfl (Rdc.blk (.tail _ (.head _)) rfl)) ?_
    refine Ow_q rfl rfl rfl (Qt_cmp rfl rfl rfl) ?_
    refine Ow_nil ?_
    refine Cw_cond rfl ?_ ?_
    ·intro h435
     have h435 := dcd_t (h435)
     have H := ift h435 H
     refine Cw_region ?_
     refine Ow_q rfl rfl rfl (Qt_loadA (m := 3) (cs := (Desk.cells p0 vp0_chans vp0_waiting)) rfl rfl rfl rfl ⟨rfl, Rdc.blk (.tail _ (.tail _ (.head _))) rfl⟩) ?_
     refine Ow_q rfl rfl rfl (Qt_move rfl) ?_
     refine Ow_q rfl rfl rfl (Qt_loadA (m := 7) (cs := (Op.cells p2 vp2_cases vp2_draws)) rfl rfl rfl rfl ⟨rfl, Rdc.blk (.tail _ (.head _)) rfl⟩) ?_
     obtain ⟨x436, hx437, H⟩ := bnd H
     refine Ow_cons rfl (OpW_call rfl Try.call19 rfl rfl (c_M_119z p0 vp0_chans vp0_waiting p1 p2 vp2_cases vp2_draws x436 hx437 _ _ hp0_chans hp0_waiting hp2_cases hp2_draws) ?_)
     rintro _ K438 _ hK439 ⟨rfl, rfl⟩
     refine Ow_q rfl rfl rfl (Qt_assign rfl) ?_
     refine Ow_nil ?_
     refine Pu2 ?_
     refine Pu2 ?_
     refine Pu2 ?_
     refine Shift.done ?_
     exact ⟨_, by exact ⟨rfl, rfl, rfl, rfl, rfl, trivial⟩, x436, rfl, rfl, H⟩
    ·intro h435
     have h435 := dcd_f (h435)
     have H := iff_ h435 H
     refine Cw_seq ?_
     obtain ⟨x468, hx469, H⟩ := bnd H
     obtain ⟨x474, hx475, H⟩ := bnd H
     obtain ⟨x479, hx480, H⟩ := bnd H
     refine Cw_region_any [.blk b300 34 (Desk.cells (Desk.mk [] [] 0) nilS nilS), .blk b299 41 (Op.cells p2 vp2_cases vp2_draws), .blk b298 34 (Desk.cells p0 vp0_chans vp0_waiting)] rfl (Inc.cons (.head _) (Inc.cons (.tail _ (.head _)) (Inc.cons (.tail _ (.tail _ (.head _))) Inc.nil))) ?_
     refine Awq 0 rfl (by kernel_rfl) rfl rfl rfl (Qt_loadA (m := 3) (cs := (Desk.cells p0 vp0_chans vp0_waiting)) rfl rfl rfl rfl ⟨rfl, Rdc.blk (.tail _ (.tail _ (.head _))) rfl⟩) ?_
     refine Awq 1 rfl (by kernel_rfl) rfl rfl rfl (Qt_move rfl) ?_
     refine Awq 2 rfl (by kernel_rfl) rfl rfl rfl (Qt_loadA (m := 7) (cs := (Op.cells p2 vp2_cases vp2_draws)) rfl rfl rfl rfl ⟨rfl, Rdc.blk (.tail _ (.head _)) rfl⟩) ?_
     refine Aw_one 3 (by kernel_rfl) (Ax_mk rfl rfl ?_)
     refine OpW_call rfl Try.call63 rfl rfl (c_M_15z p2 vp2_cases vp2_draws x468 hx469 _ _ hp2_cases hp2_draws) ?_
     rintro _ K486 _ hK487 ⟨v485, rfl, rfl, hs488⟩
     refine ⟨(Inc.cons (.head _) (Inc.cons (.tail _ (.head _)) (Inc.cons (.tail _ (.tail _ (.head _))) Inc.nil))), ?_⟩
     obtain ⟨r489, hr490, hk491⟩ := Slr.at hs488 hx475
     obtain rfl := hr490
     refine Aw_one 4 (by kernel_rfl) (Ax_mk rfl rfl (OpW_of_Qt rfl rfl (Q_ix (T := TyCase) hs488 hx475 rfl rfl rfl rfl rfl) ⟨(Inc.cons (.head _) (Inc.cons (.tail _ (.head _)) (Inc.cons (.tail _ (.tail _ (.head _))) Inc.nil))), ?_⟩))
     refine Aw_one 5 (by kernel_rfl) (Ax_mk rfl rfl (OpW_of_Qt rfl rfl (Qt_loadA (m := 3) (cs := (Case.cells x474)) rfl rfl rfl rfl ⟨rfl, Rdc.k hk491 rfl⟩) ⟨(Inc.cons (.head _) (Inc.cons (.tail _ (.head _)) (Inc.cons (.tail _ (.tail _ (.head _))) Inc.nil))), ?_⟩))
     refine Aw_one 6 (by kernel_rfl) (Ax_mk rfl rfl ?_)
     have hs492 := (hp0_chans).mono hK487
     have hs493 := (hp0_waiting).mono hK487
     refine OpW_call rfl Try.call17 rfl rfl (c_M_64z p0 vp0_chans vp0_waiting p1 x474 x479 hx480 _ _ hs492 hs493) ?_
     rintro _ K494 _ hK495 ⟨rfl, rfl⟩
     refine ⟨(Inc.cons (.head _) (Inc.cons (.tail _ (.head _)) (Inc.cons (.tail _ (.tail _ (.head _))) Inc.nil))), ?_⟩
     refine Aw_done (by kernel_rfl) ?_
     refine Cw_cond rfl ?_ ?_
     ·intro h496
      have H := ift h496 H
      refine Cw_region ?_
      refine Ow_q rfl rfl rfl (Qt_assign rfl) ?_
      refine Ow_nil ?_
      refine Pu2 ?_
      refine Pu2 ?_
      refine Pu2 ?_
      refine Shift.done ?_
      exact ⟨_, by exact ⟨rfl, rfl, rfl, rfl, rfl, trivial⟩, 0, rfl, rfl, H⟩
     ·intro h496
      have H := iff_ (btf h496) H
      refine Cw_skip ?_
      refine Pu2 ?_
      refine Pu2 ?_
      refine Pu2 ?_
      refine Shift.done ?_
      exact ⟨_, by exact ⟨rfl, rfl, rfl, rfl, rfl, trivial⟩, (-1), rfl, rfl, H⟩
   rintro _ K497 _ hK498 ⟨i434, rfl, rfl, H⟩
   unfold M_33z at H
   refine Cw_seq ?_
   refine Cw_seq ?_
   refine Cw_region ?_
   refine Ow_q rfl rfl rfl (Qt_move rfl) ?_
   refine Ow_q rfl rfl rfl (Qt_cmp rfl rfl rfl) ?_
   refine Ow_nil ?_
   refine Cw_cond rfl ?_ ?_
   ·intro h628
    have h628 := dcd_t (h628)
    have H := ift h628 H
    refine Cw_join (fun env' K' G' => ∃ (b744 : Nat) (v745 : SV) (l746 : List Done) (v748 : SV) (l749 : List Chan) (v751 : SV) (l752 : List Waiter) (i754 : Int), [(6, (.pointer (some ((⟨b300, 0, none⟩ : Addr).add 0)))), (13, (.pointer (some ((⟨b744, 0, none⟩ : Addr).add 0)))), (14, (sv v745))] = env' ∧ (.blk b744 34 (Desk.cells (Desk.mk l749 l752 i754) v748 v751)) :: (.blk b300 34 (Desk.cells (Desk.mk [] [] 0) nilS nilS)) :: (.tok 75 6 [(sv v745)]) :: G = G' ∧ M_195z l746 l749 l752 i754 = some (y0, y1, y2) ∧ Slr TyDone K' (sv v745) l746 ∧ Slr TyChan K' (sv v748) l749 ∧ Slr TyWaiter K' (sv v751) l752) ?_ ?_
    ·skip
     obtain ⟨x755, hx756, H⟩ := bnd H
     obtain ⟨x763, hx764, H⟩ := bnd H
     obtain ⟨x768, x769, hx770, H⟩ := bnd2 H
     refine Cw_region_any [.blk b300 34 (Desk.cells (Desk.mk [] [] 0) nilS nilS), .blk b299 41 (Op.cells p2 vp2_cases vp2_draws), .blk b298 34 (Desk.cells p0 vp0_chans vp0_waiting)] rfl (Inc.cons (.head _) (Inc.cons (.tail _ (.head _)) (Inc.cons (.tail _ (.tail _ (.head _))) Inc.nil))) ?_
     refine Awq 0 rfl (by kernel_rfl) rfl rfl rfl (Qt_loadA (m := 3) (cs := (Desk.cells p0 vp0_chans vp0_waiting)) rfl rfl rfl rfl ⟨rfl, Rdc.blk (.tail _ (.tail _ (.head _))) rfl⟩) ?_
     refine Awq 1 rfl (by kernel_rfl) rfl rfl rfl (Qt_move rfl) ?_
     refine Awq 2 rfl (by kernel_rfl) rfl rfl rfl (Qt_loadA (m := 7) (cs := (Op.cells p2 vp2_cases vp2_draws)) rfl rfl rfl rfl ⟨rfl, Rdc.blk (.tail _ (.head _)) rfl⟩) ?_
     refine Awq 3 rfl (by kernel_rfl) rfl rfl rfl (Qt_move rfl) ?_
     refine Awq 4 rfl (by kernel_rfl) rfl rfl rfl (Qt_loadA (m := 7) (cs := (Op.cells p2 vp2_cases vp2_draws)) rfl rfl rfl rfl ⟨rfl, Rdc.blk (.tail _ (.head _)) rfl⟩) ?_
     refine Awq 6 rfl (by kernel_rfl) rfl rfl rfl (Qt_move rfl) ?_
     refine Aw_two 5 13 (by kernel_rfl) ?_ ?_
     ·skip
      refine id (Ax_mk rfl rfl ?_)
      have hs784 := (hp2_cases).mono hK498
      have hs785 := (hp2_draws).mono hK498
      refine OpW_call rfl Try.call63 rfl rfl (c_M_15z p2 vp2_cases vp2_draws x755 hx756 _ _ hs784 hs785) ?_
      rintro _ K787 _ hK788 ⟨v786, rfl, rfl, hs789⟩
      refine ⟨(Inc.cons (.head _) (Inc.cons (.tail _ (.head _)) (Inc.cons (.tail _ (.tail _ (.head _))) Inc.nil))), ?_⟩
      refine Aw_two 7 13 (by kernel_rfl) ?_ ?_
      ·skip
       obtain ⟨r790, hr791, hk792⟩ := Slr.at hs789 hx764
       obtain rfl := hr791
       refine id (Ax_mk rfl rfl (OpW_of_Qt rfl rfl (Q_ix (T := TyCase) hs789 hx764 rfl rfl rfl rfl rfl) ⟨(Inc.cons (.head _) (Inc.cons (.tail _ (.head _)) (Inc.cons (.tail _ (.tail _ (.head _))) Inc.nil))), ?_⟩))
       refine Aw_two 8 13 (by kernel_rfl) ?_ ?_
       ·skip
        refine id (Ax_mk rfl rfl (OpW_of_Qt rfl rfl (Qt_loadA (m := 3) (cs := (Case.cells x763)) rfl rfl rfl rfl ⟨rfl, Rdc.k hk792 rfl⟩) ⟨(Inc.cons (.head _) (Inc.cons (.tail _ (.head _)) (Inc.cons (.tail _ (.tail _ (.head _))) Inc.nil))), ?_⟩))
        refine Aw_two 9 13 (by kernel_rfl) ?_ ?_
        ·skip
         refine id (Ax_mk rfl rfl ?_)
         have hs793 := ((hp0_chans).mono hK498).mono hK788
         have hs794 := ((hp0_waiting).mono hK498).mono hK788
         have hs795 := (hs784).mono hK788
         have hs796 := (hs785).mono hK788
         refine OpW_call rfl Try.call64 rfl rfl (c_M_120z p0 vp0_chans vp0_waiting p1 p2 vp2_cases vp2_draws i434 x763 x768 x769 hx770 _ _ hs793 hs794 hs795 hs796) ?_
         rintro _ K800 _ hK801 ⟨v797, v798, v799, rfl, rfl, hs802, hs803, hs804⟩
         refine ⟨(Inc.cons (.tail _ (.head _)) (Inc.cons (.tail _ (.tail _ (.head _))) (Inc.cons (.tail _ (.tail _ (.tail _ (.head _)))) Inc.nil))), ?_⟩
         refine Awq 10 rfl (by kernel_rfl) rfl rfl rfl (Qt_move rfl) ?_
         refine Awq 11 rfl (by kernel_rfl) rfl rfl rfl (Qt_extract rfl rfl) ?_
         refine Awq 12 rfl (by kernel_rfl) rfl rfl rfl (Qt_extract rfl rfl) ?_
         refine Aw_one 13 (by kernel_rfl) (Ax_mk rfl rfl ?_)
         refine OpW_alloc (cs := (Desk.cells (Desk.mk [] [] 0) nilS nilS)) rfl rfl rfl rfl (fun b805 => ⟨(Inc.cons (.tail _ (.tail _ (.head _))) (Inc.cons (.tail _ (.tail _ (.tail _ (.head _)))) (Inc.cons (.tail _ (.tail _ (.tail _ (.tail _ (.head _))))) Inc.nil))), ?_⟩)
         refine Aw_one 14 (by kernel_rfl) (Ax_mk rfl rfl ?_)
         refine OpW_store (vs := (Desk.cells x768 v797 v798)) (all' := (Desk.cells x768 v797 v798)) rfl rfl rfl rfl rfl .here rfl rfl rfl ⟨(Inc.cons (.tail _ (.tail _ (.head _))) (Inc.cons (.tail _ (.tail _ (.tail _ (.head _)))) (Inc.cons (.tail _ (.tail _ (.tail _ (.tail _ (.head _))))) Inc.nil))), ?_⟩
         refine Awq 15 rfl (by kernel_rfl) rfl rfl rfl (Qt_assign rfl) ?_
         refine Aw_done (by kernel_rfl) ?_
         refine Pu1 ?_
         refine Pu2 ?_
         refine Pu2 ?_
         refine Re3 ?_
         refine Re3 ?_
         refine Shift.done ?_
         exact ⟨_, by exact ⟨rfl, rfl, rfl, trivial⟩, b805, v799, x769, v797, x768.chans, v798, x768.waiting, x768.tick, rfl, rfl, H, hs804, hs802, hs803⟩
        ·skip
         refine id (Ax_mk rfl rfl ?_)
         refine OpW_alloc (cs := (Desk.cells (Desk.mk [] [] 0) nilS nilS)) rfl rfl rfl rfl (fun b806 => ⟨(Inc.cons (.tail _ (.head _)) (Inc.cons (.tail _ (.tail _ (.head _))) (Inc.cons (.tail _ (.tail _ (.tail _ (.head _)))) Inc.nil))), ?_⟩)
         refine Aw_one 9 (by kernel_rfl) (Ax_mk rfl rfl ?_)
         have hs807 := ((hp0_chans).mono hK498).mono hK788
         have hs808 := ((hp0_waiting).mono hK498).mono hK788
         have hs809 := (hs784).mono hK788
         have hs810 := (hs785).mono hK788
         refine OpW_call rfl Try.call64 rfl rfl (c_M_120z p0 vp0_chans vp0_waiting p1 p2 vp2_cases vp2_draws i434 x763 x768 x769 hx770 _ _ hs807 hs808 hs809 hs810) ?_
         rintro _ K814 _ hK815 ⟨v811, v812, v813, rfl, rfl, hs816, hs817, hs818⟩
         refine ⟨(Inc.cons (.tail _ (.tail _ (.head _))) (Inc.cons (.tail _ (.tail _ (.tail _ (.head _)))) (Inc.cons (.tail _ (.tail _ (.tail _ (.tail _ (.head _))))) Inc.nil))), ?_⟩
         refine Awq 10 rfl (by kernel_rfl) rfl rfl rfl (Qt_move rfl) ?_
         refine Awq 11 rfl (by kernel_rfl) rfl rfl rfl (Qt_extract rfl rfl) ?_
         refine Awq 12 rfl (by kernel_rfl) rfl rfl rfl (Qt_extract rfl rfl) ?_
         refine Aw_one 14 (by kernel_rfl) (Ax_mk rfl rfl ?_)
         refine OpW_store (vs := (Desk.cells x768 v811 v812)) (all' := (Desk.cells x768 v811 v812)) rfl rfl rfl rfl rfl (.there .here) rfl rfl rfl ⟨(Inc.cons (.tail _ (.tail _ (.head _))) (Inc.cons (.tail _ (.tail _ (.tail _ (.head _)))) (Inc.cons (.tail _ (.tail _ (.tail _ (.tail _ (.head _))))) Inc.nil))), ?_⟩
         refine Awq 15 rfl (by kernel_rfl) rfl rfl rfl (Qt_assign rfl) ?_
         refine Aw_done (by kernel_rfl) ?_
         refine Pu2 ?_
         refine Pu2 ?_
         refine Re3 ?_
         refine Re3 ?_
         refine Shift.done ?_
         exact ⟨_, by exact ⟨rfl, rfl, rfl, trivial⟩, b806, v813, x769, v811, x768.chans, v812, x768.waiting, x768.tick, rfl, rfl, H, hs818, hs816, hs817⟩
       ·skip
        refine id (Ax_mk rfl rfl ?_)
        refine OpW_alloc (cs := (Desk.cells (Desk.mk [] [] 0) nilS nilS)) rfl rfl rfl rfl (fun b819 => ⟨(Inc.cons (.tail _ (.head _)) (Inc.cons (.tail _ (.tail _ (.head _))) (Inc.cons (.tail _ (.tail _ (.tail _ (.head _)))) Inc.nil))), ?_⟩)
        refine Aw_one 8 (by kernel_rfl) (Ax_mk rfl rfl (OpW_of_Qt rfl rfl (Qt_loadA (m := 3) (cs := (Case.cells x763)) rfl rfl rfl rfl ⟨rfl, Rdc.k hk792 rfl⟩) ⟨(Inc.cons (.tail _ (.head _)) (Inc.cons (.tail _ (.tail _ (.head _))) (Inc.cons (.tail _ (.tail _ (.tail _ (.head _)))) Inc.nil))), ?_⟩))
        refine Aw_one 9 (by kernel_rfl) (Ax_mk rfl rfl ?_)
        have hs820 := ((hp0_chans).mono hK498).mono hK788
        have hs821 := ((hp0_waiting).mono hK498).mono hK788
        have hs822 := (hs784).mono hK788
        have hs823 := (hs785).mono hK788
        refine OpW_call rfl Try.call64 rfl rfl (c_M_120z p0 vp0_chans vp0_waiting p1 p2 vp2_cases vp2_draws i434 x763 x768 x769 hx770 _ _ hs820 hs821 hs822 hs823) ?_
        rintro _ K827 _ hK828 ⟨v824, v825, v826, rfl, rfl, hs829, hs830, hs831⟩
        refine ⟨(Inc.cons (.tail _ (.tail _ (.head _))) (Inc.cons (.tail _ (.tail _ (.tail _ (.head _)))) (Inc.cons (.tail _ (.tail _ (.tail _ (.tail _ (.head _))))) Inc.nil))), ?_⟩
        refine Awq 10 rfl (by kernel_rfl) rfl rfl rfl (Qt_move rfl) ?_
        refine Awq 11 rfl (by kernel_rfl) rfl rfl rfl (Qt_extract rfl rfl) ?_
        refine Awq 12 rfl (by kernel_rfl) rfl rfl rfl (Qt_extract rfl rfl) ?_
        refine Aw_one 14 (by kernel_rfl) (Ax_mk rfl rfl ?_)
        refine OpW_store (vs := (Desk.cells x768 v824 v825)) (all' := (Desk.cells x768 v824 v825)) rfl rfl rfl rfl rfl (.there .here) rfl rfl rfl ⟨(Inc.cons (.tail _ (.tail _ (.head _))) (Inc.cons (.tail _ (.tail _ (.tail _ (.head _)))) (Inc.cons (.tail _ (.tail _ (.tail _ (.tail _ (.head _))))) Inc.nil))), ?_⟩
        refine Awq 15 rfl (by kernel_rfl) rfl rfl rfl (Qt_assign rfl) ?_
        refine Aw_done (by kernel_rfl) ?_
        refine Pu2 ?_
        refine Pu2 ?_
        refine Re3 ?_
        refine Re3 ?_
        refine Shift.done ?_
        exact ⟨_, by exact ⟨rfl, rfl, rfl, trivial⟩, b819, v826, x769, v824, x768.chans, v825, x768.waiting, x768.tick, rfl, rfl, H, hs831, hs829, hs830⟩
      ·skip
       refine id (Ax_mk rfl rfl ?_)
       refine OpW_alloc (cs := (Desk.cells (Desk.mk [] [] 0) nilS nilS)) rfl rfl rfl rfl (fun b832 => ⟨(Inc.cons (.tail _ (.head _)) (Inc.cons (.tail _ (.tail _ (.head _))) (Inc.cons (.tail _ (.tail _ (.tail _ (.head _)))) Inc.nil))), ?_⟩)
       obtain ⟨r833, hr834, hk835⟩ := Slr.at hs789 hx764
       obtain rfl := hr834
       refine Aw_one 7 (by kernel_rfl) (Ax_mk rfl rfl (OpW_of_Qt rfl rfl (Q_ix (T := TyCase) hs789 hx764 rfl rfl rfl rfl rfl) ⟨(Inc.cons (.tail _ (.head _)) (Inc.cons (.tail _ (.tail _ (.head _))) (Inc.cons (.tail _ (.tail _ (.tail _ (.head _)))) Inc.nil))), ?_⟩))
       refine Aw_one 8 (by kernel_rfl) (Ax_mk rfl rfl (OpW_of_Qt rfl rfl (Qt_loadA (m := 3) (cs := (Case.cells x763)) rfl rfl rfl rfl ⟨rfl, Rdc.k hk835 rfl⟩) ⟨(Inc.cons (.tail _ (.head _)) (Inc.cons (.tail _ (.tail _ (.head _))) (Inc.cons (.tail _ (.tail _ (.tail _ (.head _)))) Inc.nil))), ?_⟩))
       refine Aw_one 9 (by kernel_rfl) (Ax_mk rfl rfl ?_)
       have hs836 := ((hp0_chans).mono hK498).mono hK788
       have hs837 := ((hp0_waiting).mono hK498).mono hK788
       have hs838 := (hs784).mono hK788
       have hs839 := (hs785).mono hK788
       refine OpW_call rfl Try.call64 rfl rfl (c_M_120z p0 vp0_chans vp0_waiting p1 p2 vp2_cases vp2_draws i434 x763 x768 x769 hx770 _ _ hs836 hs837 hs838 hs839) ?_
       rintro _ K843 _ hK844 ⟨v840, v841, v842, rfl, rfl, hs845, hs846, hs847⟩
       refine ⟨(Inc.cons (.tail _ (.tail _ (.head _))) (Inc.cons (.tail _ (.tail _ (.tail _ (.head _)))) (Inc.cons (.tail _ (.tail _ (.tail _ (.tail _ (.head _))))) Inc.nil))), ?_⟩
       refine Awq 10 rfl (by kernel_rfl) rfl rfl rfl (Qt_move rfl) ?_
       refine Awq 11 rfl (by kernel_rfl) rfl rfl rfl (Qt_extract rfl rfl) ?_
       refine Awq 12 rfl (by kernel_rfl) rfl rfl rfl (Qt_extract rfl rfl) ?_
       refine Aw_one 14 (by kernel_rfl) (Ax_mk rfl rfl ?_)
       refine OpW_store (vs := (Desk.cells x768 v840 v841)) (all' := (Desk.cells x768 v840 v841)) rfl rfl rfl rfl rfl (.there .here) rfl rfl rfl ⟨(Inc.cons (.tail _ (.tail _ (.head _))) (Inc.cons (.tail _ (.tail _ (.tail _ (.head _)))) (Inc.cons (.tail _ (.tail _ (.tail _ (.tail _ (.head _))))) Inc.nil))), ?_⟩
       refine Awq 15 rfl (by kernel_rfl) rfl rfl rfl (Qt_assign rfl) ?_
       refine Aw_done (by kernel_rfl) ?_
       refine Pu2 ?_
       refine Pu2 ?_
       refine Re3 ?_
       refine Re3 ?_
       refine Shift.done ?_
       exact ⟨_, by exact ⟨rfl, rfl, rfl, trivial⟩, b832, v842, x769, v840, x768.chans, v841, x768.waiting, x768.tick, rfl, rfl, H, hs847, hs845, hs846⟩
     ·skip
      refine id (Ax_mk rfl rfl ?_)
      refine OpW_alloc (cs := (Desk.cells (Desk.mk [] [] 0) nilS nilS)) rfl rfl rfl rfl (fun b848 => ⟨(Inc.cons (.tail _ (.head _)) (Inc.cons (.tail _ (.tail _ (.head _))) (Inc.cons (.tail _ (.tail _ (.tail _ (.head _)))) Inc.nil))), ?_⟩)
      refine Aw_one 5 (by kernel_rfl) (Ax_mk rfl rfl ?_)
      have hs849 := (hp2_cases).mono hK498
      have hs850 := (hp2_draws).mono hK498
      refine OpW_call rfl Try.call63 rfl rfl (c_M_15z p2 vp2_cases vp2_draws x755 hx756 _ _ hs849 hs850) ?_
      rintro _ K852 _ hK853 ⟨v851, rfl, rfl, hs854⟩
      refine ⟨(Inc.cons (.tail _ (.head _)) (Inc.cons (.tail _ (.tail _ (.head _))) (Inc.cons (.tail _ (.tail _ (.tail _ (.head _)))) Inc.nil))), ?_⟩
      obtain ⟨r855, hr856, hk857⟩ := Slr.at hs854 hx764
      obtain rfl := hr856
      refine Aw_one 7 (by kernel_rfl) (Ax_mk rfl rfl (OpW_of_Qt rfl rfl (Q_ix (T := TyCase) hs854 hx764 rfl rfl rfl rfl rfl) ⟨(Inc.cons (.tail _ (.head _)) (Inc.cons (.tail _ (.tail _ (.head _))) (Inc.cons (.tail _ (.tail _ (.tail _ (.head _)))) Inc.nil))), ?_⟩))
      refine Aw_one 8 (by kernel_rfl) (Ax_mk rfl rfl (OpW_of_Qt rfl rfl (Qt_loadA (m := 3) (cs := (Case.cells x763)) rfl rfl rfl rfl ⟨rfl, Rdc.k hk857 rfl⟩) ⟨(Inc.cons (.tail _ (.head _)) (Inc.cons (.tail _ (.tail _ (.head _))) (Inc.cons (.tail _ (.tail _ (.tail _ (.head _)))) Inc.nil))), ?_⟩))
      refine Aw_one 9 (by kernel_rfl) (Ax_mk rfl rfl ?_)
      have hs858 := ((hp0_chans).mono hK498).mono hK853
      have hs859 := ((hp0_waiting).mono hK498).mono hK853
      have hs860 := (hs849).mono hK853
      have hs861 := (hs850).mono hK853
      refine OpW_call rfl Try.call64 rfl rfl (c_M_120z p0 vp0_chans vp0_waiting p1 p2 vp2_cases vp2_draws i434 x763 x768 x769 hx770 _ _ hs858 hs859 hs860 hs861) ?_
      rintro _ K865 _ hK866 ⟨v862, v863, v864, rfl, rfl, hs867, hs868, hs869⟩
      refine ⟨(Inc.cons (.tail _ (.tail _ (.head _))) (Inc.cons (.tail _ (.tail _ (.tail _ (.head _)))) (Inc.cons (.tail _ (.tail _ (.tail _ (.tail _ (.head _))))) Inc.nil))), ?_⟩
      refine Awq 10 rfl (by kernel_rfl) rfl rfl rfl (Qt_move rfl) ?_
      refine Awq 11 rfl (by kernel_rfl) rfl rfl rfl (Qt_extract rfl rfl) ?_
      refine Awq 12 rfl (by kernel_rfl) rfl rfl rfl (Qt_extract rfl rfl) ?_
      refine Aw_one 14 (by kernel_rfl) (Ax_mk rfl rfl ?_)
      refine OpW_store (vs := (Desk.cells x768 v862 v863)) (all' := (Desk.cells x768 v862 v863)) rfl rfl rfl rfl rfl (.there .here) rfl rfl rfl ⟨(Inc.cons (.tail _ (.tail _ (.head _))) (Inc.cons (.tail _ (.tail _ (.tail _ (.head _)))) (Inc.cons (.tail _ (.tail _ (.tail _ (.tail _ (.head _))))) Inc.nil))), ?_⟩
      refine Awq 15 rfl (by kernel_rfl) rfl rfl rfl (Qt_assign rfl) ?_
      refine Aw_done (by kernel_rfl) ?_
      refine Pu2 ?_
      refine Pu2 ?_
      refine Re3 ?_
      refine Re3 ?_
      refine Shift.done ?_
      exact ⟨_, by exact ⟨rfl, rfl, rfl, trivial⟩, b848, v864, x769, v862, x768.chans, v863, x768.waiting, x768.tick, rfl, rfl, H, hs869, hs867, hs868⟩
    rintro _ K870 _ hK871 ⟨b744, v745, l746, v748, l749, v751, l752, i754, rfl, rfl, H, hs747, hs750, hs753⟩
    unfold M_195z at H
    refine Cw_seq ?_
    refine Cw_region ?_
    refine Ow_q rfl rfl rfl (Qt_loadA (m := 3) (cs := (Desk.cells (Desk.mk l749 l752 i754) v748 v751)) rfl rfl rfl rfl ⟨rfl, Rdc.blk (.head _) rfl⟩) ?_
    refine Ow_q rfl rfl rfl (Qt_move rfl) ?_
    refine Ow_cons rfl (OpW_store (vs := (Desk.cells (Desk.mk l749 l752 i754) v748 v751)) (all' := (Desk.cells (Desk.mk l749 l752 i754) v748 v751)) rfl rfl rfl rfl rfl (.there .here) rfl rfl rfl ?_)
    refine Ow_q rfl rfl rfl (Qt_assign rfl) ?_
    refine Ow_q rfl rfl rfl (Qt_assign rfl) ?_
    refine Ow_nil ?_
    refine Cw_ret ?_
    obtain ⟨ey0, ey1, ey2⟩ := inj3 H
    subst y0 y1 y2
    refine ⟨(by first | exact .inl rfl | exact .inr rfl), [(.agg (Desk.cells (Desk.mk l749 l752 i754) v748 v751).toArray), (sv v745), (.bool false)], ⟨(.agg (Desk.cells (Desk.mk l749 l752 i754) v748 v751).toArray), _, rfl, ⟨_, 3, (Desk.cells (Desk.mk l749 l752 i754) v748 v751), rfl, rfl, rfl, rfl, ⟨rfl, Rdc.blk (.tail _ (.head _)) rfl⟩, rfl⟩, ⟨(sv v745), _, rfl, rfl, ⟨(.bool false), _, rfl, rfl, rfl⟩⟩⟩, ?_⟩
    refine Pu2 ?_
    refine Re1 ?_
    refine Re1 ?_
    refine Shift.done ?_
    exact ⟨v748, v751, v745, rfl, rfl, hs750, hs753, hs747⟩
   ·intro h628
    have h628 := dcd_f (h628)
    have H := iff_ h628 H
    refine Cw_skip ?_
    refine Cw_seq ?_
    refine Cw_seq ?_
    refine Cw_region ?_
    refine Ow_q rfl rfl rfl (Qt_fieldAddr (m := 1) rfl rfl rfl rfl rfl) ?_
    refine Ow_q rfl rfl rfl (Qt_load1 (v := (.int .i64 p2.mode)) rfl rfl rfl (Rdc.blk (.tail _ (.head _)) rfl)) ?_
    refine Ow_q rfl rfl rfl (Qt_cmp rfl rfl rfl) ?_
    refine Ow_nil ?_
    refine Cw_cond rfl ?_ ?_
    ·intro h875
     have h875 := dcd_t (h875)
     have H := ift h875 H
     refine Cw_seq ?_
     refine Cw_region ?_
     refine Ow_q rfl rfl rfl (Qt_loadA (m := 3) (cs := (Desk.cells p0 vp0_chans vp0_waiting)) rfl rfl rfl rfl ⟨rfl, Rdc.blk (.tail _ (.tail _ (.head _))) rfl⟩) ?_
     refine Ow_q rfl rfl rfl (Qt_move rfl) ?_
     refine Ow_q rfl rfl rfl (Qt_build (cs := (Result.cells (Result.mk 3 (-1) 0 false 0))) rfl rfl rfl rfl rfl rfl) ?_
     refine Ow_q rfl rfl rfl (Qt_build (cs := (Done.cells (Done.mk p1 (Result.mk 3 (-1) 0 false 0)))) rfl rfl rfl rfl rfl rfl) ?_
     have hR877 : RowR TyDone K497 [(Done.cells (Done.mk p1 (Result.mk 3 (-1) 0 false 0)))] [(Done.mk p1 (Result.mk 3 (-1) 0 false 0))] := RowR.cons rfl (RowR.nil)
     refine Ow_cons rfl (O_lit (T := TyDone) (rows := [(Done.cells (Done.mk p1 (Result.mk 3 (-1) 0 false 0)))]) (l := [(Done.mk p1 (Result.mk 3 (-1) 0 false 0))]) rfl rfl rfl hR877 rfl rfl rfl rfl rfl rfl rfl rfl (fun v876 => ?_))
     refine Ow_cons rfl (OpW_store (vs := (Desk.cells p0 vp0_chans vp0_waiting)) (all' := (Desk.cells p0 vp0_chans vp0_waiting)) rfl rfl rfl rfl rfl (.there .here) rfl rfl rfl ?_)
     refine Ow_q rfl rfl rfl (Qt_assign rfl) ?_
     refine Ow_q rfl rfl rfl (Qt_assign rfl) ?_
     refine Ow_nil ?_
     refine Cw_ret ?_
     obtain ⟨ey0, ey1, ey2⟩ := inj3 H
     subst y0 y1 y2
     refine ⟨(by first | exact .inl rfl | exact .inr rfl), [(.agg (Desk.cells p0 vp0_chans vp0_waiting).toArray), (sv v876), (.bool false)], ⟨(.agg (Desk.cells p0 vp0_chans vp0_waiting).toArray), _, rfl, ⟨_, 3, (Desk.cells p0 vp0_chans vp0_waiting), rfl, rfl, rfl, rfl, ⟨rfl, Rdc.blk (.tail _ (.head _)) rfl⟩, rfl⟩, ⟨(sv v876), _, rfl, rfl, ⟨(.bool false), _, rfl, rfl, rfl⟩⟩⟩, ?_⟩
     refine Shift.settle (T := TyDone) .here hR877 rfl ?_
     intro K878 hK879 hs880
     refine Re1 ?_
     refine Re1 ?_
     refine Re1 ?_
     have hs881 := ((hp0_chans).mono hK498).mono hK879
     have hs882 := ((hp0_waiting).mono hK498).mono hK879
     refine Shift.done ?_
     exact ⟨vp0_chans, vp0_waiting, v876, rfl, rfl, hs881, hs882, hs880⟩
    ·intro h875
     have h875 := dcd_f (h875)
     have H := iff_ h875 H
     refine Cw_skip ?_
     refine Cw_seq ?_
     refine Cw_join (fun env' K' G' => ∃ (t889 : Bool), [(1, (.int .i64 p1)), (3, (.pointer (some ((⟨b298, 0, none⟩ : Addr).add 0)))), (5, (.pointer (some ((⟨b299, 0, none⟩ : Addr).add 0)))), (6, (.pointer (some ((⟨b300, 0, none⟩ : Addr).add 0)))), (114, (.bool t889))] = env' ∧ K497 = K' ∧ (.blk b300 34 (Desk.cells (Desk.mk [] [] 0) nilS nilS)) :: (.blk b299 41 (Op.cells p2 vp2_cases vp2_draws)) :: (.blk b298 34 (Desk.cells p0 vp0_chans vp0_waiting)) :: G = G' ∧ M_67z p1 p2 p0 t889 = some (y0, y1, y2)) ?_ ?_
     ·skip
      refine Cw_region ?_
      refine Ow_q rfl rfl rfl (Qt_fieldAddr (m := 1) rfl rfl rfl rfl rfl) ?_
      refine Ow_q rfl rfl rfl (Qt_load1 (v := (.int .i64 p2.mode)) rfl rfl rfl (Rdc.blk (.tail _ (.head _)) rfl)) ?_
      refine Ow_q rfl rfl rfl (Qt_cmp rfl rfl rfl) ?_
      refine Ow_q rfl rfl rfl (Qt_move rfl) ?_
      refine Ow_caseG rfl rfl rfl ?_ ?_
      ·intro h890
       have h890 := dcd_t (h890)
       have H := ift h890 H
       refine Ow_qw rfl rfl rfl rfl rfl rfl (Qt_fieldAddr (m := 4) rfl rfl rfl rfl rfl) ?_
       refine Ow_qw rfl rfl rfl rfl rfl rfl (Qt_load1 (v := (.int .i64 p2.deadline)) rfl rfl rfl (Rdc.blk (.tail _ (.head _)) rfl)) ?_
       refine Ow_qw rfl rfl rfl rfl rfl rfl (Qt_fieldAddr (m := 2) rfl rfl rfl rfl rfl) ?_
       refine Ow_qw rfl rfl rfl rfl rfl rfl (Qt_load1 (v := (.int .i64 p0.tick)) rfl rfl rfl (Rdc.blk (.tail _ (.tail _ (.head _))) rfl)) ?_
       refine Ow_qw rfl rfl rfl rfl rfl rfl (Qt_cmp rfl rfl rfl) ?_
       refine Ow_q rfl rfl rfl (Qt_pick_t rfl rfl) ?_
       refine Ow_nil ?_
       refine Pu2 ?_
       refine Pu2 ?_
       refine Pu2 ?_
       refine Shift.done ?_
       exact ⟨_, by exact ⟨rfl, rfl, rfl, rfl, rfl, trivial⟩, (dcd (p2.deadline ≤ p0.tick)), rfl, rfl, rfl, H⟩
      ·intro h890
       have h890 := dcd_f (h890)
       have H := iff_ h890 H
       refine Ow_pass rfl rfl rfl rfl rfl rfl rfl ?_
       refine Ow_pass rfl rfl rfl rfl rfl rfl rfl ?_
       refine Ow_pass rfl rfl rfl rfl rfl rfl rfl ?_
       refine Ow_pass rfl rfl rfl rfl rfl rfl rfl ?_
       refine Ow_pass rfl rfl rfl rfl rfl rfl rfl ?_
       refine Ow_q rfl rfl rfl (Qt_pick_f rfl rfl) ?_
       refine Ow_nil ?_
       refine Pu2 ?_
       refine Pu2 ?_
       refine Pu2 ?_
       refine Shift.done ?_
       exact ⟨_, by exact ⟨rfl, rfl, rfl, rfl, rfl, trivial⟩, false, rfl, rfl, rfl, H⟩
     rintro _ _ _ - ⟨t889, rfl, rfl, rfl, H⟩
     unfold M_67z at H
     refine Cw_cond rfl ?_ ?_
     ·intro h891
      have H := ift h891 H
      refine Cw_seq ?_
      refine Cw_region ?_
      refine Ow_q rfl rfl rfl (Qt_loadA (m := 3) (cs := (Desk.cells p0 vp0_chans vp0_waiting)) rfl rfl rfl rfl ⟨rfl, Rdc.blk (.tail _ (.tail _ (.head _))) rfl⟩) ?_
      refine Ow_q rfl rfl rfl (Qt_move rfl) ?_
      refine Ow_q rfl rfl rfl (Qt_build (cs := (Result.cells (Result.mk 4 (-1) 0 false 0))) rfl rfl rfl rfl rfl rfl) ?_
      refine Ow_q rfl rfl rfl (Qt_build (cs := (Done.cells (Done.mk p1 (Result.mk 4 (-1) 0 false 0)))) rfl rfl rfl rfl rfl rfl) ?_
      have hR893 : RowR TyDone K497 [(Done.cells (Done.mk p1 (Result.mk 4 (-1) 0 false 0)))] [(Done.mk p1 (Result.mk 4 (-1) 0 false 0))] := RowR.cons rfl (RowR.nil)
      refine Ow_cons rfl (O_lit (T := TyDone) (rows := [(Done.cells (Done.mk p1 (Result.mk 4 (-1) 0 false 0)))]) (l := [(Done.mk p1 (Result.mk 4 (-1) 0 false 0))]) rfl rfl rfl hR893 rfl rfl rfl rfl rfl rfl rfl rfl (fun v892 => ?_))
      refine Ow_cons rfl (OpW_store (vs := (Desk.cells p0 vp0_chans vp0_waiting)) (all' := (Desk.cells p0 vp0_chans vp0_waiting)) rfl rfl rfl rfl rfl (.there .here) rfl rfl rfl ?_)
      refine Ow_q rfl rfl rfl (Qt_assign rfl) ?_
      refine Ow_q rfl rfl rfl (Qt_assign rfl) ?_
      refine Ow_nil ?_
      refine Cw_ret ?_
      obtain ⟨ey0, ey1, ey2⟩ := inj3 H
      subst y0 y1 y2
      refine ⟨(by first | exact .inl rfl | exact .inr rfl), [(.agg (Desk.cells p0 vp0_chans vp0_waiting).toArray), (sv v892), (.bool false)], ⟨(.agg (Desk.cells p0 vp0_chans vp0_waiting).toArray), _, rfl, ⟨_, 3, (Desk.cells p0 vp0_chans vp0_waiting), rfl, rfl, rfl, rfl, ⟨rfl, Rdc.blk (.tail _ (.head _)) rfl⟩, rfl⟩, ⟨(sv v892), _, rfl, rfl, ⟨(.bool false), _, rfl, rfl, rfl⟩⟩⟩, ?_⟩
      refine Shift.settle (T := TyDone) .here hR893 rfl ?_
      intro K894 hK895 hs896
      refine Re1 ?_
      refine Re1 ?_
      refine Re1 ?_
      have hs897 := ((hp0_chans).mono hK498).mono hK895
      have hs898 := ((hp0_waiting).mono hK498).mono hK895
      refine Shift.done ?_
      exact ⟨vp0_chans, vp0_waiting, v892, rfl, rfl, hs897, hs898, hs896⟩
     ·intro h891
      have H := iff_ (btf h891) H
      refine Cw_skip ?_
      refine Cw_join (fun env' K' G' => ∃ (v957 : SV) (l958 : List Waiter), [(3, (.pointer (some ((⟨b298, 0, none⟩ : Addr).add 0)))), (6, (.pointer (some ((⟨b300, 0, none⟩ : Addr).add 0))))] = env' ∧ (.blk b300 34 (Desk.cells (Desk.mk [] [] 0) nilS nilS)) :: (.blk b298 34 (Desk.cells (Desk.mk p0.chans l958 p0.tick) vp0_chans v957)) :: (.tok 52 8 [(sv v957)]) :: G = G' ∧ M_196z p0 l958 = some (y0, y1, y2) ∧ Slr TyWaiter K' (sv v957) l958) ?_ ?_
      ·skip
       obtain ⟨x960, hx961, H⟩ := bnd H
       obtain ⟨x971, hx972, H⟩ := bnd H
       refine Cw_region_any [.blk b300 34 (Desk.cells (Desk.mk [] [] 0) nilS nilS), .blk b299 41 (Op.cells p2 vp2_cases vp2_draws)] rfl (Inc.cons (.head _) (Inc.cons (.tail _ (.head _)) Inc.nil)) ?_
       refine Awq 0 rfl (by kernel_rfl) rfl rfl rfl (Qt_fieldAddr (m := 1) rfl rfl rfl rfl rfl) ?_
       refine Awq 3 rfl (by kernel_rfl) rfl rfl rfl (Qt_move rfl) ?_
       refine Awq 4 rfl (by kernel_rfl) rfl rfl rfl (Qt_loadA (m := 7) (cs := (Op.cells p2 vp2_cases vp2_draws)) rfl rfl rfl rfl ⟨rfl, Rdc.blk (.tail _ (.head _)) rfl⟩) ?_
       refine Awq 5 rfl (by kernel_rfl) rfl rfl rfl (Qt_build (cs := (Waiter.cells (Waiter.mk p1 p2) vp2_cases vp2_draws)) rfl rfl rfl rfl rfl rfl) ?_
       refine Aw_two 1 6 (by kernel_rfl) ?_ ?_
       ·skip
        refine id (Ax_mk rfl rfl (OpW_of_Qt rfl rfl (Qt_load1 (v := (sv vp0_waiting)) rfl rfl rfl (Rdc.blk (.tail _ (.tail _ (.head _))) rfl)) ⟨(Inc.cons (.head _) (Inc.cons (.tail _ (.head _)) Inc.nil)), ?_⟩))
        refine Aw_two 2 6 (by kernel_rfl) ?_ ?_
        ·skip
         refine id (Ax_mk rfl rfl ?_)
         refine OpW.shift (Shift.nilTok1 52 8 (Shift.done ?_))
         have hs977 := (hp0_waiting).mono hK498
         refine O_appTok (T := TyWaiter) (bytes := 96) (q := 0) rfl rfl rfl (Slr.nil TyWaiter _) (.head _) rfl (SrcT.sl hs977) hx961 rfl rfl rfl rfl rfl rfl rfl rfl (fun v978 K979 hK980 hs981 => ⟨_, .here, ⟨(Inc.cons (.tail _ (.head _)) (Inc.cons (.tail _ (.tail _ (.head _))) Inc.nil)), ?_⟩⟩)
         refine Aw_one 6 (by kernel_rfl) (Ax_mk rfl rfl ?_)
         have hs984 := ((hp2_cases).mono hK498).mono hK980
         have hs985 := ((hp2_draws).mono hK498).mono hK980
         have hR983 : RowR TyWaiter K979 [(Waiter.cells (Waiter.mk p1 p2) vp2_cases vp2_draws)] [(Waiter.mk p1 p2)] := RowR.cons ⟨vp2_cases, vp2_draws, rfl, hs984, hs985⟩ (RowR.nil)
         refine O_lit (T := TyWaiter) (rows := [(Waiter.cells (Waiter.mk p1 p2) vp2_cases vp2_draws)]) (l := [(Waiter.mk p1 p2)]) rfl rfl rfl hR983 rfl rfl rfl rfl rfl rfl rfl rfl (fun v982 => ⟨(Inc.cons (.tail _ (.tail _ (.head _))) (Inc.cons (.tail _ (.tail _ (.tail _ (.head _)))) Inc.nil)), ?_⟩)
         refine Aw_one 7 (by kernel_rfl) (Ax_mk rfl rfl ?_)
         refine O_appTok (T := TyWaiter) (bytes := 96) (q := 0) rfl rfl rfl hs981 (.tail _ (.head _)) rfl (SrcT.row (.head _) hR983 rfl) hx972 rfl rfl rfl rfl rfl rfl rfl rfl (fun v986 K987 hK988 hs989 => ⟨_, (.there .here), ⟨(Inc.cons (.tail _ (.tail _ (.head _))) (Inc.cons (.tail _ (.tail _ (.tail _ (.head _)))) Inc.nil)), ?_⟩⟩)
         refine Aw.shift (Re0 (Shift.done ⟨(Inc.cons (.tail _ (.head _)) (Inc.cons (.tail _ (.tail _ (.head _))) Inc.nil)), ?_⟩))
         refine Awq 8 rfl (by kernel_rfl) rfl rfl rfl (Qt_fieldAddr (m := 1) rfl rfl rfl rfl rfl) ?_
         refine Aw_one 9 (by kernel_rfl) (Ax_mk rfl rfl ?_)
         refine OpW_store (vs := [(sv v986)]) (all' := (Desk.cells (Desk.mk p0.chans x971 p0.tick) vp0_chans v986)) rfl rfl rfl rfl rfl (.there (.there (.there .here))) rfl rfl rfl ⟨(Inc.cons (.tail _ (.head _)) (Inc.cons (.tail _ (.tail _ (.head _))) Inc.nil)), ?_⟩
         refine Aw_done (by kernel_rfl) ?_
         refine Pu3 ?_
         refine Pu2 ?_
         refine Re3 ?_
         refine Shift.done ?_
         exact ⟨_, by exact ⟨rfl, rfl, trivial⟩, v986, x971, rfl, rfl, H, hs989⟩
        ·skip
         refine id (Ax_mk rfl rfl ?_)
         have hs992 := (hp2_cases).mono hK498
         have hs993 := (hp2_draws).mono hK498
         have hR991 : RowR TyWaiter K497 [(Waiter.cells (Waiter.mk p1 p2) vp2_cases vp2_draws)] [(Waiter.mk p1 p2)] := RowR.cons ⟨vp2_cases, vp2_draws, rfl, hs992, hs993⟩ (RowR.nil)
         refine O_lit (T := TyWaiter) (rows := [(Waiter.cells (Waiter.mk p1 p2) vp2_cases vp2_draws)]) (l := [(Waiter.mk p1 p2)]) rfl rfl rfl hR991 rfl rfl rfl rfl rfl rfl rfl rfl (fun v990 => ⟨(Inc.cons (.tail _ (.head _)) (Inc.cons (.tail _ (.tail _ (.head _))) Inc.nil)), ?_⟩)
         refine Aw_one 2 (by kernel_rfl) (Ax_mk rfl rfl ?_)
         refine OpW.shift (Shift.nilTok1 52 8 (Shift.done ?_))
         have hs994 := (hp0_waiting).mono hK498
         refine O_appTok (T := TyWaiter) (bytes := 96) (q := 0) rfl rfl rfl (Slr.nil TyWaiter _) (.head _) rfl (SrcT.sl hs994) hx961 rfl rfl rfl rfl rfl rfl rfl rfl (fun v995 K996 hK997 hs998 => ⟨_, .here, ⟨(Inc.cons (.tail _ (.tail _ (.head _))) (Inc.cons (.tail _ (.tail _ (.tail _ (.head _)))) Inc.nil)), ?_⟩⟩)
         refine Aw_one 7 (by kernel_rfl) (Ax_mk rfl rfl ?_)
         have hs999 := (hR991).mono hK997
         refine O_appTok (T := TyWaiter) (bytes := 96) (q := 0) rfl rfl rfl hs998 (.head _) rfl (SrcT.row (.tail _ (.head _)) hs999 rfl) hx972 rfl rfl rfl rfl rfl rfl rfl rfl (fun v1000 K1001 hK1002 hs1003 => ⟨_, .here, ⟨(Inc.cons (.tail _ (.tail _ (.head _))) (Inc.cons (.tail _ (.tail _ (.tail _ (.head _)))) Inc.nil)), ?_⟩⟩)
         refine Aw.shift (Re1 (Shift.done ⟨(Inc.cons (.tail _ (.head _)) (Inc.cons (.tail _ (.tail _ (.head _))) Inc.nil)), ?_⟩))
         refine Awq 8 rfl (by kernel_rfl) rfl rfl rfl (Qt_fieldAddr (m := 1) rfl rfl rfl rfl rfl) ?_
         refine Aw_one 9 (by kernel_rfl) (Ax_mk rfl rfl ?_)
         refine OpW_store (vs := [(sv v1000)]) (all' := (Desk.cells (Desk.mk p0.chans x971 p0.tick) vp0_chans v1000)) rfl rfl rfl rfl rfl (.there (.there (.there .here))) rfl rfl rfl ⟨(Inc.cons (.tail _ (.head _)) (Inc.cons (.tail _ (.tail _ (.head _))) Inc.nil)), ?_⟩
         refine Aw_done (by kernel_rfl) ?_
         refine Pu3 ?_
         refine Pu2 ?_
         refine Re3 ?_
         refine Shift.done ?_
         exact ⟨_, by exact ⟨rfl, rfl, trivial⟩, v1000, x971, rfl, rfl, H, hs1003⟩
       ·skip
        refine id (Ax_mk rfl rfl ?_)
        have hs1006 := (hp2_cases).mono hK498
        have hs1007 := (hp2_draws).mono hK498
        have hR1005 : RowR TyWaiter K497 [(Waiter.cells (Waiter.mk p1 p2) vp2_cases vp2_draws)] [(Waiter.mk p1 p2)] := RowR.cons ⟨vp2_cases, vp2_draws, rfl, hs1006, hs1007⟩ (RowR.nil)
        refine O_lit (T := TyWaiter) (rows := [(Waiter.cells (Waiter.mk p1 p2) vp2_cases vp2_draws)]) (l := [(Waiter.mk p1 p2)]) rfl rfl rfl hR1005 rfl rfl rfl rfl rfl rfl rfl rfl (fun v1004 => ⟨(Inc.cons (.tail _ (.head _)) (Inc.cons (.tail _ (.tail _ (.head _))) Inc.nil)), ?_⟩)
        refine Aw_one 1 (by kernel_rfl) (Ax_mk rfl rfl (OpW_of_Qt rfl rfl (Qt_load1 (v := (sv vp0_waiting)) rfl rfl rfl (Rdc.blk (.tail _ (.tail _ (.tail _ (.head _)))) rfl)) ⟨(Inc.cons (.tail _ (.head _)) (Inc.cons (.tail _ (.tail _ (.head _))) Inc.nil)), ?_⟩))
        refine Aw_one 2 (by kernel_rfl) (Ax_mk rfl rfl ?_)
        refine OpW.shift (Shift.nilTok1 52 8 (Shift.done ?_))
        have hs1008 := (hp0_waiting).mono hK498
        refine O_appTok (T := TyWaiter) (bytes := 96) (q := 0) rfl rfl rfl (Slr.nil TyWaiter _) (.head _) rfl (SrcT.sl hs1008) hx961 rfl rfl rfl rfl rfl rfl rfl rfl (fun v1009 K1010 hK1011 hs1012 => ⟨_, .here, ⟨(Inc.cons (.tail _ (.tail _ (.head _))) (Inc.cons (.tail _ (.tail _ (.tail _ (.head _)))) Inc.nil)), ?_⟩⟩)
        refine Aw_one 7 (by kernel_rfl) (Ax_mk rfl rfl ?_)
        have hs1013 := (hR1005).mono hK1011
        refine O_appTok (T := TyWaiter) (bytes := 96) (q := 0) rfl rfl rfl hs1012 (.head _) rfl (SrcT.row (.tail _ (.head _)) hs1013 rfl) hx972 rfl rfl rfl rfl rfl rfl rfl rfl (fun v1014 K1015 hK1016 hs1017 => ⟨_, .here, ⟨(Inc.cons (.tail _ (.tail _ (.head _))) (Inc.cons (.tail _ (.tail _ (.tail _ (.head _)))) Inc.nil)), ?_⟩⟩)
        refine Aw.shift (Re1 (Shift.done ⟨(Inc.cons (.tail _ (.head _)) (Inc.cons (.tail _ (.tail _ (.head _))) Inc.nil)), ?_⟩))
        refine Awq 8 rfl (by kernel_rfl) rfl rfl rfl (Qt_fieldAddr (m := 1) rfl rfl rfl rfl rfl) ?_
        refine Aw_one 9 (by kernel_rfl) (Ax_mk rfl rfl ?_)
        refine OpW_store (vs := [(sv v1014)]) (all' := (Desk.cells (Desk.mk p0.chans x971 p0.tick) vp0_chans v1014)) rfl rfl rfl rfl rfl (.there (.there (.there .here))) rfl rfl rfl ⟨(Inc.cons (.tail _ (.head _)) (Inc.cons (.tail _ (.tail _ (.head _))) Inc.nil)), ?_⟩
        refine Aw_done (by kernel_rfl) ?_
        refine Pu3 ?_
        refine Pu2 ?_
        refine Re3 ?_
        refine Shift.done ?_
        exact ⟨_, by exact ⟨rfl, rfl, trivial⟩, v1014, x971, rfl, rfl, H, hs1017⟩
      rintro _ K1018 _ hK1019 ⟨v957, l958, rfl, rfl, H, hs959⟩
      unfold M_196z at H
      refine Cw_seq ?_
      refine Cw_region ?_
      refine Ow_q rfl rfl rfl (Qt_loadA (m := 3) (cs := (Desk.cells (Desk.mk p0.chans l958 p0.tick) vp0_chans v957)) rfl rfl rfl rfl ⟨rfl, Rdc.blk (.tail _ (.head _)) rfl⟩) ?_
      refine Ow_cons rfl (OpW_store (vs := (Desk.cells (Desk.mk p0.chans l958 p0.tick) vp0_chans v957)) (all' := (Desk.cells (Desk.mk p0.chans l958 p0.tick) vp0_chans v957)) rfl rfl rfl rfl rfl .here rfl rfl rfl ?_)
      refine Ow_q rfl rfl rfl (Qt_assign rfl) ?_
      refine Ow_q rfl rfl rfl (Qt_assign rfl) ?_
      refine Ow_nil ?_
      refine Cw_ret ?_
      obtain ⟨ey0, ey1, ey2⟩ := inj3 H
      subst y0 y1 y2
      refine ⟨(by first | exact .inl rfl | exact .inr rfl), [(.agg (Desk.cells (Desk.mk p0.chans l958 p0.tick) vp0_chans v957).toArray), (sv nilS), (.bool true)], ⟨(.agg (Desk.cells (Desk.mk p0.chans l958 p0.tick) vp0_chans v957).toArray), _, rfl, ⟨_, 3, (Desk.cells (Desk.mk p0.chans l958 p0.tick) vp0_chans v957), rfl, rfl, rfl, rfl, ⟨rfl, Rdc.blk (.head _) rfl⟩, rfl⟩, ⟨(sv nilS), _, rfl, rfl, ⟨(.bool true), _, rfl, rfl, rfl⟩⟩⟩, ?_⟩
      refine Shift.nilTok1 75 6 ?_
      refine Re1 ?_
      refine Re1 ?_
      refine Re1 ?_
      have hs1020 := ((hp0_chans).mono hK498).mono hK1019
      refine Shift.done ?_
      exact ⟨vp0_chans, v957, nilS, rfl, rfl, hs1020, hs959, (Slr.nil TyDone _)⟩

set_option maxHeartbeats 1000000 in
theorem c_M_125z (p0 : Op) (vp0_cases : SV) (vp0_draws : SV) (p1 : Op) (vp1_cases : SV) (vp1_draws : SV) (y0 : Bool) (H : M_125z p0 p1 = some y0) (K : Kp) (G : List Ent) (hp0_cases : Slr TyCase K (sv vp0_cases) p0.cases) (hp0_draws : Slr Ty.i64 K (sv vp0_draws) p0.draws) (hp1_cases : Slr TyCase K (sv vp1_cases) p1.cases) (hp1_draws : Slr Ty.i64 K (sv vp1_draws) p1.draws) :
  Fc Try.prog 83 #[(.agg (Op.cells p0 vp0_cases vp0_draws).toArray), (.agg (Op.cells p1 vp1_cases vp1_draws).toArray)] K (G) (fun v K' G' => v = (.bool y0) ∧ G = G') := by
 refine Fc_body Try.func83 rfl Try.ntmps83 Try.results83 rfl ?_
 unfold M_125z at H
 refine Cw_seq ?_
 refine Cw_region ?_
 refine Ow_cons rfl (OpW_box (cs := (Op.cells p0 vp0_cases vp0_draws)) rfl rfl rfl (fun b131 => ?_))
 refine Ow_cons rfl (OpW_box (cs := (Op.cells p1 vp1_cases vp1_draws)) rfl rfl rfl (fun b132 => ?_))
 refine Ow_q rfl rfl rfl (Qt_assign rfl) ?_
 refine Ow_nil ?_
 refine Cw_seq ?_
 refine Cw_join (fun env' K' G' => ∃ (t147 : Bool), [(2, (.pointer (some ((⟨b131, 0, none⟩ : Addr).add 0)))), (3, (.pointer (some ((⟨b132, 0, none⟩ : Addr).add 0)))), (57, (.bool t147))] = env' ∧ K = K' ∧ (.blk b132 41 (Op.cells p1 vp1_cases vp1_draws)) :: (.blk b131 41 (Op.cells p0 vp0_cases vp0_draws)) :: G = G' ∧ M_5z p1 p0 t147 = some y0) ?_ ?_
 ·skip
  refine Cw_region ?_
  refine Ow_q rfl rfl rfl (Qt_fieldAddr (m := 0) rfl rfl rfl rfl rfl) ?_
  refine Ow_q rfl rfl rfl (Qt_load1 (v := (.int .i64 p0.kind)) rfl rfl rfl (Rdc.blk (.tail _ (.head _)) rfl)) ?_
  refine Ow_q rfl rfl rfl (Qt_fieldAddr (m := 0) rfl rfl rfl rfl rfl) ?_
  refine Ow_q rfl rfl rfl (Qt_load1 (v := (.int .i64 p1.kind)) rfl rfl rfl (Rdc.blk (.head _) rfl)) ?_
  refine Ow_q rfl rfl rfl (Qt_cmp rfl rfl rfl) ?_
  refine Ow_q rfl rfl rfl (Qt_move rfl) ?_
  refine Ow_caseG rfl rfl rfl ?_ ?_
  ·intro h148
   have h148 := dcd_f (nt_t (h148))
   have H := iff_ h148 H
   refine Ow_pass rfl rfl rfl rfl rfl rfl rfl ?_
   refine Ow_pass rfl rfl rfl rfl rfl rfl rfl ?_
   refine Ow_pass rfl rfl rfl rfl rfl rfl rfl ?_
   refine Ow_pass rfl rfl rfl rfl rfl rfl rfl ?_
   refine Ow_pass rfl rfl rfl rfl rfl rfl rfl ?_
   refine Ow_q rfl rfl rfl (Qt_pick_t rfl rfl) ?_
   refine Ow_q rfl rfl rfl (Qt_move rfl) ?_
   refine Ow_pass rfl rfl rfl rfl rfl rfl rfl ?_
   refine Ow_pass rfl rfl rfl rfl rfl rfl rfl ?_
   refine Ow_pass rfl rfl rfl rfl rfl rfl rfl ?_
   refine Ow_pass rfl rfl rfl rfl rfl rfl rfl ?_
   refine Ow_pass rfl rfl rfl rfl rfl rfl rfl ?_
   refine Ow_q rfl rfl rfl (Qt_pick_t rfl rfl) ?_
   refine Ow_q rfl rfl rfl (Qt_move rfl) ?_
   refine Ow_pass rfl rfl rfl rfl rfl rfl rfl ?_
   refine Ow_pass rfl rfl rfl rfl rfl rfl rfl ?_
   refine Ow_pass rfl rfl rfl rfl rfl rfl rfl ?_
   refine Ow_pass rfl rfl rfl rfl rfl rfl rfl ?_
   refine Ow_pass rfl rfl rfl rfl rfl rfl rfl ?_
   refine Ow_q rfl rfl rfl (Qt_pick_t rfl rfl) ?_
   refine Ow_q rfl rfl rfl (Qt_move rfl) ?_
   refine Ow_pass rfl rfl rfl rfl rfl rfl rfl ?_
   refine Ow_pass rfl rfl rfl rfl rfl rfl rfl ?_
   refine Ow_pass rfl rfl rfl rfl rfl rfl rfl ?_
   refine Ow_pass rfl rfl rfl rfl rfl rfl rfl ?_
   refine Ow_pass rfl rfl rfl rfl rfl rfl rfl ?_
   refine Ow_q rfl rfl rfl (Qt_pick_t rfl rfl) ?_
   refine Ow_q rfl rfl rfl (Qt_move rfl) ?_
   refine Ow_pass rfl rfl rfl rfl rfl rfl rfl ?_
   refine Ow_pass rfl rfl rfl rfl rfl rfl rfl ?_
   refine Ow_pass rfl rfl rfl rfl rfl rfl rfl ?_
   refine Ow_pass rfl rfl rfl rfl rfl rfl rfl ?_
   refine Ow_pass rfl rfl rfl rfl rfl rfl rfl ?_
   refine Ow_pass rfl rfl rfl rfl rfl rfl rfl ?_
   refine Ow_pass rfl rfl rfl rfl rfl rfl rfl ?_
   refine Ow_q rfl rfl rfl (Qt_pick_t rfl rfl) ?_
   refine Ow_q rfl rfl rfl (Qt_move rfl) ?_
   refine Ow_pass rfl rfl rfl rfl rfl rfl rfl ?_
   refine Ow_pass rfl rfl rfl rfl rfl rfl rfl ?_
   refine Ow_pass rfl rfl rfl rfl rfl rfl rfl ?_
   refine Ow_pass rfl rfl rfl rfl rfl rfl rfl ?_
   refine Ow_pass rfl rfl rfl rfl rfl rfl rfl ?_
   refine Ow_pass rfl rfl rfl rfl rfl rfl rfl ?_
   refine Ow_pass rfl rfl rfl rfl rfl rfl rfl ?_
   refine Ow_q rfl rfl rfl (Qt_pick_t rfl rfl) ?_
   refine Ow_nil ?_
   refine Pu1 ?_
   refine Pu1 ?_
   refine Shift.done ?_
   exact ⟨_, by exact ⟨rfl, rfl, rfl, trivial⟩, true, rfl, rfl, rfl, H⟩
  ·intro h148
   have h148 := dcd_t (nt_f (h148))
   have H := ift h148 H
   refine Ow_qw rfl rfl rfl rfl rfl rfl (Qt_fieldAddr (m := 1) rfl rfl rfl rfl rfl) ?_
   refine Ow_qw rfl rfl rfl rfl rfl rfl (Qt_load1 (v := (.int .i64 p0.mode)) rfl rfl rfl (Rdc.blk (.tail _ (.head _)) rfl)) ?_
   refine Ow_qw rfl rfl rfl rfl rfl rfl (Qt_fieldAddr (m := 1) rfl rfl rfl rfl rfl) ?_
   refine Ow_qw rfl rfl rfl rfl rfl rfl (Qt_load1 (v := (.int .i64 p1.mode)) rfl rfl rfl (Rdc.blk (.head _) rfl)) ?_
   refine Ow_qw rfl rfl rfl rfl rfl rfl (Qt_cmp rfl rfl rfl) ?_
   refine Ow_q rfl rfl rfl (Qt_pick_f rfl rfl) ?_
   refine Ow_q rfl rfl rfl (Qt_move rfl) ?_
   refine Ow_caseG rfl rfl rfl ?_ ?_
   ·intro h149
    have h149 := dcd_f (nt_t (h149))
    have H := iff_ h149 H
    refine Ow_pass rfl rfl rfl rfl rfl rfl rfl ?_
    refine Ow_pass rfl rfl rfl rfl rfl rfl rfl ?_
    refine Ow_pass rfl rfl rfl rfl rfl rfl rfl ?_
    refine Ow_pass rfl rfl rfl rfl rfl rfl rfl ?_
    refine Ow_pass rfl rfl rfl rfl rfl rfl rfl ?_
    refine Ow_q rfl rfl rfl (Qt_pick_t rfl rfl) ?_
    refine Ow_q rfl rfl rfl (Qt_move rfl) ?_
    refine Ow_pass rfl rfl rfl rfl rfl rfl rfl ?_
    refine Ow_pass rfl rfl rfl rfl rfl rfl rfl ?_
    refine Ow_pass rfl rfl rfl rfl rfl rfl rfl ?_
    refine Ow_pass rfl rfl rfl rfl rfl rfl rfl ?_
    refine Ow_pass rfl rfl rfl rfl rfl rfl rfl ?_
    refine Ow_q rfl rfl rfl (Qt_pick_t rfl rfl) ?_
    refine Ow_q rfl rfl rfl (Qt_move rfl) ?_
    refine Ow_pass rfl rfl rfl rfl rfl rfl rfl ?_
    refine Ow_pass rfl rfl rfl rfl rfl rfl rfl ?_
    refine Ow_pass rfl rfl rfl rfl rfl rfl rfl ?_
    refine Ow_pass rfl rfl rfl rfl rfl rfl rfl ?_
    refine Ow_pass rfl rfl rfl rfl rfl rfl rfl ?_
    refine Ow_q rfl rfl rfl (Qt_pick_t rfl rfl) ?_
    refine Ow_q rfl rfl rfl (Qt_move rfl) ?_
    refine Ow_pass rfl rfl rfl rfl rfl rfl rfl ?_
    refine Ow_pass rfl rfl rfl rfl rfl rfl rfl ?_
    refine Ow_pass rfl rfl rfl rfl rfl rfl rfl ?_
    refine Ow_pass rfl rfl rfl rfl rfl rfl rfl ?_
    refine Ow_pass rfl rfl rfl rfl rfl rfl rfl ?_
    refine Ow_pass rfl rfl rfl rfl rfl rfl rfl ?_
    refine Ow_pass rfl rfl rfl rfl rfl rfl rfl ?_
    refine Ow_q rfl rfl rfl (Qt_pick_t rfl rfl) ?_
    refine Ow_q rfl rfl rfl (Qt_move rfl) ?_
    refine Ow_pass rfl rfl rfl rfl rfl rfl rfl ?_
    refine Ow_pass rfl rfl rfl rfl rfl rfl rfl ?_
    refine Ow_pass rfl rfl rfl rfl rfl rfl rfl ?_
    refine Ow_pass rfl rfl rfl rfl rfl rfl rfl ?_
    refine Ow_pass rfl rfl rfl rfl rfl rfl rfl ?_
    refine Ow_pass rfl rfl rfl rfl rfl rfl rfl ?_
    refine Ow_pass rfl rfl rfl rfl rfl rfl rfl ?_
    refine Ow_q rfl rfl rfl (Qt_pick_t rfl rfl) ?_
    refine Ow_nil ?_
    refine Pu1 ?_
    refine Pu1 ?_
    refine Shift.done ?_
    exact ⟨_, by exact ⟨rfl, rfl, rfl, trivial⟩, true, rfl, rfl, rfl, H⟩
   ·intro h149
    have h149 := dcd_t (nt_f (h149))
    have H := ift h149 H
    refine Ow_qw rfl rfl rfl rfl rfl rfl (Qt_fieldAddr (m := 2) rfl rfl rfl rfl rfl) ?_
    refine Ow_qw rfl rfl rfl rfl rfl rfl (Qt_load1 (v := (.int .i64 p0.channel)) rfl rfl rfl (Rdc.blk (.tail _ (.head _)) rfl)) ?_
    refine Ow_qw rfl rfl rfl rfl rfl rfl (Qt_fieldAddr (m := 2) rfl rfl rfl rfl rfl) ?_
    refine Ow_qw rfl rfl rfl rfl rfl rfl (Qt_load1 (v := (.int .i64 p1.channel)) rfl rfl rfl (Rdc.blk (.head _) rfl)) ?_
    refine Ow_qw rfl rfl rfl rfl rfl rfl (Qt_cmp rfl rfl rfl) ?_
    refine Ow_q rfl rfl rfl (Qt_pick_f rfl rfl) ?_
    refine Ow_q rfl rfl rfl (Qt_move rfl) ?_
    refine Ow_caseG rfl rfl rfl ?_ ?_
    ·intro h150
     have h150 := dcd_f (nt_t (h150))
     have H := iff_ h150 H
     refine Ow_pass rfl rfl rfl rfl rfl rfl rfl ?_
     refine Ow_pass rfl rfl rfl rfl rfl rfl rfl ?_
     refine Ow_pass rfl rfl rfl rfl rfl rfl rfl ?_
     refine Ow_pass rfl rfl rfl rfl rfl rfl rfl ?_
     refine Ow_pass rfl rfl rfl rfl rfl rfl rfl ?_
     refine Ow_q rfl rfl rfl (Qt_pick_t rfl rfl) ?_
     refine Ow_q rfl rfl rfl (Qt_move rfl) ?_
     refine Ow_pass rfl rfl rfl rfl rfl rfl rfl ?_
     refine Ow_pass rfl rfl rfl rfl rfl rfl rfl ?_
     refine Ow_pass rfl rfl rfl rfl rfl rfl rfl ?_
     refine Ow_pass rfl rfl rfl rfl rfl rfl rfl ?_
     refine Ow_pass rfl rfl rfl rfl rfl rfl rfl ?_
     refine Ow_q rfl rfl rfl (Qt_pick_t rfl rfl) ?_
     refine Ow_q rfl rfl rfl (Qt_move rfl) ?_
     refine Ow_pass rfl rfl rfl rfl rfl rfl rfl ?_
     refine Ow_pass rfl rfl rfl rfl rfl rfl rfl ?_
     refine Ow_pass rfl rfl rfl rfl rfl rfl rfl ?_
     refine Ow_pass rfl rfl rfl rfl rfl rfl rfl ?_
     refine Ow_pass rfl rfl rfl rfl rfl rfl rfl ?_
     refine Ow_pass rfl rfl rfl rfl rfl rfl rfl ?_
     refine Ow_pass rfl rfl rfl rfl rfl rfl rfl ?_
     refine Ow_q rfl rfl rfl (Qt_pick_t rfl rfl) ?_
     refine Ow_q rfl rfl rfl (Qt_move rfl) ?_
     refine Ow_pass rfl rfl rfl rfl rfl rfl rfl ?_
     refine Ow_pass rfl rfl rfl rfl rfl rfl rfl ?_
     refine Ow_pass rfl rfl rfl rfl rfl rfl rfl ?_
     refine Ow_pass rfl rfl rfl rfl rfl rfl rfl ?_
     refine Ow_pass rfl rfl rfl rfl rfl rfl rfl ?_
     refine Ow_pass rfl rfl rfl rfl rfl rfl rfl ?_
     refine Ow_pass rfl rfl rfl rfl rfl rfl rfl ?_
     refine Ow_q rfl rfl rfl (Qt_pick_t rfl rfl) ?_
     refine Ow_nil ?_
     refine Pu1 ?_
     refine Pu1 ?_
     refine Shift.done ?_
     exact ⟨_, by exact ⟨rfl, rfl, rfl, trivial⟩, true, rfl, rfl, rfl, H⟩
    ·intro h150
     have h150 := dcd_t (nt_f (h150))
     have H := ift h150 H
     refine Ow_qw rfl rfl rfl rfl rfl rfl (Qt_fieldAddr (m := 3) rfl rfl rfl rfl rfl) ?_
     refine Ow_qw rfl rfl rfl rfl rfl rfl (Qt_load1 (v := (.int .u64 p0.value)) rfl rfl rfl (Rdc.blk (.tail _ (.head _)) rfl)) ?_
     refine Ow_qw rfl rfl rfl rfl rfl rfl (Qt_fieldAddr (m := 3) rfl rfl rfl rfl rfl) ?_
     refine Ow_qw rfl rfl rfl rfl rfl rfl (Qt_load1 (v := (.int .u64 p1.value)) rfl rfl rfl (Rdc.blk (.head _) rfl)) ?_
     refine Ow_qw rfl rfl rfl rfl rfl rfl (Qt_cmp rfl rfl rfl) ?_
     refine Ow_q rfl rfl rfl (Qt_pick_f rfl rfl) ?_
     refine Ow_q rfl rfl rfl (Qt_move rfl) ?_
     refine Ow_caseG rfl rfl rfl ?_ ?_
     ·intro h151
      have h151 := dcd_f (nt_t (h151))
      have H := iff_ h151 H
      refine Ow_pass rfl rfl rfl rfl rfl rfl rfl ?_
      refine Ow_pass rfl rfl rfl rfl rfl rfl rfl ?_
      refine Ow_pass rfl rfl rfl rfl rfl rfl rfl ?_
      refine Ow_pass rfl rfl rfl rfl rfl rfl rfl ?_
      refine Ow_pass rfl rfl rfl rfl rfl rfl rfl ?_
      refine Ow_q rfl rfl rfl (Qt_pick_t rfl rfl) ?_
      refine Ow_q rfl rfl rfl (Qt_move rfl) ?_
      refine Ow_pass rfl rfl rfl rfl rfl rfl rfl ?_
      refine Ow_pass rfl rfl rfl rfl rfl rfl rfl ?_
      refine Ow_pass rfl rfl rfl rfl rfl rfl rfl ?_
      refine Ow_pass rfl rfl rfl rfl rfl rfl rfl ?_
      refine Ow_pass rfl rfl rfl rfl rfl rfl rfl ?_
      refine Ow_pass rfl rfl rfl rfl rfl rfl rfl ?_
      refine Ow_pass rfl rfl rfl rfl rfl rfl rfl ?_
      refine Ow_q rfl rfl rfl (Qt_pick_t rfl rfl) ?_
      refine Ow_q rfl rfl rfl (Qt_move rfl) ?_
      refine Ow_pass rfl rfl rfl rfl rfl rfl rfl ?_
      refine Ow_pass rfl rfl rfl rfl rfl rfl rfl ?_
      refine Ow_pass rfl rfl rfl rfl rfl rfl rfl ?_
      refine Ow_pass rfl rfl rfl rfl rfl rfl rfl ?_
      refine Ow_pass rfl rfl rfl rfl rfl rfl rfl ?_
      refine Ow_pass rfl rfl rfl rfl rfl rfl rfl ?_
      refine Ow_pass rfl rfl rfl rfl rfl rfl rfl ?_
      refine Ow_q rfl rfl rfl (Qt_pick_t rfl rfl) ?_
      refine Ow_nil ?_
      refine Pu1 ?_
      refine Pu1 ?_
      refine Shift.done ?_
      exact ⟨_, by exact ⟨rfl, rfl, rfl, trivial⟩, true, rfl, rfl, rfl, H⟩
     ·intro h151
      have h151 := dcd_t (nt_f (h151))
      have H := ift h151 H
      refine Ow_qw rfl rfl rfl rfl rfl rfl (Qt_fieldAddr (m := 4) rfl rfl rfl rfl rfl) ?_
      refine Ow_qw rfl rfl rfl rfl rfl rfl (Qt_load1 (v := (.int .i64 p0.deadline)) rfl rfl rfl (Rdc.blk (.tail _ (.head _)) rfl)) ?_
      refine Ow_qw rfl rfl rfl rfl rfl rfl (Qt_fieldAddr (m := 4) rfl rfl rfl rfl rfl) ?_
      refine Ow_qw rfl rfl rfl rfl rfl rfl (Qt_load1 (v := (.int .i64 p1.deadline)) rfl rfl rfl (Rdc.blk (.head _) rfl)) ?_
      refine Ow_qw rfl rfl rfl rfl rfl rfl (Qt_cmp rfl rfl rfl) ?_
      refine Ow_q rfl rfl rfl (Qt_pick_f rfl rfl) ?_
      refine Ow_q rfl rfl rfl (Qt_move rfl) ?_
      refine Ow_caseG rfl rfl rfl ?_ ?_
      ·intro h152
       have h152 := dcd_f (nt_t (h152))
       have H := iff_ h152 H
       refine Ow_pass rfl rfl rfl rfl rfl rfl rfl ?_
       refine Ow_pass rfl rfl rfl rfl rfl rfl rfl ?_
       refine Ow_pass rfl rfl rfl rfl rfl rfl rfl ?_
       refine Ow_pass rfl rfl rfl rfl rfl rfl rfl ?_
       refine Ow_pass rfl rfl rfl rfl rfl rfl rfl ?_
       refine Ow_pass rfl rfl rfl rfl rfl rfl rfl ?_
       refine Ow_pass rfl rfl rfl rfl rfl rfl rfl ?_
       refine Ow_q rfl rfl rfl (Qt_pick_t rfl rfl) ?_
       refine Ow_q rfl rfl rfl (Qt_move rfl) ?_
       refine Ow_pass rfl rfl rfl rfl rfl rfl rfl ?_
       refine Ow_pass rfl rfl rfl rfl rfl rfl rfl ?_
       refine Ow_pass rfl rfl rfl rfl rfl rfl rfl ?_
       refine Ow_pass rfl rfl rfl rfl rfl rfl rfl ?_
       refine Ow_pass rfl rfl rfl rfl rfl rfl rfl ?_
       refine Ow_pass rfl rfl rfl rfl rfl rfl rfl ?_
       refine Ow_pass rfl rfl rfl rfl rfl rfl rfl ?_
       refine Ow_q rfl rfl rfl (Qt_pick_t rfl rfl) ?_
       refine Ow_nil ?_
       refine Pu1 ?_
       refine Pu1 ?_
       refine Shift.done ?_
       exact ⟨_, by exact ⟨rfl, rfl, rfl, trivial⟩, true, rfl, rfl, rfl, H⟩
      ·intro h152
       have h152 := dcd_t (nt_f (h152))
       have H := ift h152 H
       refine Ow_qw rfl rfl rfl rfl rfl rfl (Qt_fieldAddr (m := 5) rfl rfl rfl rfl rfl) ?_
       refine Ow_qw rfl rfl rfl rfl rfl rfl (Qt_load1 (v := (sv vp0_cases)) rfl rfl rfl (Rdc.blk (.tail _ (.head _)) rfl)) ?_
       refine Ow_qw rfl rfl rfl rfl rfl rfl (Q_len (T := TyCase) hp0_cases rfl rfl) ?_
       refine Ow_qw rfl rfl rfl rfl rfl rfl (Qt_fieldAddr (m := 5) rfl rfl rfl rfl rfl) ?_
       refine Ow_qw rfl rfl rfl rfl rfl rfl (Qt_load1 (v := (sv vp1_cases)) rfl rfl rfl (Rdc.blk (.head _) rfl)) ?_
       refine Ow_qw rfl rfl rfl rfl rfl rfl (Q_len (T := TyCase) hp1_cases rfl rfl) ?_
       refine Ow_qw rfl rfl rfl rfl rfl rfl (Qt_cmp rfl rfl rfl) ?_
       refine Ow_q rfl rfl rfl (Qt_pick_f rfl rfl) ?_
       refine Ow_q rfl rfl rfl (Qt_move rfl) ?_
       refine Ow_caseG rfl rfl rfl ?_ ?_
       ·intro h153
        have h153 := dcd_f (nt_t (h153))
        have H := iff_ h153 H
        refine Ow_pass rfl rfl rfl rfl rfl rfl rfl ?_
        refine Ow_pass rfl rfl rfl rfl rfl rfl rfl ?_
        refine Ow_pass rfl rfl rfl rfl rfl rfl rfl ?_
        refine Ow_pass rfl rfl rfl rfl rfl rfl rfl ?_
        refine Ow_pass rfl rfl rfl rfl rfl rfl rfl ?_
        refine Ow_pass rfl rfl rfl rfl rfl rfl rfl ?_
        refine Ow_pass rfl rfl rfl rfl rfl rfl rfl ?_
        refine Ow_q rfl rfl rfl (Qt_pick_t rfl rfl) ?_
        refine Ow_nil ?_
        refine Pu1 ?_
        refine Pu1 ?_
        refine Shift.done ?_
        exact ⟨_, by exact ⟨rfl, rfl, rfl, trivial⟩, true, rfl, rfl, rfl, H⟩
       ·intro h153
        have h153 := dcd_t (nt_f (h153))
        have H := ift h153 H
        refine Ow_qw rfl rfl rfl rfl rfl rfl (Qt_fieldAddr (m := 6) rfl rfl rfl rfl rfl) ?_
        refine Ow_qw rfl rfl rfl rfl rfl rfl (Qt_load1 (v := (sv vp0_draws)) rfl rfl rfl (Rdc.blk (.tail _ (.head _)) rfl)) ?_
        refine Ow_qw rfl rfl rfl rfl rfl rfl (Q_len (T := Ty.i64) hp0_draws rfl rfl) ?_
        refine Ow_qw rfl rfl rfl rfl rfl rfl (Qt_fieldAddr (m := 6) rfl rfl rfl rfl rfl) ?_
        refine Ow_qw rfl rfl rfl rfl rfl rfl (Qt_load1 (v := (sv vp1_draws)) rfl rfl rfl (Rdc.blk (.head _) rfl)) ?_
        refine Ow_qw rfl rfl rfl rfl rfl rfl (Q_len (T := Ty.i64) hp1_draws rfl rfl) ?_
        refine Ow_qw rfl rfl rfl rfl rfl rfl (Qt_cmp rfl rfl rfl) ?_
        refine Ow_q rfl rfl rfl (Qt_pick_f rfl rfl) ?_
        refine Ow_nil ?_
        refine Pu1 ?_
        refine Pu1 ?_
        refine Shift.done ?_
        exact ⟨_, by exact ⟨rfl, rfl, rfl, trivial⟩, (!(dcd ((p0.draws.length : Int) = (p1.draws.length : Int)))), rfl, rfl, rfl, H⟩
 rintro _ _ _ - ⟨t147, rfl, rfl, rfl, H⟩
 unfold M_5z at H
 refine Cw_cond rfl ?_ ?_
 ·intro h154
  have H := ift h154 H
  refine Cw_seq ?_
  refine Cw_region ?_
  refine Ow_q rfl rfl rfl (Qt_assign rfl) ?_
  refine Ow_nil ?_
  refine Cw_ret ?_
  obtain ey0 := inj1 H
  subst y0
  refine ⟨(by first | exact .inl rfl | exact .inr rfl), [(.bool false)], ⟨(.bool false), _, rfl, rfl, rfl⟩, ?_⟩
  refine Re0 ?_
  refine Re0 ?_
  refine Shift.done ?_
  exact ⟨rfl, rfl⟩
 ·intro h154
  have H := iff_ (btf h154) H
  refine Cw_skip ?_
  refine Cw_join (fun env' K' G' => [(2, (.pointer (some ((⟨b131, 0, none⟩ : Addr).add 0)))), (3, (.pointer (some ((⟨b132, 0, none⟩ : Addr).add 0))))] = env' ∧ (.blk b132 41 (Op.cells p1 vp1_cases vp1_draws)) :: (.blk b131 41 (Op.cells p0 vp0_cases vp0_draws)) :: G = G' ∧ M_174z p1 p0 = some y0) ?_ ?_
  ·skip
   refine Cw_seq ?_
   refine Cw_region ?_
   refine Ow_q rfl rfl rfl (Qt_assign rfl) ?_
   refine Ow_nil ?_
   refine Cw_block ?_
   refine Cw_loopM (fun n251 env' K' G' => ∃ (i250 : Int), [(2, (.pointer (some ((⟨b131, 0, none⟩ : Addr).add 0)))), (3, (.pointer (some ((⟨b132, 0, none⟩ : Addr).add 0)))), (5, (.int .i64 i250))] = env' ∧ K = K' ∧ (.blk b132 41 (Op.cells p1 vp1_cases vp1_draws)) :: (.blk b131 41 (Op.cells p0 vp0_cases vp0_draws)) :: G = G' ∧ lp1 (M_175z p1 p0) n251 i250 = some y0) BIG ?_ ?_
   ·skip
    refine Pu1 ?_
    refine Pu1 ?_
    refine Shift.done ?_
    exact ⟨_, by exact ⟨rfl, rfl, rfl, trivial⟩, 0, rfl, rfl, rfl, H⟩
   rintro n251 _ _ _ - ⟨i250, rfl, rfl, rfl, H⟩
   obtain ⟨m252, k253, rfl, hkk254, H⟩ := lps1 H
   unfold M_175z at H
   refine Cw_seq ?_
   refine Cw_seq ?_
   refine Cw_region ?_
   refine Ow_q rfl rfl rfl (Qt_move rfl) ?_
   refine Ow_q rfl rfl rfl (Qt_fieldAddr (m := 5) rfl rfl rfl rfl rfl) ?_
   refine Ow_q rfl rfl rfl (Qt_load1 (v := (sv vp0_cases)) rfl rfl rfl (Rdc.blk (.tail _ (.head _)) rfl)) ?_
   refine Ow_q rfl rfl rfl (Q_len (T := TyCase) hp0_cases rfl rfl) ?_
   refine Ow_q rfl rfl rfl (Qt_cmp rfl rfl rfl) ?_
   refine Ow_nil ?_
   refine Cw_cond rfl ?_ ?_
   ·intro h256
    have h256 := dcd_t (h256)
    have H := ift h256 H
    refine Cw_skip ?_
    refine Cw_seq ?_
    refine Cw_block ?_
    refine Cw_seq ?_
    obtain ⟨x274, hx275, H⟩ := bnd H
    obtain ⟨x279, hx280, H⟩ := bnd H
    refine Cw_region_any [.blk b132 41 (Op.cells p1 vp1_cases vp1_draws), .blk b131 41 (Op.cells p0 vp0_cases vp0_draws)] rfl (Inc.cons (.head _) (Inc.cons (.tail _ (.head _)) Inc.nil)) ?_
    refine Awq 0 rfl (by kernel_rfl) rfl rfl rfl (Qt_fieldAddr (m := 5) rfl rfl rfl rfl rfl) ?_
    refine Awq 1 rfl (by kernel_rfl) rfl rfl rfl (Qt_load1 (v := (sv vp0_cases)) rfl rfl rfl (Rdc.blk (.tail _ (.head _)) rfl)) ?_
    refine Awq 2 rfl (by kernel_rfl) rfl rfl rfl (Qt_move rfl) ?_
    obtain ⟨r284, hr285, hk286⟩ := Slr.at hp0_cases hx275
    obtain rfl := hr285
    refine Awq 3 rfl (by kernel_rfl) rfl rfl rfl (Q_ix (T := TyCase) hp0_cases hx275 rfl rfl rfl rfl rfl) ?_
    refine Awq 4 rfl (by kernel_rfl) rfl rfl rfl (Qt_loadA (m := 3) (cs := (Case.cells x274)) rfl rfl rfl rfl ⟨rfl, Rdc.k hk286 rfl⟩) ?_
    refine Awq 5 rfl (by kernel_rfl) rfl rfl rfl (Qt_fieldAddr (m := 5) rfl rfl rfl rfl rfl) ?_
    refine Awq 6 rfl (by kernel_rfl) rfl rfl rfl (Qt_load1 (v := (sv vp1_cases)) rfl rfl rfl (Rdc.blk (.head _) rfl)) ?_
    refine Awq 7 rfl (by kernel_rfl) rfl rfl rfl (Qt_move rfl) ?_
    obtain ⟨r287, hr288, hk289⟩ := Slr.at hp1_cases hx280
    obtain rfl := hr288
    refine Awq 8 rfl (by kernel_rfl) rfl rfl rfl (Q_ix (T := TyCase) hp1_cases hx280 rfl rfl rfl rfl rfl) ?_
    refine Awq 9 rfl (by kernel_rfl) rfl rfl rfl (Qt_loadA (m := 3) (cs := (Case.cells x279)) rfl rfl rfl rfl ⟨rfl, Rdc.k hk289 rfl⟩) ?_
    refine Awq 10 rfl (by kernel_rfl) rfl rfl rfl (Qt_neS rfl rfl (fun w => Case.eqrun x274 x279 w) (by kernel_rfl)) ?_
    refine Aw_done (by kernel_rfl) ?_
    refine Cw_cond rfl ?_ ?_
    ·intro h290
     have h290 := dcd_f (nt_t (h290))
     have H := iff_ h290 H
     refine Cw_seq ?_
     refine Cw_region ?_
     refine Ow_q rfl rfl rfl (Qt_assign rfl) ?_
     refine Ow_nil ?_
     refine Cw_ret ?_
     obtain ey0 := inj1 H
     subst y0
     refine ⟨(by first | exact .inl rfl | exact .inr rfl), [(.bool false)], ⟨(.bool false), _, rfl, rfl, rfl⟩, ?_⟩
     refine Re0 ?_
     refine Re0 ?_
     refine Shift.done ?_
     exact ⟨rfl, rfl⟩
    ·intro h290
     have h290 := dcd_t (nt_f (h290))
     have H := ift h290 H
     refine Cw_skip ?_
     refine Cw_region ?_
     refine Ow_q rfl rfl rfl (Qt_move rfl) ?_
     refine Ow_q rfl rfl rfl (Qt_arith (e := wI (i250 + 1)) rfl rfl rfl rfl) ?_
     refine Ow_q rfl rfl rfl (Qt_assign rfl) ?_
     refine Ow_nil ?_
     refine Pu1 ?_
     refine Pu1 ?_
     refine Shift.done ?_
     exact ⟨_, by exact ⟨rfl, rfl, rfl, trivial⟩, _, Nat.lt_succ_self _, (wI (i250 + 1)), rfl, rfl, rfl, (hkk254 ▸ H)⟩
   ·intro h256
    have h256 := dcd_f (h256)
    have H := iff_ h256 H
    refine Cw_exit ?_
    refine Pu1 ?_
    refine Pu1 ?_
    refine Shift.done ?_
    exact ⟨_, by exact ⟨rfl, rfl, trivial⟩, rfl, rfl, H⟩
  rintro _ K291 _ hK292 ⟨rfl, rfl, H⟩
  unfold M_174z at H
  refine Cw_join (fun env' K' G' => [] = env' ∧ G = G' ∧ M_172z = some y0) ?_ ?_
  ·skip
   refine Cw_seq ?_
   refine Cw_region ?_
   refine Ow_q rfl rfl rfl (Qt_assign rfl) ?_
   refine Ow_nil ?_
   refine Cw_block ?_
   refine Cw_loopM (fun n389 env' K' G' => ∃ (i388 : Int), [(2, (.pointer (some ((⟨b131, 0, none⟩ : Addr).add 0)))), (3, (.pointer (some ((⟨b132, 0, none⟩ : Addr).add 0)))), (6, (.int .i64 i388))] = env' ∧ K291 = K' ∧ (.blk b132 41 (Op.cells p1 vp1_cases vp1_draws)) :: (.blk b131 41 (Op.cells p0 vp0_cases vp0_draws)) :: G = G' ∧ lp1 (M_173z p1 p0) n389 i388 = some y0) BIG ?_ ?_
   ·skip
    refine Pu1 ?_
    refine Pu1 ?_
    refine Shift.done ?_
    exact ⟨_, by exact ⟨rfl, rfl, rfl, trivial⟩, 0, rfl, rfl, rfl, H⟩
   rintro n389 _ _ _ - ⟨i388, rfl, rfl, rfl, H⟩
   obtain ⟨m390, k391, rfl, hkk392, H⟩ := lps1 H
   unfold M_173z at H
   refine Cw_seq ?_
   refine Cw_seq ?_
   refine Cw_region ?_
   refine Ow_q rfl rfl rfl (Qt_move rfl) ?_
   refine Ow_q rfl rfl rfl (Qt_fieldAddr (m := 6) rfl rfl rfl rfl rfl) ?_
   refine Ow_q rfl rfl rfl (Qt_load1 (v := (sv vp0_draws)) rfl rfl rfl (Rdc.blk (.tail _ (.head _)) rfl)) ?_
   have hs395 := (hp0_draws).mono hK292
   refine Ow_q rfl rfl rfl (Q_len (T := Ty.i64) hs395 rfl rfl) ?_
   refine Ow_q rfl rfl rfl (Qt_cmp rfl rfl rfl) ?_
   refine Ow_nil ?_
   refine Cw_cond rfl ?_ ?_
   ·intro h396
    have h396 := dcd_t (h396)
    have H := ift h396 H
    refine Cw_skip ?_
    refine Cw_seq ?_
    refine Cw_block ?_
    refine Cw_seq ?_
    obtain ⟨x416, hx417, H⟩ := bnd H
    obtain ⟨x421, hx422, H⟩ := bnd H
    refine Cw_region_any [.blk b132 41 (Op.cells p1 vp1_cases vp1_draws), .blk b131 41 (Op.cells p0 vp0_cases vp0_draws)] rfl (Inc.cons (.head _) (Inc.cons (.tail _ (.head _)) Inc.nil)) ?_
    refine Awq 0 rfl (by kernel_rfl) rfl rfl rfl (Qt_fieldAddr (m := 6) rfl rfl rfl rfl rfl) ?_
    refine Awq 1 rfl (by kernel_rfl) rfl rfl rfl (Qt_load1 (v := (sv vp0_draws)) rfl rfl rfl (Rdc.blk (.tail _ (.head _)) rfl)) ?_
    refine Awq 2 rfl (by kernel_rfl) rfl rfl rfl (Qt_move rfl) ?_
    obtain ⟨r427, hr428, hk429⟩ := Slr.at hs395 hx417
    obtain rfl := hr428
    refine Awq 3 rfl (by kernel_rfl) rfl rfl rfl (Q_ix (T := Ty.i64) hs395 hx417 rfl rfl rfl rfl rfl) ?_
    refine Awq 4 rfl (by kernel_rfl) rfl rfl rfl (Qt_load1 (v := (.int .i64 x416)) rfl rfl rfl (Rdc.k hk429 rfl)) ?_
    refine Awq 5 rfl (by kernel_rfl) rfl rfl rfl (Qt_fieldAddr (m := 6) rfl rfl rfl rfl rfl) ?_
    refine Awq 6 rfl (by kernel_rfl) rfl rfl rfl (Qt_load1 (v := (sv vp1_draws)) rfl rfl rfl (Rdc.blk (.head _) rfl)) ?_
    refine Awq 7 rfl (by kernel_rfl) rfl rfl rfl (Qt_move rfl) ?_
    have hs430 := (hp1_draws).mono hK292
    obtain ⟨r431, hr432, hk433⟩ := Slr.at hs430 hx422
    obtain rfl := hr432
    refine Awq 8 rfl (by kernel_rfl) rfl rfl rfl (Q_ix (T := Ty.i64) hs430 hx422 rfl rfl rfl rfl rfl) ?_
    refine Awq 9 rfl (by kernel_rfl) rfl rfl rfl (Qt_load1 (v := (.int .i64 x421)) rfl rfl rfl (Rdc.k hk433 rfl)) ?_
    refine Awq 10 rfl (by kernel_rfl) rfl rfl rfl (Qt_cmp rfl rfl rfl) ?_
    refine Aw_done (by kernel_rfl) ?_
    refine Cw_cond rfl ?_ ?_
    ·intro h434
     have h434 := dcd_f (nt_t (h434))
     have H := iff_ h434 H
     refine Cw_seq ?_
     refine Cw_region ?_
     refine Ow_q rfl rfl rfl (Qt_assign rfl) ?_
     refine Ow_nil ?_
     refine Cw_ret ?_
     obtain ey0 := inj1 H
     subst y0
     refine ⟨(by first | exact .inl rfl | exact .inr rfl), [(.bool false)], ⟨(.bool false), _, rfl, rfl, rfl⟩, ?_⟩
     refine Re0 ?_
     refine Re0 ?_
     refine Shift.done ?_
     exact ⟨rfl, rfl⟩
    ·intro h434
     have h434 := dcd_t (nt_f (h434))
     have H := ift h434 H
     refine Cw_skip ?_
     refine Cw_region ?_
     refine Ow_q rfl rfl rfl (Qt_move rfl) ?_
     refine Ow_q rfl rfl rfl (Qt_arith (e := wI (i388 + 1)) rfl rfl rfl rfl) ?_
     refine Ow_q rfl rfl rfl (Qt_assign rfl) ?_
     refine Ow_nil ?_
     refine Pu1 ?_
     refine Pu1 ?_
     refine Shift.done ?_
     exact ⟨_, by exact ⟨rfl, rfl, rfl, trivial⟩, _, Nat.lt_succ_self _, (wI (i388 + 1)), rfl, rfl, rfl, (hkk392 ▸ H)⟩
   ·intro h396
    have h396 := dcd_f (h396)
    have H := iff_ h396 H
    refine Cw_exit ?_
    refine Re0 ?_
    refine Re0 ?_
    refine Shift.done ?_
    exact ⟨[], trivial, rfl, rfl, H⟩
  rintro _ K435 _ hK436 ⟨rfl, rfl, H⟩
  unfold M_172z at H
  refine Cw_seq ?_
  refine Cw_region ?_
  refine Ow_q rfl rfl rfl (Qt_assign rfl) ?_
  refine Ow_nil ?_
  refine Cw_ret ?_
  obtain ey0 := inj1 H
  subst y0
  refine ⟨(by first | exact .inl rfl | exact .inr rfl), [(.bool true)], ⟨(.bool true), _, rfl, rfl, rfl⟩, ?_⟩
  refine Shift.done ?_
  exact ⟨rfl, rfl⟩

set_option maxHeartbeats 1000000 in
theorem c_M_127z (p0 : List Waiter) (vp0 : SV) (p1 : List Waiter) (vp1 : SV) (y0 : Bool) (H : M_127z p0 p1 = some y0) (K : Kp) (G : List Ent) (hp0 : Slr TyWaiter K (sv vp0) p0) (hp1 : Slr TyWaiter K (sv vp1) p1) :
  Fc Try.prog 58 #[(sv vp0), (sv vp1)] K (G) (fun v K' G' => v = (.bool y0) ∧ G = G') := by
 refine Fc_body Try.func58 rfl Try.ntmps58 Try.results58 rfl ?_
 unfold M_127z at H
 refine Cw_seq ?_
 refine Cw_region ?_
 refine Ow_q rfl rfl rfl (Qt_assign rfl) ?_
 refine Ow_nil ?_
 refine Cw_seq ?_
 refine Cw_seq ?_
 refine Cw_region ?_
 refine Ow_q rfl rfl rfl (Qt_move rfl) ?_
 refine Ow_q rfl rfl rfl (Q_len (T := TyWaiter) hp0 rfl rfl) ?_
 refine Ow_q rfl rfl rfl (Qt_move rfl) ?_
 refine Ow_q rfl rfl rfl (Q_len (T := TyWaiter) hp1 rfl rfl) ?_
 refine Ow_q rfl rfl rfl (Qt_cmp rfl rfl rfl) ?_
 refine Ow_nil ?_
 refine Cw_cond rfl ?_ ?_
 ·intro h199
  have h199 := dcd_f (nt_t (h199))
  have H := iff_ h199 H
  refine Cw_seq ?_
  refine Cw_region ?_
  refine Ow_q rfl rfl rfl (Qt_assign rfl) ?_
  refine Ow_nil ?_
  refine Cw_ret ?_
  obtain ey0 := inj1 H
  subst y0
  refine ⟨(by first | exact .inl rfl | exact .inr rfl), [(.bool false)], ⟨(.bool false), _, rfl, rfl, rfl⟩, ?_⟩
  refine Shift.done ?_
  exact ⟨rfl, rfl⟩
 ·intro h199
  have h199 := dcd_t (nt_f (h199))
  have H := ift h199 H
  refine Cw_skip ?_
  refine Cw_join (fun env' K' G' => [] = env' ∧ G = G' ∧ M_176z = some y0) ?_ ?_
  ·skip
   refine Cw_seq ?_
   refine Cw_region ?_
   refine Ow_q rfl rfl rfl (Qt_assign rfl) ?_
   refine Ow_nil ?_
   refine Cw_block ?_
   refine Cw_loopM (fun n588 env' K' G' => ∃ (i587 : Int), [(0, (sv vp0)), (1, (sv vp1)), (5, (.int .i64 i587))] = env' ∧ G = G' ∧ lp1 (M_177z p0 p1) n588 i587 = some y0) BIG ?_ ?_
   ·skip
    refine Shift.done ?_
    exact ⟨_, by exact ⟨rfl, rfl, rfl, trivial⟩, 0, rfl, rfl, H⟩
   rintro n588 _ K589 _ hK590 ⟨i587, rfl, rfl, H⟩
   obtain ⟨m591, k592, rfl, hkk593, H⟩ := lps1 H
   unfold M_177z at H
   refine Cw_seq ?_
   refine Cw_seq ?_
   refine Cw_region ?_
   refine Ow_q rfl rfl rfl (Qt_move rfl) ?_
   refine Ow_q rfl rfl rfl (Qt_move rfl) ?_
   have hs596 := (hp0).mono hK590
   refine Ow_q rfl rfl rfl (Q_len (T := TyWaiter) hs596 rfl rfl) ?_
   refine Ow_q rfl rfl rfl (Qt_cmp rfl rfl rfl) ?_
   refine Ow_nil ?_
   refine Cw_cond rfl ?_ ?_
   ·intro h597
    have h597 := dcd_t (h597)
    have H := ift h597 H
    refine Cw_skip ?_
    refine Cw_seq ?_
    refine Cw_block ?_
    refine Cw_join (fun env' K' G' => ∃ (t778 : Bool), [(0, (sv vp0)), (1, (sv vp1)), (5, (.int .i64 i587)), (41, (.bool t778))] = env' ∧ G = G' ∧ M_126z p0 p1 i587 k592 t778 = some y0) ?_ ?_
    ·skip
     obtain ⟨x779, hx780, H⟩ := bnd H
     obtain ⟨x788, hx789, H⟩ := bnd H
     rcases bool_ct (!(dcd (x779.thread = x788.thread))) with hb_ | hb_ <;> revert hb_
     ·intro h798
      have h798 := dcd_f (nt_t (h798))
      have H := iff_ h798 H
      refine Cw_region_any [] rfl Inc.nil ?_
      refine Awq 0 rfl (by kernel_rfl) rfl rfl rfl (Qt_move rfl) ?_
      refine Awq 1 rfl (by kernel_rfl) rfl rfl rfl (Qt_move rfl) ?_
      obtain ⟨r799, hr800, hk801⟩ := Slr.at hs596 hx780
      obtain ⟨v802, v803, rfl, hs804, hs805⟩ := hr800
      refine Awq 2 rfl (by kernel_rfl) rfl rfl rfl (Q_ix (T := TyWaiter) hs596 hx780 rfl rfl rfl rfl rfl) ?_
      refine Awq 3 rfl (by kernel_rfl) rfl rfl rfl (Qt_fieldAddr (m := 0) rfl rfl rfl rfl rfl) ?_
      refine Awq 4 rfl (by kernel_rfl) rfl rfl rfl (Qt_load1 (v := (.int .i64 x779.thread)) rfl rfl rfl (Rdc.k hk801 rfl)) ?_
      refine Awq 5 rfl (by kernel_rfl) rfl rfl rfl (Qt_move rfl) ?_
      refine Awq 6 rfl (by kernel_rfl) rfl rfl rfl (Qt_move rfl) ?_
      have hs806 := (hp1).mono hK590
      obtain ⟨r807, hr808, hk809⟩ := Slr.at hs806 hx789
      obtain ⟨v810, v811, rfl, hs812, hs813⟩ := hr808
      refine Awq 7 rfl (by kernel_rfl) rfl rfl rfl (Q_ix (T := TyWaiter) hs806 hx789 rfl rfl rfl rfl rfl) ?_
      refine Awq 8 rfl (by kernel_rfl) rfl rfl rfl (Qt_fieldAddr (m := 0) rfl rfl rfl rfl rfl) ?_
      refine Awq 9 rfl (by kernel_rfl) rfl rfl rfl (Qt_load1 (v := (.int .i64 x788.thread)) rfl rfl rfl (Rdc.k hk809 rfl)) ?_
      refine Awq 10 rfl (by kernel_rfl) rfl rfl rfl (Qt_cmp rfl rfl rfl) ?_
      refine Awq 11 rfl (by kernel_rfl) rfl rfl rfl (Qt_move rfl) ?_
      refine Aw.known (d := 28) rfl (nt_mt (dcd_neg h798)) ?_
      refine Aw_pass 12 rfl (by kernel_rfl) (by kernel_rfl) (by kernel_rfl) rfl rfl rfl rfl rfl rfl rfl ?_
      refine Aw_pass 13 rfl (by kernel_rfl) (by kernel_rfl) (by kernel_rfl) rfl rfl rfl rfl rfl rfl rfl ?_
      refine Aw_pass 14 rfl (by kernel_rfl) (by kernel_rfl) (by kernel_rfl) rfl rfl rfl rfl rfl rfl rfl ?_
      refine Aw_pass 15 rfl (by kernel_rfl) (by kernel_rfl) (by kernel_rfl) rfl rfl rfl rfl rfl rfl rfl ?_
      refine Aw_pass 16 rfl (by kernel_rfl) (by kernel_rfl) (by kernel_rfl) rfl rfl rfl rfl rfl rfl rfl ?_
      refine Aw_pass 17 rfl (by kernel_rfl) (by kernel_rfl) (by kernel_rfl) rfl rfl rfl rfl rfl rfl rfl ?_
      refine Aw_pass 18 rfl (by kernel_rfl) (by kernel_rfl) (by kernel_rfl) rfl rfl rfl rfl rfl rfl rfl ?_
      refine Aw_pass 19 rfl (by kernel_rfl) (by kernel_rfl) (by kernel_rfl) rfl rfl rfl rfl rfl rfl rfl ?_
      refine Aw_pass 20 rfl (by kernel_rfl) (by kernel_rfl) (by kernel_rfl) rfl rfl rfl rfl rfl rfl rfl ?_
      refine Aw_pass 21 rfl (by kernel_rfl) (by kernel_rfl) (by kernel_rfl) rfl rfl rfl rfl rfl rfl rfl ?_
      refine Aw_pass 22 rfl (by kernel_rfl) (by kernel_rfl) (by kernel_rfl) rfl rfl rfl rfl rfl rfl rfl ?_
      refine Aw_pass 23 rfl (by kernel_rfl) (by kernel_rfl) (by kernel_rfl) rfl rfl rfl rfl rfl rfl rfl ?_
      refine Awq 24 rfl (by kernel_rfl) rfl rfl rfl (Qt_pick_t rfl rfl) ?_
      refine Aw_done (by kernel_rfl) ?_
      refine Shift.done ?_
      exact ⟨_, by exact ⟨rfl, rfl, rfl, rfl, trivial⟩, true, rfl, rfl, H⟩
     ·intro h798
      have h798 := dcd_t (nt_f (h798))
      have H := ift h798 H
      obtain ⟨x814, hx815, H⟩ := bnd H
      obtain ⟨x823, hx824, H⟩ := bnd H
      obtain ⟨x832, hx833, H⟩ := bnd H
      refine Cw_region_any [] rfl Inc.nil ?_
      refine Awq 0 rfl (by kernel_rfl) rfl rfl rfl (Qt_move rfl) ?_
      refine Awq 1 rfl (by kernel_rfl) rfl rfl rfl (Qt_move rfl) ?_
      obtain ⟨r836, hr837, hk838⟩ := Slr.at hs596 hx780
      obtain ⟨v839, v840, rfl, hs841, hs842⟩ := hr837
      refine Awq 2 rfl (by kernel_rfl) rfl rfl rfl (Q_ix (T := TyWaiter) hs596 hx780 rfl rfl rfl rfl rfl) ?_
      refine Awq 3 rfl (by kernel_rfl) rfl rfl rfl (Qt_fieldAddr (m := 0) rfl rfl rfl rfl rfl) ?_
      refine Awq 4 rfl (by kernel_rfl) rfl rfl rfl (Qt_load1 (v := (.int .i64 x779.thread)) rfl rfl rfl (Rdc.k hk838 rfl)) ?_
      refine Awq 5 rfl (by kernel_rfl) rfl rfl rfl (Qt_move rfl) ?_
      refine Awq 6 rfl (by kernel_rfl) rfl rfl rfl (Qt_move rfl) ?_
      have hs843 := (hp1).mono hK590
      obtain ⟨r844, hr845, hk846⟩ := Slr.at hs843 hx789
      obtain ⟨v847, v848, rfl, hs849, hs850⟩ := hr845
      refine Awq 7 rfl (by kernel_rfl) rfl rfl rfl (Q_ix (T := TyWaiter) hs843 hx789 rfl rfl rfl rfl rfl) ?_
      refine Awq 8 rfl (by kernel_rfl) rfl rfl rfl (Qt_fieldAddr (m := 0) rfl rfl rfl rfl rfl) ?_
      refine Awq 9 rfl (by kernel_rfl) rfl rfl rfl (Qt_load1 (v := (.int .i64 x788.thread)) rfl rfl rfl (Rdc.k hk846 rfl)) ?_
      refine Awq 10 rfl (by kernel_rfl) rfl rfl rfl (Qt_cmp rfl rfl rfl) ?_
      refine Awq 11 rfl (by kernel_rfl) rfl rfl rfl (Qt_move rfl) ?_
      refine Aw.known (d := 28) rfl (nt_mf (dcd_pos h798)) ?_
      refine Aw_qw 12 rfl (by kernel_rfl) (by kernel_rfl) (by kernel_rfl) rfl rfl rfl rfl rfl rfl (Qt_move rfl) ?_
      refine Aw_qw 13 rfl (by kernel_rfl) (by kernel_rfl) (by kernel_rfl) rfl rfl rfl rfl rfl rfl (Qt_move rfl) ?_
      obtain ⟨r851, hr852, hk853⟩ := Slr.at hs596 hx815
      obtain ⟨v854, v855, rfl, hs856, hs857⟩ := hr852
      refine Aw_qw 14 rfl (by kernel_rfl) (by kernel_rfl) (by kernel_rfl) rfl rfl rfl rfl rfl rfl (Q_ix (T := TyWaiter) hs596 hx815 rfl rfl rfl rfl rfl) ?_
      refine Aw_qw 15 rfl (by kernel_rfl) (by kernel_rfl) (by kernel_rfl) rfl rfl rfl rfl rfl rfl (Qt_fieldAddr (m := 1) rfl rfl rfl rfl rfl) ?_
      refine Aw_qw 16 rfl (by kernel_rfl) (by kernel_rfl) (by kernel_rfl) rfl rfl rfl rfl rfl rfl (Qt_loadA (m := 7) (cs := (Op.cells x814.op v854 v855)) rfl rfl rfl rfl ⟨rfl, Rdc.k hk853 rfl⟩) ?_
      refine Aw_qw 17 rfl (by kernel_rfl) (by kernel_rfl) (by kernel_rfl) rfl rfl rfl rfl rfl rfl (Qt_move rfl) ?_
      refine Aw_qw 18 rfl (by kernel_rfl) (by kernel_rfl) (by kernel_rfl) rfl rfl rfl rfl rfl rfl (Qt_move rfl) ?_
      obtain ⟨r858, hr859, hk860⟩ := Slr.at hs843 hx824
      obtain ⟨v861, v862, rfl, hs863, hs864⟩ := hr859
      refine Aw_qw 19 rfl (by kernel_rfl) (by kernel_rfl) (by kernel_rfl) rfl rfl rfl rfl rfl rfl (Q_ix (T := TyWaiter) hs843 hx824 rfl rfl rfl rfl rfl) ?_
      refine Aw_qw 20 rfl (by kernel_rfl) (by kernel_rfl) (by kernel_rfl) rfl rfl rfl rfl rfl rfl (Qt_fieldAddr (m := 1) rfl rfl rfl rfl rfl) ?_
      refine Aw_qw 21 rfl (by kernel_rfl) (by kernel_rfl) (by kernel_rfl) rfl rfl rfl rfl rfl rfl (Qt_loadA (m := 7) (cs := (Op.cells x823.op v861 v862)) rfl rfl rfl rfl ⟨rfl, Rdc.k hk860 rfl⟩) ?_
      refine Aw_one 22 (by kernel_rfl) (Ax_mkw rfl rfl rfl rfl rfl ?_)
      refine OpW_call rfl Try.call83 rfl rfl (c_M_125z x814.op v854 v855 x823.op v861 v862 x832 hx833 _ _ hs856 hs857 hs863 hs864) ?_
      rintro _ K865 _ hK866 ⟨rfl, rfl⟩
      refine ⟨Inc.nil, ?_⟩
      refine Aw_qw 23 rfl (by kernel_rfl) (by kernel_rfl) (by kernel_rfl) rfl rfl rfl rfl rfl rfl (Qt_not rfl) ?_
      refine Awq 24 rfl (by kernel_rfl) rfl rfl rfl (Qt_pick_f rfl rfl) ?_
      refine Aw_done (by kernel_rfl) ?_
      refine Shift.done ?_
      exact ⟨_, by exact ⟨rfl, rfl, rfl, rfl, trivial⟩, (!(x832)), rfl, rfl, H⟩
    rintro _ K867 _ hK868 ⟨t778, rfl, rfl, H⟩
    unfold M_126z at H
    refine Cw_cond rfl ?_ ?_
    ·intro h869
     have H := ift h869 H
     refine Cw_seq ?_
     refine Cw_region ?_
     refine Ow_q rfl rfl rfl (Qt_assign rfl) ?_
     refine Ow_nil ?_
     refine Cw_ret ?_
     obtain ey0 := inj1 H
     subst y0
     refine ⟨(by first | exact .inl rfl | exact .inr rfl), [(.bool false)], ⟨(.bool false), _, rfl, rfl, rfl⟩, ?_⟩
     refine Shift.done ?_
     exact ⟨rfl, rfl⟩
    ·intro h869
     have H := iff_ (btf h869) H
     refine Cw_skip ?_
     refine Cw_region ?_
     refine Ow_q rfl rfl rfl (Qt_move rfl) ?_
     refine Ow_q rfl rfl rfl (Qt_arith (e := wI (i587 + 1)) rfl rfl rfl rfl) ?_
     refine Ow_q rfl rfl rfl (Qt_assign rfl) ?_
     refine Ow_nil ?_
     refine Shift.done ?_
     exact ⟨_, by exact ⟨rfl, rfl, rfl, trivial⟩, _, Nat.lt_succ_self _, (wI (i587 + 1)), rfl, rfl, (hkk593 ▸ H)⟩
   ·intro h597
    have h597 := dcd_f (h597)
    have H := iff_ h597 H
    refine Cw_exit ?_
    refine Shift.done ?_
    exact ⟨[], trivial, rfl, rfl, H⟩
  rintro _ K870 _ hK871 ⟨rfl, rfl, H⟩
  unfold M_176z at H
  refine Cw_seq ?_
  refine Cw_region ?_
  refine Ow_q rfl rfl rfl (Qt_assign rfl) ?_
  refine Ow_nil ?_
  refine Cw_ret ?_
  obtain ey0 := inj1 H
  subst y0
  refine ⟨(by first | exact .inl rfl | exact .inr rfl), [(.bool true)], ⟨(.bool true), _, rfl, rfl, rfl⟩, ?_⟩
  refine Shift.done ?_
  exact ⟨rfl, rfl⟩



end Go.Hx

namespace Go.Hx
open Go Go.Proofs
set_option linter.unusedSimpArgs false
set_option linter.unusedVariables false
set_option maxRecDepth 10000
set_option maxHeartbeats 1000000 in
theorem c_M_123z (p0 : List Int) (vp0 : SV) (p1 : List Int) (vp1 : SV) (y0 : Bool) (H : M_123z p0 p1 = some y0) (K : Kp) (G : List Ent) (hp0 : Slr Ty.u64 K (sv vp0) p0) (hp1 : Slr Ty.u64 K (sv vp1) p1) :
  Fc Try.prog 52 #[(sv vp0), (sv vp1)] K (G) (fun v K' G' => v = (.bool y0) ∧ G = G') := by
 refine Fc_body Try.func52 rfl Try.ntmps52 Try.results52 rfl ?_
 unfold M_123z at H
 refine Cw_seq ?_
 refine Cw_region ?_
 refine Ow_q rfl rfl rfl (Qt_assign rfl) ?_
 refine Ow_nil ?_
 refine Cw_seq ?_
 refine Cw_seq ?_
 refine Cw_region ?_
 refine Ow_q rfl rfl rfl (Qt_move rfl) ?_
 refine Ow_q rfl rfl rfl (Q_len (T := Ty.u64) hp0 rfl rfl) ?_
 refine Ow_q rfl rfl rfl (Qt_move rfl) ?_
 refine Ow_q rfl rfl rfl (Q_len (T := Ty.u64) hp1 rfl rfl) ?_
 refine Ow_q rfl rfl rfl (Qt_cmp rfl rfl rfl) ?_
 refine Ow_nil ?_
 refine Cw_cond rfl ?_ ?_
 ·intro h53
  have h53 := dcd_f (nt_t (h53))
  have H := iff_ h53 H
  refine Cw_seq ?_
  refine Cw_region ?_
  refine Ow_q rfl rfl rfl (Qt_assign rfl) ?_
  refine Ow_nil ?_
  refine Cw_ret ?_
  obtain ey0 := inj1 H
  subst y0
  refine ⟨(by first | exact .inl rfl | exact .inr rfl), [(.bool false)], ⟨(.bool false), _, rfl, rfl, rfl⟩, ?_⟩
  refine Shift.done ?_
  exact ⟨rfl, rfl⟩
 ·intro h53
  have h53 := dcd_t (nt_f (h53))
  have H := ift h53 H
  refine Cw_skip ?_
  refine Cw_join (fun env' K' G' => [] = env' ∧ G = G' ∧ M_168z = some y0) ?_ ?_
  ·skip
   refine Cw_seq ?_
   refine Cw_region ?_
   refine Ow_q rfl rfl rfl (Qt_assign rfl) ?_
   refine Ow_nil ?_
   refine Cw_block ?_
   refine Cw_loopM (fun n150 env' K' G' => ∃ (i149 : Int), [(0, (sv vp0)), (1, (sv vp1)), (5, (.int .i64 i149))] = env' ∧ K = K' ∧ G = G' ∧ lp1 (M_169z p0 p1) n150 i149 = some y0) BIG ?_ ?_
   ·skip
    refine Shift.done ?_
    exact ⟨_, by exact ⟨rfl, rfl, rfl, trivial⟩, 0, rfl, rfl, rfl, H⟩
   rintro n150 _ _ _ - ⟨i149, rfl, rfl, rfl, H⟩
   obtain ⟨m151, k152, rfl, hkk153, H⟩ := lps1 H
   unfold M_169z at H
   refine Cw_seq ?_
   refine Cw_seq ?_
   refine Cw_region ?_
   refine Ow_q rfl rfl rfl (Qt_move rfl) ?_
   refine Ow_q rfl rfl rfl (Qt_move rfl) ?_
   refine Ow_q rfl rfl rfl (Q_len (T := Ty.u64) hp0 rfl rfl) ?_
   refine Ow_q rfl rfl rfl (Qt_cmp rfl rfl rfl) ?_
   refine Ow_nil ?_
   refine Cw_cond rfl ?_ ?_
   ·intro h155
    have h155 := dcd_t (h155)
    have H := ift h155 H
    refine Cw_skip ?_
    refine Cw_seq ?_
    refine Cw_block ?_
    refine Cw_seq ?_
    obtain ⟨x173, hx174, H⟩ := bnd H
    obtain ⟨x178, hx179, H⟩ := bnd H
    refine Cw_region_any [] rfl Inc.nil ?_
    refine Awq 0 rfl (by kernel_rfl) rfl rfl rfl (Qt_move rfl) ?_
    refine Awq 1 rfl (by kernel_rfl) rfl rfl rfl (Qt_move rfl) ?_
    obtain ⟨r183, hr184, hk185⟩ := Slr.at hp0 hx174
    obtain rfl := hr184
    refine Awq 2 rfl (by kernel_rfl) rfl rfl rfl (Q_ix (T := Ty.u64) hp0 hx174 rfl rfl rfl rfl rfl) ?_
    refine Awq 3 rfl (by kernel_rfl) rfl rfl rfl (Qt_load1 (v := (.int .u64 x173)) rfl rfl rfl (Rdc.k hk185 rfl)) ?_
    refine Awq 4 rfl (by kernel_rfl) rfl rfl rfl (Qt_move rfl) ?_
    refine Awq 5 rfl (by kernel_rfl) rfl rfl rfl (Qt_move rfl) ?_
    obtain ⟨r186, hr187, hk188⟩ := Slr.at hp1 hx179
    obtain rfl := hr187
    refine Awq 6 rfl (by kernel_rfl) rfl rfl rfl (Q_ix (T := Ty.u64) hp1 hx179 rfl rfl rfl rfl rfl) ?_
    refine Awq 7 rfl (by kernel_rfl) rfl rfl rfl (Qt_load1 (v := (.int .u64 x178)) rfl rfl rfl (Rdc.k hk188 rfl)) ?_
    refine Awq 8 rfl (by kernel_rfl) rfl rfl rfl (Qt_cmp rfl rfl rfl) ?_
    refine Aw_done (by kernel_rfl) ?_
    refine Cw_cond rfl ?_ ?_
    ·intro h189
     have h189 := dcd_f (nt_t (h189))
     have H := iff_ h189 H
     refine Cw_seq ?_
     refine Cw_region ?_
     refine Ow_q rfl rfl rfl (Qt_assign rfl) ?_
     refine Ow_nil ?_
     refine Cw_ret ?_
     obtain ey0 := inj1 H
     subst y0
     refine ⟨(by first | exact .inl rfl | exact .inr rfl), [(.bool false)], ⟨(.bool false), _, rfl, rfl, rfl⟩, ?_⟩
     refine Shift.done ?_
     exact ⟨rfl, rfl⟩
    ·intro h189
     have h189 := dcd_t (nt_f (h189))
     have H := ift h189 H
     refine Cw_skip ?_
     refine Cw_region ?_
     refine Ow_q rfl rfl rfl (Qt_move rfl) ?_
     refine Ow_q rfl rfl rfl (Qt_arith (e := wI (i149 + 1)) rfl rfl rfl rfl) ?_
     refine Ow_q rfl rfl rfl (Qt_assign rfl) ?_
     refine Ow_nil ?_
     refine Shift.done ?_
     exact ⟨_, by exact ⟨rfl, rfl, rfl, trivial⟩, _, Nat.lt_succ_self _, (wI (i149 + 1)), rfl, rfl, rfl, (hkk153 ▸ H)⟩
   ·intro h155
    have h155 := dcd_f (h155)
    have H := iff_ h155 H
    refine Cw_exit ?_
    refine Shift.done ?_
    exact ⟨[], trivial, rfl, rfl, H⟩
  rintro _ K190 _ hK191 ⟨rfl, rfl, H⟩
  unfold M_168z at H
  refine Cw_seq ?_
  refine Cw_region ?_
  refine Ow_q rfl rfl rfl (Qt_assign rfl) ?_
  refine Ow_nil ?_
  refine Cw_ret ?_
  obtain ey0 := inj1 H
  subst y0
  refine ⟨(by first | exact .inl rfl | exact .inr rfl), [(.bool true)], ⟨(.bool true), _, rfl, rfl, rfl⟩, ?_⟩
  refine Shift.done ?_
  exact ⟨rfl, rfl⟩



end Go.Hx

namespace Go.Hx
open Go Go.Proofs
set_option linter.unusedSimpArgs false
set_option linter.unusedVariables false
set_option maxRecDepth 10000
set_option maxHeartbeats 1000000 in
theorem c_M_124z (p0 : List Chan) (vp0 : SV) (p1 : List Chan) (vp1 : SV) (y0 : Bool) (H : M_124z p0 p1 = some y0) (K : Kp) (G : List Ent) (hp0 : Slr TyChan K (sv vp0) p0) (hp1 : Slr TyChan K (sv vp1) p1) :
  Fc Try.prog 23 #[(sv vp0), (sv vp1)] K (G) (fun v K' G' => v = (.bool y0) ∧ G = G') := by
 refine Fc_body Try.func23 rfl Try.ntmps23 Try.results23 rfl ?_
 unfold M_124z at H
 refine Cw_seq ?_
 refine Cw_region ?_
 refine Ow_q rfl rfl rfl (Qt_assign rfl) ?_
 refine Ow_nil ?_
 refine Cw_seq ?_
 refine Cw_seq ?_
 refine Cw_region ?_
 refine Ow_q rfl rfl rfl (Qt_move rfl) ?_
 refine Ow_q rfl rfl rfl (Q_len (T := TyChan) hp0 rfl rfl) ?_
 refine Ow_q rfl rfl rfl (Qt_move rfl) ?_
 refine Ow_q rfl rfl rfl (Q_len (T := TyChan) hp1 rfl rfl) ?_
 refine Ow_q rfl rfl rfl (Qt_cmp rfl rfl rfl) ?_
 refine Ow_nil ?_
 refine Cw_cond rfl ?_ ?_
 ·intro h251
  have h251 := dcd_f (nt_t (h251))
  have H := iff_ h251 H
  refine Cw_seq ?_
  refine Cw_region ?_
  refine Ow_q rfl rfl rfl (Qt_assign rfl) ?_
  refine Ow_nil ?_
  refine Cw_ret ?_
  obtain ey0 := inj1 H
  subst y0
  refine ⟨(by first | exact .inl rfl | exact .inr rfl), [(.bool false)], ⟨(.bool false), _, rfl, rfl, rfl⟩, ?_⟩
  refine Shift.done ?_
  exact ⟨rfl, rfl⟩
 ·intro h251
  have h251 := dcd_t (nt_f (h251))
  have H := ift h251 H
  refine Cw_skip ?_
  refine Cw_join (fun env' K' G' => [] = env' ∧ G = G' ∧ M_170z = some y0) ?_ ?_
  ·skip
   refine Cw_seq ?_
   refine Cw_region ?_
   refine Ow_q rfl rfl rfl (Qt_assign rfl) ?_
   refine Ow_nil ?_
   refine Cw_block ?_
   refine Cw_loopM (fun n744 env' K' G' => ∃ (i743 : Int), [(0, (sv vp0)), (1, (sv vp1)), (5, (.int .i64 i743))] = env' ∧ G = G' ∧ lp1 (M_171z p0 p1) n744 i743 = some y0) BIG ?_ ?_
   ·skip
    refine Shift.done ?_
    exact ⟨_, by exact ⟨rfl, rfl, rfl, trivial⟩, 0, rfl, rfl, H⟩
   rintro n744 _ K745 _ hK746 ⟨i743, rfl, rfl, H⟩
   obtain ⟨m747, k748, rfl, hkk749, H⟩ := lps1 H
   unfold M_171z at H
   refine Cw_seq ?_
   refine Cw_seq ?_
   refine Cw_region ?_
   refine Ow_q rfl rfl rfl (Qt_move rfl) ?_
   refine Ow_q rfl rfl rfl (Qt_move rfl) ?_
   have hs752 := (hp0).mono hK746
   refine Ow_q rfl rfl rfl (Q_len (T := TyChan) hs752 rfl rfl) ?_
   refine Ow_q rfl rfl rfl (Qt_cmp rfl rfl rfl) ?_
   refine Ow_nil ?_
   refine Cw_cond rfl ?_ ?_
   ·intro h753
    have h753 := dcd_t (h753)
    have H := ift h753 H
    refine Cw_skip ?_
    refine Cw_seq ?_
    refine Cw_block ?_
    refine Cw_join (fun env' K' G' => ∃ (t986 : Bool), [(0, (sv vp0)), (1, (sv vp1)), (5, (.int .i64 i743)), (54, (.bool t986))] = env' ∧ G = G' ∧ M_69z p0 p1 i743 k748 t986 = some y0) ?_ ?_
    ·skip
     obtain ⟨x987, hx988, H⟩ := bnd H
     obtain ⟨x994, hx995, H⟩ := bnd H
     rcases bool_ct (!(dcd (x987.capacity = x994.capacity))) with hb_ | hb_ <;> revert hb_
     ·intro h1002
      have h1002 := dcd_f (nt_t (h1002))
      have H := iff_ h1002 H
      refine Cw_region_any [] rfl Inc.nil ?_
      refine Awq 0 rfl (by kernel_rfl) rfl rfl rfl (Qt_move rfl) ?_
      refine Awq 1 rfl (by kernel_rfl) rfl rfl rfl (Qt_move rfl) ?_
      obtain ⟨r1003, hr1004, hk1005⟩ := Slr.at hs752 hx988
      obtain ⟨v1006, rfl, hs1007⟩ := hr1004
      refine Awq 2 rfl (by kernel_rfl) rfl rfl rfl (Q_ix (T := TyChan) hs752 hx988 rfl rfl rfl rfl rfl) ?_
      refine Awq 3 rfl (by kernel_rfl) rfl rfl rfl (Qt_fieldAddr (m := 0) rfl rfl rfl rfl rfl) ?_
      refine Awq 4 rfl (by kernel_rfl) rfl rfl rfl (Qt_load1 (v := (.int .i64 x987.capacity)) rfl rfl rfl (Rdc.k hk1005 rfl)) ?_
      refine Awq 5 rfl (by kernel_rfl) rfl rfl rfl (Qt_move rfl) ?_
      refine Awq 6 rfl (by kernel_rfl) rfl rfl rfl (Qt_move rfl) ?_
      have hs1008 := (hp1).mono hK746
      obtain ⟨r1009, hr1010, hk1011⟩ := Slr.at hs1008 hx995
      obtain ⟨v1012, rfl, hs1013⟩ := hr1010
      refine Awq 7 rfl (by kernel_rfl) rfl rfl rfl (Q_ix (T := TyChan) hs1008 hx995 rfl rfl rfl rfl rfl) ?_
      refine Awq 8 rfl (by kernel_rfl) rfl rfl rfl (Qt_fieldAddr (m := 0) rfl rfl rfl rfl rfl) ?_
      refine Awq 9 rfl (by kernel_rfl) rfl rfl rfl (Qt_load1 (v := (.int .i64 x994.capacity)) rfl rfl rfl (Rdc.k hk1011 rfl)) ?_
      refine Awq 10 rfl (by kernel_rfl) rfl rfl rfl (Qt_cmp rfl rfl rfl) ?_
      refine Awq 11 rfl (by kernel_rfl) rfl rfl rfl (Qt_move rfl) ?_
      refine Aw.known (d := 28) rfl (nt_mt (dcd_neg h1002)) ?_
      refine Aw_pass 12 rfl (by kernel_rfl) (by kernel_rfl) (by kernel_rfl) rfl rfl rfl rfl rfl rfl rfl ?_
      refine Aw_pass 13 rfl (by kernel_rfl) (by kernel_rfl) (by kernel_rfl) rfl rfl rfl rfl rfl rfl rfl ?_
      refine Aw_pass 14 rfl (by kernel_rfl) (by kernel_rfl) (by kernel_rfl) rfl rfl rfl rfl rfl rfl rfl ?_
      refine Aw_pass 15 rfl (by kernel_rfl) (by kernel_rfl) (by kernel_rfl) rfl rfl rfl rfl rfl rfl rfl ?_
      refine Aw_pass 16 rfl (by kernel_rfl) (by kernel_rfl) (by kernel_rfl) rfl rfl rfl rfl rfl rfl rfl ?_
      refine Aw_pass 17 rfl (by kernel_rfl) (by kernel_rfl) (by kernel_rfl) rfl rfl rfl rfl rfl rfl rfl ?_
      refine Aw_pass 18 rfl (by kernel_rfl) (by kernel_rfl) (by kernel_rfl) rfl rfl rfl rfl rfl rfl rfl ?_
      refine Aw_pass 19 rfl (by kernel_rfl) (by kernel_rfl) (by kernel_rfl) rfl rfl rfl rfl rfl rfl rfl ?_
      refine Aw_pass 20 rfl (by kernel_rfl) (by kernel_rfl) (by kernel_rfl) rfl rfl rfl rfl rfl rfl rfl ?_
      refine Aw_pass 21 rfl (by kernel_rfl) (by kernel_rfl) (by kernel_rfl) rfl rfl rfl rfl rfl rfl rfl ?_
      refine Aw_pass 22 rfl (by kernel_rfl) (by kernel_rfl) (by kernel_rfl) rfl rfl rfl rfl rfl rfl rfl ?_
      refine Awq 23 rfl (by kernel_rfl) rfl rfl rfl (Qt_pick_t rfl rfl) ?_
      refine Awq 24 rfl (by kernel_rfl) rfl rfl rfl (Qt_move rfl) ?_
      refine Aw_pass 25 rfl (by kernel_rfl) (by kernel_rfl) (by kernel_rfl) rfl rfl rfl rfl rfl rfl rfl ?_
      refine Aw_pass 26 rfl (by kernel_rfl) (by kernel_rfl) (by kernel_rfl) rfl rfl rfl rfl rfl rfl rfl ?_
      refine Aw_pass 27 rfl (by kernel_rfl) (by kernel_rfl) (by kernel_rfl) rfl rfl rfl rfl rfl rfl rfl ?_
      refine Aw_pass 28 rfl (by kernel_rfl) (by kernel_rfl) (by kernel_rfl) rfl rfl rfl rfl rfl rfl rfl ?_
      refine Aw_pass 29 rfl (by kernel_rfl) (by kernel_rfl) (by kernel_rfl) rfl rfl rfl rfl rfl rfl rfl ?_
      refine Aw_pass 30 rfl (by kernel_rfl) (by kernel_rfl) (by kernel_rfl) rfl rfl rfl rfl rfl rfl rfl ?_
      refine Aw_pass 31 rfl (by kernel_rfl) (by kernel_rfl) (by kernel_rfl) rfl rfl rfl rfl rfl rfl rfl ?_
      refine Aw_pass 32 rfl (by kernel_rfl) (by kernel_rfl) (by kernel_rfl) rfl rfl rfl rfl rfl rfl rfl ?_
      refine Aw_pass 33 rfl (by kernel_rfl) (by kernel_rfl) (by kernel_rfl) rfl rfl rfl rfl rfl rfl rfl ?_
      refine Aw_pass 34 rfl (by kernel_rfl) (by kernel_rfl) (by kernel_rfl) rfl rfl rfl rfl rfl rfl rfl ?_
      refine Aw_pass 35 rfl (by kernel_rfl) (by kernel_rfl) (by kernel_rfl) rfl rfl rfl rfl rfl rfl rfl ?_
      refine Aw_pass 36 rfl (by kernel_rfl) (by kernel_rfl) (by kernel_rfl) rfl rfl rfl rfl rfl rfl rfl ?_
      refine Awq 37 rfl (by kernel_rfl) rfl rfl rfl (Qt_pick_t rfl rfl) ?_
      refine Aw_done (by kernel_rfl) ?_
      refine Shift.done ?_
      exact ⟨_, by exact ⟨rfl, rfl, rfl, rfl, trivial⟩, true, rfl, rfl, H⟩
     ·intro h1002
      have h1002 := dcd_t (nt_f (h1002))
      have H := ift h1002 H
      obtain ⟨x1014, hx1015, H⟩ := bnd H
      obtain ⟨x1021, hx1022, H⟩ := bnd H
      rcases bool_ct (!((x1014.closed == x1021.closed))) with hb_ | hb_ <;> revert hb_
      ·intro h1028
       have h1028 := nt_t (h1028)
       have H := iff_ (btf h1028) H
       refine Cw_region_any [] rfl Inc.nil ?_
       refine Awq 0 rfl (by kernel_rfl) rfl rfl rfl (Qt_move rfl) ?_
       refine Awq 1 rfl (by kernel_rfl) rfl rfl rfl (Qt_move rfl) ?_
       obtain ⟨r1029, hr1030, hk1031⟩ := Slr.at hs752 hx988
       obtain ⟨v1032, rfl, hs1033⟩ := hr1030
       refine Awq 2 rfl (by kernel_rfl) rfl rfl rfl (Q_ix (T := TyChan) hs752 hx988 rfl rfl rfl rfl rfl) ?_
       refine Awq 3 rfl (by kernel_rfl) rfl rfl rfl (Qt_fieldAddr (m := 0) rfl rfl rfl rfl rfl) ?_
       refine Awq 4 rfl (by kernel_rfl) rfl rfl rfl (Qt_load1 (v := (.int .i64 x987.capacity)) rfl rfl rfl (Rdc.k hk1031 rfl)) ?_
       refine Awq 5 rfl (by kernel_rfl) rfl rfl rfl (Qt_move rfl) ?_
       refine Awq 6 rfl (by kernel_rfl) rfl rfl rfl (Qt_move rfl) ?_
       have hs1034 := (hp1).mono hK746
       obtain ⟨r1035, hr1036, hk1037⟩ := Slr.at hs1034 hx995
       obtain ⟨v1038, rfl, hs1039⟩ := hr1036
       refine Awq 7 rfl (by kernel_rfl) rfl rfl rfl (Q_ix (T := TyChan) hs1034 hx995 rfl rfl rfl rfl rfl) ?_
       refine Awq 8 rfl (by kernel_rfl) rfl rfl rfl (Qt_fieldAddr (m := 0) rfl rfl rfl rfl rfl) ?_
       refine Awq 9 rfl (by kernel_rfl) rfl rfl rfl (Qt_load1 (v := (.int .i64 x994.capacity)) rfl rfl rfl (Rdc.k hk1037 rfl)) ?_
       refine Awq 10 rfl (by kernel_rfl) rfl rfl rfl (Qt_cmp rfl rfl rfl) ?_
       refine Awq 11 rfl (by kernel_rfl) rfl rfl rfl (Qt_move rfl) ?_
       refine Aw.known (d := 28) rfl (nt_mf (dcd_pos h1002)) ?_
       refine Aw_qw 12 rfl (by kernel_rfl) (by kernel_rfl) (by kernel_rfl) rfl rfl rfl rfl rfl rfl (Qt_move rfl) ?_
       refine Aw_qw 13 rfl (by kernel_rfl) (by kernel_rfl) (by kernel_rfl) rfl rfl rfl rfl rfl rfl (Qt_move rfl) ?_
       obtain ⟨r1040, hr1041, hk1042⟩ := Slr.at hs752 hx1015
       obtain ⟨v1043, rfl, hs1044⟩ := hr1041
       refine Aw_qw 14 rfl (by kernel_rfl) (by kernel_rfl) (by kernel_rfl) rfl rfl rfl rfl rfl rfl (Q_ix (T := TyChan) hs752 hx1015 rfl rfl rfl rfl rfl) ?_
       refine Aw_qw 15 rfl (by kernel_rfl) (by kernel_rfl) (by kernel_rfl) rfl rfl rfl rfl rfl rfl (Qt_fieldAddr (m := 2) rfl rfl rfl rfl rfl) ?_
       refine Aw_qw 16 rfl (by kernel_rfl) (by kernel_rfl) (by kernel_rfl) rfl rfl rfl rfl rfl rfl (Qt_load1 (v := (.bool x1014.closed)) rfl rfl rfl (Rdc.k hk1042 rfl)) ?_
       refine Aw_qw 17 rfl (by kernel_rfl) (by kernel_rfl) (by kernel_rfl) rfl rfl rfl rfl rfl rfl (Qt_move rfl) ?_
       refine Aw_qw 18 rfl (by kernel_rfl) (by kernel_rfl) (by kernel_rfl) rfl rfl rfl rfl rfl rfl (Qt_move rfl) ?_
       obtain ⟨r1045, hr1046, hk1047⟩ := Slr.at hs1034 hx1022
       obtain ⟨v1048, rfl, hs1049⟩ := hr1046
       refine Aw_qw 19 rfl (by kernel_rfl) (by kernel_rfl) (by kernel_rfl) rfl rfl rfl rfl rfl rfl (Q_ix (T := TyChan) hs1034 hx1022 rfl rfl rfl rfl rfl) ?_
       refine Aw_qw 20 rfl (by kernel_rfl) (by kernel_rfl) (by kernel_rfl) rfl rfl rfl rfl rfl rfl (Qt_fieldAddr (m := 2) rfl rfl rfl rfl rfl) ?_
       refine Aw_qw 21 rfl (by kernel_rfl) (by kernel_rfl) (by kernel_rfl) rfl rfl rfl rfl rfl rfl (Qt_load1 (v := (.bool x1021.closed)) rfl rfl rfl (Rdc.k hk1047 rfl)) ?_
       refine Aw_qw 22 rfl (by kernel_rfl) (by kernel_rfl) (by kernel_rfl) rfl rfl rfl rfl rfl rfl (Qt_neB rfl rfl rfl) ?_
       refine Awq 23 rfl (by kernel_rfl) rfl rfl rfl (Qt_pick_f rfl rfl) ?_
       refine Awq 24 rfl (by kernel_rfl) rfl rfl rfl (Qt_move rfl) ?_
       refine Aw.known (d := 41) rfl (nt_mt (h1028)) ?_
       refine Aw_pass 25 rfl (by kernel_rfl) (by kernel_rfl) (by kernel_rfl) rfl rfl rfl rfl rfl rfl rfl ?_
       refine Aw_pass 26 rfl (by kernel_rfl) (by kernel_rfl) (by kernel_rfl) rfl rfl rfl rfl rfl rfl rfl ?_
       refine Aw_pass 27 rfl (by kernel_rfl) (by kernel_rfl) (by kernel_rfl) rfl rfl rfl rfl rfl rfl rfl ?_
       refine Aw_pass 28 rfl (by kernel_rfl) (by kernel_rfl) (by kernel_rfl) rfl rfl rfl rfl rfl rfl rfl ?_
       refine Aw_pass 29 rfl (by kernel_rfl) (by kernel_rfl) (by kernel_rfl) rfl rfl rfl rfl rfl rfl rfl ?_
       refine Aw_pass 30 rfl (by kernel_rfl) (by kernel_rfl) (by kernel_rfl) rfl rfl rfl rfl rfl rfl rfl ?_
       refine Aw_pass 31 rfl (by kernel_rfl) (by kernel_rfl) (by kernel_rfl) rfl rfl rfl rfl rfl rfl rfl ?_
       refine Aw_pass 32 rfl (by kernel_rfl) (by kernel_rfl) (by kernel_rfl) rfl rfl rfl rfl rfl rfl rfl ?_
       refine Aw_pass 33 rfl (by kernel_rfl) (by kernel_rfl) (by kernel_rfl) rfl rfl rfl rfl rfl rfl rfl ?_
       refine Aw_pass 34 rfl (by kernel_rfl) (by kernel_rfl) (by kernel_rfl) rfl rfl rfl rfl rfl rfl rfl ?_
       refine Aw_pass 35 rfl (by kernel_rfl) (by kernel_rfl) (by kernel_rfl) rfl rfl rfl rfl rfl rfl rfl ?_
       refine Aw_pass 36 rfl (by kernel_rfl) (by kernel_rfl) (by kernel_rfl) rfl rfl rfl rfl rfl rfl rfl ?_
       refine Awq 37 rfl (by kernel_rfl) rfl rfl rfl (Qt_pick_t rfl rfl) ?_
       refine Aw_done (by kernel_rfl) ?_
       refine Shift.done ?_
       exact ⟨_, by exact ⟨rfl, rfl, rfl, rfl, trivial⟩, true, rfl, rfl, H⟩
      ·intro h1028
       have h1028 := nt_f (h1028)
       have H := ift h1028 H
       obtain ⟨x1050, hx1051, H⟩ := bnd H
       obtain ⟨x1057, hx1058, H⟩ := bnd H
       obtain ⟨x1064, hx1065, H⟩ := bnd H
       refine Cw_region_any [] rfl Inc.nil ?_
       refine Awq 0 rfl (by kernel_rfl) rfl rfl rfl (Qt_move rfl) ?_
       refine Awq 1 rfl (by kernel_rfl) rfl rfl rfl (Qt_move rfl) ?_
       obtain ⟨r1068, hr1069, hk1070⟩ := Slr.at hs752 hx988
       obtain ⟨v1071, rfl, hs1072⟩ := hr1069
       refine Awq 2 rfl (by kernel_rfl) rfl rfl rfl (Q_ix (T := TyChan) hs752 hx988 rfl rfl rfl rfl rfl) ?_
       refine Awq 3 rfl (by kernel_rfl) rfl rfl rfl (Qt_fieldAddr (m := 0) rfl rfl rfl rfl rfl) ?_
       refine Awq 4 rfl (by kernel_rfl) rfl rfl rfl (Qt_load1 (v := (.int .i64 x987.capacity)) rfl rfl rfl (Rdc.k hk1070 rfl)) ?_
       refine Awq 5 rfl (by kernel_rfl) rfl rfl rfl (Qt_move rfl) ?_
       refine Awq 6 rfl (by kernel_rfl) rfl rfl rfl (Qt_move rfl) ?_
       have hs1073 := (hp1).mono hK746
       obtain ⟨r1074, hr1075, hk1076⟩ := Slr.at hs1073 hx995
       obtain ⟨v1077, rfl, hs1078⟩ := hr1075
       refine Awq 7 rfl (by kernel_rfl) rfl rfl rfl (Q_ix (T := TyChan) hs1073 hx995 rfl rfl rfl rfl rfl) ?_
       refine Awq 8 rfl (by kernel_rfl) rfl rfl rfl (Qt_fieldAddr (m := 0) rfl rfl rfl rfl rfl) ?_
       refine Awq 9 rfl (by kernel_rfl) rfl rfl rfl (Qt_load1 (v := (.int .i64 x994.capacity)) rfl rfl rfl (Rdc.k hk1076 rfl)) ?_
       refine Awq 10 rfl (by kernel_rfl) rfl rfl rfl (Qt_cmp rfl rfl rfl) ?_
       refine Awq 11 rfl (by kernel_rfl) rfl rfl rfl (Qt_move rfl) ?_
       refine Aw.known (d := 28) rfl (nt_mf (dcd_pos h1002)) ?_
       refine Aw_qw 12 rfl (by kernel_rfl) (by kernel_rfl) (by kernel_rfl) rfl rfl rfl rfl rfl rfl (Qt_move rfl) ?_
       refine Aw_qw 13 rfl (by kernel_rfl) (by kernel_rfl) (by kernel_rfl) rfl rfl rfl rfl rfl rfl (Qt_move rfl) ?_
       obtain ⟨r1079, hr1080, hk1081⟩ := Slr.at hs752 hx1015
       obtain ⟨v1082, rfl, hs1083⟩ := hr1080
       refine Aw_qw 14 rfl (by kernel_rfl) (by kernel_rfl) (by kernel_rfl) rfl rfl rfl rfl rfl rfl (Q_ix (T := TyChan) hs752 hx1015 rfl rfl rfl rfl rfl) ?_
       refine Aw_qw 15 rfl (by kernel_rfl) (by kernel_rfl) (by kernel_rfl) rfl rfl rfl rfl rfl rfl (Qt_fieldAddr (m := 2) rfl rfl rfl rfl rfl) ?_
       refine Aw_qw 16 rfl (by kernel_rfl) (by kernel_rfl) (by kernel_rfl) rfl rfl rfl rfl rfl rfl (Qt_load1 (v := (.bool x1014.closed)) rfl rfl rfl (Rdc.k hk1081 rfl)) ?_
       refine Aw_qw 17 rfl (by kernel_rfl) (by kernel_rfl) (by kernel_rfl) rfl rfl rfl rfl rfl rfl (Qt_move rfl) ?_
       refine Aw_qw 18 rfl (by kernel_rfl) (by kernel_rfl) (by kernel_rfl) rfl rfl rfl rfl rfl rfl (Qt_move rfl) ?_
       obtain ⟨r1084, hr1085, hk1086⟩ := Slr.at hs1073 hx1022
       obtain ⟨v1087, rfl, hs1088⟩ := hr1085
       refine Aw_qw 19 rfl (by kernel_rfl) (by kernel_rfl) (by kernel_rfl) rfl rfl rfl rfl rfl rfl (Q_ix (T := TyChan) hs1073 hx1022 rfl rfl rfl rfl rfl) ?_
       refine Aw_qw 20 rfl (by kernel_rfl) (by kernel_rfl) (by kernel_rfl) rfl rfl rfl rfl rfl rfl (Qt_fieldAddr (m := 2) rfl rfl rfl rfl rfl) ?_
       refine Aw_qw 21 rfl (by kernel_rfl) (by kernel_rfl) (by kernel_rfl) rfl rfl rfl rfl rfl rfl (Qt_load1 (v := (.bool x1021.closed)) rfl rfl rfl (Rdc.k hk1086 rfl)) ?_
       refine Aw_qw 22 rfl (by kernel_rfl) (by kernel_rfl) (by kernel_rfl) rfl rfl rfl rfl rfl rfl (Qt_neB rfl rfl rfl) ?_
       refine Awq 23 rfl (by kernel_rfl) rfl rfl rfl (Qt_pick_f rfl rfl) ?_
       refine Awq 24 rfl (by kernel_rfl) rfl rfl rfl (Qt_move rfl) ?_
       refine Aw.known (d := 41) rfl (nt_mf (h1028)) ?_
       refine Aw_qw 25 rfl (by kernel_rfl) (by kernel_rfl) (by kernel_rfl) rfl rfl rfl rfl rfl rfl (Qt_move rfl) ?_
       refine Aw_qw 26 rfl (by kernel_rfl) (by kernel_rfl) (by kernel_rfl) rfl rfl rfl rfl rfl rfl (Qt_move rfl) ?_
       obtain ⟨r1089, hr1090, hk1091⟩ := Slr.at hs752 hx1051
       obtain ⟨v1092, rfl, hs1093⟩ := hr1090
       refine Aw_qw 27 rfl (by kernel_rfl) (by kernel_rfl) (by kernel_rfl) rfl rfl rfl rfl rfl rfl (Q_ix (T := TyChan) hs752 hx1051 rfl rfl rfl rfl rfl) ?_
       refine Aw_qw 28 rfl (by kernel_rfl) (by kernel_rfl) (by kernel_rfl) rfl rfl rfl rfl rfl rfl (Qt_fieldAddr (m := 1) rfl rfl rfl rfl rfl) ?_
       refine Aw_qw 29 rfl (by kernel_rfl) (by kernel_rfl) (by kernel_rfl) rfl rfl rfl rfl rfl rfl (Qt_load1 (v := (sv v1092)) rfl rfl rfl (Rdc.k hk1091 rfl)) ?_
       refine Aw_qw 30 rfl (by kernel_rfl) (by kernel_rfl) (by kernel_rfl) rfl rfl rfl rfl rfl rfl (Qt_move rfl) ?_
       refine Aw_qw 31 rfl (by kernel_rfl) (by kernel_rfl) (by kernel_rfl) rfl rfl rfl rfl rfl rfl (Qt_move rfl) ?_
       obtain ⟨r1094, hr1095, hk1096⟩ := Slr.at hs1073 hx1058
       obtain ⟨v1097, rfl, hs1098⟩ := hr1095
       refine Aw_qw 32 rfl (by kernel_rfl) (by kernel_rfl) (by kernel_rfl) rfl rfl rfl rfl rfl rfl (Q_ix (T := TyChan) hs1073 hx1058 rfl rfl rfl rfl rfl) ?_
       refine Aw_qw 33 rfl (by kernel_rfl) (by kernel_rfl) (by kernel_rfl) rfl rfl rfl rfl rfl rfl (Qt_fieldAddr (m := 1) rfl rfl rfl rfl rfl) ?_
       refine Aw_qw 34 rfl (by kernel_rfl) (by kernel_rfl) (by kernel_rfl) rfl rfl rfl rfl rfl rfl (Qt_load1 (v := (sv v1097)) rfl rfl rfl (Rdc.k hk1096 rfl)) ?_
       refine Aw_one 35 (by kernel_rfl) (Ax_mkw rfl rfl rfl rfl rfl ?_)
       refine OpW_call rfl Try.call52 rfl rfl (c_M_123z x1050.buffer v1092 x1057.buffer v1097 x1064 hx1065 _ _ hs1093 hs1098) ?_
       rintro _ K1099 _ hK1100 ⟨rfl, rfl⟩
       refine ⟨Inc.nil, ?_⟩
       refine Aw_qw 36 rfl (by kernel_rfl) (by kernel_rfl) (by kernel_rfl) rfl rfl rfl rfl rfl rfl (Qt_not rfl) ?_
       refine Awq 37 rfl (by kernel_rfl) rfl rfl rfl (Qt_pick_f rfl rfl) ?_
       refine Aw_done (by kernel_rfl) ?_
       refine Shift.done ?_
       exact ⟨_, by exact ⟨rfl, rfl, rfl, rfl, trivial⟩, (!(x1064)), rfl, rfl, H⟩
    rintro _ K1101 _ hK1102 ⟨t986, rfl, rfl, H⟩
    unfold M_69z at H
    refine Cw_cond rfl ?_ ?_
    ·intro h1103
     have H := ift h1103 H
     refine Cw_seq ?_
     refine Cw_region ?_
     refine Ow_q rfl rfl rfl (Qt_assign rfl) ?_
     refine Ow_nil ?_
     refine Cw_ret ?_
     obtain ey0 := inj1 H
     subst y0
     refine ⟨(by first | exact .inl rfl | exact .inr rfl), [(.bool false)], ⟨(.bool false), _, rfl, rfl, rfl⟩, ?_⟩
     refine Shift.done ?_
     exact ⟨rfl, rfl⟩
    ·intro h1103
     have H := iff_ (btf h1103) H
     refine Cw_skip ?_
     refine Cw_region ?_
     refine Ow_q rfl rfl rfl (Qt_move rfl) ?_
     refine Ow_q rfl rfl rfl (Qt_arith (e := wI (i743 + 1)) rfl rfl rfl rfl) ?_
     refine Ow_q rfl rfl rfl (Qt_assign rfl) ?_
     refine Ow_nil ?_
     refine Shift.done ?_
     exact ⟨_, by exact ⟨rfl, rfl, rfl, trivial⟩, _, Nat.lt_succ_self _, (wI (i743 + 1)), rfl, rfl, (hkk749 ▸ H)⟩
   ·intro h753
    have h753 := dcd_f (h753)
    have H := iff_ h753 H
    refine Cw_exit ?_
    refine Shift.done ?_
    exact ⟨[], trivial, rfl, rfl, H⟩
  rintro _ K1104 _ hK1105 ⟨rfl, rfl, H⟩
  unfold M_170z at H
  refine Cw_seq ?_
  refine Cw_region ?_
  refine Ow_q rfl rfl rfl (Qt_assign rfl) ?_
  refine Ow_nil ?_
  refine Cw_ret ?_
  obtain ey0 := inj1 H
  subst y0
  refine ⟨(by first | exact .inl rfl | exact .inr rfl), [(.bool true)], ⟨(.bool true), _, rfl, rfl, rfl⟩, ?_⟩
  refine Shift.done ?_
  exact ⟨rfl, rfl⟩


end Go.Hx
