/- Printed by program. -/
import Derived.Test.YthokebmjjkjjfaaXDM
import Derived.Test.YthokebmjjkjjfaaXDWSlices
import Derived.Test.YthokebmjjkjjfaaXDWDraw1
namespace Go.Hx
open Go Go.Proofs
set_option linter.unusedSimpArgs false
set_option linter.unusedVariables false
set_option maxRecDepth 10000
set_option maxHeartbeats 1000000 in
theorem c_M_desk_Do (p0 : Desk) (vp0_chans : SV) (vp0_waiting : SV) (p1 : Int) (p2 : Op) (vp2_cases : SV) (vp2_draws : SV) (y0 : Desk) (y1 : List Done) (y2 : Bool) (H : M_desk_Do p0 p1 p2 = some (y0, y1, y2)) (K : Kp) (G : List Ent) (hp0_chans : Slr TyChan K (sv vp0_chans) p0.chans) (hp0_waiting : Slr TyWaiter K (sv vp0_waiting) p0.waiting) (hp2_cases : Slr TyCase K (sv vp2_cases) p2.cases) (hp2_draws : Slr Ty.i64 K (sv vp2_draws) p2.draws) :
  Fc Try.prog 22 #[(.agg (Desk.cells p0 vp0_chans vp0_waiting).toArray), (.int .i64 p1), (.agg (Op.cells p2 vp2_cases vp2_draws).toArray)] K (G) (fun v K' G' => ∃ (wy0_chans : SV) (rswy0_chans : List (List Value)) (wy0_waiting : SV) (rswy0_waiting : List (List Value)) (wy1 : SV) (rswy1 : List (List Value)), v = (.tuple #[(.agg (Desk.cells y0 wy0_chans wy0_waiting).toArray), (sv wy1), (.bool y2)]) ∧ (.row (sv wy0_chans) 71 3 rswy0_chans.flatten) :: (.row (sv wy0_waiting) 52 8 rswy0_waiting.flatten) :: (.row (sv wy1) 75 6 rswy1.flatten) :: G = G' ∧ RowR TyChan K' rswy0_chans y0.chans ∧ RowR TyWaiter K' rswy0_waiting y0.waiting ∧ RowR TyDone K' rswy1 y1) := by
 refine Fc_body Try.func22 rfl Try.ntmps22 Try.results22 rfl ?_
 unfold M_desk_Do at H
 refine Cw_seq ?_
 refine Cw_region ?_
 refine Ow_cons rfl (OpW_box (cs := (Desk.cells p0 vp0_chans vp0_waiting)) rfl rfl rfl (fun b187 => ?_))
 refine Ow_cons rfl (OpW_box (cs := (Op.cells p2 vp2_cases vp2_draws)) rfl rfl rfl (fun b188 => ?_))
 refine Ow_cons rfl (OpW_alloc (cs := (Desk.cells (Desk.mk [] [] 0) nilS nilS)) rfl rfl rfl rfl (fun b189 => ?_))
 refine Ow_q rfl rfl rfl (Qt_assign rfl) ?_
 refine Ow_q rfl rfl rfl (Qt_assign rfl) ?_
 refine Ow_nil ?_
 refine Cw_seq ?_
 refine Cw_region ?_
 refine Ow_q rfl rfl rfl (Qt_loadA (m := 3) (cs := (Desk.cells p0 vp0_chans vp0_waiting)) rfl rfl rfl rfl ⟨rfl, Rdc.blk (.tail _ (.tail _ (.head _))) rfl⟩) ?_
 obtain ⟨x190, hx191, H⟩ := bnd H
 refine Ow_cons rfl (OpW_call rfl Try.call44 rfl rfl (c_M_36z p0 vp0_chans vp0_waiting x190 hx191 _ _ hp0_chans hp0_waiting) ?_)
 rintro _ _ _ - ⟨b192, v193, rs194, v195, rs196, v197, rs198, rfl, rfl, rfl, hs199, hs200, hs201⟩
 refine Ow_q rfl rfl rfl (Qt_assign rfl) ?_
 refine Ow_nil ?_
 refine Cw_seq ?_
 refine Cw_region ?_
 refine Ow_q rfl rfl rfl (Qt_build (cs := (Result.cells (Result.mk 0 (-1) 0 false 0))) rfl rfl rfl rfl rfl rfl) ?_
 refine Ow_cons rfl (OpW_alloc (cs := (Result.cells (Result.mk 0 0 0 false 0))) rfl rfl rfl rfl (fun b202 => ?_))
 refine Ow_cons rfl (OpW_store (vs := (Result.cells (Result.mk 0 (-1) 0 false 0))) (all' := (Result.cells (Result.mk 0 (-1) 0 false 0))) rfl rfl rfl rfl rfl .here rfl rfl rfl ?_)
 refine Ow_nil ?_
 refine Cw_join (fun env' K' G' => ∃ (i347 : Int) (i348 : Int) (i349 : Int) (t350 : Bool) (i351 : Int) (v352 : SV) (l353 : List Chan) (rs355 : List (List Value)) (v356 : SV) (l357 : List Waiter) (rs359 : List (List Value)) (v360 : SV) (l361 : List Done) (rs363 : List (List Value)), [(1, (.int .i64 p1)), (6, (.pointer (some ((⟨b189, 0, none⟩ : Addr).add 0)))), (9, (.pointer (some ((⟨b192, 0, none⟩ : Addr).add 0)))), (10, (.pointer (some ((⟨b202, 0, none⟩ : Addr).add 0))))] = env' ∧ (.blk b202 73 (Result.cells (Result.mk i347 i348 i349 t350 i351))) :: (.blk b192 92 (Desk_work.cells (Desk_work.mk (Desk.mk l353 l357 x190.desk.tick) l361) v352 v356 v360)) :: (.blk b189 34 (Desk.cells (Desk.mk [] [] 0) nilS nilS)) :: (.row (sv v352) 71 3 rs355.flatten) :: (.row (sv v356) 52 8 rs359.flatten) :: (.row (sv v360) 75 6 rs363.flatten) :: G = G' ∧ M_2z p1 x190 i347 i348 i349 t350 i351 l353 l357 l361 = some (y0, y1, y2) ∧ RowR TyChan K' rs355 l353 ∧ RowR TyWaiter K' rs359 l357 ∧ RowR TyDone K' rs363 l361) ?_ ?_
 ·skip
  refine Cw_seq ?_
  refine Cw_region ?_
  refine Ow_q rfl rfl rfl (Qt_fieldAddr (m := 0) rfl rfl rfl rfl rfl) ?_
  refine Ow_q rfl rfl rfl (Qt_load1 (v := (.int .i64 p2.kind)) rfl rfl rfl (Rdc.blk (.tail _ (.tail _ (.tail _ (.tail _ (.tail _ (.tail _ (.head _))))))) rfl)) ?_
  refine Ow_nil ?_
  refine Cw_block ?_
  refine Cw_seq ?_
  refine Cw_region ?_
  refine Ow_q rfl rfl rfl (Qt_cmp rfl rfl rfl) ?_
  refine Ow_q rfl rfl rfl (Qt_assign rfl) ?_
  refine Ow_nil ?_
  refine Cw_cond rfl ?_ ?_
  ·intro h364
   have h364 := dcd_t (h364)
   have H := ift h364 H
   refine Cw_seq ?_
   refine Cw_region ?_
   refine Ow_q rfl rfl rfl (Qt_fieldAddr (m := 0) rfl rfl rfl rfl rfl) ?_
   refine Ow_cons rfl (OpW_store (vs := [(.int .i64 5)]) (all' := (Result.cells (Result.mk 5 (-1) 0 false 0))) rfl rfl rfl rfl rfl .here rfl rfl rfl ?_)
   refine Ow_nil ?_
   refine Cw_join (fun env' K' G' => ∃ (t375 : Bool), [(1, (.int .i64 p1)), (5, (.pointer (some ((⟨b188, 0, none⟩ : Addr).add 0)))), (6, (.pointer (some ((⟨b189, 0, none⟩ : Addr).add 0)))), (9, (.pointer (some ((⟨b192, 0, none⟩ : Addr).add 0)))), (10, (.pointer (some ((⟨b202, 0, none⟩ : Addr).add 0)))), (101, (.bool t375))] = env' ∧ K = K' ∧ (.blk b202 73 (Result.cells (Result.mk 5 (-1) 0 false 0))) :: (.blk b192 92 (Desk_work.cells x190 v193 v195 v197)) :: (.blk b189 34 (Desk.cells (Desk.mk [] [] 0) nilS nilS)) :: (.blk b188 41 (Op.cells p2 vp2_cases vp2_draws)) :: (.row (sv v193) 71 3 rs194.flatten) :: (.row (sv v195) 52 8 rs196.flatten) :: (.row (sv v197) 75 6 rs198.flatten) :: G = G' ∧ M_44z p1 x190 p2 t375 = some (y0, y1, y2)) ?_ ?_
   ·skip
    refine Cw_region ?_
    refine Ow_q rfl rfl rfl (Qt_loadA (m := 3) (cs := (Desk.cells p0 vp0_chans vp0_waiting)) rfl rfl rfl rfl ⟨rfl, Rdc.blk (.tail _ (.tail _ (.tail _ (.tail _ (.tail _ (.tail _ (.tail _ (.head _)))))))) rfl⟩) ?_
    refine Ow_q rfl rfl rfl (Qt_fieldAddr (m := 2) rfl rfl rfl rfl rfl) ?_
    refine Ow_q rfl rfl rfl (Qt_load1 (v := (.int .i64 p2.channel)) rfl rfl rfl (Rdc.blk (.tail _ (.tail _ (.tail _ (.tail _ (.tail _ (.tail _ (.head _))))))) rfl)) ?_
    obtain ⟨x376, hx377, H⟩ := bnd H
    refine Ow_cons rfl (OpW_call rfl Try.call45 rfl rfl (c_M_19z p0 vp0_chans vp0_waiting p2.channel x376 hx377 _ _ hp0_chans hp0_waiting) ?_)
    rintro _ _ _ - ⟨rfl, rfl, rfl⟩
    refine Ow_q rfl rfl rfl (Qt_move rfl) ?_
    refine Ow_caseG rfl rfl rfl ?_ ?_
    ·intro h378
     have H := ift h378 H
     refine Ow_qw rfl rfl rfl rfl rfl rfl (Qt_fieldAddr (m := 0) rfl rfl rfl rfl rfl) ?_
     refine Ow_qw rfl rfl rfl rfl rfl rfl (Qt_load1 (v := (sv vp0_chans)) rfl rfl rfl (Rdc.blk (.tail _ (.tail _ (.tail _ (.tail _ (.tail _ (.tail _ (.tail _ (.head _)))))))) rfl)) ?_
     refine Ow_qw rfl rfl rfl rfl rfl rfl (Qt_fieldAddr (m := 2) rfl rfl rfl rfl rfl) ?_
     refine Ow_qw rfl rfl rfl rfl rfl rfl (Qt_load1 (v := (.int .i64 p2.channel)) rfl rfl rfl (Rdc.blk (.tail _ (.tail _ (.tail _ (.tail _ (.tail _ (.tail _ (.head _))))))) rfl)) ?_
     obtain ⟨x379, hx380, H⟩ := bnd H
     obtain ⟨r381, hr382, hk383⟩ := Slr.at hp0_chans hx380
     obtain ⟨v384, rfl, hs385⟩ := hr382
     refine Ow_qw rfl rfl rfl rfl rfl rfl (Q_ix (T := TyChan) hp0_chans hx380 rfl rfl rfl rfl rfl) ?_
     refine Ow_qw rfl rfl rfl rfl rfl rfl (Qt_fieldAddr (m := 2) rfl rfl rfl rfl rfl) ?_
     refine Ow_qw rfl rfl rfl rfl rfl rfl (Qt_load1 (v := (.bool x379.closed)) rfl rfl rfl (Rdc.k hk383 rfl)) ?_
     refine Ow_qw rfl rfl rfl rfl rfl rfl (Qt_not rfl) ?_
     refine Ow_q rfl rfl rfl (Qt_pick_t rfl rfl) ?_
     refine Ow_nil ?_
     refine Pu4 ?_
     refine Pu4 ?_
     refine Pu4 ?_
     refine Pu6 ?_
     refine Pu6 ?_
     refine Pu6 ?_
     refine Pu6 ?_
     refine Re7 ?_
     refine Shift.done ?_
     exact ⟨_, by exact ⟨rfl, rfl, rfl, rfl, rfl, rfl, trivial⟩, (!(x379.closed)), rfl, rfl, rfl, H⟩
    ·intro h378
     have H := iff_ (btf h378) H
     refine Ow_pass rfl rfl rfl rfl rfl rfl rfl ?_
     refine Ow_pass rfl rfl rfl rfl rfl rfl rfl ?_
     refine Ow_pass rfl rfl rfl rfl rfl rfl rfl ?_
     refine Ow_pass rfl rfl rfl rfl rfl rfl rfl ?_
     refine Ow_pass rfl rfl rfl rfl rfl rfl rfl ?_
     refine Ow_pass rfl rfl rfl rfl rfl rfl rfl ?_
     refine Ow_pass rfl rfl rfl rfl rfl rfl rfl ?_
     refine Ow_pass rfl rfl rfl rfl rfl rfl rfl ?_
     refine Ow_q rfl rfl rfl (Qt_pick_f rfl rfl) ?_
     refine Ow_nil ?_
     refine Pu4 ?_
     refine Pu4 ?_
     refine Pu4 ?_
     refine Pu6 ?_
     refine Pu6 ?_
     refine Pu6 ?_
     refine Pu6 ?_
     refine Re7 ?_
     refine Shift.done ?_
     exact ⟨_, by exact ⟨rfl, rfl, rfl, rfl, rfl, rfl, trivial⟩, false, rfl, rfl, rfl, H⟩
   rintro _ _ _ - ⟨t375, rfl, rfl, rfl, H⟩
   unfold M_44z at H
   refine Cw_cond rfl ?_ ?_
   ·intro h386
    have H := ift h386 H
    refine Cw_seq ?_
    refine Cw_region ?_
    refine Ow_q rfl rfl rfl (Qt_move rfl) ?_
    refine Ow_q rfl rfl rfl (Qt_fieldAddr (m := 2) rfl rfl rfl rfl rfl) ?_
    refine Ow_q rfl rfl rfl (Qt_load1 (v := (.int .i64 p2.channel)) rfl rfl rfl (Rdc.blk (.tail _ (.tail _ (.tail _ (.head _)))) rfl)) ?_
    obtain ⟨x387, x388, x389, hx390, H⟩ := bnd3 H
    refine Ow.shift (Pu6 (Shift.done ?_))
    refine Ow.shift (Pu6 (Shift.done ?_))
    refine Ow.shift (Pu6 (Shift.done ?_))
    refine Ow.shift (Pu4 (Shift.done ?_))
    refine Ow_cons rfl (OpW_call rfl Try.call46 rfl rfl (c_M_78z b192 x190 v193 rs194 v195 rs196 v197 rs198 p2.channel x387 x388 x389 hx390 _ _ hs199 hs200 hs201) ?_)
    rintro _ K397 _ hK398 ⟨v391, rs392, v393, rs394, v395, rs396, rfl, rfl, hs399, hs400, hs401⟩
    refine Ow_nil ?_
    refine Cw_region ?_
    refine Ow_q rfl rfl rfl (Qt_fieldAddr (m := 0) rfl rfl rfl rfl rfl) ?_
    refine Ow_cons rfl (OpW_store (vs := [(.int .i64 6)]) (all' := (Result.cells (Result.mk 6 (-1) 0 false 0))) rfl rfl rfl rfl rfl (.there (.there (.there (.there .here)))) rfl rfl rfl ?_)
    refine Ow_nil ?_
    refine Pu3 ?_
    refine Pu3 ?_
    refine Pu3 ?_
    refine Pu5 ?_
    refine Pu4 ?_
    refine Pu5 ?_
    refine Re6 ?_
    refine Shift.done ?_
    exact ⟨_, by exact ⟨rfl, rfl, rfl, rfl, trivial⟩, 6, (-1), 0, false, 0, v391, x387, rs392, v393, x388, rs394, v395, x389, rs396, rfl, rfl, H, hs399, hs400, hs401⟩
   ·intro h386
    have H := iff_ (btf h386) H
    refine Cw_skip ?_
    refine Pu6 ?_
    refine Pu6 ?_
    refine Pu6 ?_
    refine Pu5 ?_
    refine Pu5 ?_
    refine Pu5 ?_
    refine Re6 ?_
    refine Shift.done ?_
    exact ⟨_, by exact ⟨rfl, rfl, rfl, rfl, trivial⟩, 5, (-1), 0, false, 0, v193, x190.desk.chans, rs194, v195, x190.desk.waiting, rs196, v197, x190.done, rs198, rfl, rfl, H, hs199, hs200, hs201⟩
  ·intro h364
   have h364 := dcd_f (h364)
   have H := iff_ h364 H
   refine Cw_join (fun env' K' G' => ∃ (t403 : Bool), [(1, (.int .i64 p1)), (3, (.pointer (some ((⟨b187, 0, none⟩ : Addr).add 0)))), (5, (.pointer (some ((⟨b188, 0, none⟩ : Addr).add 0)))), (6, (.pointer (some ((⟨b189, 0, none⟩ : Addr).add 0)))), (9, (.pointer (some ((⟨b192, 0, none⟩ : Addr).add 0)))), (10, (.pointer (some ((⟨b202, 0, none⟩ : Addr).add 0)))), (107, (.bool t403))] = env' ∧ K = K' ∧ (.blk b202 73 (Result.cells (Result.mk 0 (-1) 0 false 0))) :: (.blk b192 92 (Desk_work.cells x190 v193 v195 v197)) :: (.blk b189 34 (Desk.cells (Desk.mk [] [] 0) nilS nilS)) :: (.blk b188 41 (Op.cells p2 vp2_cases vp2_draws)) :: (.blk b187 34 (Desk.cells p0 vp0_chans vp0_waiting)) :: (.row (sv v193) 71 3 rs194.flatten) :: (.row (sv v195) 52 8 rs196.flatten) :: (.row (sv v197) 75 6 rs198.flatten) :: G = G' ∧ M_25z p1 x190 p2 p0 t403 = some (y0, y1, y2)) ?_ ?_
   ·skip
    refine Cw_seq ?_
    refine Cw_region ?_
    refine Ow_q rfl rfl rfl (Qt_cmp rfl rfl rfl) ?_
    refine Ow_q rfl rfl rfl (Qt_assign rfl) ?_
    refine Ow_nil ?_
    refine Cw_cond rfl ?_ ?_
    ·intro h404
     have h404 := dcd_t (h404)
     have H := ift h404 H
     refine Cw_skip ?_
     refine Pu4 ?_
     refine Pu4 ?_
     refine Pu4 ?_
     refine Pu7 ?_
     refine Pu7 ?_
     refine Pu7 ?_
     refine Pu7 ?_
     refine Pu7 ?_
     refine Shift.done ?_
     exact ⟨_, by exact ⟨rfl, rfl, rfl, rfl, rfl, rfl, rfl, trivial⟩, (dcd (p2.kind = 5)), rfl, rfl, rfl, H⟩
    ·intro h404
     have h404 := dcd_f (h404)
     have H := iff_ h404 H
     refine Cw_region ?_
     refine Ow_q rfl rfl rfl (Qt_cmp rfl rfl rfl) ?_
     refine Ow_q rfl rfl rfl (Qt_assign rfl) ?_
     refine Ow_nil ?_
     refine Pu4 ?_
     refine Pu4 ?_
     refine Pu4 ?_
     refine Pu7 ?_
     refine Pu7 ?_
     refine Pu7 ?_
     refine Pu7 ?_
     refine Pu7 ?_
     refine Shift.done ?_
     exact ⟨_, by exact ⟨rfl, rfl, rfl, rfl, rfl, rfl, rfl, trivial⟩, (dcd (p2.kind = 6)), rfl, rfl, rfl, H⟩
   rintro _ _ _ - ⟨t403, rfl, rfl, rfl, H⟩
   unfold M_25z at H
   refine Cw_cond rfl ?_ ?_
   ·intro h405
    have H := ift h405 H
    refine Cw_seq ?_
    refine Cw_region ?_
    refine Ow_q rfl rfl rfl (Qt_fieldAddr (m := 0) rfl rfl rfl rfl rfl) ?_
    refine Ow_cons rfl (OpW_store (vs := [(.int .i64 7)]) (all' := (Result.cells (Result.mk 7 (-1) 0 false 0))) rfl rfl rfl rfl rfl .here rfl rfl rfl ?_)
    refine Ow_nil ?_
    refine Cw_seq ?_
    refine Cw_region ?_
    refine Ow_q rfl rfl rfl (Qt_loadA (m := 3) (cs := (Desk.cells p0 vp0_chans vp0_waiting)) rfl rfl rfl rfl ⟨rfl, Rdc.blk (.tail _ (.tail _ (.tail _ (.tail _ (.head _))))) rfl⟩) ?_
    refine Ow_q rfl rfl rfl (Qt_fieldAddr (m := 2) rfl rfl rfl rfl rfl) ?_
    refine Ow_q rfl rfl rfl (Qt_load1 (v := (.int .i64 p2.channel)) rfl rfl rfl (Rdc.blk (.tail _ (.tail _ (.tail _ (.head _)))) rfl)) ?_
    obtain ⟨x406, hx407, H⟩ := bnd H
    refine Ow_cons rfl (OpW_call rfl Try.call45 rfl rfl (c_M_19z p0 vp0_chans vp0_waiting p2.channel x406 hx407 _ _ hp0_chans hp0_waiting) ?_)
    rintro _ _ _ - ⟨rfl, rfl, rfl⟩
    refine Ow_nil ?_
    refine Cw_cond rfl ?_ ?_
    ·intro h408
     have H := ift h408 H
     refine Cw_seq ?_
     refine Cw_region ?_
     refine Ow_q rfl rfl rfl (Qt_fieldAddr (m := 0) rfl rfl rfl rfl rfl) ?_
     refine Ow_q rfl rfl rfl (Qt_load1 (v := (sv vp0_chans)) rfl rfl rfl (Rdc.blk (.tail _ (.tail _ (.tail _ (.tail _ (.head _))))) rfl)) ?_
     refine Ow_q rfl rfl rfl (Qt_fieldAddr (m := 2) rfl rfl rfl rfl rfl) ?_
     refine Ow_q rfl rfl rfl (Qt_load1 (v := (.int .i64 p2.channel)) rfl rfl rfl (Rdc.blk (.tail _ (.tail _ (.tail _ (.head _)))) rfl)) ?_
     obtain ⟨x409, hx410, H⟩ := bnd H
     obtain ⟨r411, hr412, hk413⟩ := Slr.at hp0_chans hx410
     obtain ⟨v414, rfl, hs415⟩ := hr412
     refine Ow_q rfl rfl rfl (Q_ix (T := TyChan) hp0_chans hx410 rfl rfl rfl rfl rfl) ?_
     refine Ow_q rfl rfl rfl (Qt_fieldAddr (m := 0) rfl rfl rfl rfl rfl) ?_
     refine Ow_q rfl rfl rfl (Qt_load1 (v := (.int .i64 x409.capacity)) rfl rfl rfl (Rdc.k hk413 rfl)) ?_
     refine Ow_q rfl rfl rfl (Qt_fieldAddr (m := 4) rfl rfl rfl rfl rfl) ?_
     refine Ow_cons rfl (OpW_store (vs := [(.int .i64 x409.capacity)]) (all' := (Result.cells (Result.mk 7 (-1) 0 false x409.capacity))) rfl rfl rfl rfl rfl .here rfl rfl rfl ?_)
     refine Ow_nil ?_
     refine Cw_seq ?_
     refine Cw_region ?_
     refine Ow_q rfl rfl rfl (Qt_fieldAddr (m := 0) rfl rfl rfl rfl rfl) ?_
     refine Ow_q rfl rfl rfl (Qt_load1 (v := (.int .i64 p2.kind)) rfl rfl rfl (Rdc.blk (.tail _ (.tail _ (.tail _ (.head _)))) rfl)) ?_
     refine Ow_q rfl rfl rfl (Qt_cmp rfl rfl rfl) ?_
     refine Ow_nil ?_
     refine Cw_cond rfl ?_ ?_
     ·intro h416
      have h416 := dcd_t (h416)
      have H := ift h416 H
      refine Cw_region ?_
      refine Ow_q rfl rfl rfl (Qt_fieldAddr (m := 0) rfl rfl rfl rfl rfl) ?_
      refine Ow_q rfl rfl rfl (Qt_load1 (v := (sv vp0_chans)) rfl rfl rfl (Rdc.blk (.tail _ (.tail _ (.tail _ (.tail _ (.head _))))) rfl)) ?_
      refine Ow_q rfl rfl rfl (Qt_fieldAddr (m := 2) rfl rfl rfl rfl rfl) ?_
      refine Ow_q rfl rfl rfl (Qt_load1 (v := (.int .i64 p2.channel)) rfl rfl rfl (Rdc.blk (.tail _ (.tail _ (.tail _ (.head _)))) rfl)) ?_
      obtain ⟨x417, hx418, H⟩ := bnd H
      obtain ⟨r419, hr420, hk421⟩ := Slr.at hp0_chans hx418
      obtain ⟨v422, rfl, hs423⟩ := hr420
      refine Ow_q rfl rfl rfl (Q_ix (T := TyChan) hp0_chans hx418 rfl rfl rfl rfl rfl) ?_
      refine Ow_q rfl rfl rfl (Qt_fieldAddr (m := 1) rfl rfl rfl rfl rfl) ?_
      refine Ow_q rfl rfl rfl (Qt_load1 (v := (sv v422)) rfl rfl rfl (Rdc.k hk421 rfl)) ?_
      refine Ow_q rfl rfl rfl (Q_len (T := Ty.u64) hs423 rfl rfl) ?_
      refine Ow_q rfl rfl rfl (Qt_fieldAddr (m := 4) rfl rfl rfl rfl rfl) ?_
      refine Ow_cons rfl (OpW_store (vs := [(.int .i64 (x417.buffer.length : Int))]) (all' := (Result.cells (Result.mk 7 (-1) 0 false (x417.buffer.length : Int)))) rfl rfl rfl rfl rfl .here rfl rfl rfl ?_)
      refine Ow_nil ?_
      refine Pu7 ?_
      refine Pu7 ?_
      refine Pu7 ?_
      refine Pu5 ?_
      refine Pu5 ?_
      refine Pu5 ?_
      refine Re6 ?_
      refine Re6 ?_
      refine Shift.done ?_
      exact ⟨_, by exact ⟨rfl, rfl, rfl, rfl, trivial⟩, 7, (-1), 0, false, (x417.buffer.length : Int), v193, x190.desk.chans, rs194, v195, x190.desk.waiting, rs196, v197, x190.done, rs198, rfl, rfl, H, hs199, hs200, hs201⟩
     ·intro h416
      have h416 := dcd_f (h416)
      have H := iff_ h416 H
      refine Cw_skip ?_
      refine Pu7 ?_
      refine Pu7 ?_
      refine Pu7 ?_
      refine Pu5 ?_
      refine Pu5 ?_
      refine Pu5 ?_
      refine Re6 ?_
      refine Re6 ?_
      refine Shift.done ?_
      exact ⟨_, by exact ⟨rfl, rfl, rfl, rfl, trivial⟩, 7, (-1), 0, false, x409.capacity, v193, x190.desk.chans, rs194, v195, x190.desk.waiting, rs196, v197, x190.done, rs198, rfl, rfl, H, hs199, hs200, hs201⟩
    ·intro h408
     have H := iff_ (btf h408) H
     refine Cw_skip ?_
     refine Pu7 ?_
     refine Pu7 ?_
     refine Pu7 ?_
     refine Pu5 ?_
     refine Pu5 ?_
     refine Pu5 ?_
     refine Re6 ?_
     refine Re6 ?_
     refine Shift.done ?_
     exact ⟨_, by exact ⟨rfl, rfl, rfl, rfl, trivial⟩, 7, (-1), 0, false, 0, v193, x190.desk.chans, rs194, v195, x190.desk.waiting, rs196, v197, x190.done, rs198, rfl, rfl, H, hs199, hs200, hs201⟩
   ·intro h405
    have H := iff_ (btf h405) H
    refine Cw_seq ?_
    refine Cw_region ?_
    refine Ow_q rfl rfl rfl (Qt_loadA (m := 3) (cs := (Desk.cells p0 vp0_chans vp0_waiting)) rfl rfl rfl rfl ⟨rfl, Rdc.blk (.tail _ (.tail _ (.tail _ (.tail _ (.head _))))) rfl⟩) ?_
    refine Ow_q rfl rfl rfl (Qt_move rfl) ?_
    refine Ow_q rfl rfl rfl (Qt_loadA (m := 7) (cs := (Op.cells p2 vp2_cases vp2_draws)) rfl rfl rfl rfl ⟨rfl, Rdc.blk (.tail _ (.tail _ (.tail _ (.head _)))) rfl⟩) ?_
    obtain ⟨x424, hx425, H⟩ := bnd H
    refine Ow_cons rfl (OpW_call rfl Try.call18 rfl rfl (c_M_89z p0 vp0_chans vp0_waiting p1 p2 vp2_cases vp2_draws x424 hx425 _ _ hp0_chans hp0_waiting hp2_cases hp2_draws) ?_)
    rintro _ K426 _ hK427 ⟨rfl, rfl⟩
    refine Ow_q rfl rfl rfl (Qt_assign rfl) ?_
    refine Ow_nil ?_
    refine Cw_join (fun env' K' G' => ∃ (i445 : Int), [(1, (.int .i64 p1)), (3, (.pointer (some ((⟨b187, 0, none⟩ : Addr).add 0)))), (5, (.pointer (some ((⟨b188, 0, none⟩ : Addr).add 0)))), (6, (.pointer (some ((⟨b189, 0, none⟩ : Addr).add 0)))), (9, (.pointer (some ((⟨b192, 0, none⟩ : Addr).add 0)))), (10, (.pointer (some ((⟨b202, 0, none⟩ : Addr).add 0)))), (11, (.int .i64 i445))] = env' ∧ (.blk b202 73 (Result.cells (Result.mk 0 (-1) 0 false 0))) :: (.blk b192 92 (Desk_work.cells x190 v193 v195 v197)) :: (.blk b189 34 (Desk.cells (Desk.mk [] [] 0) nilS nilS)) :: (.blk b188 41 (Op.cells p2 vp2_cases vp2_draws)) :: (.blk b187 34 (Desk.cells p0 vp0_chans vp0_waiting)) :: (.row (sv v193) 71 3 rs194.flatten) :: (.row (sv v195) 52 8 rs196.flatten) :: (.row (sv v197) 75 6 rs198.flatten) :: G = G' ∧ M_46z p1 x190 p2 p0 i445 = some (y0, y1, y2)) ?_ ?_
    ·skip
     refine Cw_seq ?_
     refine Cw_region ?_
     refine Ow_q rfl rfl rfl (Qt_loadA (m := 7) (cs := (Op.cells p2 vp2_cases vp2_draws)) rfl rfl rfl rfl ⟨rfl, Rdc.blk (.tail _ (.tail _ (.tail _ (.head _)))) rfl⟩) ?_
     obtain ⟨x446, x447, hx448, H⟩ := bnd2 H
     have hs449 := (hp2_cases).mono hK427
     have hs450 := (hp2_draws).mono hK427
     refine Ow_cons rfl (OpW_call rfl Try.call47 rfl rfl (c_M_7z p2 vp2_cases vp2_draws x446 x447 hx448 _ _ hs449 hs450) ?_)
     rintro _ _ _ - ⟨rfl, rfl, rfl⟩
     refine Ow_q rfl rfl rfl (Qt_move rfl) ?_
     refine Ow_q rfl rfl rfl (Qt_extract rfl rfl) ?_
     refine Ow_q rfl rfl rfl (Qt_extract rfl rfl) ?_
     refine Ow_cons rfl (OpW_alloc (cs := (Case.cells (Case.mk false 0 0))) rfl rfl rfl rfl (fun b451 => ?_))
     refine Ow_cons rfl (OpW_store (vs := (Case.cells x446)) (all' := (Case.cells x446)) rfl rfl rfl rfl rfl .here rfl rfl rfl ?_)
     refine Ow_q rfl rfl rfl (Qt_assign rfl) ?_
     refine Ow_nil ?_
     refine Cw_join (fun env' K' G' => ∃ (t459 : Bool), [(1, (.int .i64 p1)), (3, (.pointer (some ((⟨b187, 0, none⟩ : Addr).add 0)))), (5, (.pointer (some ((⟨b188, 0, none⟩ : Addr).add 0)))), (6, (.pointer (some ((⟨b189, 0, none⟩ : Addr).add 0)))), (9, (.pointer (some ((⟨b192, 0, none⟩ : Addr).add 0)))), (10, (.pointer (some ((⟨b202, 0, none⟩ : Addr).add 0)))), (11, (.int .i64 x424)), (34, (.bool t459))] = env' ∧ (.blk b202 73 (Result.cells (Result.mk 0 (-1) 0 false 0))) :: (.blk b192 92 (Desk_work.cells x190 v193 v195 v197)) :: (.blk b189 34 (Desk.cells (Desk.mk [] [] 0) nilS nilS)) :: (.blk b188 41 (Op.cells p2 vp2_cases vp2_draws)) :: (.blk b187 34 (Desk.cells p0 vp0_chans vp0_waiting)) :: (.row (sv v193) 71 3 rs194.flatten) :: (.row (sv v195) 52 8 rs196.flatten) :: (.row (sv v197) 75 6 rs198.flatten) :: G = G' ∧ M_47z p1 x424 x190 p2 p0 t459 = some (y0, y1, y2)) ?_ ?_
     ·skip
      refine Cw_region ?_
      refine Ow_q rfl rfl rfl (Qt_move rfl) ?_
      refine Ow_q rfl rfl rfl (Qt_move rfl) ?_
      refine Ow_caseG rfl rfl rfl ?_ ?_
      ·intro h460
       have H := ift h460 H
       refine Ow_qw rfl rfl rfl rfl rfl rfl (Qt_loadA (m := 3) (cs := (Desk.cells p0 vp0_chans vp0_waiting)) rfl rfl rfl rfl ⟨rfl, Rdc.blk (.tail _ (.tail _ (.tail _ (.tail _ (.tail _ (.head _)))))) rfl⟩) ?_
       refine Ow_qw rfl rfl rfl rfl rfl rfl (Qt_move rfl) ?_
       refine Ow_qw rfl rfl rfl rfl rfl rfl (Qt_loadA (m := 3) (cs := (Case.cells x446)) rfl rfl rfl rfl ⟨rfl, Rdc.blk (.head _) rfl⟩) ?_
       obtain ⟨x461, hx462, H⟩ := bnd H
       have hs463 := (hp0_chans).mono hK427
       have hs464 := (hp0_waiting).mono hK427
       refine Ow_want rfl rfl rfl rfl (OpW_call rfl Try.call16 rfl rfl (c_M_40z p0 vp0_chans vp0_waiting p1 x446 x461 hx462 _ _ hs463 hs464) ?_)
       rintro _ K465 _ hK466 ⟨rfl, rfl⟩
       refine Ow_q rfl rfl rfl (Qt_pick_t rfl rfl) ?_
       refine Ow_nil ?_
       refine Pu8 ?_
       refine Pu8 ?_
       refine Pu8 ?_
       refine Pu8 ?_
       refine Pu8 ?_
       refine Pu8 ?_
       refine Pu8 ?_
       refine Pu8 ?_
       refine Re8 ?_
       refine Shift.done ?_
       exact ⟨_, by exact ⟨rfl, rfl, rfl, rfl, rfl, rfl, rfl, rfl, trivial⟩, x461, rfl, rfl, H⟩
      ·intro h460
       have H := iff_ (btf h460) H
       refine Ow_pass rfl rfl rfl rfl rfl rfl rfl ?_
       refine Ow_pass rfl rfl rfl rfl rfl rfl rfl ?_
       refine Ow_pass rfl rfl rfl rfl rfl rfl rfl ?_
       refine Ow_pass rfl rfl rfl rfl rfl rfl rfl ?_
       refine Ow_q rfl rfl rfl (Qt_pick_f rfl rfl) ?_
       refine Ow_nil ?_
       refine Pu8 ?_
       refine Pu8 ?_
       refine Pu8 ?_
       refine Pu8 ?_
       refine Pu8 ?_
       refine Pu8 ?_
       refine Pu8 ?_
       refine Pu8 ?_
       refine Re8 ?_
       refine Shift.done ?_
       exact ⟨_, by exact ⟨rfl, rfl, rfl, rfl, rfl, rfl, rfl, rfl, trivial⟩, false, rfl, rfl, H⟩
     rintro _ K467 _ hK468 ⟨t459, rfl, rfl, H⟩
     unfold M_47z at H
     refine Cw_cond rfl ?_ ?_
     ·intro h469
      have H := ift h469 H
      refine Cw_region ?_
      refine Ow_q rfl rfl rfl (Qt_assign rfl) ?_
      refine Ow_nil ?_
      refine Pu7 ?_
      refine Pu7 ?_
      refine Pu7 ?_
      refine Pu7 ?_
      refine Pu7 ?_
      refine Pu7 ?_
      refine Pu7 ?_
      refine Pu7 ?_
      refine Shift.done ?_
      exact ⟨_, by exact ⟨rfl, rfl, rfl, rfl, rfl, rfl, rfl, trivial⟩, 0, rfl, rfl, H⟩
     ·intro h469
      have H := iff_ (btf h469) H
      refine Cw_skip ?_
      refine Pu7 ?_
      refine Pu7 ?_
      refine Pu7 ?_
      refine Pu7 ?_
      refine Pu7 ?_
      refine Pu7 ?_
      refine Pu7 ?_
      refine Pu7 ?_
      refine Shift.done ?_
      exact ⟨_, by exact ⟨rfl, rfl, rfl, rfl, rfl, rfl, rfl, trivial⟩, x424, rfl, rfl, H⟩
    rintro _ K470 _ hK471 ⟨i445, rfl, rfl, H⟩
    unfold M_46z at H
    refine Cw_block ?_
    refine Cw_seq ?_
    refine Cw_region ?_
    refine Ow_q rfl rfl rfl (Qt_move rfl) ?_
    refine Ow_q rfl rfl rfl (Qt_cmp rfl rfl rfl) ?_
    refine Ow_q rfl rfl rfl (Qt_assign rfl) ?_
    refine Ow_nil ?_
    refine Cw_cond rfl ?_ ?_
    ·intro h472
     have h472 := dcd_t (h472)
     have H := ift h472 H
     refine Cw_seq ?_
     refine Cw_region ?_
     refine Ow_q rfl rfl rfl (Qt_move rfl) ?_
     refine Ow_q rfl rfl rfl (Qt_move rfl) ?_
     refine Ow_q rfl rfl rfl (Qt_loadA (m := 7) (cs := (Op.cells p2 vp2_cases vp2_draws)) rfl rfl rfl rfl ⟨rfl, Rdc.blk (.tail _ (.tail _ (.tail _ (.head _)))) rfl⟩) ?_
     obtain ⟨x473, hx474, H⟩ := bnd H
     have hs475 := ((hp2_cases).mono hK427).mono hK471
     have hs476 := ((hp2_draws).mono hK427).mono hK471
     refine Ow_cons rfl (OpW_call rfl Try.call49 rfl rfl (c_M_21z p2 vp2_cases vp2_draws x473 hx474 _ _ hs475 hs476) ?_)
     rintro _ K478 _ hK479 ⟨v477, rfl, rfl, hs480⟩
     refine Ow_q rfl rfl rfl (Qt_move rfl) ?_
     obtain ⟨x481, hx482, H⟩ := bnd H
     obtain ⟨r483, hr484, hk485⟩ := Slr.at hs480 hx482
     obtain rfl := hr484
     refine Ow_q rfl rfl rfl (Q_ix (T := TyCase) hs480 hx482 rfl rfl rfl rfl rfl) ?_
     refine Ow_q rfl rfl rfl (Qt_loadA (m := 3) (cs := (Case.cells x481)) rfl rfl rfl rfl ⟨rfl, Rdc.k hk485 rfl⟩) ?_
     obtain ⟨x486, x487, x488, x489, hx490, H⟩ := bnd4 H
     refine Ow.shift (Pu7 (Shift.done ?_))
     refine Ow.shift (Pu7 (Shift.done ?_))
     refine Ow.shift (Pu7 (Shift.done ?_))
     refine Ow.shift (Pu4 (Shift.done ?_))
     have hs491 := (((hs199).mono hK427).mono hK471).mono hK479
     have hs492 := (((hs200).mono hK427).mono hK471).mono hK479
     have hs493 := (((hs201).mono hK427).mono hK471).mono hK479
     refine Ow_cons rfl (OpW_call rfl Try.call48 rfl rfl (c_M_11z b192 x190 v193 rs194 v195 rs196 v197 rs198 p1 x481 x486 x487 x488 x489 hx490 _ _ hs491 hs492 hs493) ?_)
     rintro _ K500 _ hK501 ⟨v494, rs495, v496, rs497, v498, rs499, rfl, rfl, hs502, hs503, hs504⟩
     refine Ow_cons rfl (OpW_store (vs := (Result.cells x486)) (all' := (Result.cells x486)) rfl rfl rfl rfl rfl (.there (.there (.there (.there .here)))) rfl rfl rfl ?_)
     refine Ow_nil ?_
     refine Cw_region ?_
     refine Ow_q rfl rfl rfl (Qt_loadA (m := 7) (cs := (Op.cells p2 vp2_cases vp2_draws)) rfl rfl rfl rfl ⟨rfl, Rdc.blk (.tail _ (.tail _ (.tail _ (.tail _ (.tail _ (.tail _ (.head _))))))) rfl⟩) ?_
     refine Ow_q rfl rfl rfl (Qt_move rfl) ?_
     obtain ⟨x505, hx506, H⟩ := bnd H
     have hs507 := ((hs475).mono hK479).mono hK501
     have hs508 := ((hs476).mono hK479).mono hK501
     refine Ow_cons rfl (OpW_call rfl Try.call50 rfl rfl (c_M_37z p2 vp2_cases vp2_draws i445 x505 hx506 _ _ hs507 hs508) ?_)
     rintro _ _ _ - ⟨rfl, rfl, rfl⟩
     refine Ow_q rfl rfl rfl (Qt_fieldAddr (m := 1) rfl rfl rfl rfl rfl) ?_
     refine Ow_cons rfl (OpW_store (vs := [(.int .i64 x505)]) (all' := (Result.cells (Result.mk x486.kind x505 x486.value x486.ok x486.number))) rfl rfl rfl rfl rfl (.there (.there (.there (.there .here)))) rfl rfl rfl ?_)
     refine Ow_nil ?_
     refine Pu3 ?_
     refine Pu3 ?_
     refine Pu3 ?_
     refine Pu5 ?_
     refine Pu4 ?_
     refine Pu5 ?_
     refine Re6 ?_
     refine Re6 ?_
     refine Shift.done ?_
     exact ⟨_, by exact ⟨rfl, rfl, rfl, rfl, trivial⟩, x486.kind, x505, x486.value, x486.ok, x486.number, v494, x487, rs495, v496, x488, rs497, v498, x489, rs499, rfl, rfl, H, hs502, hs503, hs504⟩
    ·intro h472
     have h472 := dcd_f (h472)
     have H := iff_ h472 H
     refine Cw_seq ?_
     refine Cw_region ?_
     refine Ow_q rfl rfl rfl (Qt_fieldAddr (m := 1) rfl rfl rfl rfl rfl) ?_
     refine Ow_q rfl rfl rfl (Qt_load1 (v := (.int .i64 p2.mode)) rfl rfl rfl (Rdc.blk (.tail _ (.tail _ (.tail _ (.head _)))) rfl)) ?_
     refine Ow_q rfl rfl rfl (Qt_cmp rfl rfl rfl) ?_
     refine Ow_q rfl rfl rfl (Qt_assign rfl) ?_
     refine Ow_nil ?_
     refine Cw_cond rfl ?_ ?_
     ·intro h509
      have h509 := dcd_t (h509)
      have H := ift h509 H
      refine Cw_region ?_
      refine Ow_q rfl rfl rfl (Qt_fieldAddr (m := 0) rfl rfl rfl rfl rfl) ?_
      refine Ow_cons rfl (OpW_store (vs := [(.int .i64 3)]) (all' := (Result.cells (Result.mk 3 (-1) 0 false 0))) rfl rfl rfl rfl rfl .here rfl rfl rfl ?_)
      refine Ow_nil ?_
      refine Pu7 ?_
      refine Pu7 ?_
      refine Pu7 ?_
      refine Pu5 ?_
      refine Pu5 ?_
      refine Pu5 ?_
      refine Re6 ?_
      refine Re6 ?_
      have hs510 := ((hs199).mono hK427).mono hK471
      have hs511 := ((hs200).mono hK427).mono hK471
      have hs512 := ((hs201).mono hK427).mono hK471
      refine Shift.done ?_
      exact ⟨_, by exact ⟨rfl, rfl, rfl, rfl, trivial⟩, 3, (-1), 0, false, 0, v193, x190.desk.chans, rs194, v195, x190.desk.waiting, rs196, v197, x190.done, rs198, rfl, rfl, H, hs510, hs511, hs512⟩
     ·intro h509
      have h509 := dcd_f (h509)
      have H := iff_ h509 H
      refine Cw_join (fun env' K' G' => ∃ (t514 : Bool), [(1, (.int .i64 p1)), (5, (.pointer (some ((⟨b188, 0, none⟩ : Addr).add 0)))), (6, (.pointer (some ((⟨b189, 0, none⟩ : Addr).add 0)))), (9, (.pointer (some ((⟨b192, 0, none⟩ : Addr).add 0)))), (10, (.pointer (some ((⟨b202, 0, none⟩ : Addr).add 0)))), (73, (.bool t514))] = env' ∧ K470 = K' ∧ (.blk b202 73 (Result.cells (Result.mk 0 (-1) 0 false 0))) :: (.blk b192 92 (Desk_work.cells x190 v193 v195 v197)) :: (.blk b189 34 (Desk.cells (Desk.mk [] [] 0) nilS nilS)) :: (.blk b188 41 (Op.cells p2 vp2_cases vp2_draws)) :: (.row (sv v193) 71 3 rs194.flatten) :: (.row (sv v195) 52 8 rs196.flatten) :: (.row (sv v197) 75 6 rs198.flatten) :: G = G' ∧ M_45z p1 x190 p2 t514 = some (y0, y1, y2)) ?_ ?_
      ·skip
       refine Cw_region ?_
       refine Ow_q rfl rfl rfl (Qt_fieldAddr (m := 1) rfl rfl rfl rfl rfl) ?_
       refine Ow_q rfl rfl rfl (Qt_load1 (v := (.int .i64 p2.mode)) rfl rfl rfl (Rdc.blk (.tail _ (.tail _ (.tail _ (.head _)))) rfl)) ?_
       refine Ow_q rfl rfl rfl (Qt_cmp rfl rfl rfl) ?_
       refine Ow_q rfl rfl rfl (Qt_move rfl) ?_
       refine Ow_caseG rfl rfl rfl ?_ ?_
       ·intro h515
        have h515 := dcd_t (h515)
        have H := ift h515 H
        refine Ow_qw rfl rfl rfl rfl rfl rfl (Qt_fieldAddr (m := 4) rfl rfl rfl rfl rfl) ?_
        refine Ow_qw rfl rfl rfl rfl rfl rfl (Qt_load1 (v := (.int .i64 p2.deadline)) rfl rfl rfl (Rdc.blk (.tail _ (.tail _ (.tail _ (.head _)))) rfl)) ?_
        refine Ow_qw rfl rfl rfl rfl rfl rfl (Qt_fieldAddr (m := 2) rfl rfl rfl rfl rfl) ?_
        refine Ow_qw rfl rfl rfl rfl rfl rfl (Qt_load1 (v := (.int .i64 p0.tick)) rfl rfl rfl (Rdc.blk (.tail _ (.tail _ (.tail _ (.tail _ (.head _))))) rfl)) ?_
        refine Ow_qw rfl rfl rfl rfl rfl rfl (Qt_cmp rfl rfl rfl) ?_
        refine Ow_q rfl rfl rfl (Qt_pick_t rfl rfl) ?_
        refine Ow_q rfl rfl rfl (Qt_assign rfl) ?_
        refine Ow_nil ?_
        refine Pu7 ?_
        refine Pu7 ?_
        refine Pu7 ?_
        refine Pu6 ?_
        refine Pu6 ?_
        refine Pu6 ?_
        refine Pu6 ?_
        refine Re7 ?_
        refine Shift.done ?_
        exact ⟨_, by exact ⟨rfl, rfl, rfl, rfl, rfl, rfl, trivial⟩, (dcd (p2.deadline ≤ p0.tick)), rfl, rfl, rfl, H⟩
       ·intro h515
        have h515 := dcd_f (h515)
        have H := iff_ h515 H
        refine Ow_pass rfl rfl rfl rfl rfl rfl rfl ?_
        refine Ow_pass rfl rfl rfl rfl rfl rfl rfl ?_
        refine Ow_pass rfl rfl rfl rfl rfl rfl rfl ?_
        refine Ow_pass rfl rfl rfl rfl rfl rfl rfl ?_
        refine Ow_pass rfl rfl rfl rfl rfl rfl rfl ?_
        refine Ow_q rfl rfl rfl (Qt_pick_f rfl rfl) ?_
        refine Ow_q rfl rfl rfl (Qt_assign rfl) ?_
        refine Ow_nil ?_
        refine Pu7 ?_
        refine Pu7 ?_
        refine Pu7 ?_
        refine Pu6 ?_
        refine Pu6 ?_
        refine Pu6 ?_
        refine Pu6 ?_
        refine Re7 ?_
        refine Shift.done ?_
        exact ⟨_, by exact ⟨rfl, rfl, rfl, rfl, rfl, rfl, trivial⟩, false, rfl, rfl, rfl, H⟩
      rintro _ _ _ - ⟨t514, rfl, rfl, rfl, H⟩
      unfold M_45z at H
      refine Cw_cond rfl ?_ ?_
      ·intro h516
       have H := ift h516 H
       refine Cw_region ?_
       refine Ow_q rfl rfl rfl (Qt_fieldAddr (m := 0) rfl rfl rfl rfl rfl) ?_
       refine Ow_cons rfl (OpW_store (vs := [(.int .i64 4)]) (all' := (Result.cells (Result.mk 4 (-1) 0 false 0))) rfl rfl rfl rfl rfl .here rfl rfl rfl ?_)
       refine Ow_nil ?_
       refine Pu6 ?_
       refine Pu6 ?_
       refine Pu6 ?_
       refine Pu5 ?_
       refine Pu5 ?_
       refine Pu5 ?_
       refine Re6 ?_
       have hs517 := ((hs199).mono hK427).mono hK471
       have hs518 := ((hs200).mono hK427).mono hK471
       have hs519 := ((hs201).mono hK427).mono hK471
       refine Shift.done ?_
       exact ⟨_, by exact ⟨rfl, rfl, rfl, rfl, trivial⟩, 4, (-1), 0, false, 0, v193, x190.desk.chans, rs194, v195, x190.desk.waiting, rs196, v197, x190.done, rs198, rfl, rfl, H, hs517, hs518, hs519⟩
      ·intro h516
       have H := iff_ (btf h516) H
       refine Cw_join (fun env' K' G' => ∃ (v546 : SV) (l547 : List Waiter) (rs549 : List (List Value)), [(6, (.pointer (some ((⟨b189, 0, none⟩ : Addr).add 0)))), (9, (.pointer (some ((⟨b192, 0, none⟩ : Addr).add 0))))] = env' ∧ K470 = K' ∧ (.blk b192 92 (Desk_work.cells (Desk_work.mk (Desk.mk x190.desk.chans l547 x190.desk.tick) x190.done) v193 v546 v197)) :: (.blk b189 34 (Desk.cells (Desk.mk [] [] 0) nilS nilS)) :: (.row (sv v546) 52 8 rs549.flatten) :: (.row (sv v193) 71 3 rs194.flatten) :: (.row (sv v197) 75 6 rs198.flatten) :: G = G' ∧ M_193z x190 l547 = some (y0, y1, y2) ∧ RowR TyWaiter K' rs549 l547) ?_ ?_
       ·skip
        obtain ⟨x554, hx555, H⟩ := bnd H
        refine Cw_region_any [.blk b202 73 (Result.cells (Result.mk 0 (-1) 0 false 0)), .blk b189 34 (Desk.cells (Desk.mk [] [] 0) nilS nilS), .blk b188 41 (Op.cells p2 vp2_cases vp2_draws), .row (sv v193) 71 3 rs194.flatten, .row (sv v197) 75 6 rs198.flatten] rfl (Inc.cons (.head _) (Inc.cons (.tail _ (.tail _ (.head _))) (Inc.cons (.tail _ (.tail _ (.tail _ (.head _)))) (Inc.cons (.tail _ (.tail _ (.tail _ (.tail _ (.head _))))) (Inc.cons (.tail _ (.tail _ (.tail _ (.tail _ (.tail _ (.tail _ (.head _))))))) Inc.nil))))) ?_
        refine Awq 0 rfl (by kernel_rfl) rfl rfl rfl (Qt_move rfl) ?_
        refine Awq 1 rfl (by kernel_rfl) rfl rfl rfl (Qt_move rfl) ?_
        refine Awq 2 rfl (by kernel_rfl) rfl rfl rfl (Qt_nilCheck rfl) ?_
        refine Awq 3 rfl (by kernel_rfl) rfl rfl rfl (Qt_fieldAddr (m := 0) rfl rfl rfl rfl rfl) ?_
        refine Awq 4 rfl (by kernel_rfl) rfl rfl rfl (Qt_fieldAddr (m := 1) rfl rfl rfl rfl rfl) ?_
        refine Awq 6 rfl (by kernel_rfl) rfl rfl rfl (Qt_move rfl) ?_
        refine Awq 7 rfl (by kernel_rfl) rfl rfl rfl (Qt_loadA (m := 7) (cs := (Op.cells p2 vp2_cases vp2_draws)) rfl rfl rfl rfl ⟨rfl, Rdc.blk (.tail _ (.tail _ (.head _))) rfl⟩) ?_
        refine Awq 8 rfl (by kernel_rfl) rfl rfl rfl (Qt_build (cs := (Waiter.cells (Waiter.mk p1 p2) vp2_cases vp2_draws)) rfl rfl rfl rfl rfl rfl) ?_
        refine Aw_two 5 9 (by kernel_rfl) ?_ ?_
        ·skip
         refine id (Ax_mk rfl rfl (OpW_of_Qt rfl rfl (Qt_load1 (v := (sv v195)) rfl rfl rfl (Rdc.blk (.tail _ (.head _)) rfl)) ⟨(Inc.cons (.head _) (Inc.cons (.tail _ (.tail _ (.head _))) (Inc.cons (.tail _ (.tail _ (.tail _ (.head _)))) (Inc.cons (.tail _ (.tail _ (.tail _ (.tail _ (.head _))))) (Inc.cons (.tail _ (.tail _ (.tail _ (.tail _ (.tail _ (.tail _ (.head _))))))) Inc.nil))))), ?_⟩))
         refine Aw_one 9 (by kernel_rfl) (Ax_mk rfl rfl ?_)
         have hs562 := ((hp2_cases).mono hK427).mono hK471
         have hs563 := ((hp2_draws).mono hK427).mono hK471
         have hR561 : RowR TyWaiter K470 [(Waiter.cells (Waiter.mk p1 p2) vp2_cases vp2_draws)] [(Waiter.mk p1 p2)] := RowR.cons ⟨vp2_cases, vp2_draws, rfl, hs562, hs563⟩ (RowR.nil)
         refine O_lit (T := TyWaiter) (rows := [(Waiter.cells (Waiter.mk p1 p2) vp2_cases vp2_draws)]) (l := [(Waiter.mk p1 p2)]) rfl rfl rfl hR561 rfl rfl rfl rfl rfl rfl rfl rfl (fun v560 => ⟨(Inc.cons (.tail _ (.head _)) (Inc.cons (.tail _ (.tail _ (.tail _ (.head _)))) (Inc.cons (.tail _ (.tail _ (.tail _ (.tail _ (.head _))))) (Inc.cons (.tail _ (.tail _ (.tail _ (.tail _ (.tail _ (.head _)))))) (Inc.cons (.tail _ (.tail _ (.tail _ (.tail _ (.tail _ (.tail _ (.tail _ (.head _)))))))) Inc.nil))))), ?_⟩)
         refine Aw_one 10 (by kernel_rfl) (Ax_mk rfl rfl ?_)
         have hs567 := ((hs200).mono hK427).mono hK471
         refine O_appRow (T := TyWaiter) (bytes := 96) rfl rfl rfl (.tail _ (.tail _ (.tail _ (.tail _ (.tail _ (.tail _ (.head _))))))) hs567 (SrcT.row (.head _) hR561 rfl) hx555 rfl rfl rfl rfl rfl rfl rfl rfl (fun v564 rs565 hR566 => ⟨_, (.there (.there (.there (.there (.there (.there .here)))))), ⟨(Inc.cons (.tail _ (.head _)) (Inc.cons (.tail _ (.tail _ (.tail _ (.head _)))) (Inc.cons (.tail _ (.tail _ (.tail _ (.tail _ (.head _))))) (Inc.cons (.tail _ (.tail _ (.tail _ (.tail _ (.tail _ (.head _)))))) (Inc.cons (.tail _ (.tail _ (.tail _ (.tail _ (.tail _ (.tail _ (.tail _ (.head _)))))))) Inc.nil))))), ?_⟩⟩)
         refine Aw.shift (Re0 (Shift.done ⟨(Inc.cons (.head _) (Inc.cons (.tail _ (.tail _ (.head _))) (Inc.cons (.tail _ (.tail _ (.tail _ (.head _)))) (Inc.cons (.tail _ (.tail _ (.tail _ (.tail _ (.head _))))) (Inc.cons (.tail _ (.tail _ (.tail _ (.tail _ (.tail _ (.tail _ (.head _))))))) Inc.nil))))), ?_⟩))
         refine Awq 11 rfl (by kernel_rfl) rfl rfl rfl (Qt_nilCheck rfl) ?_
         refine Awq 12 rfl (by kernel_rfl) rfl rfl rfl (Qt_fieldAddr (m := 0) rfl rfl rfl rfl rfl) ?_
         refine Awq 13 rfl (by kernel_rfl) rfl rfl rfl (Qt_fieldAddr (m := 1) rfl rfl rfl rfl rfl) ?_
         refine Aw_one 14 (by kernel_rfl) (Ax_mk rfl rfl ?_)
         refine OpW_store (vs := [(sv v564)]) (all' := (Desk_work.cells (Desk_work.mk (Desk.mk x190.desk.chans x554 x190.desk.tick) x190.done) v193 v564 v197)) rfl rfl rfl rfl rfl (.there .here) rfl rfl rfl ⟨(Inc.cons (.head _) (Inc.cons (.tail _ (.tail _ (.head _))) (Inc.cons (.tail _ (.tail _ (.tail _ (.head _)))) (Inc.cons (.tail _ (.tail _ (.tail _ (.tail _ (.head _))))) (Inc.cons (.tail _ (.tail _ (.tail _ (.tail _ (.tail _ (.tail _ (.head _))))))) Inc.nil))))), ?_⟩
         refine Aw_done (by kernel_rfl) ?_
         refine Pu6 ?_
         refine Pu5 ?_
         refine Pu6 ?_
         refine Pu5 ?_
         refine Pu5 ?_
         refine Re5 ?_
         refine Re5 ?_
         refine Shift.done ?_
         exact ⟨_, by exact ⟨rfl, rfl, trivial⟩, v564, x554, rs565, rfl, rfl, rfl, H, hR566⟩
        ·skip
         refine id (Ax_mk rfl rfl ?_)
         have hs570 := ((hp2_cases).mono hK427).mono hK471
         have hs571 := ((hp2_draws).mono hK427).mono hK471
         have hR569 : RowR TyWaiter K470 [(Waiter.cells (Waiter.mk p1 p2) vp2_cases vp2_draws)] [(Waiter.mk p1 p2)] := RowR.cons ⟨vp2_cases, vp2_draws, rfl, hs570, hs571⟩ (RowR.nil)
         refine O_lit (T := TyWaiter) (rows := [(Waiter.cells (Waiter.mk p1 p2) vp2_cases vp2_draws)]) (l := [(Waiter.mk p1 p2)]) rfl rfl rfl hR569 rfl rfl rfl rfl rfl rfl rfl rfl (fun v568 => ⟨(Inc.cons (.tail _ (.head _)) (Inc.cons (.tail _ (.tail _ (.tail _ (.head _)))) (Inc.cons (.tail _ (.tail _ (.tail _ (.tail _ (.head _))))) (Inc.cons (.tail _ (.tail _ (.tail _ (.tail _ (.tail _ (.head _)))))) (Inc.cons (.tail _ (.tail _ (.tail _ (.tail _ (.tail _ (.tail _ (.tail _ (.head _)))))))) Inc.nil))))), ?_⟩)
         refine Aw_one 5 (by kernel_rfl) (Ax_mk rfl rfl (OpW_of_Qt rfl rfl (Qt_load1 (v := (sv v195)) rfl rfl rfl (Rdc.blk (.tail _ (.tail _ (.head _))) rfl)) ⟨(Inc.cons (.tail _ (.head _)) (Inc.cons (.tail _ (.tail _ (.tail _ (.head _)))) (Inc.cons (.tail _ (.tail _ (.tail _ (.tail _ (.head _))))) (Inc.cons (.tail _ (.tail _ (.tail _ (.tail _ (.tail _ (.head _)))))) (Inc.cons (.tail _ (.tail _ (.tail _ (.tail _ (.tail _ (.tail _ (.tail _ (.head _)))))))) Inc.nil))))), ?_⟩))
         refine Aw_one 10 (by kernel_rfl) (Ax_mk rfl rfl ?_)
         have hs575 := ((hs200).mono hK427).mono hK471
         refine O_appRow (T := TyWaiter) (bytes := 96) rfl rfl rfl (.tail _ (.tail _ (.tail _ (.tail _ (.tail _ (.tail _ (.head _))))))) hs575 (SrcT.row (.head _) hR569 rfl) hx555 rfl rfl rfl rfl rfl rfl rfl rfl (fun v572 rs573 hR574 => ⟨_, (.there (.there (.there (.there (.there (.there .here)))))), ⟨(Inc.cons (.tail _ (.head _)) (Inc.cons (.tail _ (.tail _ (.tail _ (.head _)))) (Inc.cons (.tail _ (.tail _ (.tail _ (.tail _ (.head _))))) (Inc.cons (.tail _ (.tail _ (.tail _ (.tail _ (.tail _ (.head _)))))) (Inc.cons (.tail _ (.tail _ (.tail _ (.tail _ (.tail _ (.tail _ (.tail _ (.head _)))))))) Inc.nil))))), ?_⟩⟩)
         refine Aw.shift (Re0 (Shift.done ⟨(Inc.cons (.head _) (Inc.cons (.tail _ (.tail _ (.head _))) (Inc.cons (.tail _ (.tail _ (.tail _ (.head _)))) (Inc.cons (.tail _ (.tail _ (.tail _ (.tail _ (.head _))))) (Inc.cons (.tail _ (.tail _ (.tail _ (.tail _ (.tail _ (.tail _ (.head _))))))) Inc.nil))))), ?_⟩))
         refine Awq 11 rfl (by kernel_rfl) rfl rfl rfl (Qt_nilCheck rfl) ?_
         refine Awq 12 rfl (by kernel_rfl) rfl rfl rfl (Qt_fieldAddr (m := 0) rfl rfl rfl rfl rfl) ?_
         refine Awq 13 rfl (by kernel_rfl) rfl rfl rfl (Qt_fieldAddr (m := 1) rfl rfl rfl rfl rfl) ?_
         refine Aw_one 14 (by kernel_rfl) (Ax_mk rfl rfl ?_)
         refine OpW_store (vs := [(sv v572)]) (all' := (Desk_work.cells (Desk_work.mk (Desk.mk x190.desk.chans x554 x190.desk.tick) x190.done) v193 v572 v197)) rfl rfl rfl rfl rfl (.there .here) rfl rfl rfl ⟨(Inc.cons (.head _) (Inc.cons (.tail _ (.tail _ (.head _))) (Inc.cons (.tail _ (.tail _ (.tail _ (.head _)))) (Inc.cons (.tail _ (.tail _ (.tail _ (.tail _ (.head _))))) (Inc.cons (.tail _ (.tail _ (.tail _ (.tail _ (.tail _ (.tail _ (.head _))))))) Inc.nil))))), ?_⟩
         refine Aw_done (by kernel_rfl) ?_
         refine Pu6 ?_
         refine Pu5 ?_
         refine Pu6 ?_
         refine Pu5 ?_
         refine Pu5 ?_
         refine Re5 ?_
         refine Re5 ?_
         refine Shift.done ?_
         exact ⟨_, by exact ⟨rfl, rfl, trivial⟩, v572, x554, rs573, rfl, rfl, rfl, H, hR574⟩
       rintro _ _ _ - ⟨v546, l547, rs549, rfl, rfl, rfl, H, hR548⟩
       unfold M_193z at H
       refine Cw_seq ?_
       refine Cw_region ?_
       refine Ow_q rfl rfl rfl (Qt_move rfl) ?_
       refine Ow_q rfl rfl rfl (Qt_nilCheck rfl) ?_
       refine Ow_q rfl rfl rfl (Qt_fieldAddr (m := 0) rfl rfl rfl rfl rfl) ?_
       refine Ow_q rfl rfl rfl (Qt_loadA (m := 3) (cs := (Desk.cells (Desk.mk x190.desk.chans l547 x190.desk.tick) v193 v546)) rfl rfl rfl rfl ⟨rfl, Rdc.blk (.head _) rfl⟩) ?_
       refine Ow_cons rfl (OpW_store (vs := (Desk.cells (Desk.mk x190.desk.chans l547 x190.desk.tick) v193 v546)) (all' := (Desk.cells (Desk.mk x190.desk.chans l547 x190.desk.tick) v193 v546)) rfl rfl rfl rfl rfl (.there .here) rfl rfl rfl ?_)
       refine Ow_q rfl rfl rfl (Qt_assign rfl) ?_
       refine Ow_q rfl rfl rfl (Qt_assign rfl) ?_
       refine Ow_nil ?_
       refine Cw_ret ?_
       obtain ⟨ey0, ey1, ey2⟩ := inj3 H
       subst y0 y1 y2
       refine ⟨(by first | exact .inl rfl | exact .inr rfl), [(.agg (Desk.cells (Desk.mk x190.desk.chans l547 x190.desk.tick) v193 v546).toArray), (sv nilS), (.bool true)], ⟨(.agg (Desk.cells (Desk.mk x190.desk.chans l547 x190.desk.tick) v193 v546).toArray), _, rfl, ⟨_, 3, (Desk.cells (Desk.mk x190.desk.chans l547 x190.desk.tick) v193 v546), rfl, rfl, rfl, rfl, ⟨rfl, Rdc.blk (.tail _ (.head _)) rfl⟩, rfl⟩, ⟨(sv nilS), _, rfl, rfl, ⟨(.bool true), _, rfl, rfl, rfl⟩⟩⟩, ?_⟩
       have hR576 : RowR TyDone K470 [] [] := RowR.nil
       refine Shift.nilRow 75 6 ?_
       refine Pu3 ?_
       refine Pu4 ?_
       refine Re3 ?_
       refine Re3 ?_
       refine Re3 ?_
       have hs577 := ((hs199).mono hK427).mono hK471
       refine Shift.done ?_
       exact ⟨v193, rs194, v546, rs549, nilS, ([] : List (List Value)), rfl, rfl, hs577, hR548, hR576⟩
 rintro _ K578 _ hK579 ⟨i347, i348, i349, t350, i351, v352, l353, rs355, v356, l357, rs359, v360, l361, rs363, rfl, rfl, H, hR354, hR358, hR362⟩
 unfold M_2z at H
 refine Cw_seq ?_
 refine Cw_region ?_
 refine Ow_q rfl rfl rfl (Qt_move rfl) ?_
 refine Ow_q rfl rfl rfl (Qt_move rfl) ?_
 refine Ow_q rfl rfl rfl (Qt_loadA (m := 5) (cs := (Result.cells (Result.mk i347 i348 i349 t350 i351))) rfl rfl rfl rfl ⟨rfl, Rdc.blk (.head _) rfl⟩) ?_
 obtain ⟨x580, hx581, H⟩ := bnd H
 refine Ow.shift (Pu5 (Shift.done ?_))
 refine Ow.shift (Pu5 (Shift.done ?_))
 refine Ow.shift (Pu5 (Shift.done ?_))
 refine Ow.shift (Pu4 (Shift.done ?_))
 refine Ow_cons rfl (OpW_call rfl Try.call51 rfl rfl (c_M_22z b192 (Desk_work.mk (Desk.mk l353 l357 x190.desk.tick) l361) v352 rs355 v356 rs359 v360 rs363 p1 (Result.mk i347 i348 i349 t350 i351) x580 hx581 _ _ hR354 hR358 hR362) ?_)
 rintro _ K584 _ hK585 ⟨v582, rs583, rfl, rfl, hs586⟩
 refine Ow_nil ?_
 refine Cw_seq ?_
 refine Cw_region_any [.blk b192 92 (Desk_work.cells (Desk_work.mk (Desk.mk l353 l357 x190.desk.tick) x580) v352 v356 v582), .row (sv v582) 75 6 rs583.flatten, .row (sv v352) 71 3 rs355.flatten, .row (sv v356) 52 8 rs359.flatten, .blk b202 73 (Result.cells (Result.mk i347 i348 i349 t350 i351))] rfl (Inc.cons (.head _) (Inc.cons (.tail _ (.head _)) (Inc.cons (.tail _ (.tail _ (.head _))) (Inc.cons (.tail _ (.tail _ (.tail _ (.head _)))) (Inc.cons (.tail _ (.tail _ (.tail _ (.tail _ (.head _))))) Inc.nil))))) ?_
 refine Awq 0 rfl (by kernel_rfl) rfl rfl rfl (Qt_move rfl) ?_
 refine Awq 1 rfl (by kernel_rfl) rfl rfl rfl (Qt_nilCheck rfl) ?_
 refine Awq 2 rfl (by kernel_rfl) rfl rfl rfl (Qt_fieldAddr (m := 0) rfl rfl rfl rfl rfl) ?_
 refine Awq 3 rfl (by kernel_rfl) rfl rfl rfl (Qt_loadA (m := 3) (cs := (Desk.cells (Desk.mk l353 l357 x190.desk.tick) v352 v356)) rfl rfl rfl rfl ⟨rfl, Rdc.blk (.head _) rfl⟩) ?_
 refine Awq 4 rfl (by kernel_rfl) rfl rfl rfl (Qt_move rfl) ?_
 refine Awq 5 rfl (by kernel_rfl) rfl rfl rfl (Qt_nilCheck rfl) ?_
 refine Awq 6 rfl (by kernel_rfl) rfl rfl rfl (Qt_fieldAddr (m := 3) rfl rfl rfl rfl rfl) ?_
 refine Awq 7 rfl (by kernel_rfl) rfl rfl rfl (Qt_load1 (v := (sv v582)) rfl rfl rfl (Rdc.blk (.head _) rfl)) ?_
 refine Aw_one 8 (by kernel_rfl) (Ax_mk rfl rfl ?_)
 refine OpW_store (vs := (Desk.cells (Desk.mk l353 l357 x190.desk.tick) v352 v356)) (all' := (Desk.cells (Desk.mk l353 l357 x190.desk.tick) v352 v356)) rfl rfl rfl rfl rfl (.there (.there (.there (.there (.there .here))))) rfl rfl rfl ⟨(Inc.cons (.head _) (Inc.cons (.tail _ (.head _)) (Inc.cons (.tail _ (.tail _ (.head _))) (Inc.cons (.tail _ (.tail _ (.tail _ (.head _)))) (Inc.cons (.tail _ (.tail _ (.tail _ (.tail _ (.head _))))) Inc.nil))))), ?_⟩
 refine Awq 9 rfl (by kernel_rfl) rfl rfl rfl (Qt_assign rfl) ?_
 refine Awq 10 rfl (by kernel_rfl) rfl rfl rfl (Qt_assign rfl) ?_
 refine Aw_done (by kernel_rfl) ?_
 refine Cw_ret ?_
 obtain ⟨ey0, ey1, ey2⟩ := inj3 H
 subst y0 y1 y2
 refine ⟨(by first | exact .inl rfl | exact .inr rfl), [(.agg (Desk.cells (Desk.mk l353 l357 x190.desk.tick) v352 v356).toArray), (sv v582), (.bool false)], ⟨(.agg (Desk.cells (Desk.mk l353 l357 x190.desk.tick) v352 v356).toArray), _, rfl, ⟨_, 3, (Desk.cells (Desk.mk l353 l357 x190.desk.tick) v352 v356), rfl, rfl, rfl, rfl, ⟨rfl, Rdc.blk (.tail _ (.tail _ (.tail _ (.tail _ (.tail _ (.head _)))))) rfl⟩, rfl⟩, ⟨(sv v582), _, rfl, rfl, ⟨(.bool false), _, rfl, rfl, rfl⟩⟩⟩, ?_⟩
 refine Pu1 ?_
 refine Pu3 ?_
 refine Pu3 ?_
 refine Re3 ?_
 refine Re3 ?_
 refine Re3 ?_
 have hs587 := (hR354).mono hK585
 have hs588 := (hR358).mono hK585
 refine Shift.done ?_
 exact ⟨v352, rs355, v356, rs359, v582, rs583, rfl, rfl, hs587, hs588, hs586⟩



end Go.Hx

namespace Go.Hx
open Go Go.Proofs
set_option linter.unusedSimpArgs false
set_option linter.unusedVariables false
set_option maxRecDepth 10000
set_option maxHeartbeats 1000000 in
theorem c_M_94z  (y0 : Bool) (H : M_94z = some y0) (K : Kp) (G : List Ent)  :
  Fc Try.prog 9 #[] K (G) (fun v K' G' => v = (.bool y0) ∧ G = G') := by
 refine Fc_body Try.func9 rfl Try.ntmps9 Try.results9 rfl ?_
 unfold M_94z at H
 refine Cw_seq ?_
 refine Cw_region ?_
 refine Ow_q rfl rfl rfl (Qt_assign rfl) ?_
 refine Ow_nil ?_
 refine Cw_seq ?_
 refine Cw_region ?_
 have hR79 : RowR Ty.i64 K [[(.int .i64 0)]] [0] := RowR.cons rfl (RowR.nil)
 refine Ow_cons rfl (O_lit (T := Ty.i64) (rows := [[(.int .i64 0)]]) (l := [0]) rfl rfl rfl hR79 rfl rfl rfl rfl rfl rfl rfl rfl (fun v78 => ?_))
 have hR81 : RowR Ty.u64 K [[(.int .u64 0)]] [0] := RowR.cons rfl (RowR.nil)
 refine Ow_cons rfl (O_lit (T := Ty.u64) (rows := [[(.int .u64 0)]]) (l := [0]) rfl rfl rfl hR81 rfl rfl rfl rfl rfl rfl rfl rfl (fun v80 => ?_))
 refine Ow.shift (Shift.settle (T := Ty.i64) (.there .here) hR79 rfl (fun K82 hK83 hs84 => Shift.done ?_))
 have hs88 := (hR81).mono hK83
 refine Ow.shift (Shift.settle (T := Ty.u64) .here hs88 rfl (fun K85 hK86 hs87 => Shift.done ?_))
 refine Ow_q rfl rfl rfl (Qt_build (cs := (Config.cells (Config.mk [0] [0] 2) v78 v80)) rfl rfl rfl rfl rfl rfl) ?_
 obtain ⟨x89, hx90, H⟩ := bnd H
 have hs91 := (hs84).mono hK86
 refine Ow_cons rfl (OpW_call rfl Try.call27 rfl rfl (c_M_71z (Config.mk [0] [0] 2) v78 v80 x89 hx90 _ _ hs91 hs87) ?_)
 rintro _ K94 _ hK95 ⟨v92, v93, rfl, rfl, hs96, hs97⟩
 refine Ow_cons rfl (OpW_alloc (cs := (Desk.cells (Desk.mk [] [] 0) nilS nilS)) rfl rfl rfl rfl (fun b98 => ?_))
 refine Ow_cons rfl (OpW_store (vs := (Desk.cells x89 v92 v93)) (all' := (Desk.cells x89 v92 v93)) rfl rfl rfl rfl rfl .here rfl rfl rfl ?_)
 refine Ow_nil ?_
 refine Cw_seq ?_
 refine Cw_region ?_
 refine Ow_q rfl rfl rfl (Qt_loadA (m := 3) (cs := (Desk.cells x89 v92 v93)) rfl rfl rfl rfl ⟨rfl, Rdc.blk (.head _) rfl⟩) ?_
 refine Ow_q rfl rfl rfl (Qt_build (cs := (Op.cells (Op.mk 1 0 0 5 0 [] []) nilS nilS)) rfl rfl rfl rfl rfl rfl) ?_
 obtain ⟨x99, x100, x101, hx102, H⟩ := bnd3 H
 refine Ow_cons rfl (OpW_call rfl Try.call22 rfl rfl (c_M_desk_Do x89 v92 v93 0 (Op.mk 1 0 0 5 0 [] []) nilS nilS x99 x100 x101 hx102 _ _ hs96 hs97 (Slr.nil TyCase _) (Slr.nil Ty.i64 _)) ?_)
 rintro _ K109 _ hK110 ⟨v103, rs104, v105, rs106, v107, rs108, rfl, rfl, hs111, hs112, hs113⟩
 refine Ow_q rfl rfl rfl (Qt_move rfl) ?_
 refine Ow_q rfl rfl rfl (Qt_extract rfl rfl) ?_
 refine Ow_q rfl rfl rfl (Qt_extract rfl rfl) ?_
 refine Ow_q rfl rfl rfl (Qt_extract rfl rfl) ?_
 refine Ow_cons rfl (OpW_store (vs := (Desk.cells x99 v103 v105)) (all' := (Desk.cells x99 v103 v105)) rfl rfl rfl rfl rfl (.there (.there (.there .here))) rfl rfl rfl ?_)
 refine Ow_q rfl rfl rfl (Qt_assign rfl) ?_
 refine Ow_q rfl rfl rfl (Qt_assign rfl) ?_
 refine Ow_nil ?_
 refine Cw_seq ?_
 refine Cw_region ?_
 refine Ow_q rfl rfl rfl (Qt_loadA (m := 3) (cs := (Desk.cells x99 v103 v105)) rfl rfl rfl rfl ⟨rfl, Rdc.blk (.tail _ (.tail _ (.tail _ (.head _)))) rfl⟩) ?_
 refine Ow_q rfl rfl rfl (Qt_build (cs := (Op.cells (Op.mk 2 0 0 0 0 [] []) nilS nilS)) rfl rfl rfl rfl rfl rfl) ?_
 refine Ow.shift (Shift.settle (T := TyChan) .here hs111 rfl (fun K114 hK115 hs116 => Shift.done ?_))
 have hs120 := (hs112).mono hK115
 refine Ow.shift (Shift.settle (T := TyWaiter) (.there .here) hs120 rfl (fun K117 hK118 hs119 => Shift.done ?_))
 obtain ⟨x121, x122, x123, hx124, H⟩ := bnd3 H
 have hs125 := (hs116).mono hK118
 refine Ow_cons rfl (OpW_call rfl Try.call22 rfl rfl (c_M_desk_Do x99 v103 v105 1 (Op.mk 2 0 0 0 0 [] []) nilS nilS x121 x122 x123 hx124 _ _ hs125 hs119 (Slr.nil TyCase _) (Slr.nil Ty.i64 _)) ?_)
 rintro _ K132 _ hK133 ⟨v126, rs127, v128, rs129, v130, rs131, rfl, rfl, hs134, hs135, hs136⟩
 refine Ow_q rfl rfl rfl (Qt_move rfl) ?_
 refine Ow_q rfl rfl rfl (Qt_extract rfl rfl) ?_
 refine Ow_q rfl rfl rfl (Qt_extract rfl rfl) ?_
 refine Ow_q rfl rfl rfl (Qt_extract rfl rfl) ?_
 refine Ow_cons rfl (OpW_alloc (cs := (Desk.cells (Desk.mk [] [] 0) nilS nilS)) rfl rfl rfl rfl (fun b137 => ?_))
 refine Ow_cons rfl (OpW_store (vs := (Desk.cells x121 v126 v128)) (all' := (Desk.cells x121 v126 v128)) rfl rfl rfl rfl rfl .here rfl rfl rfl ?_)
 refine Ow_q rfl rfl rfl (Qt_assign rfl) ?_
 refine Ow_q rfl rfl rfl (Qt_assign rfl) ?_
 refine Ow_nil ?_
 refine Cw_join (fun env' K' G' => ∃ (t154 : Bool), [(0, (.bool t154))] = env' ∧ K132 = K' ∧ G = G' ∧ M_6z t154 = some y0) ?_ ?_
 ·skip
  refine Cw_region ?_
  refine Ow_q rfl rfl rfl (Qt_move rfl) ?_
  refine Ow_q rfl rfl rfl (Qt_move rfl) ?_
  refine Ow_caseG rfl rfl rfl ?_ ?_
  ·intro h155
   have H := ift h155 H
   refine Ow_qw rfl rfl rfl rfl rfl rfl (Qt_move rfl) ?_
   have hs156 := (((hs113).mono hK115).mono hK118).mono hK133
   refine Ow_qw rfl rfl rfl rfl rfl rfl (Q_lenR (T := TyDone) (.tail _ (.tail _ (.tail _ (.tail _ (.tail _ (.tail _ (.head _))))))) hs156 rfl rfl rfl) ?_
   refine Ow_qw rfl rfl rfl rfl rfl rfl (Qt_cmp rfl rfl rfl) ?_
   refine Ow_q rfl rfl rfl (Qt_pick_t rfl rfl) ?_
   refine Ow_q rfl rfl rfl (Qt_move rfl) ?_
   refine Ow_caseG rfl rfl rfl ?_ ?_
   ·intro h157
    have h157 := dcd_t (h157)
    have H := ift h157 H
    refine Ow_qw rfl rfl rfl rfl rfl rfl (Qt_move rfl) ?_
    refine Ow_qw rfl rfl rfl rfl rfl rfl (Qt_not rfl) ?_
    refine Ow_q rfl rfl rfl (Qt_pick_t rfl rfl) ?_
    refine Ow_q rfl rfl rfl (Qt_move rfl) ?_
    refine Ow_caseG rfl rfl rfl ?_ ?_
    ·intro h158
     have h158 := nt_t (h158)
     have H := iff_ (btf h158) H
     refine Ow_qw rfl rfl rfl rfl rfl rfl (Qt_move rfl) ?_
     refine Ow_qw rfl rfl rfl rfl rfl rfl (Q_lenR (T := TyDone) (.tail _ (.tail _ (.tail _ (.head _)))) hs136 rfl rfl rfl) ?_
     refine Ow_qw rfl rfl rfl rfl rfl rfl (Qt_cmp rfl rfl rfl) ?_
     refine Ow_q rfl rfl rfl (Qt_pick_t rfl rfl) ?_
     refine Ow_q rfl rfl rfl (Qt_move rfl) ?_
     refine Ow_caseG rfl rfl rfl ?_ ?_
     ·intro h159
      have h159 := dcd_t (h159)
      have H := ift h159 H
      refine Ow_qw rfl rfl rfl rfl rfl rfl (Qt_move rfl) ?_
      obtain ⟨x160, hx161, H⟩ := bnd H
      obtain ⟨r162, hq163, hr164⟩ := RowR.at hs136 hx161
      obtain rfl := hr164
      refine Ow_qw rfl rfl rfl rfl rfl rfl (Q_ixR (T := TyDone) (.tail _ (.tail _ (.tail _ (.head _)))) hs136 hq163 (getI_ix hx161).1 rfl rfl rfl rfl rfl) ?_
      refine Ow_qw rfl rfl rfl rfl rfl rfl (Qt_fieldAddr (m := 1) rfl rfl rfl rfl rfl) ?_
      refine Ow_qw rfl rfl rfl rfl rfl rfl (Qt_fieldAddr (m := 1) rfl rfl rfl rfl rfl) ?_
      refine Ow_qw rfl rfl rfl rfl rfl rfl (Qt_load1 (v := (.int .i64 x160.result.kind)) rfl rfl rfl (Rd_row (T := TyDone) (.tail _ (.tail _ (.tail _ (.head _)))) hs136 hq163 rfl rfl)) ?_
      refine Ow_qw rfl rfl rfl rfl rfl rfl (Qt_cmp rfl rfl rfl) ?_
      refine Ow_q rfl rfl rfl (Qt_pick_t rfl rfl) ?_
      refine Ow_q rfl rfl rfl (Qt_move rfl) ?_
      refine Ow_caseG rfl rfl rfl ?_ ?_
      ·intro h165
       have h165 := dcd_t (h165)
       have H := ift h165 H
       refine Ow_qw rfl rfl rfl rfl rfl rfl (Qt_move rfl) ?_
       obtain ⟨x166, hx167, H⟩ := bnd H
       obtain ⟨r168, hq169, hr170⟩ := RowR.at hs136 hx167
       obtain rfl := hr170
       refine Ow_qw rfl rfl rfl rfl rfl rfl (Q_ixR (T := TyDone) (.tail _ (.tail _ (.tail _ (.head _)))) hs136 hq169 (getI_ix hx167).1 rfl rfl rfl rfl rfl) ?_
       refine Ow_qw rfl rfl rfl rfl rfl rfl (Qt_fieldAddr (m := 1) rfl rfl rfl rfl rfl) ?_
       refine Ow_qw rfl rfl rfl rfl rfl rfl (Qt_fieldAddr (m := 3) rfl rfl rfl rfl rfl) ?_
       refine Ow_qw rfl rfl rfl rfl rfl rfl (Qt_load1 (v := (.int .u64 x166.result.value)) rfl rfl rfl (Rd_row (T := TyDone) (.tail _ (.tail _ (.tail _ (.head _)))) hs136 hq169 rfl rfl)) ?_
       refine Ow_qw rfl rfl rfl rfl rfl rfl (Qt_cmp rfl rfl rfl) ?_
       refine Ow_q rfl rfl rfl (Qt_pick_t rfl rfl) ?_
       refine Ow_q rfl rfl rfl (Qt_assign rfl) ?_
       refine Ow_nil ?_
       refine Re0 ?_
       refine Re0 ?_
       refine Re0 ?_
       refine Re0 ?_
       refine Re0 ?_
       refine Re0 ?_
       refine Re0 ?_
       refine Re0 ?_
       refine Re0 ?_
       refine Re0 ?_
       refine Re0 ?_
       refine Shift.done ?_
       exact ⟨_, by exact ⟨rfl, trivial⟩, (dcd (x166.result.value = 5)), rfl, rfl, rfl, H⟩
      ·intro h165
       have h165 := dcd_f (h165)
       have H := iff_ h165 H
       refine Ow_pass rfl rfl rfl rfl rfl rfl rfl ?_
       refine Ow_pass rfl rfl rfl rfl rfl rfl rfl ?_
       refine Ow_pass rfl rfl rfl rfl rfl rfl rfl ?_
       refine Ow_pass rfl rfl rfl rfl rfl rfl rfl ?_
       refine Ow_pass rfl rfl rfl rfl rfl rfl rfl ?_
       refine Ow_pass rfl rfl rfl rfl rfl rfl rfl ?_
       refine Ow_q rfl rfl rfl (Qt_pick_f rfl rfl) ?_
       refine Ow_q rfl rfl rfl (Qt_assign rfl) ?_
       refine Ow_nil ?_
       refine Re0 ?_
       refine Re0 ?_
       refine Re0 ?_
       refine Re0 ?_
       refine Re0 ?_
       refine Re0 ?_
       refine Re0 ?_
       refine Re0 ?_
       refine Re0 ?_
       refine Re0 ?_
       refine Re0 ?_
       refine Shift.done ?_
       exact ⟨_, by exact ⟨rfl, trivial⟩, false, rfl, rfl, rfl, H⟩
     ·intro h159
      have h159 := dcd_f (h159)
      have H := iff_ h159 H
      refine Ow_pass rfl rfl rfl rfl rfl rfl rfl ?_
      refine Ow_pass rfl rfl rfl rfl rfl rfl rfl ?_
      refine Ow_pass rfl rfl rfl rfl rfl rfl rfl ?_
      refine Ow_pass rfl rfl rfl rfl rfl rfl rfl ?_
      refine Ow_pass rfl rfl rfl rfl rfl rfl rfl ?_
      refine Ow_pass rfl rfl rfl rfl rfl rfl rfl ?_
      refine Ow_q rfl rfl rfl (Qt_pick_f rfl rfl) ?_
      refine Ow_q rfl rfl rfl (Qt_move rfl) ?_
      refine Ow_pass rfl rfl rfl rfl rfl rfl rfl ?_
      refine Ow_pass rfl rfl rfl rfl rfl rfl rfl ?_
      refine Ow_pass rfl rfl rfl rfl rfl rfl rfl ?_
      refine Ow_pass rfl rfl rfl rfl rfl rfl rfl ?_
      refine Ow_pass rfl rfl rfl rfl rfl rfl rfl ?_
      refine Ow_pass rfl rfl rfl rfl rfl rfl rfl ?_
      refine Ow_q rfl rfl rfl (Qt_pick_f rfl rfl) ?_
      refine Ow_q rfl rfl rfl (Qt_assign rfl) ?_
      refine Ow_nil ?_
      refine Re0 ?_
      refine Re0 ?_
      refine Re0 ?_
      refine Re0 ?_
      refine Re0 ?_
      refine Re0 ?_
      refine Re0 ?_
      refine Re0 ?_
      refine Re0 ?_
      refine Re0 ?_
      refine Re0 ?_
      refine Shift.done ?_
      exact ⟨_, by exact ⟨rfl, trivial⟩, false, rfl, rfl, rfl, H⟩
    ·intro h158
     have h158 := nt_f (h158)
     have H := ift h158 H
     refine Ow_pass rfl rfl rfl rfl rfl rfl rfl ?_
     refine Ow_pass rfl rfl rfl rfl rfl rfl rfl ?_
     refine Ow_pass rfl rfl rfl rfl rfl rfl rfl ?_
     refine Ow_q rfl rfl rfl (Qt_pick_f rfl rfl) ?_
     refine Ow_q rfl rfl rfl (Qt_move rfl) ?_
     refine Ow_pass rfl rfl rfl rfl rfl rfl rfl ?_
     refine Ow_pass rfl rfl rfl rfl rfl rfl rfl ?_
     refine Ow_pass rfl rfl rfl rfl rfl rfl rfl ?_
     refine Ow_pass rfl rfl rfl rfl rfl rfl rfl ?_
     refine Ow_pass rfl rfl rfl rfl rfl rfl rfl ?_
     refine Ow_pass rfl rfl rfl rfl rfl rfl rfl ?_
     refine Ow_q rfl rfl rfl (Qt_pick_f rfl rfl) ?_
     refine Ow_q rfl rfl rfl (Qt_move rfl) ?_
     refine Ow_pass rfl rfl rfl rfl rfl rfl rfl ?_
     refine Ow_pass rfl rfl rfl rfl rfl rfl rfl ?_
     refine Ow_pass rfl rfl rfl rfl rfl rfl rfl ?_
     refine Ow_pass rfl rfl rfl rfl rfl rfl rfl ?_
     refine Ow_pass rfl rfl rfl rfl rfl rfl rfl ?_
     refine Ow_pass rfl rfl rfl rfl rfl rfl rfl ?_
     refine Ow_q rfl rfl rfl (Qt_pick_f rfl rfl) ?_
     refine Ow_q rfl rfl rfl (Qt_assign rfl) ?_
     refine Ow_nil ?_
     refine Re0 ?_
     refine Re0 ?_
     refine Re0 ?_
     refine Re0 ?_
     refine Re0 ?_
     refine Re0 ?_
     refine Re0 ?_
     refine Re0 ?_
     refine Re0 ?_
     refine Re0 ?_
     refine Re0 ?_
     refine Shift.done ?_
     exact ⟨_, by exact ⟨rfl, trivial⟩, false, rfl, rfl, rfl, H⟩
   ·intro h157
    have h157 := dcd_f (h157)
    have H := iff_ h157 H
    refine Ow_pass rfl rfl rfl rfl rfl rfl rfl ?_
    refine Ow_pass rfl rfl rfl rfl rfl rfl rfl ?_
    refine Ow_q rfl rfl rfl (Qt_pick_f rfl rfl) ?_
    refine Ow_q rfl rfl rfl (Qt_move rfl) ?_
    refine Ow_pass rfl rfl rfl rfl rfl rfl rfl ?_
    refine Ow_pass rfl rfl rfl rfl rfl rfl rfl ?_
    refine Ow_pass rfl rfl rfl rfl rfl rfl rfl ?_
    refine Ow_q rfl rfl rfl (Qt_pick_f rfl rfl) ?_
    refine Ow_q rfl rfl rfl (Qt_move rfl) ?_
    refine Ow_pass rfl rfl rfl rfl rfl rfl rfl ?_
    refine Ow_pass rfl rfl rfl rfl rfl rfl rfl ?_
    refine Ow_pass rfl rfl rfl rfl rfl rfl rfl ?_
    refine Ow_pass rfl rfl rfl rfl rfl rfl rfl ?_
    refine Ow_pass rfl rfl rfl rfl rfl rfl rfl ?_
    refine Ow_pass rfl rfl rfl rfl rfl rfl rfl ?_
    refine Ow_q rfl rfl rfl (Qt_pick_f rfl rfl) ?_
    refine Ow_q rfl rfl rfl (Qt_move rfl) ?_
    refine Ow_pass rfl rfl rfl rfl rfl rfl rfl ?_
    refine Ow_pass rfl rfl rfl rfl rfl rfl rfl ?_
    refine Ow_pass rfl rfl rfl rfl rfl rfl rfl ?_
    refine Ow_pass rfl rfl rfl rfl rfl rfl rfl ?_
    refine Ow_pass rfl rfl rfl rfl rfl rfl rfl ?_
    refine Ow_pass rfl rfl rfl rfl rfl rfl rfl ?_
    refine Ow_q rfl rfl rfl (Qt_pick_f rfl rfl) ?_
    refine Ow_q rfl rfl rfl (Qt_assign rfl) ?_
    refine Ow_nil ?_
    refine Re0 ?_
    refine Re0 ?_
    refine Re0 ?_
    refine Re0 ?_
    refine Re0 ?_
    refine Re0 ?_
    refine Re0 ?_
    refine Re0 ?_
    refine Re0 ?_
    refine Re0 ?_
    refine Re0 ?_
    refine Shift.done ?_
    exact ⟨_, by exact ⟨rfl, trivial⟩, false, rfl, rfl, rfl, H⟩
  ·intro h155
   have H := iff_ (btf h155) H
   refine Ow_pass rfl rfl rfl rfl rfl rfl rfl ?_
   refine Ow_pass rfl rfl rfl rfl rfl rfl rfl ?_
   refine Ow_pass rfl rfl rfl rfl rfl rfl rfl ?_
   refine Ow_q rfl rfl rfl (Qt_pick_f rfl rfl) ?_
   refine Ow_q rfl rfl rfl (Qt_move rfl) ?_
   refine Ow_pass rfl rfl rfl rfl rfl rfl rfl ?_
   refine Ow_pass rfl rfl rfl rfl rfl rfl rfl ?_
   refine Ow_q rfl rfl rfl (Qt_pick_f rfl rfl) ?_
   refine Ow_q rfl rfl rfl (Qt_move rfl) ?_
   refine Ow_pass rfl rfl rfl rfl rfl rfl rfl ?_
   refine Ow_pass rfl rfl rfl rfl rfl rfl rfl ?_
   refine Ow_pass rfl rfl rfl rfl rfl rfl rfl ?_
   refine Ow_q rfl rfl rfl (Qt_pick_f rfl rfl) ?_
   refine Ow_q rfl rfl rfl (Qt_move rfl) ?_
   refine Ow_pass rfl rfl rfl rfl rfl rfl rfl ?_
   refine Ow_pass rfl rfl rfl rfl rfl rfl rfl ?_
   refine Ow_pass rfl rfl rfl rfl rfl rfl rfl ?_
   refine Ow_pass rfl rfl rfl rfl rfl rfl rfl ?_
   refine Ow_pass rfl rfl rfl rfl rfl rfl rfl ?_
   refine Ow_pass rfl rfl rfl rfl rfl rfl rfl ?_
   refine Ow_q rfl rfl rfl (Qt_pick_f rfl rfl) ?_
   refine Ow_q rfl rfl rfl (Qt_move rfl) ?_
   refine Ow_pass rfl rfl rfl rfl rfl rfl rfl ?_
   refine Ow_pass rfl rfl rfl rfl rfl rfl rfl ?_
   refine Ow_pass rfl rfl rfl rfl rfl rfl rfl ?_
   refine Ow_pass rfl rfl rfl rfl rfl rfl rfl ?_
   refine Ow_pass rfl rfl rfl rfl rfl rfl rfl ?_
   refine Ow_pass rfl rfl rfl rfl rfl rfl rfl ?_
   refine Ow_q rfl rfl rfl (Qt_pick_f rfl rfl) ?_
   refine Ow_q rfl rfl rfl (Qt_assign rfl) ?_
   refine Ow_nil ?_
   refine Re0 ?_
   refine Re0 ?_
   refine Re0 ?_
   refine Re0 ?_
   refine Re0 ?_
   refine Re0 ?_
   refine Re0 ?_
   refine Re0 ?_
   refine Re0 ?_
   refine Re0 ?_
   refine Re0 ?_
   refine Shift.done ?_
   exact ⟨_, by exact ⟨rfl, trivial⟩, false, rfl, rfl, rfl, H⟩
 rintro _ _ _ - ⟨t154, rfl, rfl, rfl, H⟩
 unfold M_6z at H
 refine Cw_ret ?_
 obtain ey0 := inj1 H
 subst y0
 refine ⟨(by first | exact .inl rfl | exact .inr rfl), [(.bool t154)], ⟨(.bool t154), _, rfl, rfl, rfl⟩, ?_⟩
 refine Shift.done ?_
 exact ⟨rfl, rfl⟩

set_option maxHeartbeats 1000000 in
theorem c_M_53z (p0 : Desk) (vp0_chans : SV) (vp0_waiting : SV) (p1 : Int) (y0 : Bool) (H : M_53z p0 p1 = some y0) (K : Kp) (G : List Ent) (hp0_chans : Slr TyChan K (sv vp0_chans) p0.chans) (hp0_waiting : Slr TyWaiter K (sv vp0_waiting) p0.waiting) :
  Fc Try.prog 14 #[(.agg (Desk.cells p0 vp0_chans vp0_waiting).toArray), (.int .i64 p1)] K (G) (fun v K' G' => v = (.bool y0) ∧ G = G') := by
 refine Fc_body Try.func14 rfl Try.ntmps14 Try.results14 rfl ?_
 unfold M_53z at H
 refine Cw_seq ?_
 refine Cw_region ?_
 refine Ow_cons rfl (OpW_box (cs := (Desk.cells p0 vp0_chans vp0_waiting)) rfl rfl rfl (fun b34 => ?_))
 refine Ow_q rfl rfl rfl (Qt_assign rfl) ?_
 refine Ow_nil ?_
 refine Cw_join (fun env' K' G' => [] = env' ∧ G = G' ∧ M_164z = some y0) ?_ ?_
 ·skip
  refine Cw_seq ?_
  refine Cw_region ?_
  refine Ow_q rfl rfl rfl (Qt_fieldAddr (m := 1) rfl rfl rfl rfl rfl) ?_
  refine Ow_q rfl rfl rfl (Qt_load1 (v := (sv vp0_waiting)) rfl rfl rfl (Rdc.blk (.head _) rfl)) ?_
  refine Ow_q rfl rfl rfl (Q_len (T := TyWaiter) hp0_waiting rfl rfl) ?_
  refine Ow_q rfl rfl rfl (Qt_move rfl) ?_
  refine Ow_nil ?_
  refine Cw_block ?_
  refine Cw_loopM (fun n95 env' K' G' => ∃ (i94 : Int), [(1, (.int .i64 p1)), (2, (.pointer (some ((⟨b34, 0, none⟩ : Addr).add 0)))), (8, (.int .i64 (p0.waiting.length : Int))), (9, (.int .i64 i94))] = env' ∧ K = K' ∧ (.blk b34 34 (Desk.cells p0 vp0_chans vp0_waiting)) :: G = G' ∧ lp1 (M_105z p1 p0) n95 i94 = some y0) BIG ?_ ?_
  ·skip
   refine Shift.done ?_
   exact ⟨_, by exact ⟨rfl, rfl, rfl, rfl, trivial⟩, 0, rfl, rfl, rfl, H⟩
  rintro n95 _ _ _ - ⟨i94, rfl, rfl, rfl, H⟩
  obtain ⟨m96, k97, rfl, hkk98, H⟩ := lps1 H
  unfold M_105z at H
  refine Cw_seq ?_
  refine Cw_region ?_
  refine Ow_q rfl rfl rfl (Qt_cmp rfl rfl rfl) ?_
  refine Ow_nil ?_
  refine Cw_seq ?_
  refine Cw_cond rfl ?_ ?_
  ·intro h100
   have h100 := dcd_t (h100)
   have H := ift h100 H
   refine Cw_skip ?_
   refine Cw_seq ?_
   refine Cw_block ?_
   refine Cw_seq ?_
   refine Cw_region ?_
   refine Ow_q rfl rfl rfl (Qt_move rfl) ?_
   refine Ow_q rfl rfl rfl (Qt_assign rfl) ?_
   refine Ow_nil ?_
   refine Cw_seq ?_
   refine Cw_region ?_
   refine Ow_q rfl rfl rfl (Qt_fieldAddr (m := 1) rfl rfl rfl rfl rfl) ?_
   refine Ow_q rfl rfl rfl (Qt_load1 (v := (sv vp0_waiting)) rfl rfl rfl (Rdc.blk (.head _) rfl)) ?_
   refine Ow_q rfl rfl rfl (Qt_move rfl) ?_
   obtain ⟨x111, hx112, H⟩ := bnd H
   obtain ⟨r113, hr114, hk115⟩ := Slr.at hp0_waiting hx112
   obtain ⟨v116, v117, rfl, hs118, hs119⟩ := hr114
   refine Ow_q rfl rfl rfl (Q_ix (T := TyWaiter) hp0_waiting hx112 rfl rfl rfl rfl rfl) ?_
   refine Ow_q rfl rfl rfl (Qt_fieldAddr (m := 0) rfl rfl rfl rfl rfl) ?_
   refine Ow_q rfl rfl rfl (Qt_load1 (v := (.int .i64 x111.thread)) rfl rfl rfl (Rdc.k hk115 rfl)) ?_
   refine Ow_q rfl rfl rfl (Qt_move rfl) ?_
   refine Ow_q rfl rfl rfl (Qt_cmp rfl rfl rfl) ?_
   refine Ow_nil ?_
   refine Cw_cond rfl ?_ ?_
   ·intro h120
    have h120 := dcd_t (h120)
    have H := ift h120 H
    refine Cw_seq ?_
    refine Cw_region ?_
    refine Ow_q rfl rfl rfl (Qt_assign rfl) ?_
    refine Ow_nil ?_
    refine Cw_ret ?_
    obtain ey0 := inj1 H
    subst y0
    refine ⟨(by first | exact .inl rfl | exact .inr rfl), [(.bool true)], ⟨(.bool true), _, rfl, rfl, rfl⟩, ?_⟩
    refine Re0 ?_
    refine Shift.done ?_
    exact ⟨rfl, rfl⟩
   ·intro h120
    have h120 := dcd_f (h120)
    have H := iff_ h120 H
    refine Cw_skip ?_
    refine Cw_region ?_
    refine Ow_q rfl rfl rfl (Qt_arith (e := wI (i94 + 1)) rfl rfl rfl rfl) ?_
    refine Ow_q rfl rfl rfl (Qt_move rfl) ?_
    refine Ow_nil ?_
    refine Shift.done ?_
    exact ⟨_, by exact ⟨rfl, rfl, rfl, rfl, trivial⟩, _, Nat.lt_succ_self _, (wI (i94 + 1)), rfl, rfl, rfl, (hkk98 ▸ H)⟩
  ·intro h100
   have h100 := dcd_f (h100)
   have H := iff_ h100 H
   refine Cw_exit ?_
   refine Re0 ?_
   refine Shift.done ?_
   exact ⟨[], trivial, rfl, rfl, H⟩
 rintro _ K121 _ hK122 ⟨rfl, rfl, H⟩
 unfold M_164z at H
 refine Cw_seq ?_
 refine Cw_region ?_
 refine Ow_q rfl rfl rfl (Qt_assign rfl) ?_
 refine Ow_nil ?_
 refine Cw_ret ?_
 obtain ey0 := inj1 H
 subst y0
 refine ⟨(by first | exact .inl rfl | exact .inr rfl), [(.bool false)], ⟨(.bool false), _, rfl, rfl, rfl⟩, ?_⟩
 refine Shift.done ?_
 exact ⟨rfl, rfl⟩



end Go.Hx

namespace Go.Hx
open Go Go.Proofs
set_option linter.unusedSimpArgs false
set_option linter.unusedVariables false
set_option maxRecDepth 10000
set_option maxHeartbeats 1000000 in
theorem c_M_48z (p0 : Config) (vp0_capacities : SV) (vp0_starts : SV) (y0 : List Chan) (H : M_48z p0 = some y0) (K : Kp) (G : List Ent) (hp0_capacities : Slr Ty.i64 K (sv vp0_capacities) p0.capacities) (hp0_starts : Slr Ty.u64 K (sv vp0_starts) p0.starts) :
  Fc Try.prog 57 #[(.agg (Config.cells p0 vp0_capacities vp0_starts).toArray)] K (G) (fun v K' G' => ∃ (wy0 : SV) (rswy0 : List (List Value)), v = (sv wy0) ∧ (.row (sv wy0) 71 3 rswy0.flatten) :: (.tok 38 1 (col 1 rswy0)) :: G = G' ∧ RowR TyChan K' rswy0 y0) := by
 refine Fc_body Try.func57 rfl Try.ntmps57 Try.results57 rfl ?_
 unfold M_48z at H
 refine Cw_seq ?_
 refine Cw_region ?_
 refine Ow_cons rfl (OpW_box (cs := (Config.cells p0 vp0_capacities vp0_starts)) rfl rfl rfl (fun b53 => ?_))
 refine Ow_q rfl rfl rfl (Qt_assign rfl) ?_
 refine Ow_nil ?_
 refine Cw_seq ?_
 refine Cw_region ?_
 refine Ow_q rfl rfl rfl (Qt_assign rfl) ?_
 refine Ow_nil ?_
 refine Cw_join (fun env' K' G' => ∃ (v99 : SV) (l100 : List Chan) (rs102 : List (List Value)), [(3, (sv v99))] = env' ∧ (.row (sv v99) 71 3 rs102.flatten) :: (.tok 38 1 (col 1 rs102)) :: G = G' ∧ M_156z l100 = some y0 ∧ RowR TyChan K' rs102 l100) ?_ ?_
 ·skip
  refine Cw_seq ?_
  refine Cw_region ?_
  refine Ow_q rfl rfl rfl (Qt_assign rfl) ?_
  refine Ow_nil ?_
  refine Cw_block ?_
  refine Cw_loopM (fun n148 env' K' G' => ∃ (v143 : SV) (l144 : List Chan) (rs146 : List (List Value)) (i147 : Int), [(1, (.pointer (some ((⟨b53, 0, none⟩ : Addr).add 0)))), (3, (sv v143)), (4, (.int .i64 i147))] = env' ∧ K = K' ∧ (.blk b53 29 (Config.cells p0 vp0_capacities vp0_starts)) :: (.row (sv v143) 71 3 rs146.flatten) :: (.tok 38 1 (col 1 rs146)) :: G = G' ∧ lp2 (M_26z p0) n148 l144 i147 = some y0 ∧ RowR TyChan K' rs146 l144) BIG ?_ ?_
  ·skip
   have hR149 : RowR TyChan K [] [] := RowR.nil
   refine Shift.nilRow 71 3 ?_
   refine Shift.tok0 38 1 1 ?_
   refine Pu1 ?_
   refine Pu2 ?_
   refine Shift.done ?_
   exact ⟨_, by exact ⟨rfl, rfl, rfl, trivial⟩, nilS, ([] : List Chan), ([] : List (List Value)), 0, rfl, rfl, rfl, H, hR149⟩
  rintro n148 _ _ _ - ⟨v143, l144, rs146, i147, rfl, rfl, rfl, H, hR145⟩
  obtain ⟨m150, k151, rfl, hkk152, H⟩ := lps2 H
  unfold M_26z at H
  refine Cw_seq ?_
  refine Cw_seq ?_
  refine Cw_region ?_
  refine Ow_q rfl rfl rfl (Qt_move rfl) ?_
  refine Ow_q rfl rfl rfl (Qt_fieldAddr (m := 0) rfl rfl rfl rfl rfl) ?_
  refine Ow_q rfl rfl rfl (Qt_load1 (v := (sv vp0_capacities)) rfl rfl rfl (Rdc.blk (.head _) rfl)) ?_
  refine Ow_q rfl rfl rfl (Q_len (T := Ty.i64) hp0_capacities rfl rfl) ?_
  refine Ow_q rfl rfl rfl (Qt_cmp rfl rfl rfl) ?_
  refine Ow_nil ?_
  refine Cw_cond rfl ?_ ?_
  ·intro h154
   have h154 := dcd_t (h154)
   have H := ift h154 H
   refine Cw_skip ?_
   refine Cw_seq ?_
   refine Cw_block ?_
   refine Cw_region ?_
   refine Ow_q rfl rfl rfl (Qt_move rfl) ?_
   refine Ow_q rfl rfl rfl (Qt_fieldAddr (m := 0) rfl rfl rfl rfl rfl) ?_
   refine Ow_q rfl rfl rfl (Qt_load1 (v := (sv vp0_capacities)) rfl rfl rfl (Rdc.blk (.head _) rfl)) ?_
   refine Ow_q rfl rfl rfl (Qt_move rfl) ?_
   obtain ⟨x168, hx169, H⟩ := bnd H
   obtain ⟨r170, hr171, hk172⟩ := Slr.at hp0_capacities hx169
   obtain rfl := hr171
   refine Ow_q rfl rfl rfl (Q_ix (T := Ty.i64) hp0_capacities hx169 rfl rfl rfl rfl rfl) ?_
   refine Ow_q rfl rfl rfl (Qt_load1 (v := (.int .i64 x168)) rfl rfl rfl (Rdc.k hk172 rfl)) ?_
   refine Ow_q rfl rfl rfl (Qt_build (cs := (Chan.cells (Chan.mk x168 [] false) nilS)) rfl rfl rfl rfl rfl rfl) ?_
   have hR174 : RowR TyChan K [(Chan.cells (Chan.mk x168 [] false) nilS)] [(Chan.mk x168 [] false)] := RowR.cons ⟨nilS, rfl, (Slr.nil Ty.u64 _)⟩ (RowR.nil)
   refine Ow_cons rfl (O_lit (T := TyChan) (rows := [(Chan.cells (Chan.mk x168 [] false) nilS)]) (l := [(Chan.mk x168 [] false)]) rfl rfl rfl hR174 rfl rfl rfl rfl rfl rfl rfl rfl (fun v173 => ?_))
   obtain ⟨x175, hx176, H⟩ := bnd H
   refine Ow_cons rfl (O_appRowL (T := TyChan) (bytes := 40) rfl rfl rfl (.tail _ (.tail _ (.head _))) hR145 (.head _) hR174 hx176 rfl rfl rfl rfl rfl rfl rfl rfl (fun v177 rs178 hrs180 hR179 => ⟨_, (.there (.there .here)), ?_⟩))
   refine Ow.shift (Shift.tokNil (.there (.there (.there .here))) (Shift.done ?_))
   have hse := col_app (k := 1) (rows := rs146) (r := (Chan.cells (Chan.mk x168 [] false) nilS)) (v := (sv nilS)) rfl
   rw [show (Value.slice none 0 0) = (sv nilS) from rfl, hse, ← hrs180]
   clear hse
   refine Ow.shift (Re0 (Shift.done ?_))
   refine Ow_q rfl rfl rfl (Qt_assign rfl) ?_
   refine Ow_nil ?_
   refine Cw_region ?_
   refine Ow_q rfl rfl rfl (Qt_move rfl) ?_
   refine Ow_q rfl rfl rfl (Qt_arith (e := wI (i147 + 1)) rfl rfl rfl rfl) ?_
   refine Ow_q rfl rfl rfl (Qt_assign rfl) ?_
   refine Ow_nil ?_
   refine Pu2 ?_
   refine Pu2 ?_
   refine Pu2 ?_
   refine Shift.done ?_
   exact ⟨_, by exact ⟨rfl, rfl, rfl, trivial⟩, _, Nat.lt_succ_self _, v177, x175, rs178, (wI (i147 + 1)), rfl, rfl, rfl, (hkk152 ▸ H), hR179⟩
  ·intro h154
   have h154 := dcd_f (h154)
   have H := iff_ h154 H
   refine Cw_exit ?_
   refine Pu2 ?_
   refine Pu2 ?_
   refine Re2 ?_
   refine Shift.done ?_
   exact ⟨_, by exact ⟨rfl, trivial⟩, v143, l144, rs146, rfl, rfl, H, hR145⟩
 rintro _ K181 _ hK182 ⟨v99, l100, rs102, rfl, rfl, H, hR101⟩
 unfold M_156z at H
 refine Cw_seq ?_
 refine Cw_region ?_
 refine Ow_q rfl rfl rfl (Qt_move rfl) ?_
 refine Ow_q rfl rfl rfl (Qt_assign rfl) ?_
 refine Ow_nil ?_
 refine Cw_ret ?_
 obtain ey0 := inj1 H
 subst y0
 refine ⟨(by first | exact .inl rfl | exact .inr rfl), [(sv v99)], ⟨(sv v99), _, rfl, rfl, rfl⟩, ?_⟩
 refine Pu1 ?_
 refine Pu1 ?_
 refine Shift.done ?_
 exact ⟨v99, rs102, rfl, rfl, hR101⟩

set_option maxHeartbeats 1000000 in
theorem c_M_166z (p0 : List Chan) (vp0 : SV) (p1 : Int) (y0 : Bool) (H : M_166z p0 p1 = some y0) (K : Kp) (G : List Ent) (hp0 : Slr TyChan K (sv vp0) p0) :
  Fc Try.prog 71 #[(sv vp0), (.int .i64 p1)] K (G) (fun v K' G' => v = (.bool y0) ∧ K = K' ∧ G = G') := by
 refine Fc_body Try.func71 rfl Try.ntmps71 Try.results71 rfl ?_
 unfold M_166z at H
 refine Cw_seq ?_
 refine Cw_region ?_
 refine Ow_q rfl rfl rfl (Qt_assign rfl) ?_
 refine Ow_nil ?_
 refine Cw_seq ?_
 refine Cw_region ?_
 refine Ow_q rfl rfl rfl (Qt_move rfl) ?_
 refine Ow_q rfl rfl rfl (Qt_cmp rfl rfl rfl) ?_
 refine Ow_q rfl rfl rfl (Qt_move rfl) ?_
 refine Ow_caseG rfl rfl rfl ?_ ?_
 ·intro h3
  have h3 := dcd_t (h3)
  have H := ift h3 H
  refine Ow_qw rfl rfl rfl rfl rfl rfl (Qt_move rfl) ?_
  refine Ow_qw rfl rfl rfl rfl rfl rfl (Qt_move rfl) ?_
  refine Ow_qw rfl rfl rfl rfl rfl rfl (Q_len (T := TyChan) hp0 rfl rfl) ?_
  refine Ow_qw rfl rfl rfl rfl rfl rfl (Qt_cmp rfl rfl rfl) ?_
  refine Ow_q rfl rfl rfl (Qt_pick_t rfl rfl) ?_
  refine Ow_q rfl rfl rfl (Qt_assign rfl) ?_
  refine Ow_nil ?_
  refine Cw_ret ?_
  obtain ey0 := inj1 H
  subst y0
  refine ⟨(by first | exact .inl rfl | exact .inr rfl), [(.bool (dcd (p1 < (p0.length : Int))))], ⟨(.bool (dcd (p1 < (p0.length : Int)))), _, rfl, rfl, rfl⟩, ?_⟩
  refine Shift.done ?_
  exact ⟨rfl, rfl, rfl⟩
 ·intro h3
  have h3 := dcd_f (h3)
  have H := iff_ h3 H
  refine Ow_pass rfl rfl rfl rfl rfl rfl rfl ?_
  refine Ow_pass rfl rfl rfl rfl rfl rfl rfl ?_
  refine Ow_pass rfl rfl rfl rfl rfl rfl rfl ?_
  refine Ow_pass rfl rfl rfl rfl rfl rfl rfl ?_
  refine Ow_q rfl rfl rfl (Qt_pick_f rfl rfl) ?_
  refine Ow_q rfl rfl rfl (Qt_assign rfl) ?_
  refine Ow_nil ?_
  refine Cw_ret ?_
  obtain ey0 := inj1 H
  subst y0
  refine ⟨(by first | exact .inl rfl | exact .inr rfl), [(.bool false)], ⟨(.bool false), _, rfl, rfl, rfl⟩, ?_⟩
  refine Shift.done ?_
  exact ⟨rfl, rfl, rfl⟩

set_option maxHeartbeats 1000000 in
theorem c_M_113z (p0 : List Chan) (vp0 : SV) (p1 : Case) (y0 : Bool) (H : M_113z p0 p1 = some y0) (K : Kp) (G : List Ent) (hp0 : Slr TyChan K (sv vp0) p0) :
  Fc Try.prog 41 #[(sv vp0), (.agg (Case.cells p1).toArray)] K (G) (fun v K' G' => v = (.bool y0) ∧ K = K' ∧ G = G') := by
 refine Fc_body Try.func41 rfl Try.ntmps41 Try.results41 rfl ?_
 unfold M_113z at H
 refine Cw_seq ?_
 refine Cw_region ?_
 refine Ow_cons rfl (OpW_box (cs := (Case.cells p1)) rfl rfl rfl (fun b16 => ?_))
 refine Ow_q rfl rfl rfl (Qt_assign rfl) ?_
 refine Ow_nil ?_
 refine Cw_seq ?_
 refine Cw_seq ?_
 refine Cw_region ?_
 refine Ow_q rfl rfl rfl (Qt_move rfl) ?_
 refine Ow_q rfl rfl rfl (Qt_fieldAddr (m := 1) rfl rfl rfl rfl rfl) ?_
 refine Ow_q rfl rfl rfl (Qt_load1 (v := (.int .i64 p1.channel)) rfl rfl rfl (Rdc.blk (.head _) rfl)) ?_
 obtain ⟨x20, hx21, H⟩ := bnd H
 refine Ow_cons rfl (OpW_call rfl Try.call71 rfl rfl (c_M_166z p0 vp0 p1.channel x20 hx21 _ _ hp0) ?_)
 rintro _ _ _ - ⟨rfl, rfl, rfl⟩
 refine Ow_q rfl rfl rfl (Qt_not rfl) ?_
 refine Ow_nil ?_
 refine Cw_cond rfl ?_ ?_
 ·intro h22
  have h22 := nt_t (h22)
  have H := iff_ (btf h22) H
  refine Cw_seq ?_
  refine Cw_region ?_
  refine Ow_q rfl rfl rfl (Qt_assign rfl) ?_
  refine Ow_nil ?_
  refine Cw_ret ?_
  obtain ey0 := inj1 H
  subst y0
  refine ⟨(by first | exact .inl rfl | exact .inr rfl), [(.bool false)], ⟨(.bool false), _, rfl, rfl, rfl⟩, ?_⟩
  refine Re0 ?_
  refine Shift.done ?_
  exact ⟨rfl, rfl, rfl⟩
 ·intro h22
  have h22 := nt_f (h22)
  have H := ift h22 H
  refine Cw_skip ?_
  refine Cw_seq ?_
  refine Cw_region ?_
  refine Ow_q rfl rfl rfl (Qt_move rfl) ?_
  refine Ow_q rfl rfl rfl (Qt_fieldAddr (m := 1) rfl rfl rfl rfl rfl) ?_
  refine Ow_q rfl rfl rfl (Qt_load1 (v := (.int .i64 p1.channel)) rfl rfl rfl (Rdc.blk (.head _) rfl)) ?_
  obtain ⟨x23, hx24, H⟩ := bnd H
  obtain ⟨r25, hr26, hk27⟩ := Slr.at hp0 hx24
  obtain ⟨v28, rfl, hs29⟩ := hr26
  refine Ow_q rfl rfl rfl (Q_ix (T := TyChan) hp0 hx24 rfl rfl rfl rfl rfl) ?_
  refine Ow_q rfl rfl rfl (Qt_loadA (m := 3) (cs := (Chan.cells x23 v28)) rfl rfl rfl rfl ⟨rfl, Rdc.k hk27 rfl⟩) ?_
  refine Ow_cons rfl (OpW_alloc (cs := (Chan.cells (Chan.mk 0 [] false) nilS)) rfl rfl rfl rfl (fun b30 => ?_))
  refine Ow_cons rfl (OpW_store (vs := (Chan.cells x23 v28)) (all' := (Chan.cells x23 v28)) rfl rfl rfl rfl rfl .here rfl rfl rfl ?_)
  refine Ow_nil ?_
  refine Cw_seq ?_
  refine Cw_seq ?_
  refine Cw_region ?_
  refine Ow_q rfl rfl rfl (Qt_fieldAddr (m := 0) rfl rfl rfl rfl rfl) ?_
  refine Ow_q rfl rfl rfl (Qt_load1 (v := (.bool p1.send)) rfl rfl rfl (Rdc.blk (.tail _ (.head _)) rfl)) ?_
  refine Ow_nil ?_
  refine Cw_cond rfl ?_ ?_
  ·intro h33
   have H := ift h33 H
   refine Cw_seq ?_
   refine Cw_region ?_
   refine Ow_q rfl rfl rfl (Qt_fieldAddr (m := 2) rfl rfl rfl rfl rfl) ?_
   refine Ow_q rfl rfl rfl (Qt_load1 (v := (.bool x23.closed)) rfl rfl rfl (Rdc.blk (.head _) rfl)) ?_
   refine Ow_q rfl rfl rfl (Qt_move rfl) ?_
   refine Ow_caseG rfl rfl rfl ?_ ?_
   ·intro h35
    have H := ift h35 H
    refine Ow_pass rfl rfl rfl rfl rfl rfl rfl ?_
    refine Ow_pass rfl rfl rfl rfl rfl rfl rfl ?_
    refine Ow_pass rfl rfl rfl rfl rfl rfl rfl ?_
    refine Ow_pass rfl rfl rfl rfl rfl rfl rfl ?_
    refine Ow_pass rfl rfl rfl rfl rfl rfl rfl ?_
    refine Ow_pass rfl rfl rfl rfl rfl rfl rfl ?_
    refine Ow_q rfl rfl rfl (Qt_pick_t rfl rfl) ?_
    refine Ow_q rfl rfl rfl (Qt_assign rfl) ?_
    refine Ow_nil ?_
    refine Cw_ret ?_
    obtain ey0 := inj1 H
    subst y0
    refine ⟨(by first | exact .inl rfl | exact .inr rfl), [(.bool true)], ⟨(.bool true), _, rfl, rfl, rfl⟩, ?_⟩
    refine Re0 ?_
    refine Re0 ?_
    refine Shift.done ?_
    exact ⟨rfl, rfl, rfl⟩
   ·intro h35
    have H := iff_ (btf h35) H
    refine Ow_qw rfl rfl rfl rfl rfl rfl (Qt_fieldAddr (m := 1) rfl rfl rfl rfl rfl) ?_
    refine Ow_qw rfl rfl rfl rfl rfl rfl (Qt_load1 (v := (sv v28)) rfl rfl rfl (Rdc.blk (.head _) rfl)) ?_
    refine Ow_qw rfl rfl rfl rfl rfl rfl (Q_len (T := Ty.u64) hs29 rfl rfl) ?_
    refine Ow_qw rfl rfl rfl rfl rfl rfl (Qt_fieldAddr (m := 0) rfl rfl rfl rfl rfl) ?_
    refine Ow_qw rfl rfl rfl rfl rfl rfl (Qt_load1 (v := (.int .i64 x23.capacity)) rfl rfl rfl (Rdc.blk (.head _) rfl)) ?_
    refine Ow_qw rfl rfl rfl rfl rfl rfl (Qt_cmp rfl rfl rfl) ?_
    refine Ow_q rfl rfl rfl (Qt_pick_f rfl rfl) ?_
    refine Ow_q rfl rfl rfl (Qt_assign rfl) ?_
    refine Ow_nil ?_
    refine Cw_ret ?_
    obtain ey0 := inj1 H
    subst y0
    refine ⟨(by first | exact .inl rfl | exact .inr rfl), [(.bool (dcd ((x23.buffer.length : Int) < x23.capacity)))], ⟨(.bool (dcd ((x23.buffer.length : Int) < x23.capacity))), _, rfl, rfl, rfl⟩, ?_⟩
    refine Re0 ?_
    refine Re0 ?_
    refine Shift.done ?_
    exact ⟨rfl, rfl, rfl⟩
  ·intro h33
   have H := iff_ (btf h33) H
   refine Cw_skip ?_
   refine Cw_seq ?_
   refine Cw_region ?_
   refine Ow_q rfl rfl rfl (Qt_fieldAddr (m := 2) rfl rfl rfl rfl rfl) ?_
   refine Ow_q rfl rfl rfl (Qt_load1 (v := (.bool x23.closed)) rfl rfl rfl (Rdc.blk (.head _) rfl)) ?_
   refine Ow_q rfl rfl rfl (Qt_move rfl) ?_
   refine Ow_caseG rfl rfl rfl ?_ ?_
   ·intro h37
    have H := ift h37 H
    refine Ow_pass rfl rfl rfl rfl rfl rfl rfl ?_
    refine Ow_pass rfl rfl rfl rfl rfl rfl rfl ?_
    refine Ow_pass rfl rfl rfl rfl rfl rfl rfl ?_
    refine Ow_pass rfl rfl rfl rfl rfl rfl rfl ?_
    refine Ow_q rfl rfl rfl (Qt_pick_t rfl rfl) ?_
    refine Ow_q rfl rfl rfl (Qt_assign rfl) ?_
    refine Ow_nil ?_
    refine Cw_ret ?_
    obtain ey0 := inj1 H
    subst y0
    refine ⟨(by first | exact .inl rfl | exact .inr rfl), [(.bool true)], ⟨(.bool true), _, rfl, rfl, rfl⟩, ?_⟩
    refine Re0 ?_
    refine Re0 ?_
    refine Shift.done ?_
    exact ⟨rfl, rfl, rfl⟩
   ·intro h37
    have H := iff_ (btf h37) H
    refine Ow_qw rfl rfl rfl rfl rfl rfl (Qt_fieldAddr (m := 1) rfl rfl rfl rfl rfl) ?_
    refine Ow_qw rfl rfl rfl rfl rfl rfl (Qt_load1 (v := (sv v28)) rfl rfl rfl (Rdc.blk (.head _) rfl)) ?_
    refine Ow_qw rfl rfl rfl rfl rfl rfl (Q_len (T := Ty.u64) hs29 rfl rfl) ?_
    refine Ow_qw rfl rfl rfl rfl rfl rfl (Qt_cmp rfl rfl rfl) ?_
    refine Ow_q rfl rfl rfl (Qt_pick_f rfl rfl) ?_
    refine Ow_q rfl rfl rfl (Qt_assign rfl) ?_
    refine Ow_nil ?_
    refine Cw_ret ?_
    obtain ey0 := inj1 H
    subst y0
    refine ⟨(by first | exact .inl rfl | exact .inr rfl), [(.bool (dcd ((x23.buffer.length : Int) > 0)))], ⟨(.bool (dcd ((x23.buffer.length : Int) > 0))), _, rfl, rfl, rfl⟩, ?_⟩
    refine Re0 ?_
    refine Re0 ?_
    refine Shift.done ?_
    exact ⟨rfl, rfl, rfl⟩



end Go.Hx

namespace Go.Hx
open Go Go.Proofs
set_option linter.unusedSimpArgs false
set_option linter.unusedVariables false
set_option maxRecDepth 10000
set_option maxHeartbeats 1000000 in
theorem c_M_98z (p0 : Config) (vp0_capacities : SV) (vp0_starts : SV) (y0 : Desk) (H : M_98z p0 = some y0) (K : Kp) (G : List Ent) (hp0_capacities : Slr Ty.i64 K (sv vp0_capacities) p0.capacities) (hp0_starts : Slr Ty.u64 K (sv vp0_starts) p0.starts) :
  Fc Try.prog 28 #[(.agg (Config.cells p0 vp0_capacities vp0_starts).toArray)] K (G) (fun v K' G' => ∃ (wy0_chans : SV) (wy0_waiting : SV), v = (.agg (Desk.cells y0 wy0_chans wy0_waiting).toArray) ∧ (.tok 71 3 [(sv wy0_chans)]) :: G = G' ∧ Slr TyChan K' (sv wy0_chans) y0.chans ∧ Slr TyWaiter K' (sv wy0_waiting) y0.waiting) := by
 refine Fc_body Try.func28 rfl Try.ntmps28 Try.results28 rfl ?_
 unfold M_98z at H
 refine Cw_seq ?_
 refine Cw_region ?_
 refine Ow_cons rfl (OpW_box (cs := (Config.cells p0 vp0_capacities vp0_starts)) rfl rfl rfl (fun b13 => ?_))
 refine Ow_cons rfl (OpW_alloc (cs := (Desk.cells (Desk.mk [] [] 0) nilS nilS)) rfl rfl rfl rfl (fun b14 => ?_))
 refine Ow_nil ?_
 refine Cw_seq ?_
 refine Cw_region ?_
 refine Ow_q rfl rfl rfl (Qt_loadA (m := 3) (cs := (Config.cells p0 vp0_capacities vp0_starts)) rfl rfl rfl rfl ⟨rfl, Rdc.blk (.tail _ (.head _)) rfl⟩) ?_
 obtain ⟨x15, hx16, H⟩ := bnd H
 refine Ow_cons rfl (OpW_call rfl Try.call57 rfl rfl (c_M_48z p0 vp0_capacities vp0_starts x15 hx16 _ _ hp0_capacities hp0_starts) ?_)
 rintro _ K19 _ hK20 ⟨v17, rs18, rfl, rfl, hs21⟩
 refine Ow.shift (Shift.settle (T := TyChan) .here hs21 rfl (fun K22 hK23 hs24 => Shift.done ?_))
 refine Ow_q rfl rfl rfl (Qt_build (cs := (Desk.cells (Desk.mk x15 [] 0) v17 nilS)) rfl rfl rfl rfl rfl rfl) ?_
 refine Ow_cons rfl (OpW_store (vs := (Desk.cells (Desk.mk x15 [] 0) v17 nilS)) (all' := (Desk.cells (Desk.mk x15 [] 0) v17 nilS)) rfl rfl rfl rfl rfl (.there (.there .here)) rfl rfl rfl ?_)
 refine Ow_nil ?_
 refine Cw_ret ?_
 obtain ey0 := inj1 H
 subst y0
 refine ⟨(by first | exact .inl rfl | exact .inr rfl), [(.agg (Desk.cells (Desk.mk x15 [] 0) v17 nilS).toArray)], ⟨(.agg (Desk.cells (Desk.mk x15 [] 0) v17 nilS).toArray), _, rfl, ⟨_, 3, (Desk.cells (Desk.mk x15 [] 0) v17 nilS), rfl, rfl, rfl, rfl, ⟨rfl, Rdc.blk (.tail _ (.tail _ (.head _))) rfl⟩, rfl⟩, rfl⟩, ?_⟩
 refine Re1 ?_
 refine Re1 ?_
 refine Re1 ?_
 refine Shift.done ?_
 exact ⟨v17, nilS, rfl, rfl, hs24, (Slr.nil TyWaiter _)⟩

set_option maxHeartbeats 1000000 in
theorem c_M_3z (p0 : Desk) (vp0_chans : SV) (vp0_waiting : SV) (p1 : Int) (y0 : Desk) (H : M_3z p0 p1 = some y0) (K : Kp) (G : List Ent) (hp0_chans : Slr TyChan K (sv vp0_chans) p0.chans) (hp0_waiting : Slr TyWaiter K (sv vp0_waiting) p0.waiting) :
  Fc Try.prog 60 #[(.agg (Desk.cells p0 vp0_chans vp0_waiting).toArray), (.int .i64 p1)] K (G) (fun v K' G' => ∃ (wy0_chans : SV) (wy0_waiting : SV), v = (.agg (Desk.cells y0 wy0_chans wy0_waiting).toArray) ∧ (.tok 52 8 [(sv wy0_waiting)]) :: G = G' ∧ Slr TyChan K' (sv wy0_chans) y0.chans ∧ Slr TyWaiter K' (sv wy0_waiting) y0.waiting) := by
 refine Fc_body Try.func60 rfl Try.ntmps60 Try.results60 rfl ?_
 unfold M_3z at H
 refine Cw_seq ?_
 refine Cw_region ?_
 refine Ow_cons rfl (OpW_box (cs := (Desk.cells p0 vp0_chans vp0_waiting)) rfl rfl rfl (fun b60 => ?_))
 refine Ow_cons rfl (OpW_alloc (cs := (Desk.cells (Desk.mk [] [] 0) nilS nilS)) rfl rfl rfl rfl (fun b61 => ?_))
 refine Ow_nil ?_
 refine Cw_join (fun env' K' G' => ∃ (v113 : SV) (l114 : List Waiter), [(2, (.pointer (some ((⟨b60, 0, none⟩ : Addr).add 0)))), (4, (.pointer (some ((⟨b61, 0, none⟩ : Addr).add 0))))] = env' ∧ (.blk b61 34 (Desk.cells (Desk.mk [] [] 0) nilS nilS)) :: (.blk b60 34 (Desk.cells (Desk.mk p0.chans l114 p0.tick) vp0_chans v113)) :: (.tok 52 8 [(sv v113)]) :: G = G' ∧ M_49z p0 l114 = some y0 ∧ Slr TyWaiter K' (sv v113) l114) ?_ ?_
 ·skip
  obtain ⟨x116, hx117, H⟩ := bnd H
  obtain ⟨x119, hx120, H⟩ := bnd H
  obtain ⟨x125, hx126, H⟩ := bnd H
  obtain ⟨x129, hx130, H⟩ := bnd H
  refine Cw_region_any [.blk b61 34 (Desk.cells (Desk.mk [] [] 0) nilS nilS)] rfl (Inc.cons (.head _) Inc.nil) ?_
  refine Awq 0 rfl (by kernel_rfl) rfl rfl rfl (Qt_fieldAddr (m := 1) rfl rfl rfl rfl rfl) ?_
  refine Awq 2 rfl (by kernel_rfl) rfl rfl rfl (Qt_move rfl) ?_
  refine Awq 5 rfl (by kernel_rfl) rfl rfl rfl (Qt_fieldAddr (m := 1) rfl rfl rfl rfl rfl) ?_
  refine Awq 7 rfl (by kernel_rfl) rfl rfl rfl (Qt_move rfl) ?_
  refine Awq 8 rfl (by kernel_rfl) rfl rfl rfl (Qt_arith (e := wI (p1 + 1)) rfl rfl rfl rfl) ?_
  refine Aw_two 1 6 (by kernel_rfl) ?_ ?_
  ·skip
   refine id (Ax_mk rfl rfl (OpW_of_Qt rfl rfl (Qt_load1 (v := (sv vp0_waiting)) rfl rfl rfl (Rdc.blk (.tail _ (.head _)) rfl)) ⟨(Inc.cons (.head _) Inc.nil), ?_⟩))
   have hs135 := Slr.cut hp0_waiting hx117
   refine Awq 3 rfl (by kernel_rfl) rfl rfl rfl (Q_cutH (T := TyWaiter) hp0_waiting hx117 rfl rfl rfl rfl) ?_
   refine Aw_two 4 6 (by kernel_rfl) ?_ ?_
   ·skip
    refine id (Ax_mk rfl rfl ?_)
    refine OpW.shift (Shift.nilTok1 52 8 (Shift.done ?_))
    refine O_appTok (T := TyWaiter) (bytes := 96) (q := 0) rfl rfl rfl (Slr.nil TyWaiter _) (.head _) rfl (SrcT.sl hs135) hx120 rfl rfl rfl rfl rfl rfl rfl rfl (fun v136 K137 hK138 hs139 => ⟨_, .here, ⟨(Inc.cons (.tail _ (.head _)) Inc.nil), ?_⟩⟩)
    refine Aw_one 6 (by kernel_rfl) (Ax_mk rfl rfl (OpW_of_Qt rfl rfl (Qt_load1 (v := (sv vp0_waiting)) rfl rfl rfl (Rdc.blk (.tail _ (.tail _ (.head _))) rfl)) ⟨(Inc.cons (.tail _ (.head _)) Inc.nil), ?_⟩))
    have hs140 := Slr.cutL hp0_waiting hx126
    refine Awq 9 rfl (by kernel_rfl) rfl rfl rfl (Q_cutL (T := TyWaiter) hp0_waiting hx126 rfl rfl rfl rfl rfl) ?_
    refine Aw_one 10 (by kernel_rfl) (Ax_mk rfl rfl ?_)
    have hs141 := (hs140).mono hK138
    refine O_appTok (T := TyWaiter) (bytes := 96) (q := 0) rfl rfl rfl hs139 (.head _) rfl (SrcT.sl hs141) hx130 rfl rfl rfl rfl rfl rfl rfl rfl (fun v142 K143 hK144 hs145 => ⟨_, .here, ⟨(Inc.cons (.tail _ (.head _)) Inc.nil), ?_⟩⟩)
    refine Awq 11 rfl (by kernel_rfl) rfl rfl rfl (Qt_fieldAddr (m := 1) rfl rfl rfl rfl rfl) ?_
    refine Aw_one 12 (by kernel_rfl) (Ax_mk rfl rfl ?_)
    refine OpW_store (vs := [(sv v142)]) (all' := (Desk.cells (Desk.mk p0.chans x129 p0.tick) vp0_chans v142)) rfl rfl rfl rfl rfl (.there (.there .here)) rfl rfl rfl ⟨(Inc.cons (.tail _ (.head _)) Inc.nil), ?_⟩
    refine Aw_done (by kernel_rfl) ?_
    refine Pu2 ?_
    refine Pu2 ?_
    refine Shift.done ?_
    exact ⟨_, by exact ⟨rfl, rfl, trivial⟩, v142, x129, rfl, rfl, H, hs145⟩
   ·skip
    refine id (Ax_mk rfl rfl (OpW_of_Qt rfl rfl (Qt_load1 (v := (sv vp0_waiting)) rfl rfl rfl (Rdc.blk (.tail _ (.head _)) rfl)) ⟨(Inc.cons (.head _) Inc.nil), ?_⟩))
    have hs146 := Slr.cutL hp0_waiting hx126
    refine Awq 9 rfl (by kernel_rfl) rfl rfl rfl (Q_cutL (T := TyWaiter) hp0_waiting hx126 rfl rfl rfl rfl rfl) ?_
    refine Aw_one 4 (by kernel_rfl) (Ax_mk rfl rfl ?_)
    refine OpW.shift (Shift.nilTok1 52 8 (Shift.done ?_))
    refine O_appTok (T := TyWaiter) (bytes := 96) (q := 0) rfl rfl rfl (Slr.nil TyWaiter _) (.head _) rfl (SrcT.sl hs135) hx120 rfl rfl rfl rfl rfl rfl rfl rfl (fun v147 K148 hK149 hs150 => ⟨_, .here, ⟨(Inc.cons (.tail _ (.head _)) Inc.nil), ?_⟩⟩)
    refine Aw_one 10 (by kernel_rfl) (Ax_mk rfl rfl ?_)
    have hs151 := (hs146).mono hK149
    refine O_appTok (T := TyWaiter) (bytes := 96) (q := 0) rfl rfl rfl hs150 (.head _) rfl (SrcT.sl hs151) hx130 rfl rfl rfl rfl rfl rfl rfl rfl (fun v152 K153 hK154 hs155 => ⟨_, .here, ⟨(Inc.cons (.tail _ (.head _)) Inc.nil), ?_⟩⟩)
    refine Awq 11 rfl (by kernel_rfl) rfl rfl rfl (Qt_fieldAddr (m := 1) rfl rfl rfl rfl rfl) ?_
    refine Aw_one 12 (by kernel_rfl) (Ax_mk rfl rfl ?_)
    refine OpW_store (vs := [(sv v152)]) (all' := (Desk.cells (Desk.mk p0.chans x129 p0.tick) vp0_chans v152)) rfl rfl rfl rfl rfl (.there (.there .here)) rfl rfl rfl ⟨(Inc.cons (.tail _ (.head _)) Inc.nil), ?_⟩
    refine Aw_done (by kernel_rfl) ?_
    refine Pu2 ?_
    refine Pu2 ?_
    refine Shift.done ?_
    exact ⟨_, by exact ⟨rfl, rfl, trivial⟩, v152, x129, rfl, rfl, H, hs155⟩
  ·skip
   refine id (Ax_mk rfl rfl (OpW_of_Qt rfl rfl (Qt_load1 (v := (sv vp0_waiting)) rfl rfl rfl (Rdc.blk (.tail _ (.head _)) rfl)) ⟨(Inc.cons (.head _) Inc.nil), ?_⟩))
   have hs156 := Slr.cutL hp0_waiting hx126
   refine Awq 9 rfl (by kernel_rfl) rfl rfl rfl (Q_cutL (T := TyWaiter) hp0_waiting hx126 rfl rfl rfl rfl rfl) ?_
   refine Aw_one 1 (by kernel_rfl) (Ax_mk rfl rfl (OpW_of_Qt rfl rfl (Qt_load1 (v := (sv vp0_waiting)) rfl rfl rfl (Rdc.blk (.tail _ (.head _)) rfl)) ⟨(Inc.cons (.head _) Inc.nil), ?_⟩))
   have hs157 := Slr.cut hp0_waiting hx117
   refine Awq 3 rfl (by kernel_rfl) rfl rfl rfl (Q_cutH (T := TyWaiter) hp0_waiting hx117 rfl rfl rfl rfl) ?_
   refine Aw_one 4 (by kernel_rfl) (Ax_mk rfl rfl ?_)
   refine OpW.shift (Shift.nilTok1 52 8 (Shift.done ?_))
   refine O_appTok (T := TyWaiter) (bytes := 96) (q := 0) rfl rfl rfl (Slr.nil TyWaiter _) (.head _) rfl (SrcT.sl hs157) hx120 rfl rfl rfl rfl rfl rfl rfl rfl (fun v158 K159 hK160 hs161 => ⟨_, .here, ⟨(Inc.cons (.tail _ (.head _)) Inc.nil), ?_⟩⟩)
   refine Aw_one 10 (by kernel_rfl) (Ax_mk rfl rfl ?_)
   have hs162 := (hs156).mono hK160
   refine O_appTok (T := TyWaiter) (bytes := 96) (q := 0) rfl rfl rfl hs161 (.head _) rfl (SrcT.sl hs162) hx130 rfl rfl rfl rfl rfl rfl rfl rfl (fun v163 K164 hK165 hs166 => ⟨_, .here, ⟨(Inc.cons (.tail _ (.head _)) Inc.nil), ?_⟩⟩)
   refine Awq 11 rfl (by kernel_rfl) rfl rfl rfl (Qt_fieldAddr (m := 1) rfl rfl rfl rfl rfl) ?_
   refine Aw_one 12 (by kernel_rfl) (Ax_mk rfl rfl ?_)
   refine OpW_store (vs := [(sv v163)]) (all' := (Desk.cells (Desk.mk p0.chans x129 p0.tick) vp0_chans v163)) rfl rfl rfl rfl rfl (.there (.there .here)) rfl rfl rfl ⟨(Inc.cons (.tail _ (.head _)) Inc.nil), ?_⟩
   refine Aw_done (by kernel_rfl) ?_
   refine Pu2 ?_
   refine Pu2 ?_
   refine Shift.done ?_
   exact ⟨_, by exact ⟨rfl, rfl, trivial⟩, v163, x129, rfl, rfl, H, hs166⟩
 rintro _ K167 _ hK168 ⟨v113, l114, rfl, rfl, H, hs115⟩
 unfold M_49z at H
 refine Cw_seq ?_
 refine Cw_region ?_
 refine Ow_q rfl rfl rfl (Qt_loadA (m := 3) (cs := (Desk.cells (Desk.mk p0.chans l114 p0.tick) vp0_chans v113)) rfl rfl rfl rfl ⟨rfl, Rdc.blk (.tail _ (.head _)) rfl⟩) ?_
 refine Ow_cons rfl (OpW_store (vs := (Desk.cells (Desk.mk p0.chans l114 p0.tick) vp0_chans v113)) (all' := (Desk.cells (Desk.mk p0.chans l114 p0.tick) vp0_chans v113)) rfl rfl rfl rfl rfl .here rfl rfl rfl ?_)
 refine Ow_nil ?_
 refine Cw_ret ?_
 obtain ey0 := inj1 H
 subst y0
 refine ⟨(by first | exact .inl rfl | exact .inr rfl), [(.agg (Desk.cells (Desk.mk p0.chans l114 p0.tick) vp0_chans v113).toArray)], ⟨(.agg (Desk.cells (Desk.mk p0.chans l114 p0.tick) vp0_chans v113).toArray), _, rfl, ⟨_, 3, (Desk.cells (Desk.mk p0.chans l114 p0.tick) vp0_chans v113), rfl, rfl, rfl, rfl, ⟨rfl, Rdc.blk (.head _) rfl⟩, rfl⟩, rfl⟩, ?_⟩
 refine Pu2 ?_
 refine Re1 ?_
 refine Re1 ?_
 have hs169 := (hp0_chans).mono hK168
 refine Shift.done ?_
 exact ⟨vp0_chans, v113, rfl, rfl, hs169, hs115⟩

set_option maxHeartbeats 1000000 in
theorem c_M_12z (p0 : List Done) (vp0 : SV) (p1 : Int) (p2 : Result) (y0 : List Done) (H : M_12z p0 p1 p2 = some y0) (K : Kp) (G : List Ent) (hp0 : Slr TyDone K (sv vp0) p0) :
  Fc Try.prog 61 #[(sv vp0), (.int .i64 p1), (.agg (Result.cells p2).toArray)] K (G) (fun v K' G' => ∃ (wy0 : SV), v = (sv wy0) ∧ (.tok 75 6 [(sv wy0)]) :: G = G' ∧ Slr TyDone K' (sv wy0) y0) := by
 refine Fc_body Try.func61 rfl Try.ntmps61 Try.results61 rfl ?_
 unfold M_12z at H
 refine Cw_seq ?_
 refine Cw_region ?_
 refine Ow_cons rfl (OpW_box (cs := (Result.cells p2)) rfl rfl rfl (fun b97 => ?_))
 refine Ow_q rfl rfl rfl (Qt_assign rfl) ?_
 refine Ow_nil ?_
 refine Cw_seq ?_
 refine Cw_region ?_
 refine Ow_q rfl rfl rfl (Qt_move rfl) ?_
 refine Ow_q rfl rfl rfl (Q_len (T := TyDone) hp0 rfl rfl) ?_
 refine Ow_q rfl rfl rfl (Qt_assign rfl) ?_
 refine Ow_nil ?_
 refine Cw_join (fun env' K' G' => ∃ (i122 : Int), [(0, (sv vp0)), (1, (.int .i64 p1)), (5, (.pointer (some ((⟨b97, 0, none⟩ : Addr).add 0)))), (7, (.int .i64 i122))] = env' ∧ (.blk b97 73 (Result.cells p2)) :: G = G' ∧ M_99z p0 p1 p2 i122 = some y0) ?_ ?_
 ·skip
  refine Cw_block ?_
  refine Cw_loopM (fun n147 env' K' G' => ∃ (i146 : Int), [(0, (sv vp0)), (1, (.int .i64 p1)), (5, (.pointer (some ((⟨b97, 0, none⟩ : Addr).add 0)))), (7, (.int .i64 i146))] = env' ∧ K = K' ∧ (.blk b97 73 (Result.cells p2)) :: G = G' ∧ lp1 (M_157z p0 p1 p2) n147 i146 = some y0) BIG ?_ ?_
  ·skip
   refine Shift.done ?_
   exact ⟨_, by exact ⟨rfl, rfl, rfl, rfl, trivial⟩, (p0.length : Int), rfl, rfl, rfl, H⟩
  rintro n147 _ _ _ - ⟨i146, rfl, rfl, rfl, H⟩
  obtain ⟨m148, k149, rfl, hkk150, H⟩ := lps1 H
  unfold M_157z at H
  refine Cw_seq ?_
  refine Cw_join (fun env' K' G' => ∃ (t165 : Bool), [(0, (sv vp0)), (1, (.int .i64 p1)), (5, (.pointer (some ((⟨b97, 0, none⟩ : Addr).add 0)))), (7, (.int .i64 i146)), (22, (.bool t165))] = env' ∧ K = K' ∧ (.blk b97 73 (Result.cells p2)) :: G = G' ∧ M_100z p0 p1 i146 p2 k149 t165 = some y0) ?_ ?_
  ·skip
   refine Cw_region ?_
   refine Ow_q rfl rfl rfl (Qt_move rfl) ?_
   refine Ow_q rfl rfl rfl (Qt_cmp rfl rfl rfl) ?_
   refine Ow_q rfl rfl rfl (Qt_move rfl) ?_
   refine Ow_caseG rfl rfl rfl ?_ ?_
   ·intro h166
    have h166 := dcd_t (h166)
    have H := ift h166 H
    refine Ow_qw rfl rfl rfl rfl rfl rfl (Qt_move rfl) ?_
    refine Ow_qw rfl rfl rfl rfl rfl rfl (Qt_move rfl) ?_
    refine Ow_qw rfl rfl rfl rfl rfl rfl (Qt_arith (e := wI (i146 - 1)) rfl rfl rfl rfl) ?_
    obtain ⟨x167, hx168, H⟩ := bnd H
    obtain ⟨r169, hr170, hk171⟩ := Slr.at hp0 hx168
    obtain rfl := hr170
    refine Ow_qw rfl rfl rfl rfl rfl rfl (Q_ix (T := TyDone) hp0 hx168 rfl rfl rfl rfl rfl) ?_
    refine Ow_qw rfl rfl rfl rfl rfl rfl (Qt_fieldAddr (m := 0) rfl rfl rfl rfl rfl) ?_
    refine Ow_qw rfl rfl rfl rfl rfl rfl (Qt_load1 (v := (.int .i64 x167.thread)) rfl rfl rfl (Rdc.k hk171 rfl)) ?_
    refine Ow_qw rfl rfl rfl rfl rfl rfl (Qt_move rfl) ?_
    refine Ow_qw rfl rfl rfl rfl rfl rfl (Qt_cmp rfl rfl rfl) ?_
    refine Ow_q rfl rfl rfl (Qt_pick_t rfl rfl) ?_
    refine Ow_nil ?_
    refine Shift.done ?_
    exact ⟨_, by exact ⟨rfl, rfl, rfl, rfl, rfl, trivial⟩, (dcd (x167.thread > p1)), rfl, rfl, rfl, H⟩
   ·intro h166
    have h166 := dcd_f (h166)
    have H := iff_ h166 H
    refine Ow_pass rfl rfl rfl rfl rfl rfl rfl ?_
    refine Ow_pass rfl rfl rfl rfl rfl rfl rfl ?_
    refine Ow_pass rfl rfl rfl rfl rfl rfl rfl ?_
    refine Ow_pass rfl rfl rfl rfl rfl rfl rfl ?_
    refine Ow_pass rfl rfl rfl rfl rfl rfl rfl ?_
    refine Ow_pass rfl rfl rfl rfl rfl rfl rfl ?_
    refine Ow_pass rfl rfl rfl rfl rfl rfl rfl ?_
    refine Ow_pass rfl rfl rfl rfl rfl rfl rfl ?_
    refine Ow_q rfl rfl rfl (Qt_pick_f rfl rfl) ?_
    refine Ow_nil ?_
    refine Shift.done ?_
    exact ⟨_, by exact ⟨rfl, rfl, rfl, rfl, rfl, trivial⟩, false, rfl, rfl, rfl, H⟩
  rintro _ _ _ - ⟨t165, rfl, rfl, rfl, H⟩
  unfold M_100z at H
  refine Cw_cond rfl ?_ ?_
  ·intro h172
   have H := ift h172 H
   refine Cw_skip ?_
   refine Cw_block ?_
   refine Cw_region ?_
   refine Ow_q rfl rfl rfl (Qt_move rfl) ?_
   refine Ow_q rfl rfl rfl (Qt_arith (e := wI (i146 - 1)) rfl rfl rfl rfl) ?_
   refine Ow_q rfl rfl rfl (Qt_assign rfl) ?_
   refine Ow_nil ?_
   refine Shift.done ?_
   exact ⟨_, by exact ⟨rfl, rfl, rfl, rfl, trivial⟩, _, Nat.lt_succ_self _, (wI (i146 - 1)), rfl, rfl, rfl, (hkk150 ▸ H)⟩
  ·intro h172
   have H := iff_ (btf h172) H
   refine Cw_exit ?_
   refine Shift.done ?_
   exact ⟨_, by exact ⟨rfl, rfl, rfl, rfl, trivial⟩, i146, rfl, rfl, H⟩
 rintro _ K173 _ hK174 ⟨i122, rfl, rfl, H⟩
 unfold M_99z at H
 refine Cw_seq ?_
 refine Cw_region ?_
 refine Ow_q rfl rfl rfl (Qt_move rfl) ?_
 refine Ow_q rfl rfl rfl (Qt_move rfl) ?_
 obtain ⟨x175, hx176, H⟩ := bnd H
 have hs177 := (hp0).mono hK174
 have hs178 := Slr.cut hs177 hx176
 refine Ow_q rfl rfl rfl (Q_cutH (T := TyDone) hs177 hx176 rfl rfl rfl rfl) ?_
 refine Ow.shift (Shift.nilTok1 75 6 (Shift.done ?_))
 obtain ⟨x179, hx180, H⟩ := bnd H
 refine Ow_cons rfl (O_appTok (T := TyDone) (bytes := 48) (q := 0) rfl rfl rfl (Slr.nil TyDone _) (.head _) rfl (SrcT.sl hs178) hx180 rfl rfl rfl rfl rfl rfl rfl rfl (fun v181 K182 hK183 hs184 => ⟨_, .here, ?_⟩))
 refine Ow_q rfl rfl rfl (Qt_assign rfl) ?_
 refine Ow_nil ?_
 refine Cw_seq ?_
 obtain ⟨x218, hx219, H⟩ := bnd H
 obtain ⟨x224, hx225, H⟩ := bnd H
 obtain ⟨x228, hx229, H⟩ := bnd H
 refine Cw_region_any [.blk b97 73 (Result.cells p2)] rfl (Inc.cons (.tail _ (.head _)) Inc.nil) ?_
 refine Awq 0 rfl (by kernel_rfl) rfl rfl rfl (Qt_move rfl) ?_
 refine Awq 1 rfl (by kernel_rfl) rfl rfl rfl (Qt_move rfl) ?_
 refine Awq 2 rfl (by kernel_rfl) rfl rfl rfl (Qt_loadA (m := 5) (cs := (Result.cells p2)) rfl rfl rfl rfl ⟨rfl, Rdc.blk (.head _) rfl⟩) ?_
 refine Awq 3 rfl (by kernel_rfl) rfl rfl rfl (Qt_build (cs := (Done.cells (Done.mk p1 p2))) rfl rfl rfl rfl rfl rfl) ?_
 refine Awq 6 rfl (by kernel_rfl) rfl rfl rfl (Qt_move rfl) ?_
 refine Awq 7 rfl (by kernel_rfl) rfl rfl rfl (Qt_move rfl) ?_
 have hs234 := (hs177).mono hK183
 have hs235 := Slr.cutL hs234 hx225
 refine Awq 8 rfl (by kernel_rfl) rfl rfl rfl (Q_cutL (T := TyDone) hs234 hx225 rfl rfl rfl rfl rfl) ?_
 refine Aw_one 4 (by kernel_rfl) (Ax_mk rfl rfl ?_)
 have hR237 : RowR TyDone K182 [(Done.cells (Done.mk p1 p2))] [(Done.mk p1 p2)] := RowR.cons rfl (RowR.nil)
 refine O_lit (T := TyDone) (rows := [(Done.cells (Done.mk p1 p2))]) (l := [(Done.mk p1 p2)]) rfl rfl rfl hR237 rfl rfl rfl rfl rfl rfl rfl rfl (fun v236 => ⟨(Inc.cons (.tail _ (.tail _ (.head _))) Inc.nil), ?_⟩)
 refine Aw_one 5 (by kernel_rfl) (Ax_mk rfl rfl ?_)
 refine O_appTok (T := TyDone) (bytes := 48) (q := 0) rfl rfl rfl hs184 (.tail _ (.head _)) rfl (SrcT.row (.head _) hR237 rfl) hx219 rfl rfl rfl rfl rfl rfl rfl rfl (fun v238 K239 hK240 hs241 => ⟨_, (.there .here), ⟨(Inc.cons (.tail _ (.tail _ (.head _))) Inc.nil), ?_⟩⟩)
 refine Aw.shift (Re0 (Shift.done ⟨(Inc.cons (.tail _ (.head _)) Inc.nil), ?_⟩))
 refine Aw_one 9 (by kernel_rfl) (Ax_mk rfl rfl ?_)
 have hs242 := (hs235).mono hK240
 refine O_appTok (T := TyDone) (bytes := 48) (q := 0) rfl rfl rfl hs241 (.head _) rfl (SrcT.sl hs242) hx229 rfl rfl rfl rfl rfl rfl rfl rfl (fun v243 K244 hK245 hs246 => ⟨_, .here, ⟨(Inc.cons (.tail _ (.head _)) Inc.nil), ?_⟩⟩)
 refine Awq 10 rfl (by kernel_rfl) rfl rfl rfl (Qt_assign rfl) ?_
 refine Aw_done (by kernel_rfl) ?_
 refine Cw_ret ?_
 obtain ey0 := inj1 H
 subst y0
 refine ⟨(by first | exact .inl rfl | exact .inr rfl), [(sv v243)], ⟨(sv v243), _, rfl, rfl, rfl⟩, ?_⟩
 refine Re1 ?_
 refine Shift.done ?_
 exact ⟨v243, rfl, rfl, hs246⟩

set_option maxHeartbeats 1000000 in
theorem c_M_27z (p0 : Desk) (vp0_chans : SV) (vp0_waiting : SV) (p1 : Int) (y0 : Desk) (y1 : List Done) (H : M_27z p0 p1 = some (y0, y1)) (K : Kp) (G : List Ent) (hp0_chans : Slr TyChan K (sv vp0_chans) p0.chans) (hp0_waiting : Slr TyWaiter K (sv vp0_waiting) p0.waiting) :
  Fc Try.prog 32 #[(.agg (Desk.cells p0 vp0_chans vp0_waiting).toArray), (.int .i64 p1)] K (G) (fun v K' G' => ∃ (wy0_chans : SV) (wy0_waiting : SV) (wy1 : SV), v = (.tuple #[(.agg (Desk.cells y0 wy0_chans wy0_waiting).toArray), (sv wy1)]) ∧ (.tok 75 6 [(sv wy1)]) :: G = G' ∧ Slr TyChan K' (sv wy0_chans) y0.chans ∧ Slr TyWaiter K' (sv wy0_waiting) y0.waiting ∧ Slr TyDone K' (sv wy1) y1) := by
 refine Fc_body Try.func32 rfl Try.ntmps32 Try.results32 rfl ?_
 unfold M_27z at H
 refine Cw_seq ?_
 refine Cw_region ?_
 refine Ow_cons rfl (OpW_box (cs := (Desk.cells p0 vp0_chans vp0_waiting)) rfl rfl rfl (fun b116 => ?_))
 refine Ow_cons rfl (OpW_alloc (cs := (Desk.cells (Desk.mk [] [] 0) nilS nilS)) rfl rfl rfl rfl (fun b117 => ?_))
 refine Ow_q rfl rfl rfl (Qt_assign rfl) ?_
 refine Ow_nil ?_
 refine Cw_seq ?_
 refine Cw_seq ?_
 refine Cw_region ?_
 refine Ow_q rfl rfl rfl (Qt_move rfl) ?_
 refine Ow_q rfl rfl rfl (Qt_cmp rfl rfl rfl) ?_
 refine Ow_nil ?_
 refine Cw_cond rfl ?_ ?_
 ·intro h119
  have h119 := dcd_t (h119)
  have H := ift h119 H
  refine Cw_seq ?_
  refine Cw_region ?_
  refine Ow_q rfl rfl rfl (Qt_loadA (m := 3) (cs := (Desk.cells p0 vp0_chans vp0_waiting)) rfl rfl rfl rfl ⟨rfl, Rdc.blk (.tail _ (.head _)) rfl⟩) ?_
  refine Ow_cons rfl (OpW_store (vs := (Desk.cells p0 vp0_chans vp0_waiting)) (all' := (Desk.cells p0 vp0_chans vp0_waiting)) rfl rfl rfl rfl rfl .here rfl rfl rfl ?_)
  refine Ow_q rfl rfl rfl (Qt_assign rfl) ?_
  refine Ow_nil ?_
  refine Cw_ret ?_
  obtain ⟨ey0, ey1⟩ := inj2 H
  subst y0 y1
  refine ⟨(by first | exact .inl rfl | exact .inr rfl), [(.agg (Desk.cells p0 vp0_chans vp0_waiting).toArray), (sv nilS)], ⟨(.agg (Desk.cells p0 vp0_chans vp0_waiting).toArray), _, rfl, ⟨_, 3, (Desk.cells p0 vp0_chans vp0_waiting), rfl, rfl, rfl, rfl, ⟨rfl, Rdc.blk (.head _) rfl⟩, rfl⟩, ⟨(sv nilS), _, rfl, rfl, rfl⟩⟩, ?_⟩
  refine Shift.nilTok1 75 6 ?_
  refine Re1 ?_
  refine Re1 ?_
  refine Shift.done ?_
  exact ⟨vp0_chans, vp0_waiting, nilS, rfl, rfl, hp0_chans, hp0_waiting, (Slr.nil TyDone _)⟩
 ·intro h119
  have h119 := dcd_f (h119)
  have H := iff_ h119 H
  refine Cw_skip ?_
  refine Cw_join (fun env' K' G' => ∃ (i121 : Int), [(2, (.pointer (some ((⟨b116, 0, none⟩ : Addr).add 0)))), (4, (.pointer (some ((⟨b117, 0, none⟩ : Addr).add 0))))] = env' ∧ K = K' ∧ (.blk b117 34 (Desk.cells (Desk.mk [] [] 0) nilS nilS)) :: (.blk b116 34 (Desk.cells (Desk.mk p0.chans p0.waiting i121) vp0_chans vp0_waiting)) :: G = G' ∧ M_50z p0 i121 = some (y0, y1)) ?_ ?_
  ·skip
   refine Cw_seq ?_
   refine Cw_region ?_
   refine Ow_q rfl rfl rfl (Qt_move rfl) ?_
   refine Ow_q rfl rfl rfl (Qt_fieldAddr (m := 2) rfl rfl rfl rfl rfl) ?_
   refine Ow_q rfl rfl rfl (Qt_load1 (v := (.int .i64 p0.tick)) rfl rfl rfl (Rdc.blk (.tail _ (.head _)) rfl)) ?_
   refine Ow_q rfl rfl rfl (Qt_arith (e := wI (1099511627776 - p0.tick)) rfl rfl rfl rfl) ?_
   refine Ow_q rfl rfl rfl (Qt_cmp rfl rfl rfl) ?_
   refine Ow_nil ?_
   refine Cw_cond rfl ?_ ?_
   ·intro h122
    have h122 := dcd_t (h122)
    have H := ift h122 H
    refine Cw_region ?_
    refine Ow_q rfl rfl rfl (Qt_fieldAddr (m := 2) rfl rfl rfl rfl rfl) ?_
    refine Ow_cons rfl (OpW_store (vs := [(.int .i64 1099511627776)]) (all' := (Desk.cells (Desk.mk p0.chans p0.waiting 1099511627776) vp0_chans vp0_waiting)) rfl rfl rfl rfl rfl (.there .here) rfl rfl rfl ?_)
    refine Ow_nil ?_
    refine Pu1 ?_
    refine Pu1 ?_
    refine Shift.done ?_
    exact ⟨_, by exact ⟨rfl, rfl, trivial⟩, 1099511627776, rfl, rfl, rfl, H⟩
   ·intro h122
    have h122 := dcd_f (h122)
    have H := iff_ h122 H
    refine Cw_region ?_
    refine Ow_q rfl rfl rfl (Qt_fieldAddr (m := 2) rfl rfl rfl rfl rfl) ?_
    refine Ow_q rfl rfl rfl (Qt_load1 (v := (.int .i64 p0.tick)) rfl rfl rfl (Rdc.blk (.tail _ (.head _)) rfl)) ?_
    refine Ow_q rfl rfl rfl (Qt_move rfl) ?_
    refine Ow_q rfl rfl rfl (Qt_arith (e := wI (p0.tick + p1)) rfl rfl rfl rfl) ?_
    refine Ow_q rfl rfl rfl (Qt_fieldAddr (m := 2) rfl rfl rfl rfl rfl) ?_
    refine Ow_cons rfl (OpW_store (vs := [(.int .i64 (wI (p0.tick + p1)))]) (all' := (Desk.cells (Desk.mk p0.chans p0.waiting (wI (p0.tick + p1))) vp0_chans vp0_waiting)) rfl rfl rfl rfl rfl (.there .here) rfl rfl rfl ?_)
    refine Ow_nil ?_
    refine Pu1 ?_
    refine Pu1 ?_
    refine Shift.done ?_
    exact ⟨_, by exact ⟨rfl, rfl, trivial⟩, (wI (p0.tick + p1)), rfl, rfl, rfl, H⟩
  rintro _ _ _ - ⟨i121, rfl, rfl, rfl, H⟩
  unfold M_50z at H
  refine Cw_seq ?_
  refine Cw_region ?_
  refine Ow_q rfl rfl rfl (Qt_assign rfl) ?_
  refine Ow_nil ?_
  refine Cw_join (fun env' K' G' => ∃ (v208 : SV) (l209 : List Done) (v211 : SV) (l212 : List Chan) (v214 : SV) (l215 : List Waiter) (i217 : Int), [(2, (.pointer (some ((⟨b116, 0, none⟩ : Addr).add 0)))), (4, (.pointer (some ((⟨b117, 0, none⟩ : Addr).add 0)))), (6, (sv v208))] = env' ∧ (.blk b117 34 (Desk.cells (Desk.mk [] [] 0) nilS nilS)) :: (.blk b116 34 (Desk.cells (Desk.mk l212 l215 i217) v211 v214)) :: (.tok 75 6 [(sv v208)]) :: G = G' ∧ M_158z l209 l212 l215 i217 = some (y0, y1) ∧ Slr TyDone K' (sv v208) l209 ∧ Slr TyChan K' (sv v211) l212 ∧ Slr TyWaiter K' (sv v214) l215) ?_ ?_
  ·skip
   refine Cw_seq ?_
   refine Cw_region ?_
   refine Ow_q rfl rfl rfl (Qt_assign rfl) ?_
   refine Ow_nil ?_
   refine Cw_block ?_
   refine Cw_loopM (fun n303 env' K' G' => ∃ (v292 : SV) (l293 : List Done) (i295 : Int) (v296 : SV) (l297 : List Chan) (v299 : SV) (l300 : List Waiter) (i302 : Int), [(2, (.pointer (some ((⟨b116, 0, none⟩ : Addr).add 0)))), (4, (.pointer (some ((⟨b117, 0, none⟩ : Addr).add 0)))), (6, (sv v292)), (7, (.int .i64 i295))] = env' ∧ (.blk b117 34 (Desk.cells (Desk.mk [] [] 0) nilS nilS)) :: (.blk b116 34 (Desk.cells (Desk.mk l297 l300 i302) v296 v299)) :: (.tok 75 6 [(sv v292)]) :: G = G' ∧ lp5 (M_159z) n303 l293 i295 l297 l300 i302 = some (y0, y1) ∧ Slr TyDone K' (sv v292) l293 ∧ Slr TyChan K' (sv v296) l297 ∧ Slr TyWaiter K' (sv v299) l300) BIG ?_ ?_
   ·skip
    refine Shift.nilTok1 75 6 ?_
    refine Pu2 ?_
    refine Pu2 ?_
    refine Shift.done ?_
    exact ⟨_, by exact ⟨rfl, rfl, rfl, rfl, trivial⟩, nilS, ([] : List Done), 0, vp0_chans, p0.chans, vp0_waiting, p0.waiting, i121, rfl, rfl, H, (Slr.nil TyDone _), hp0_chans, hp0_waiting⟩
   rintro n303 _ K304 _ hK305 ⟨v292, l293, i295, v296, l297, v299, l300, i302, rfl, rfl, H, hs294, hs298, hs301⟩
   obtain ⟨m306, k307, rfl, hkk308, H⟩ := lps5 H
   unfold M_159z at H
   refine Cw_seq ?_
   refine Cw_seq ?_
   refine Cw_region ?_
   refine Ow_q rfl rfl rfl (Qt_move rfl) ?_
   refine Ow_q rfl rfl rfl (Qt_fieldAddr (m := 1) rfl rfl rfl rfl rfl) ?_
   refine Ow_q rfl rfl rfl (Qt_load1 (v := (sv v299)) rfl rfl rfl (Rdc.blk (.tail _ (.head _)) rfl)) ?_
   refine Ow_q rfl rfl rfl (Q_len (T := TyWaiter) hs301 rfl rfl) ?_
   refine Ow_q rfl rfl rfl (Qt_cmp rfl rfl rfl) ?_
   refine Ow_nil ?_
   refine Cw_cond rfl ?_ ?_
   ·intro h310
    have h310 := dcd_t (h310)
    have H := ift h310 H
    refine Cw_skip ?_
    refine Cw_block ?_
    refine Cw_seq ?_
    refine Cw_region ?_
    refine Ow_q rfl rfl rfl (Qt_fieldAddr (m := 1) rfl rfl rfl rfl rfl) ?_
    refine Ow_q rfl rfl rfl (Qt_load1 (v := (sv v299)) rfl rfl rfl (Rdc.blk (.tail _ (.head _)) rfl)) ?_
    refine Ow_q rfl rfl rfl (Qt_move rfl) ?_
    obtain ⟨x311, hx312, H⟩ := bnd H
    obtain ⟨r313, hr314, hk315⟩ := Slr.at hs301 hx312
    obtain ⟨v316, v317, rfl, hs318, hs319⟩ := hr314
    refine Ow_q rfl rfl rfl (Q_ix (T := TyWaiter) hs301 hx312 rfl rfl rfl rfl rfl) ?_
    refine Ow_q rfl rfl rfl (Qt_loadA (m := 8) (cs := (Waiter.cells x311 v316 v317)) rfl rfl rfl rfl ⟨rfl, Rdc.k hk315 rfl⟩) ?_
    refine Ow_cons rfl (OpW_alloc (cs := (Waiter.cells (Waiter.mk 0 (Op.mk 0 0 0 0 0 [] [])) nilS nilS)) rfl rfl rfl rfl (fun b320 => ?_))
    refine Ow_cons rfl (OpW_store (vs := (Waiter.cells x311 v316 v317)) (all' := (Waiter.cells x311 v316 v317)) rfl rfl rfl rfl rfl .here rfl rfl rfl ?_)
    refine Ow_nil ?_
    refine Cw_seq ?_
    refine Cw_join (fun env' K' G' => ∃ (t325 : Bool), [(2, (.pointer (some ((⟨b116, 0, none⟩ : Addr).add 0)))), (4, (.pointer (some ((⟨b117, 0, none⟩ : Addr).add 0)))), (6, (sv v292)), (7, (.int .i64 i295)), (8, (.pointer (some ((⟨b320, 0, none⟩ : Addr).add 0)))), (44, (.bool t325))] = env' ∧ K304 = K' ∧ (.blk b320 52 (Waiter.cells x311 v316 v317)) :: (.blk b117 34 (Desk.cells (Desk.mk [] [] 0) nilS nilS)) :: (.blk b116 34 (Desk.cells (Desk.mk l297 l300 i302) v296 v299)) :: (.tok 75 6 [(sv v292)]) :: G = G' ∧ M_101z l293 i295 x311 l297 l300 i302 k307 t325 = some (y0, y1)) ?_ ?_
    ·skip
     refine Cw_region ?_
     refine Ow_q rfl rfl rfl (Qt_fieldAddr (m := 1) rfl rfl rfl rfl rfl) ?_
     refine Ow_q rfl rfl rfl (Qt_fieldAddr (m := 2) rfl rfl rfl rfl rfl) ?_
     refine Ow_q rfl rfl rfl (Qt_load1 (v := (.int .i64 x311.op.mode)) rfl rfl rfl (Rdc.blk (.head _) rfl)) ?_
     refine Ow_q rfl rfl rfl (Qt_cmp rfl rfl rfl) ?_
     refine Ow_q rfl rfl rfl (Qt_move rfl) ?_
     refine Ow_caseG rfl rfl rfl ?_ ?_
     ·intro h326
      have h326 := dcd_f (nt_t (h326))
      have H := iff_ h326 H
      refine Ow_pass rfl rfl rfl rfl rfl rfl rfl ?_
      refine Ow_pass rfl rfl rfl rfl rfl rfl rfl ?_
      refine Ow_pass rfl rfl rfl rfl rfl rfl rfl ?_
      refine Ow_pass rfl rfl rfl rfl rfl rfl rfl ?_
      refine Ow_pass rfl rfl rfl rfl rfl rfl rfl ?_
      refine Ow_pass rfl rfl rfl rfl rfl rfl rfl ?_
      refine Ow_q rfl rfl rfl (Qt_pick_t rfl rfl) ?_
      refine Ow_nil ?_
      refine Pu3 ?_
      refine Pu3 ?_
      refine Pu3 ?_
      refine Pu3 ?_
      refine Shift.done ?_
      exact ⟨_, by exact ⟨rfl, rfl, rfl, rfl, rfl, rfl, trivial⟩, true, rfl, rfl, rfl, H⟩
     ·intro h326
      have h326 := dcd_t (nt_f (h326))
      have H := ift h326 H
      refine Ow_qw rfl rfl rfl rfl rfl rfl (Qt_fieldAddr (m := 1) rfl rfl rfl rfl rfl) ?_
      refine Ow_qw rfl rfl rfl rfl rfl rfl (Qt_fieldAddr (m := 5) rfl rfl rfl rfl rfl) ?_
      refine Ow_qw rfl rfl rfl rfl rfl rfl (Qt_load1 (v := (.int .i64 x311.op.deadline)) rfl rfl rfl (Rdc.blk (.head _) rfl)) ?_
      refine Ow_qw rfl rfl rfl rfl rfl rfl (Qt_fieldAddr (m := 2) rfl rfl rfl rfl rfl) ?_
      refine Ow_qw rfl rfl rfl rfl rfl rfl (Qt_load1 (v := (.int .i64 i302)) rfl rfl rfl (Rdc.blk (.tail _ (.tail _ (.head _))) rfl)) ?_
      refine Ow_qw rfl rfl rfl rfl rfl rfl (Qt_cmp rfl rfl rfl) ?_
      refine Ow_q rfl rfl rfl (Qt_pick_f rfl rfl) ?_
      refine Ow_nil ?_
      refine Pu3 ?_
      refine Pu3 ?_
      refine Pu3 ?_
      refine Pu3 ?_
      refine Shift.done ?_
      exact ⟨_, by exact ⟨rfl, rfl, rfl, rfl, rfl, rfl, trivial⟩, (dcd (x311.op.deadline > i302)), rfl, rfl, rfl, H⟩
    rintro _ _ _ - ⟨t325, rfl, rfl, rfl, H⟩
    unfold M_101z at H
    refine Cw_cond rfl ?_ ?_
    ·intro h327
     have H := ift h327 H
     refine Cw_seq ?_
     refine Cw_region ?_
     refine Ow_q rfl rfl rfl (Qt_move rfl) ?_
     refine Ow_q rfl rfl rfl (Qt_arith (e := wI (i295 + 1)) rfl rfl rfl rfl) ?_
     refine Ow_q rfl rfl rfl (Qt_assign rfl) ?_
     refine Ow_nil ?_
     refine Cw_exit ?_
     refine Pu3 ?_
     refine Pu3 ?_
     refine Pu3 ?_
     refine Re3 ?_
     refine Shift.done ?_
     exact ⟨_, by exact ⟨rfl, rfl, rfl, rfl, trivial⟩, _, Nat.lt_succ_self _, v292, l293, (wI (i295 + 1)), v296, l297, v299, l300, i302, rfl, rfl, (hkk308 ▸ H), hs294, hs298, hs301⟩
    ·intro h327
     have H := iff_ (btf h327) H
     refine Cw_skip ?_
     refine Cw_seq ?_
     refine Cw_region ?_
     refine Ow_q rfl rfl rfl (Qt_loadA (m := 3) (cs := (Desk.cells (Desk.mk l297 l300 i302) v296 v299)) rfl rfl rfl rfl ⟨rfl, Rdc.blk (.tail _ (.tail _ (.head _))) rfl⟩) ?_
     refine Ow_q rfl rfl rfl (Qt_move rfl) ?_
     obtain ⟨x328, hx329, H⟩ := bnd H
     refine Ow_cons rfl (OpW_call rfl Try.call60 rfl rfl (c_M_3z (Desk.mk l297 l300 i302) v296 v299 i295 x328 hx329 _ _ hs298 hs301) ?_)
     rintro _ K332 _ hK333 ⟨v330, v331, rfl, rfl, hs334, hs335⟩
     refine Ow_cons rfl (OpW_store (vs := (Desk.cells x328 v330 v331)) (all' := (Desk.cells x328 v330 v331)) rfl rfl rfl rfl rfl (.there (.there (.there .here))) rfl rfl rfl ?_)
     refine Ow_nil ?_
     refine Cw_region ?_
     refine Ow_q rfl rfl rfl (Qt_move rfl) ?_
     refine Ow_q rfl rfl rfl (Qt_fieldAddr (m := 0) rfl rfl rfl rfl rfl) ?_
     refine Ow_q rfl rfl rfl (Qt_load1 (v := (.int .i64 x311.thread)) rfl rfl rfl (Rdc.blk (.tail _ (.head _)) rfl)) ?_
     refine Ow_q rfl rfl rfl (Qt_build (cs := (Result.cells (Result.mk 4 (-1) 0 false 0))) rfl rfl rfl rfl rfl rfl) ?_
     obtain ⟨x336, hx337, H⟩ := bnd H
     have hs338 := (hs294).mono hK333
     refine Ow_cons rfl (OpW_call rfl Try.call61 rfl rfl (c_M_12z l293 v292 x311.thread (Result.mk 4 (-1) 0 false 0) x336 hx337 _ _ hs338) ?_)
     rintro _ K340 _ hK341 ⟨v339, rfl, rfl, hs342⟩
     refine Ow_q rfl rfl rfl (Qt_assign rfl) ?_
     refine Ow_nil ?_
     refine Pu4 ?_
     refine Pu4 ?_
     refine Re3 ?_
     refine Re3 ?_
     refine Re3 ?_
     have hs343 := (hs334).mono hK341
     have hs344 := (hs335).mono hK341
     refine Shift.done ?_
     exact ⟨_, by exact ⟨rfl, rfl, rfl, rfl, trivial⟩, _, Nat.lt_succ_self _, v339, x336, i295, v330, x328.chans, v331, x328.waiting, x328.tick, rfl, rfl, (hkk308 ▸ H), hs342, hs343, hs344⟩
   ·intro h310
    have h310 := dcd_f (h310)
    have H := iff_ h310 H
    refine Cw_exit ?_
    refine Pu2 ?_
    refine Pu2 ?_
    refine Pu2 ?_
    refine Shift.done ?_
    exact ⟨_, by exact ⟨rfl, rfl, rfl, trivial⟩, v292, l293, v296, l297, v299, l300, i302, rfl, rfl, H, hs294, hs298, hs301⟩
  rintro _ K345 _ hK346 ⟨v208, l209, v211, l212, v214, l215, i217, rfl, rfl, H, hs210, hs213, hs216⟩
  unfold M_158z at H
  refine Cw_seq ?_
  refine Cw_region ?_
  refine Ow_q rfl rfl rfl (Qt_loadA (m := 3) (cs := (Desk.cells (Desk.mk l212 l215 i217) v211 v214)) rfl rfl rfl rfl ⟨rfl, Rdc.blk (.tail _ (.head _)) rfl⟩) ?_
  refine Ow_q rfl rfl rfl (Qt_move rfl) ?_
  refine Ow_cons rfl (OpW_store (vs := (Desk.cells (Desk.mk l212 l215 i217) v211 v214)) (all' := (Desk.cells (Desk.mk l212 l215 i217) v211 v214)) rfl rfl rfl rfl rfl .here rfl rfl rfl ?_)
  refine Ow_q rfl rfl rfl (Qt_assign rfl) ?_
  refine Ow_nil ?_
  refine Cw_ret ?_
  obtain ⟨ey0, ey1⟩ := inj2 H
  subst y0 y1
  refine ⟨(by first | exact .inl rfl | exact .inr rfl), [(.agg (Desk.cells (Desk.mk l212 l215 i217) v211 v214).toArray), (sv v208)], ⟨(.agg (Desk.cells (Desk.mk l212 l215 i217) v211 v214).toArray), _, rfl, ⟨_, 3, (Desk.cells (Desk.mk l212 l215 i217) v211 v214), rfl, rfl, rfl, rfl, ⟨rfl, Rdc.blk (.head _) rfl⟩, rfl⟩, ⟨(sv v208), _, rfl, rfl, rfl⟩⟩, ?_⟩
  refine Pu2 ?_
  refine Re1 ?_
  refine Re1 ?_
  refine Shift.done ?_
  exact ⟨v211, v214, v208, rfl, rfl, hs213, hs216, hs210⟩

set_option maxHeartbeats 1000000 in
theorem c_M_14z (p0 : Desk) (vp0_chans : SV) (vp0_waiting : SV) (p1 : Int) (p2 : Chan) (vp2_buffer : SV) (y0 : Desk) (H : M_14z p0 p1 p2 = some y0) (K : Kp) (G : List Ent) (hp0_chans : Slr TyChan K (sv vp0_chans) p0.chans) (hp0_waiting : Slr TyWaiter K (sv vp0_waiting) p0.waiting) (hp2_buffer : Slr Ty.u64 K (sv vp2_buffer) p2.buffer) :
  Fc Try.prog 84 #[(.agg (Desk.cells p0 vp0_chans vp0_waiting).toArray), (.int .i64 p1), (.agg (Chan.cells p2 vp2_buffer).toArray)] K (G) (fun v K' G' => ∃ (wy0_chans : SV) (rswy0_chans : List (List Value)) (wy0_waiting : SV), v = (.agg (Desk.cells y0 wy0_chans wy0_waiting).toArray) ∧ K = K' ∧ (.row (sv wy0_chans) 71 3 rswy0_chans.flatten) :: G = G' ∧ RowR TyChan K' rswy0_chans y0.chans ∧ Slr TyWaiter K' (sv wy0_waiting) y0.waiting) := by
 refine Fc_body Try.func84 rfl Try.ntmps84 Try.results84 rfl ?_
 unfold M_14z at H
 refine Cw_seq ?_
 refine Cw_region ?_
 refine Ow_cons rfl (OpW_box (cs := (Desk.cells p0 vp0_chans vp0_waiting)) rfl rfl rfl (fun b19 => ?_))
 refine Ow_cons rfl (OpW_box (cs := (Chan.cells p2 vp2_buffer)) rfl rfl rfl (fun b20 => ?_))
 refine Ow_cons rfl (OpW_alloc (cs := (Desk.cells (Desk.mk [] [] 0) nilS nilS)) rfl rfl rfl rfl (fun b21 => ?_))
 refine Ow_nil ?_
 refine Cw_seq ?_
 refine Cw_region ?_
 refine Ow_q rfl rfl rfl (Qt_fieldAddr (m := 0) rfl rfl rfl rfl rfl) ?_
 refine Ow_q rfl rfl rfl (Qt_load1 (v := (sv vp0_chans)) rfl rfl rfl (Rdc.blk (.tail _ (.tail _ (.head _))) rfl)) ?_
 have hR22 : RowR TyChan K [] [] := RowR.nil
 refine Ow.shift (Shift.nilRow 71 3 (Shift.done ?_))
 obtain ⟨x23, hx24, H⟩ := bnd H
 refine Ow_cons rfl (O_appRow (T := TyChan) (bytes := 40) rfl rfl rfl (.head _) hR22 (SrcT.sl hp0_chans) hx24 rfl rfl rfl rfl rfl rfl rfl rfl (fun v25 rs26 hR27 => ⟨_, .here, ?_⟩))
 refine Ow_q rfl rfl rfl (Qt_fieldAddr (m := 0) rfl rfl rfl rfl rfl) ?_
 refine Ow_cons rfl (OpW_store (vs := [(sv v25)]) (all' := (Desk.cells (Desk.mk x23 p0.waiting p0.tick) v25 vp0_waiting)) rfl rfl rfl rfl rfl (.there (.there (.there .here))) rfl rfl rfl ?_)
 refine Ow_nil ?_
 refine Cw_seq ?_
 refine Cw_region ?_
 refine Ow_q rfl rfl rfl (Qt_fieldAddr (m := 0) rfl rfl rfl rfl rfl) ?_
 refine Ow_q rfl rfl rfl (Qt_load1 (v := (sv v25)) rfl rfl rfl (Rdc.blk (.tail _ (.tail _ (.tail _ (.head _)))) rfl)) ?_
 refine Ow_q rfl rfl rfl (Qt_move rfl) ?_
 refine Ow_q rfl rfl rfl (Qt_loadA (m := 3) (cs := (Chan.cells p2 vp2_buffer)) rfl rfl rfl rfl ⟨rfl, Rdc.blk (.tail _ (.tail _ (.head _))) rfl⟩) ?_
 obtain ⟨x28, hx29, H⟩ := bnd H
 obtain ⟨r30, hq31, hr32⟩ := RowR.at hR27 hx29
 obtain ⟨v33, rfl, hs34⟩ := hr32
 refine Ow_q rfl rfl rfl (Q_ixR (T := TyChan) (.head _) hR27 hq31 (getI_ix hx29).1 rfl rfl rfl rfl rfl) ?_
 refine Ow_cons rfl (O_storeR (T := TyChan) (vs := (Chan.cells p2 vp2_buffer)) (r' := (Chan.cells p2 vp2_buffer)) (l' := (setI x23 p1 p2)) rfl rfl rfl rfl rfl .here hR27 hq31 rfl rfl rfl (RowR.set p1 hR27 ⟨vp2_buffer, rfl, hp2_buffer⟩) (fun hR35 => ?_))
 have hE36 := set_at hq31 (v := (Chan.cells p2 vp2_buffer))
 refine Ow_nil ?_
 refine Cw_seq ?_
 refine Cw_region ?_
 refine Ow_q rfl rfl rfl (Qt_loadA (m := 3) (cs := (Desk.cells (Desk.mk (setI x23 p1 p2) p0.waiting p0.tick) v25 vp0_waiting)) rfl rfl rfl rfl ⟨rfl, Rdc.blk (.tail _ (.tail _ (.tail _ (.head _)))) rfl⟩) ?_
 refine Ow_cons rfl (OpW_store (vs := (Desk.cells (Desk.mk (setI x23 p1 p2) p0.waiting p0.tick) v25 vp0_waiting)) (all' := (Desk.cells (Desk.mk (setI x23 p1 p2) p0.waiting p0.tick) v25 vp0_waiting)) rfl rfl rfl rfl rfl (.there .here) rfl rfl rfl ?_)
 refine Ow_nil ?_
 refine Cw_ret ?_
 obtain ey0 := inj1 H
 subst y0
 refine ⟨(by first | exact .inl rfl | exact .inr rfl), [(.agg (Desk.cells (Desk.mk (setI x23 p1 p2) p0.waiting p0.tick) v25 vp0_waiting).toArray)], ⟨(.agg (Desk.cells (Desk.mk (setI x23 p1 p2) p0.waiting p0.tick) v25 vp0_waiting).toArray), _, rfl, ⟨_, 3, (Desk.cells (Desk.mk (setI x23 p1 p2) p0.waiting p0.tick) v25 vp0_waiting), rfl, rfl, rfl, rfl, ⟨rfl, Rdc.blk (.tail _ (.head _)) rfl⟩, rfl⟩, rfl⟩, ?_⟩
 refine Re1 ?_
 refine Re1 ?_
 refine Re1 ?_
 refine Shift.done ?_
 exact ⟨v25, (rs26.set p1.toNat (Chan.cells p2 vp2_buffer)), vp0_waiting, rfl, rfl, rfl, hR35, hp0_waiting⟩



end Go.Hx

namespace Go.Hx
open Go Go.Proofs
set_option linter.unusedSimpArgs false
set_option linter.unusedVariables false
set_option maxRecDepth 10000
set_option maxHeartbeats 1000000 in
theorem c_M_55z (p0 : Op) (vp0_cases : SV) (vp0_draws : SV) (y0 : Case) (y1 : Bool) (H : M_55z p0 = some (y0, y1)) (K : Kp) (G : List Ent) (hp0_cases : Slr TyCase K (sv vp0_cases) p0.cases) (hp0_draws : Slr Ty.i64 K (sv vp0_draws) p0.draws) :
  Fc Try.prog 86 #[(.agg (Op.cells p0 vp0_cases vp0_draws).toArray)] K (G) (fun v K' G' => v = (.tuple #[(.agg (Case.cells y0).toArray), (.bool y1)]) ∧ K = K' ∧ G = G') := by
 refine Fc_body Try.func86 rfl Try.ntmps86 Try.results86 rfl ?_
 unfold M_55z at H
 refine Cw_seq ?_
 refine Cw_region ?_
 refine Ow_cons rfl (OpW_box (cs := (Op.cells p0 vp0_cases vp0_draws)) rfl rfl rfl (fun b13 => ?_))
 refine Ow_cons rfl (OpW_alloc (cs := (Case.cells (Case.mk false 0 0))) rfl rfl rfl rfl (fun b14 => ?_))
 refine Ow_q rfl rfl rfl (Qt_assign rfl) ?_
 refine Ow_nil ?_
 refine Cw_seq ?_
 refine Cw_join (fun env' K' G' => ∃ (t26 : Bool) (i27 : Int) (i28 : Int) (i29 : Int) (i30 : Int) (i31 : Int) (i32 : Int) (i33 : Int), [(1, (.pointer (some ((⟨b13, 0, none⟩ : Addr).add 0)))), (2, (.pointer (some ((⟨b14, 0, none⟩ : Addr).add 0)))), (11, (.bool t26))] = env' ∧ K = K' ∧ (.blk b14 45 (Case.cells (Case.mk false i27 i28))) :: (.blk b13 41 (Op.cells (Op.mk i29 i30 i31 i32 i33 p0.cases p0.draws) vp0_cases vp0_draws)) :: G = G' ∧ M_54z p0 t26 i27 i28 i29 i30 i31 i32 i33 = some (y0, y1)) ?_ ?_
 ·skip
  refine Cw_region ?_
  refine Ow_q rfl rfl rfl (Qt_fieldAddr (m := 0) rfl rfl rfl rfl rfl) ?_
  refine Ow_q rfl rfl rfl (Qt_load1 (v := (.int .i64 p0.kind)) rfl rfl rfl (Rdc.blk (.tail _ (.head _)) rfl)) ?_
  refine Ow_q rfl rfl rfl (Qt_cmp rfl rfl rfl) ?_
  refine Ow_q rfl rfl rfl (Qt_move rfl) ?_
  refine Ow_caseG rfl rfl rfl ?_ ?_
  ·intro h34
   have h34 := dcd_f (nt_t (h34))
   have H := iff_ h34 H
   refine Ow_qw rfl rfl rfl rfl rfl rfl (Qt_fieldAddr (m := 0) rfl rfl rfl rfl rfl) ?_
   refine Ow_qw rfl rfl rfl rfl rfl rfl (Qt_load1 (v := (.int .i64 p0.kind)) rfl rfl rfl (Rdc.blk (.tail _ (.head _)) rfl)) ?_
   refine Ow_qw rfl rfl rfl rfl rfl rfl (Qt_cmp rfl rfl rfl) ?_
   refine Ow_q rfl rfl rfl (Qt_pick_t rfl rfl) ?_
   refine Ow_nil ?_
   refine Pu1 ?_
   refine Pu1 ?_
   refine Shift.done ?_
   exact ⟨_, by exact ⟨rfl, rfl, rfl, trivial⟩, (!(dcd (p0.kind = 2))), 0, 0, p0.kind, p0.mode, p0.channel, p0.value, p0.deadline, rfl, rfl, rfl, H⟩
  ·intro h34
   have h34 := dcd_t (nt_f (h34))
   have H := ift h34 H
   refine Ow_pass rfl rfl rfl rfl rfl rfl rfl ?_
   refine Ow_pass rfl rfl rfl rfl rfl rfl rfl ?_
   refine Ow_pass rfl rfl rfl rfl rfl rfl rfl ?_
   refine Ow_q rfl rfl rfl (Qt_pick_f rfl rfl) ?_
   refine Ow_nil ?_
   refine Pu1 ?_
   refine Pu1 ?_
   refine Shift.done ?_
   exact ⟨_, by exact ⟨rfl, rfl, rfl, trivial⟩, false, 0, 0, p0.kind, p0.mode, p0.channel, p0.value, p0.deadline, rfl, rfl, rfl, H⟩
 rintro _ _ _ - ⟨t26, i27, i28, i29, i30, i31, i32, i33, rfl, rfl, rfl, H⟩
 unfold M_54z at H
 refine Cw_cond rfl ?_ ?_
 ·intro h35
  have H := ift h35 H
  refine Cw_seq ?_
  refine Cw_region ?_
  refine Ow_q rfl rfl rfl (Qt_build (cs := (Case.cells (Case.mk false 0 0))) rfl rfl rfl rfl rfl rfl) ?_
  refine Ow_cons rfl (OpW_store (vs := (Case.cells (Case.mk false 0 0))) (all' := (Case.cells (Case.mk false 0 0))) rfl rfl rfl rfl rfl .here rfl rfl rfl ?_)
  refine Ow_q rfl rfl rfl (Qt_assign rfl) ?_
  refine Ow_nil ?_
  refine Cw_ret ?_
  obtain ⟨ey0, ey1⟩ := inj2 H
  subst y0 y1
  refine ⟨(by first | exact .inl rfl | exact .inr rfl), [(.agg (Case.cells (Case.mk false 0 0)).toArray), (.bool false)], ⟨(.agg (Case.cells (Case.mk false 0 0)).toArray), _, rfl, ⟨_, 3, (Case.cells (Case.mk false 0 0)), rfl, rfl, rfl, rfl, ⟨rfl, Rdc.blk (.head _) rfl⟩, rfl⟩, ⟨(.bool false), _, rfl, rfl, rfl⟩⟩, ?_⟩
  refine Re0 ?_
  refine Re0 ?_
  refine Shift.done ?_
  exact ⟨rfl, rfl, rfl⟩
 ·intro h35
  have H := iff_ (btf h35) H
  refine Cw_skip ?_
  refine Cw_seq ?_
  refine Cw_region ?_
  refine Ow_q rfl rfl rfl (Qt_fieldAddr (m := 0) rfl rfl rfl rfl rfl) ?_
  refine Ow_q rfl rfl rfl (Qt_load1 (v := (.int .i64 i29)) rfl rfl rfl (Rdc.blk (.tail _ (.head _)) rfl)) ?_
  refine Ow_q rfl rfl rfl (Qt_cmp rfl rfl rfl) ?_
  refine Ow_q rfl rfl rfl (Qt_fieldAddr (m := 2) rfl rfl rfl rfl rfl) ?_
  refine Ow_q rfl rfl rfl (Qt_load1 (v := (.int .i64 i31)) rfl rfl rfl (Rdc.blk (.tail _ (.head _)) rfl)) ?_
  refine Ow_q rfl rfl rfl (Qt_fieldAddr (m := 3) rfl rfl rfl rfl rfl) ?_
  refine Ow_q rfl rfl rfl (Qt_load1 (v := (.int .u64 i32)) rfl rfl rfl (Rdc.blk (.tail _ (.head _)) rfl)) ?_
  refine Ow_q rfl rfl rfl (Qt_build (cs := (Case.cells (Case.mk (dcd (i29 = 1)) i31 i32))) rfl rfl rfl rfl rfl rfl) ?_
  refine Ow_cons rfl (OpW_store (vs := (Case.cells (Case.mk (dcd (i29 = 1)) i31 i32))) (all' := (Case.cells (Case.mk (dcd (i29 = 1)) i31 i32))) rfl rfl rfl rfl rfl .here rfl rfl rfl ?_)
  refine Ow_q rfl rfl rfl (Qt_assign rfl) ?_
  refine Ow_nil ?_
  refine Cw_ret ?_
  obtain ⟨ey0, ey1⟩ := inj2 H
  subst y0 y1
  refine ⟨(by first | exact .inl rfl | exact .inr rfl), [(.agg (Case.cells (Case.mk (dcd (i29 = 1)) i31 i32)).toArray), (.bool true)], ⟨(.agg (Case.cells (Case.mk (dcd (i29 = 1)) i31 i32)).toArray), _, rfl, ⟨_, 3, (Case.cells (Case.mk (dcd (i29 = 1)) i31 i32)), rfl, rfl, rfl, rfl, ⟨rfl, Rdc.blk (.head _) rfl⟩, rfl⟩, ⟨(.bool true), _, rfl, rfl, rfl⟩⟩, ?_⟩
  refine Re0 ?_
  refine Re0 ?_
  refine Shift.done ?_
  exact ⟨rfl, rfl, rfl⟩

set_option maxHeartbeats 1000000 in
theorem c_M_15z (p0 : Op) (vp0_cases : SV) (vp0_draws : SV) (y0 : List Case) (H : M_15z p0 = some y0) (K : Kp) (G : List Ent) (hp0_cases : Slr TyCase K (sv vp0_cases) p0.cases) (hp0_draws : Slr Ty.i64 K (sv vp0_draws) p0.draws) :
  Fc Try.prog 63 #[(.agg (Op.cells p0 vp0_cases vp0_draws).toArray)] K (G) (fun v K' G' => ∃ (wy0 : SV), v = (sv wy0) ∧ G = G' ∧ Slr TyCase K' (sv wy0) y0) := by
 refine Fc_body Try.func63 rfl Try.ntmps63 Try.results63 rfl ?_
 unfold M_15z at H
 refine Cw_seq ?_
 refine Cw_region ?_
 refine Ow_cons rfl (OpW_box (cs := (Op.cells p0 vp0_cases vp0_draws)) rfl rfl rfl (fun b10 => ?_))
 refine Ow_q rfl rfl rfl (Qt_assign rfl) ?_
 refine Ow_nil ?_
 refine Cw_seq ?_
 refine Cw_seq ?_
 refine Cw_region ?_
 refine Ow_q rfl rfl rfl (Qt_fieldAddr (m := 0) rfl rfl rfl rfl rfl) ?_
 refine Ow_q rfl rfl rfl (Qt_load1 (v := (.int .i64 p0.kind)) rfl rfl rfl (Rdc.blk (.head _) rfl)) ?_
 refine Ow_q rfl rfl rfl (Qt_cmp rfl rfl rfl) ?_
 refine Ow_nil ?_
 refine Cw_cond rfl ?_ ?_
 ·intro h12
  have h12 := dcd_t (h12)
  have H := ift h12 H
  refine Cw_seq ?_
  refine Cw_region ?_
  refine Ow_q rfl rfl rfl (Qt_fieldAddr (m := 5) rfl rfl rfl rfl rfl) ?_
  refine Ow_q rfl rfl rfl (Qt_load1 (v := (sv vp0_cases)) rfl rfl rfl (Rdc.blk (.head _) rfl)) ?_
  refine Ow_q rfl rfl rfl (Qt_assign rfl) ?_
  refine Ow_nil ?_
  refine Cw_ret ?_
  obtain ey0 := inj1 H
  subst y0
  refine ⟨(by first | exact .inl rfl | exact .inr rfl), [(sv vp0_cases)], ⟨(sv vp0_cases), _, rfl, rfl, rfl⟩, ?_⟩
  refine Re0 ?_
  refine Shift.done ?_
  exact ⟨vp0_cases, rfl, rfl, hp0_cases⟩
 ·intro h12
  have h12 := dcd_f (h12)
  have H := iff_ h12 H
  refine Cw_skip ?_
  refine Cw_seq ?_
  refine Cw_seq ?_
  refine Cw_region ?_
  refine Ow_q rfl rfl rfl (Qt_loadA (m := 7) (cs := (Op.cells p0 vp0_cases vp0_draws)) rfl rfl rfl rfl ⟨rfl, Rdc.blk (.head _) rfl⟩) ?_
  obtain ⟨x20, x21, hx22, H⟩ := bnd2 H
  refine Ow_cons rfl (OpW_call rfl Try.call86 rfl rfl (c_M_55z p0 vp0_cases vp0_draws x20 x21 hx22 _ _ hp0_cases hp0_draws) ?_)
  rintro _ _ _ - ⟨rfl, rfl, rfl⟩
  refine Ow_q rfl rfl rfl (Qt_move rfl) ?_
  refine Ow_q rfl rfl rfl (Qt_extract rfl rfl) ?_
  refine Ow_q rfl rfl rfl (Qt_extract rfl rfl) ?_
  refine Ow_cons rfl (OpW_alloc (cs := (Case.cells (Case.mk false 0 0))) rfl rfl rfl rfl (fun b23 => ?_))
  refine Ow_cons rfl (OpW_store (vs := (Case.cells x20)) (all' := (Case.cells x20)) rfl rfl rfl rfl rfl .here rfl rfl rfl ?_)
  refine Ow_q rfl rfl rfl (Qt_assign rfl) ?_
  refine Ow_nil ?_
  refine Cw_seq ?_
  refine Cw_region ?_
  refine Ow_q rfl rfl rfl (Qt_move rfl) ?_
  refine Ow_nil ?_
  refine Cw_cond rfl ?_ ?_
  ·intro h24
   have H := ift h24 H
   refine Cw_seq ?_
   refine Cw_region ?_
   refine Ow_q rfl rfl rfl (Qt_loadA (m := 3) (cs := (Case.cells x20)) rfl rfl rfl rfl ⟨rfl, Rdc.blk (.head _) rfl⟩) ?_
   have hR26 : RowR TyCase K [(Case.cells x20)] [x20] := RowR.cons rfl (RowR.nil)
   refine Ow_cons rfl (O_lit (T := TyCase) (rows := [(Case.cells x20)]) (l := [x20]) rfl rfl rfl hR26 rfl rfl rfl rfl rfl rfl rfl rfl (fun v25 => ?_))
   refine Ow_q rfl rfl rfl (Qt_assign rfl) ?_
   refine Ow_nil ?_
   refine Cw_ret ?_
   obtain ey0 := inj1 H
   subst y0
   refine ⟨(by first | exact .inl rfl | exact .inr rfl), [(sv v25)], ⟨(sv v25), _, rfl, rfl, rfl⟩, ?_⟩
   refine Shift.settle (T := TyCase) .here hR26 rfl ?_
   intro K27 hK28 hs29
   refine Re0 ?_
   refine Re0 ?_
   refine Re0 ?_
   refine Shift.done ?_
   exact ⟨v25, rfl, rfl, hs29⟩
  ·intro h24
   have H := iff_ (btf h24) H
   refine Cw_skip ?_
   refine Cw_seq ?_
   refine Cw_region ?_
   refine Ow_q rfl rfl rfl (Qt_assign rfl) ?_
   refine Ow_nil ?_
   refine Cw_ret ?_
   obtain ey0 := inj1 H
   subst y0
   refine ⟨(by first | exact .inl rfl | exact .inr rfl), [(sv nilS)], ⟨(sv nilS), _, rfl, rfl, rfl⟩, ?_⟩
   refine Re0 ?_
   refine Re0 ?_
   refine Shift.done ?_
   exact ⟨nilS, rfl, rfl, (Slr.nil TyCase _)⟩



end Go.Hx

namespace Go.Hx
open Go Go.Proofs
set_option linter.unusedSimpArgs false
set_option linter.unusedVariables false
set_option maxRecDepth 10000
set_option maxHeartbeats 1000000 in
theorem c_M_16z (p0 : Op) (vp0_cases : SV) (vp0_draws : SV) (p1 : Int) (p2 : Bool) (y0 : Int) (H : M_16z p0 p1 p2 = some y0) (K : Kp) (G : List Ent) (hp0_cases : Slr TyCase K (sv vp0_cases) p0.cases) (hp0_draws : Slr Ty.i64 K (sv vp0_draws) p0.draws) :
  Fc Try.prog 72 #[(.agg (Op.cells p0 vp0_cases vp0_draws).toArray), (.int .i64 p1), (.bool p2)] K (G) (fun v K' G' => v = (.int .i64 y0) ∧ G = G') := by
 refine Fc_body Try.func72 rfl Try.ntmps72 Try.results72 rfl ?_
 unfold M_16z at H
 refine Cw_seq ?_
 refine Cw_region ?_
 refine Ow_cons rfl (OpW_box (cs := (Op.cells p0 vp0_cases vp0_draws)) rfl rfl rfl (fun b52 => ?_))
 refine Ow_q rfl rfl rfl (Qt_assign rfl) ?_
 refine Ow_nil ?_
 refine Cw_seq ?_
 refine Cw_region ?_
 refine Ow_q rfl rfl rfl (Qt_loadA (m := 7) (cs := (Op.cells p0 vp0_cases vp0_draws)) rfl rfl rfl rfl ⟨rfl, Rdc.blk (.head _) rfl⟩) ?_
 obtain ⟨x53, hx54, H⟩ := bnd H
 refine Ow_cons rfl (OpW_call rfl Try.call63 rfl rfl (c_M_15z p0 vp0_cases vp0_draws x53 hx54 _ _ hp0_cases hp0_draws) ?_)
 rintro _ K56 _ hK57 ⟨v55, rfl, rfl, hs58⟩
 refine Ow_q rfl rfl rfl (Qt_assign rfl) ?_
 refine Ow_nil ?_
 refine Cw_join (fun env' K' G' => [] = env' ∧ G = G' ∧ M_194z = some y0) ?_ ?_
 ·skip
  refine Cw_seq ?_
  refine Cw_region ?_
  refine Ow_q rfl rfl rfl (Qt_assign rfl) ?_
  refine Ow_nil ?_
  refine Cw_block ?_
  refine Cw_loopM (fun n131 env' K' G' => ∃ (i130 : Int), [(1, (.int .i64 p1)), (2, (.bool p2)), (7, (sv v55)), (8, (.int .i64 i130))] = env' ∧ K56 = K' ∧ G = G' ∧ lp1 (M_107z p1 p2 x53) n131 i130 = some y0) BIG ?_ ?_
  ·skip
   refine Re0 ?_
   refine Shift.done ?_
   exact ⟨_, by exact ⟨rfl, rfl, rfl, rfl, trivial⟩, 0, rfl, rfl, rfl, H⟩
  rintro n131 _ _ _ - ⟨i130, rfl, rfl, rfl, H⟩
  obtain ⟨m132, k133, rfl, hkk134, H⟩ := lps1 H
  unfold M_107z at H
  refine Cw_seq ?_
  refine Cw_seq ?_
  refine Cw_region ?_
  refine Ow_q rfl rfl rfl (Qt_move rfl) ?_
  refine Ow_q rfl rfl rfl (Qt_move rfl) ?_
  refine Ow_q rfl rfl rfl (Q_len (T := TyCase) hs58 rfl rfl) ?_
  refine Ow_q rfl rfl rfl (Qt_cmp rfl rfl rfl) ?_
  refine Ow_nil ?_
  refine Cw_cond rfl ?_ ?_
  ·intro h136
   have h136 := dcd_t (h136)
   have H := ift h136 H
   refine Cw_skip ?_
   refine Cw_seq ?_
   refine Cw_block ?_
   refine Cw_join (fun env' K' G' => ∃ (t161 : Bool), [(1, (.int .i64 p1)), (2, (.bool p2)), (7, (sv v55)), (8, (.int .i64 i130)), (32, (.bool t161))] = env' ∧ K56 = K' ∧ G = G' ∧ M_106z p1 p2 x53 i130 k133 t161 = some y0) ?_ ?_
   ·skip
    refine Cw_region ?_
    refine Ow_q rfl rfl rfl (Qt_move rfl) ?_
    refine Ow_q rfl rfl rfl (Qt_move rfl) ?_
    obtain ⟨x162, hx163, H⟩ := bnd H
    obtain ⟨r164, hr165, hk166⟩ := Slr.at hs58 hx163
    obtain rfl := hr165
    refine Ow_q rfl rfl rfl (Q_ix (T := TyCase) hs58 hx163 rfl rfl rfl rfl rfl) ?_
    refine Ow_q rfl rfl rfl (Qt_fieldAddr (m := 1) rfl rfl rfl rfl rfl) ?_
    refine Ow_q rfl rfl rfl (Qt_load1 (v := (.int .i64 x162.channel)) rfl rfl rfl (Rdc.k hk166 rfl)) ?_
    refine Ow_q rfl rfl rfl (Qt_move rfl) ?_
    refine Ow_q rfl rfl rfl (Qt_cmp rfl rfl rfl) ?_
    refine Ow_q rfl rfl rfl (Qt_move rfl) ?_
    refine Ow_caseG rfl rfl rfl ?_ ?_
    ·intro h167
     have h167 := dcd_t (h167)
     have H := ift h167 H
     refine Ow_qw rfl rfl rfl rfl rfl rfl (Qt_move rfl) ?_
     refine Ow_qw rfl rfl rfl rfl rfl rfl (Qt_move rfl) ?_
     obtain ⟨x168, hx169, H⟩ := bnd H
     obtain ⟨r170, hr171, hk172⟩ := Slr.at hs58 hx169
     obtain rfl := hr171
     refine Ow_qw rfl rfl rfl rfl rfl rfl (Q_ix (T := TyCase) hs58 hx169 rfl rfl rfl rfl rfl) ?_
     refine Ow_qw rfl rfl rfl rfl rfl rfl (Qt_fieldAddr (m := 0) rfl rfl rfl rfl rfl) ?_
     refine Ow_qw rfl rfl rfl rfl rfl rfl (Qt_load1 (v := (.bool x168.send)) rfl rfl rfl (Rdc.k hk172 rfl)) ?_
     refine Ow_qw rfl rfl rfl rfl rfl rfl (Qt_move rfl) ?_
     refine Ow_qw rfl rfl rfl rfl rfl rfl (Qt_eqB rfl rfl rfl) ?_
     refine Ow_q rfl rfl rfl (Qt_pick_t rfl rfl) ?_
     refine Ow_nil ?_
     refine Shift.done ?_
     exact ⟨_, by exact ⟨rfl, rfl, rfl, rfl, rfl, trivial⟩, (x168.send == p2), rfl, rfl, rfl, H⟩
    ·intro h167
     have h167 := dcd_f (h167)
     have H := iff_ h167 H
     refine Ow_pass rfl rfl rfl rfl rfl rfl rfl ?_
     refine Ow_pass rfl rfl rfl rfl rfl rfl rfl ?_
     refine Ow_pass rfl rfl rfl rfl rfl rfl rfl ?_
     refine Ow_pass rfl rfl rfl rfl rfl rfl rfl ?_
     refine Ow_pass rfl rfl rfl rfl rfl rfl rfl ?_
     refine Ow_pass rfl rfl rfl rfl rfl rfl rfl ?_
     refine Ow_pass rfl rfl rfl rfl rfl rfl rfl ?_
     refine Ow_q rfl rfl rfl (Qt_pick_f rfl rfl) ?_
     refine Ow_nil ?_
     refine Shift.done ?_
     exact ⟨_, by exact ⟨rfl, rfl, rfl, rfl, rfl, trivial⟩, false, rfl, rfl, rfl, H⟩
   rintro _ _ _ - ⟨t161, rfl, rfl, rfl, H⟩
   unfold M_106z at H
   refine Cw_cond rfl ?_ ?_
   ·intro h173
    have H := ift h173 H
    refine Cw_seq ?_
    refine Cw_region ?_
    refine Ow_q rfl rfl rfl (Qt_move rfl) ?_
    refine Ow_q rfl rfl rfl (Qt_assign rfl) ?_
    refine Ow_nil ?_
    refine Cw_ret ?_
    obtain ey0 := inj1 H
    subst y0
    refine ⟨(by first | exact .inl rfl | exact .inr rfl), [(.int .i64 i130)], ⟨(.int .i64 i130), _, rfl, rfl, rfl⟩, ?_⟩
    refine Shift.done ?_
    exact ⟨rfl, rfl⟩
   ·intro h173
    have H := iff_ (btf h173) H
    refine Cw_skip ?_
    refine Cw_region ?_
    refine Ow_q rfl rfl rfl (Qt_move rfl) ?_
    refine Ow_q rfl rfl rfl (Qt_arith (e := wI (i130 + 1)) rfl rfl rfl rfl) ?_
    refine Ow_q rfl rfl rfl (Qt_assign rfl) ?_
    refine Ow_nil ?_
    refine Shift.done ?_
    exact ⟨_, by exact ⟨rfl, rfl, rfl, rfl, trivial⟩, _, Nat.lt_succ_self _, (wI (i130 + 1)), rfl, rfl, rfl, (hkk134 ▸ H)⟩
  ·intro h136
   have h136 := dcd_f (h136)
   have H := iff_ h136 H
   refine Cw_exit ?_
   refine Shift.done ?_
   exact ⟨[], trivial, rfl, rfl, H⟩
 rintro _ K174 _ hK175 ⟨rfl, rfl, H⟩
 unfold M_194z at H
 refine Cw_seq ?_
 refine Cw_region ?_
 refine Ow_q rfl rfl rfl (Qt_assign rfl) ?_
 refine Ow_nil ?_
 refine Cw_ret ?_
 obtain ey0 := inj1 H
 subst y0
 refine ⟨(by first | exact .inl rfl | exact .inr rfl), [(.int .i64 (-1))], ⟨(.int .i64 (-1)), _, rfl, rfl, rfl⟩, ?_⟩
 refine Shift.done ?_
 exact ⟨rfl, rfl⟩

set_option maxHeartbeats 1000000 in
theorem c_M_17z (p0 : Op) (vp0_cases : SV) (vp0_draws : SV) (p1 : Int) (y0 : Int) (H : M_17z p0 p1 = some y0) (K : Kp) (G : List Ent) (hp0_cases : Slr TyCase K (sv vp0_cases) p0.cases) (hp0_draws : Slr Ty.i64 K (sv vp0_draws) p0.draws) :
  Fc Try.prog 85 #[(.agg (Op.cells p0 vp0_cases vp0_draws).toArray), (.int .i64 p1)] K (G) (fun v K' G' => v = (.int .i64 y0) ∧ K = K' ∧ G = G') := by
 refine Fc_body Try.func85 rfl Try.ntmps85 Try.results85 rfl ?_
 unfold M_17z at H
 refine Cw_seq ?_
 refine Cw_region ?_
 refine Ow_cons rfl (OpW_box (cs := (Op.cells p0 vp0_cases vp0_draws)) rfl rfl rfl (fun b3 => ?_))
 refine Ow_q rfl rfl rfl (Qt_assign rfl) ?_
 refine Ow_nil ?_
 refine Cw_seq ?_
 refine Cw_seq ?_
 refine Cw_region ?_
 refine Ow_q rfl rfl rfl (Qt_fieldAddr (m := 0) rfl rfl rfl rfl rfl) ?_
 refine Ow_q rfl rfl rfl (Qt_load1 (v := (.int .i64 p0.kind)) rfl rfl rfl (Rdc.blk (.head _) rfl)) ?_
 refine Ow_q rfl rfl rfl (Qt_cmp rfl rfl rfl) ?_
 refine Ow_nil ?_
 refine Cw_cond rfl ?_ ?_
 ·intro h5
  have h5 := dcd_t (h5)
  have H := ift h5 H
  refine Cw_seq ?_
  refine Cw_region ?_
  refine Ow_q rfl rfl rfl (Qt_move rfl) ?_
  refine Ow_q rfl rfl rfl (Qt_assign rfl) ?_
  refine Ow_nil ?_
  refine Cw_ret ?_
  obtain ey0 := inj1 H
  subst y0
  refine ⟨(by first | exact .inl rfl | exact .inr rfl), [(.int .i64 p1)], ⟨(.int .i64 p1), _, rfl, rfl, rfl⟩, ?_⟩
  refine Re0 ?_
  refine Shift.done ?_
  exact ⟨rfl, rfl, rfl⟩
 ·intro h5
  have h5 := dcd_f (h5)
  have H := iff_ h5 H
  refine Cw_skip ?_
  refine Cw_seq ?_
  refine Cw_region ?_
  refine Ow_q rfl rfl rfl (Qt_assign rfl) ?_
  refine Ow_nil ?_
  refine Cw_ret ?_
  obtain ey0 := inj1 H
  subst y0
  refine ⟨(by first | exact .inl rfl | exact .inr rfl), [(.int .i64 (-1))], ⟨(.int .i64 (-1)), _, rfl, rfl, rfl⟩, ?_⟩
  refine Re0 ?_
  refine Shift.done ?_
  exact ⟨rfl, rfl, rfl⟩

set_option maxHeartbeats 1000000 in
theorem c_M_109z (p0 : Desk) (vp0_chans : SV) (vp0_waiting : SV) (p1 : Int) (p2 : Op) (vp2_cases : SV) (vp2_draws : SV) (y0 : Desk) (y1 : List Done) (H : M_109z p0 p1 p2 = some (y0, y1)) (K : Kp) (G : List Ent) (hp0_chans : Slr TyChan K (sv vp0_chans) p0.chans) (hp0_waiting : Slr TyWaiter K (sv vp0_waiting) p0.waiting) (hp2_cases : Slr TyCase K (sv vp2_cases) p2.cases) (hp2_draws : Slr Ty.i64 K (sv vp2_draws) p2.draws) :
  Fc Try.prog 62 #[(.agg (Desk.cells p0 vp0_chans vp0_waiting).toArray), (.int .i64 p1), (.agg (Op.cells p2 vp2_cases vp2_draws).toArray)] K (G) (fun v K' G' => ∃ (wy0_chans : SV) (wy0_waiting : SV) (wy1 : SV), v = (.tuple #[(.agg (Desk.cells y0 wy0_chans wy0_waiting).toArray), (sv wy1)]) ∧ (.tok 75 6 [(sv wy1)]) :: G = G' ∧ Slr TyChan K' (sv wy0_chans) y0.chans ∧ Slr TyWaiter K' (sv wy0_waiting) y0.waiting ∧ Slr TyDone K' (sv wy1) y1) := by
 refine Fc_body Try.func62 rfl Try.ntmps62 Try.results62 rfl ?_
 unfold M_109z at H
 refine Cw_seq ?_
 refine Cw_region ?_
 refine Ow_cons rfl (OpW_box (cs := (Desk.cells p0 vp0_chans vp0_waiting)) rfl rfl rfl (fun b321 => ?_))
 refine Ow_cons rfl (OpW_box (cs := (Op.cells p2 vp2_cases vp2_draws)) rfl rfl rfl (fun b322 => ?_))
 refine Ow_cons rfl (OpW_alloc (cs := (Desk.cells (Desk.mk [] [] 0) nilS nilS)) rfl rfl rfl rfl (fun b323 => ?_))
 refine Ow_q rfl rfl rfl (Qt_assign rfl) ?_
 refine Ow_nil ?_
 refine Cw_seq ?_
 refine Cw_join (fun env' K' G' => ∃ (t346 : Bool), [(1, (.int .i64 p1)), (3, (.pointer (some ((⟨b321, 0, none⟩ : Addr).add 0)))), (5, (.pointer (some ((⟨b322, 0, none⟩ : Addr).add 0)))), (6, (.pointer (some ((⟨b323, 0, none⟩ : Addr).add 0)))), (34, (.bool t346))] = env' ∧ K = K' ∧ (.blk b323 34 (Desk.cells (Desk.mk [] [] 0) nilS nilS)) :: (.blk b322 41 (Op.cells p2 vp2_cases vp2_draws)) :: (.blk b321 34 (Desk.cells p0 vp0_chans vp0_waiting)) :: G = G' ∧ M_58z p1 p2 p0 t346 = some (y0, y1)) ?_ ?_
 ·skip
  refine Cw_region ?_
  refine Ow_q rfl rfl rfl (Qt_fieldAddr (m := 2) rfl rfl rfl rfl rfl) ?_
  refine Ow_q rfl rfl rfl (Qt_load1 (v := (.int .i64 p2.channel)) rfl rfl rfl (Rdc.blk (.tail _ (.head _)) rfl)) ?_
  refine Ow_q rfl rfl rfl (Qt_cmp rfl rfl rfl) ?_
  refine Ow_q rfl rfl rfl (Qt_move rfl) ?_
  refine Ow_caseG rfl rfl rfl ?_ ?_
  ·intro h347
   have h347 := dcd_t (h347)
   have H := ift h347 H
   refine Ow_pass rfl rfl rfl rfl rfl rfl rfl ?_
   refine Ow_pass rfl rfl rfl rfl rfl rfl rfl ?_
   refine Ow_pass rfl rfl rfl rfl rfl rfl rfl ?_
   refine Ow_pass rfl rfl rfl rfl rfl rfl rfl ?_
   refine Ow_pass rfl rfl rfl rfl rfl rfl rfl ?_
   refine Ow_pass rfl rfl rfl rfl rfl rfl rfl ?_
   refine Ow_q rfl rfl rfl (Qt_pick_t rfl rfl) ?_
   refine Ow_q rfl rfl rfl (Qt_move rfl) ?_
   refine Ow_pass rfl rfl rfl rfl rfl rfl rfl ?_
   refine Ow_pass rfl rfl rfl rfl rfl rfl rfl ?_
   refine Ow_pass rfl rfl rfl rfl rfl rfl rfl ?_
   refine Ow_pass rfl rfl rfl rfl rfl rfl rfl ?_
   refine Ow_pass rfl rfl rfl rfl rfl rfl rfl ?_
   refine Ow_pass rfl rfl rfl rfl rfl rfl rfl ?_
   refine Ow_pass rfl rfl rfl rfl rfl rfl rfl ?_
   refine Ow_q rfl rfl rfl (Qt_pick_t rfl rfl) ?_
   refine Ow_nil ?_
   refine Pu2 ?_
   refine Pu2 ?_
   refine Pu2 ?_
   refine Shift.done ?_
   exact ⟨_, by exact ⟨rfl, rfl, rfl, rfl, rfl, trivial⟩, true, rfl, rfl, rfl, H⟩
  ·intro h347
   have h347 := dcd_f (h347)
   have H := iff_ h347 H
   refine Ow_qw rfl rfl rfl rfl rfl rfl (Qt_fieldAddr (m := 2) rfl rfl rfl rfl rfl) ?_
   refine Ow_qw rfl rfl rfl rfl rfl rfl (Qt_load1 (v := (.int .i64 p2.channel)) rfl rfl rfl (Rdc.blk (.tail _ (.head _)) rfl)) ?_
   refine Ow_qw rfl rfl rfl rfl rfl rfl (Qt_fieldAddr (m := 0) rfl rfl rfl rfl rfl) ?_
   refine Ow_qw rfl rfl rfl rfl rfl rfl (Qt_load1 (v := (sv vp0_chans)) rfl rfl rfl (Rdc.blk (.tail _ (.tail _ (.head _))) rfl)) ?_
   refine Ow_qw rfl rfl rfl rfl rfl rfl (Q_len (T := TyChan) hp0_chans rfl rfl) ?_
   refine Ow_qw rfl rfl rfl rfl rfl rfl (Qt_cmp rfl rfl rfl) ?_
   refine Ow_q rfl rfl rfl (Qt_pick_f rfl rfl) ?_
   refine Ow_q rfl rfl rfl (Qt_move rfl) ?_
   refine Ow_caseG rfl rfl rfl ?_ ?_
   ·intro h348
    have h348 := dcd_t (h348)
    have H := ift h348 H
    refine Ow_pass rfl rfl rfl rfl rfl rfl rfl ?_
    refine Ow_pass rfl rfl rfl rfl rfl rfl rfl ?_
    refine Ow_pass rfl rfl rfl rfl rfl rfl rfl ?_
    refine Ow_pass rfl rfl rfl rfl rfl rfl rfl ?_
    refine Ow_pass rfl rfl rfl rfl rfl rfl rfl ?_
    refine Ow_pass rfl rfl rfl rfl rfl rfl rfl ?_
    refine Ow_pass rfl rfl rfl rfl rfl rfl rfl ?_
    refine Ow_q rfl rfl rfl (Qt_pick_t rfl rfl) ?_
    refine Ow_nil ?_
    refine Pu2 ?_
    refine Pu2 ?_
    refine Pu2 ?_
    refine Shift.done ?_
    exact ⟨_, by exact ⟨rfl, rfl, rfl, rfl, rfl, trivial⟩, true, rfl, rfl, rfl, H⟩
   ·intro h348
    have h348 := dcd_f (h348)
    have H := iff_ h348 H
    refine Ow_qw rfl rfl rfl rfl rfl rfl (Qt_fieldAddr (m := 0) rfl rfl rfl rfl rfl) ?_
    refine Ow_qw rfl rfl rfl rfl rfl rfl (Qt_load1 (v := (sv vp0_chans)) rfl rfl rfl (Rdc.blk (.tail _ (.tail _ (.head _))) rfl)) ?_
    refine Ow_qw rfl rfl rfl rfl rfl rfl (Qt_fieldAddr (m := 2) rfl rfl rfl rfl rfl) ?_
    refine Ow_qw rfl rfl rfl rfl rfl rfl (Qt_load1 (v := (.int .i64 p2.channel)) rfl rfl rfl (Rdc.blk (.tail _ (.head _)) rfl)) ?_
    obtain ⟨x349, hx350, H⟩ := bnd H
    obtain ⟨r351, hr352, hk353⟩ := Slr.at hp0_chans hx350
    obtain ⟨v354, rfl, hs355⟩ := hr352
    refine Ow_qw rfl rfl rfl rfl rfl rfl (Q_ix (T := TyChan) hp0_chans hx350 rfl rfl rfl rfl rfl) ?_
    refine Ow_qw rfl rfl rfl rfl rfl rfl (Qt_fieldAddr (m := 2) rfl rfl rfl rfl rfl) ?_
    refine Ow_qw rfl rfl rfl rfl rfl rfl (Qt_load1 (v := (.bool x349.closed)) rfl rfl rfl (Rdc.k hk353 rfl)) ?_
    refine Ow_q rfl rfl rfl (Qt_pick_f rfl rfl) ?_
    refine Ow_nil ?_
    refine Pu2 ?_
    refine Pu2 ?_
    refine Pu2 ?_
    refine Shift.done ?_
    exact ⟨_, by exact ⟨rfl, rfl, rfl, rfl, rfl, trivial⟩, x349.closed, rfl, rfl, rfl, H⟩
 rintro _ _ _ - ⟨t346, rfl, rfl, rfl, H⟩
 unfold M_58z at H
 refine Cw_cond rfl ?_ ?_
 ·intro h356
  have H := ift h356 H
  refine Cw_seq ?_
  refine Cw_region ?_
  refine Ow_q rfl rfl rfl (Qt_loadA (m := 3) (cs := (Desk.cells p0 vp0_chans vp0_waiting)) rfl rfl rfl rfl ⟨rfl, Rdc.blk (.tail _ (.tail _ (.head _))) rfl⟩) ?_
  refine Ow_q rfl rfl rfl (Qt_move rfl) ?_
  refine Ow_q rfl rfl rfl (Qt_build (cs := (Result.cells (Result.mk 5 (-1) 0 false 0))) rfl rfl rfl rfl rfl rfl) ?_
  refine Ow_q rfl rfl rfl (Qt_build (cs := (Done.cells (Done.mk p1 (Result.mk 5 (-1) 0 false 0)))) rfl rfl rfl rfl rfl rfl) ?_
  have hR358 : RowR TyDone K [(Done.cells (Done.mk p1 (Result.mk 5 (-1) 0 false 0)))] [(Done.mk p1 (Result.mk 5 (-1) 0 false 0))] := RowR.cons rfl (RowR.nil)
  refine Ow_cons rfl (O_lit (T := TyDone) (rows := [(Done.cells (Done.mk p1 (Result.mk 5 (-1) 0 false 0)))]) (l := [(Done.mk p1 (Result.mk 5 (-1) 0 false 0))]) rfl rfl rfl hR358 rfl rfl rfl rfl rfl rfl rfl rfl (fun v357 => ?_))
  refine Ow_cons rfl (OpW_store (vs := (Desk.cells p0 vp0_chans vp0_waiting)) (all' := (Desk.cells p0 vp0_chans vp0_waiting)) rfl rfl rfl rfl rfl (.there .here) rfl rfl rfl ?_)
  refine Ow_q rfl rfl rfl (Qt_assign rfl) ?_
  refine Ow_nil ?_
  refine Cw_ret ?_
  obtain ⟨ey0, ey1⟩ := inj2 H
  subst y0 y1
  refine ⟨(by first | exact .inl rfl | exact .inr rfl), [(.agg (Desk.cells p0 vp0_chans vp0_waiting).toArray), (sv v357)], ⟨(.agg (Desk.cells p0 vp0_chans vp0_waiting).toArray), _, rfl, ⟨_, 3, (Desk.cells p0 vp0_chans vp0_waiting), rfl, rfl, rfl, rfl, ⟨rfl, Rdc.blk (.tail _ (.head _)) rfl⟩, rfl⟩, ⟨(sv v357), _, rfl, rfl, rfl⟩⟩, ?_⟩
  refine Shift.settle (T := TyDone) .here hR358 rfl ?_
  intro K359 hK360 hs361
  refine Re1 ?_
  refine Re1 ?_
  refine Re1 ?_
  have hs362 := (hp0_chans).mono hK360
  have hs363 := (hp0_waiting).mono hK360
  refine Shift.done ?_
  exact ⟨vp0_chans, vp0_waiting, v357, rfl, rfl, hs362, hs363, hs361⟩
 ·intro h356
  have H := iff_ (btf h356) H
  refine Cw_skip ?_
  refine Cw_seq ?_
  refine Cw_region ?_
  refine Ow_q rfl rfl rfl (Qt_fieldAddr (m := 0) rfl rfl rfl rfl rfl) ?_
  refine Ow_q rfl rfl rfl (Qt_load1 (v := (sv vp0_chans)) rfl rfl rfl (Rdc.blk (.tail _ (.tail _ (.head _))) rfl)) ?_
  refine Ow_q rfl rfl rfl (Qt_fieldAddr (m := 2) rfl rfl rfl rfl rfl) ?_
  refine Ow_q rfl rfl rfl (Qt_load1 (v := (.int .i64 p2.channel)) rfl rfl rfl (Rdc.blk (.tail _ (.head _)) rfl)) ?_
  obtain ⟨x364, hx365, H⟩ := bnd H
  obtain ⟨r366, hr367, hk368⟩ := Slr.at hp0_chans hx365
  obtain ⟨v369, rfl, hs370⟩ := hr367
  refine Ow_q rfl rfl rfl (Q_ix (T := TyChan) hp0_chans hx365 rfl rfl rfl rfl rfl) ?_
  refine Ow_q rfl rfl rfl (Qt_loadA (m := 3) (cs := (Chan.cells x364 v369)) rfl rfl rfl rfl ⟨rfl, Rdc.k hk368 rfl⟩) ?_
  refine Ow_cons rfl (OpW_alloc (cs := (Chan.cells (Chan.mk 0 [] false) nilS)) rfl rfl rfl rfl (fun b371 => ?_))
  refine Ow_cons rfl (OpW_store (vs := (Chan.cells x364 v369)) (all' := (Chan.cells x364 v369)) rfl rfl rfl rfl rfl .here rfl rfl rfl ?_)
  refine Ow_nil ?_
  refine Cw_seq ?_
  refine Cw_region ?_
  refine Ow_q rfl rfl rfl (Qt_fieldAddr (m := 2) rfl rfl rfl rfl rfl) ?_
  refine Ow_cons rfl (OpW_store (vs := [(.bool true)]) (all' := (Chan.cells (Chan.mk x364.capacity x364.buffer true) v369)) rfl rfl rfl rfl rfl .here rfl rfl rfl ?_)
  refine Ow_nil ?_
  refine Cw_seq ?_
  refine Cw_region ?_
  refine Ow_q rfl rfl rfl (Qt_loadA (m := 3) (cs := (Desk.cells p0 vp0_chans vp0_waiting)) rfl rfl rfl rfl ⟨rfl, Rdc.blk (.tail _ (.tail _ (.tail _ (.head _)))) rfl⟩) ?_
  refine Ow_q rfl rfl rfl (Qt_fieldAddr (m := 2) rfl rfl rfl rfl rfl) ?_
  refine Ow_q rfl rfl rfl (Qt_load1 (v := (.int .i64 p2.channel)) rfl rfl rfl (Rdc.blk (.tail _ (.tail _ (.head _))) rfl)) ?_
  refine Ow_q rfl rfl rfl (Qt_loadA (m := 3) (cs := (Chan.cells (Chan.mk x364.capacity x364.buffer true) v369)) rfl rfl rfl rfl ⟨rfl, Rdc.blk (.head _) rfl⟩) ?_
  obtain ⟨x372, hx373, H⟩ := bnd H
  refine Ow_cons rfl (OpW_call rfl Try.call84 rfl rfl (c_M_14z p0 vp0_chans vp0_waiting p2.channel (Chan.mk x364.capacity x364.buffer true) v369 x372 hx373 _ _ hp0_chans hp0_waiting hs370) ?_)
  rintro _ _ _ - ⟨v374, rs375, v376, rfl, rfl, rfl, hs377, hs378⟩
  refine Ow_cons rfl (OpW_store (vs := (Desk.cells x372 v374 v376)) (all' := (Desk.cells x372 v374 v376)) rfl rfl rfl rfl rfl (.there (.there (.there (.there .here)))) rfl rfl rfl ?_)
  refine Ow_nil ?_
  refine Cw_seq ?_
  refine Cw_region ?_
  refine Ow_q rfl rfl rfl (Qt_move rfl) ?_
  refine Ow_q rfl rfl rfl (Qt_build (cs := (Result.cells (Result.mk 6 (-1) 0 false 0))) rfl rfl rfl rfl rfl rfl) ?_
  refine Ow_q rfl rfl rfl (Qt_build (cs := (Done.cells (Done.mk p1 (Result.mk 6 (-1) 0 false 0)))) rfl rfl rfl rfl rfl rfl) ?_
  have hR380 : RowR TyDone K [(Done.cells (Done.mk p1 (Result.mk 6 (-1) 0 false 0)))] [(Done.mk p1 (Result.mk 6 (-1) 0 false 0))] := RowR.cons rfl (RowR.nil)
  refine Ow_cons rfl (O_lit (T := TyDone) (rows := [(Done.cells (Done.mk p1 (Result.mk 6 (-1) 0 false 0)))]) (l := [(Done.mk p1 (Result.mk 6 (-1) 0 false 0))]) rfl rfl rfl hR380 rfl rfl rfl rfl rfl rfl rfl rfl (fun v379 => ?_))
  refine Ow_q rfl rfl rfl (Qt_assign rfl) ?_
  refine Ow_nil ?_
  refine Cw_join (fun env' K' G' => ∃ (v648 : SV) (l649 : List Done) (v651 : SV) (l652 : List Chan) (v654 : SV) (l655 : List Waiter) (i657 : Int), [(3, (.pointer (some ((⟨b321, 0, none⟩ : Addr).add 0)))), (6, (.pointer (some ((⟨b323, 0, none⟩ : Addr).add 0)))), (9, (sv v648))] = env' ∧ (.blk b323 34 (Desk.cells (Desk.mk [] [] 0) nilS nilS)) :: (.blk b321 34 (Desk.cells (Desk.mk l652 l655 i657) v651 v654)) :: (.tok 75 6 [(sv v648)]) :: G = G' ∧ M_108z l649 l652 l655 i657 = some (y0, y1) ∧ Slr TyDone K' (sv v648) l649 ∧ Slr TyChan K' (sv v651) l652 ∧ Slr TyWaiter K' (sv v654) l655) ?_ ?_
  ·skip
   refine Cw_seq ?_
   refine Cw_region ?_
   refine Ow_q rfl rfl rfl (Qt_assign rfl) ?_
   refine Ow_nil ?_
   refine Cw_block ?_
   refine Cw_loopM (fun n925 env' K' G' => ∃ (v914 : SV) (l915 : List Done) (i917 : Int) (v918 : SV) (l919 : List Chan) (v921 : SV) (l922 : List Waiter) (i924 : Int), [(3, (.pointer (some ((⟨b321, 0, none⟩ : Addr).add 0)))), (5, (.pointer (some ((⟨b322, 0, none⟩ : Addr).add 0)))), (6, (.pointer (some ((⟨b323, 0, none⟩ : Addr).add 0)))), (9, (sv v914)), (10, (.int .i64 i917))] = env' ∧ (.blk b323 34 (Desk.cells (Desk.mk [] [] 0) nilS nilS)) :: (.blk b322 41 (Op.cells p2 vp2_cases vp2_draws)) :: (.blk b321 34 (Desk.cells (Desk.mk l919 l922 i924) v918 v921)) :: (.tok 75 6 [(sv v914)]) :: G = G' ∧ lp5 (M_29z p2) n925 l915 i917 l919 l922 i924 = some (y0, y1) ∧ Slr TyDone K' (sv v914) l915 ∧ Slr TyChan K' (sv v918) l919 ∧ Slr TyWaiter K' (sv v921) l922) BIG ?_ ?_
   ·skip
    refine Shift.settle (T := TyDone) .here hR380 rfl ?_
    intro K926 hK927 hs928
    have hs932 := (hs377).mono hK927
    refine Shift.settle (T := TyChan) (.there .here) hs932 rfl ?_
    intro K929 hK930 hs931
    refine Pu5 ?_
    refine Pu5 ?_
    refine Pu5 ?_
    refine Re4 ?_
    refine Re4 ?_
    have hs933 := (hs928).mono hK930
    have hs934 := ((hs378).mono hK927).mono hK930
    refine Shift.done ?_
    exact ⟨_, by exact ⟨rfl, rfl, rfl, rfl, rfl, trivial⟩, v379, [(Done.mk p1 (Result.mk 6 (-1) 0 false 0))], 0, v374, x372.chans, v376, x372.waiting, x372.tick, rfl, rfl, H, hs933, hs931, hs934⟩
   rintro n925 _ K935 _ hK936 ⟨v914, l915, i917, v918, l919, v921, l922, i924, rfl, rfl, H, hs916, hs920, hs923⟩
   obtain ⟨m937, k938, rfl, hkk939, H⟩ := lps5 H
   unfold M_29z at H
   refine Cw_seq ?_
   refine Cw_seq ?_
   refine Cw_region ?_
   refine Ow_q rfl rfl rfl (Qt_move rfl) ?_
   refine Ow_q rfl rfl rfl (Qt_cmp rfl rfl rfl) ?_
   refine Ow_nil ?_
   refine Cw_cond rfl ?_ ?_
   ·intro h941
    have h941 := dcd_t (h941)
    have H := ift h941 H
    refine Cw_skip ?_
    refine Cw_join (fun env' K' G' => ∃ (v1049 : SV) (l1050 : List Done) (v1052 : SV) (l1053 : List Chan) (v1055 : SV) (l1056 : List Waiter) (i1058 : Int), [(3, (.pointer (some ((⟨b321, 0, none⟩ : Addr).add 0)))), (5, (.pointer (some ((⟨b322, 0, none⟩ : Addr).add 0)))), (6, (.pointer (some ((⟨b323, 0, none⟩ : Addr).add 0)))), (9, (sv v1049)), (10, (.int .i64 i917))] = env' ∧ (.blk b323 34 (Desk.cells (Desk.mk [] [] 0) nilS nilS)) :: (.blk b322 41 (Op.cells p2 vp2_cases vp2_draws)) :: (.blk b321 34 (Desk.cells (Desk.mk l1053 l1056 i1058) v1052 v1055)) :: (.tok 75 6 [(sv v1049)]) :: G = G' ∧ M_165z i917 p2 k938 l1050 l1053 l1056 i1058 = some (y0, y1) ∧ Slr TyDone K' (sv v1049) l1050 ∧ Slr TyChan K' (sv v1052) l1053 ∧ Slr TyWaiter K' (sv v1055) l1056) ?_ ?_
    ·skip
     refine Cw_block ?_
     refine Cw_seq ?_
     refine Cw_region ?_
     refine Ow_q rfl rfl rfl (Qt_assign rfl) ?_
     refine Ow_nil ?_
     refine Cw_block ?_
     refine Cw_loopM (fun n1166 env' K' G' => ∃ (v1155 : SV) (l1156 : List Done) (i1158 : Int) (v1159 : SV) (l1160 : List Chan) (v1162 : SV) (l1163 : List Waiter) (i1165 : Int), [(3, (.pointer (some ((⟨b321, 0, none⟩ : Addr).add 0)))), (5, (.pointer (some ((⟨b322, 0, none⟩ : Addr).add 0)))), (6, (.pointer (some ((⟨b323, 0, none⟩ : Addr).add 0)))), (9, (sv v1155)), (10, (.int .i64 i917)), (11, (.int .i64 i1158))] = env' ∧ (.blk b323 34 (Desk.cells (Desk.mk [] [] 0) nilS nilS)) :: (.blk b322 41 (Op.cells p2 vp2_cases vp2_draws)) :: (.blk b321 34 (Desk.cells (Desk.mk l1160 l1163 i1165) v1159 v1162)) :: (.tok 75 6 [(sv v1155)]) :: G = G' ∧ lp5 (M_57z i917 p2 k938) n1166 l1156 i1158 l1160 l1163 i1165 = some (y0, y1) ∧ Slr TyDone K' (sv v1155) l1156 ∧ Slr TyChan K' (sv v1159) l1160 ∧ Slr TyWaiter K' (sv v1162) l1163) BIG ?_ ?_
     ·skip
      refine Pu3 ?_
      refine Pu3 ?_
      refine Pu3 ?_
      refine Pu3 ?_
      refine Shift.done ?_
      exact ⟨_, by exact ⟨rfl, rfl, rfl, rfl, rfl, rfl, trivial⟩, v914, l915, 0, v918, l919, v921, l922, i924, rfl, rfl, H, hs916, hs920, hs923⟩
     rintro n1166 _ K1167 _ hK1168 ⟨v1155, l1156, i1158, v1159, l1160, v1162, l1163, i1165, rfl, rfl, H, hs1157, hs1161, hs1164⟩
     obtain ⟨m1169, k1170, rfl, hkk1171, H⟩ := lps5 H
     unfold M_57z at H
     refine Cw_seq ?_
     refine Cw_seq ?_
     refine Cw_region ?_
     refine Ow_q rfl rfl rfl (Qt_move rfl) ?_
     refine Ow_q rfl rfl rfl (Qt_fieldAddr (m := 1) rfl rfl rfl rfl rfl) ?_
     refine Ow_q rfl rfl rfl (Qt_load1 (v := (sv v1162)) rfl rfl rfl (Rdc.blk (.tail _ (.tail _ (.head _))) rfl)) ?_
     refine Ow_q rfl rfl rfl (Q_len (T := TyWaiter) hs1164 rfl rfl) ?_
     refine Ow_q rfl rfl rfl (Qt_cmp rfl rfl rfl) ?_
     refine Ow_nil ?_
     refine Cw_cond rfl ?_ ?_
     ·intro h1173
      have h1173 := dcd_t (h1173)
      have H := ift h1173 H
      refine Cw_skip ?_
      refine Cw_block ?_
      refine Cw_seq ?_
      refine Cw_region ?_
      refine Ow_q rfl rfl rfl (Qt_fieldAddr (m := 1) rfl rfl rfl rfl rfl) ?_
      refine Ow_q rfl rfl rfl (Qt_load1 (v := (sv v1162)) rfl rfl rfl (Rdc.blk (.tail _ (.tail _ (.head _))) rfl)) ?_
      refine Ow_q rfl rfl rfl (Qt_move rfl) ?_
      obtain ⟨x1174, hx1175, H⟩ := bnd H
      obtain ⟨r1176, hr1177, hk1178⟩ := Slr.at hs1164 hx1175
      obtain ⟨v1179, v1180, rfl, hs1181, hs1182⟩ := hr1177
      refine Ow_q rfl rfl rfl (Q_ix (T := TyWaiter) hs1164 hx1175 rfl rfl rfl rfl rfl) ?_
      refine Ow_q rfl rfl rfl (Qt_loadA (m := 8) (cs := (Waiter.cells x1174 v1179 v1180)) rfl rfl rfl rfl ⟨rfl, Rdc.k hk1178 rfl⟩) ?_
      refine Ow_cons rfl (OpW_alloc (cs := (Waiter.cells (Waiter.mk 0 (Op.mk 0 0 0 0 0 [] [])) nilS nilS)) rfl rfl rfl rfl (fun b1183 => ?_))
      refine Ow_cons rfl (OpW_store (vs := (Waiter.cells x1174 v1179 v1180)) (all' := (Waiter.cells x1174 v1179 v1180)) rfl rfl rfl rfl rfl .here rfl rfl rfl ?_)
      refine Ow_nil ?_
      refine Cw_seq ?_
      refine Cw_region ?_
      refine Ow_q rfl rfl rfl (Qt_fieldAddr (m := 1) rfl rfl rfl rfl rfl) ?_
      refine Ow_q rfl rfl rfl (Qt_loadA (m := 7) (cs := (Op.cells x1174.op v1179 v1180)) rfl rfl rfl rfl ⟨rfl, Rdc.blk (.head _) rfl⟩) ?_
      refine Ow_q rfl rfl rfl (Qt_fieldAddr (m := 2) rfl rfl rfl rfl rfl) ?_
      refine Ow_q rfl rfl rfl (Qt_load1 (v := (.int .i64 p2.channel)) rfl rfl rfl (Rdc.blk (.tail _ (.tail _ (.head _))) rfl)) ?_
      refine Ow_q rfl rfl rfl (Qt_move rfl) ?_
      refine Ow_q rfl rfl rfl (Qt_cmp rfl rfl rfl) ?_
      obtain ⟨x1184, hx1185, H⟩ := bnd H
      refine Ow_cons rfl (OpW_call rfl Try.call72 rfl rfl (c_M_16z x1174.op v1179 v1180 p2.channel (dcd (i917 = 1)) x1184 hx1185 _ _ hs1181 hs1182) ?_)
      rintro _ K1186 _ hK1187 ⟨rfl, rfl⟩
      refine Ow_q rfl rfl rfl (Qt_assign rfl) ?_
      refine Ow_nil ?_
      refine Cw_seq ?_
      refine Cw_seq ?_
      refine Cw_region ?_
      refine Ow_q rfl rfl rfl (Qt_move rfl) ?_
      refine Ow_q rfl rfl rfl (Qt_cmp rfl rfl rfl) ?_
      refine Ow_nil ?_
      refine Cw_cond rfl ?_ ?_
      ·intro h1189
       have h1189 := dcd_t (h1189)
       have H := ift h1189 H
       refine Cw_seq ?_
       refine Cw_region ?_
       refine Ow_q rfl rfl rfl (Qt_move rfl) ?_
       refine Ow_q rfl rfl rfl (Qt_arith (e := wI (i1158 + 1)) rfl rfl rfl rfl) ?_
       refine Ow_q rfl rfl rfl (Qt_assign rfl) ?_
       refine Ow_nil ?_
       refine Cw_exit ?_
       refine Pu4 ?_
       refine Pu4 ?_
       refine Pu4 ?_
       refine Pu4 ?_
       refine Re4 ?_
       have hs1190 := (hs1157).mono hK1187
       have hs1191 := (hs1161).mono hK1187
       have hs1192 := (hs1164).mono hK1187
       refine Shift.done ?_
       exact ⟨_, by exact ⟨rfl, rfl, rfl, rfl, rfl, rfl, trivial⟩, _, Nat.lt_succ_self _, v1155, l1156, (wI (i1158 + 1)), v1159, l1160, v1162, l1163, i1165, rfl, rfl, (hkk1171 ▸ H), hs1190, hs1191, hs1192⟩
      ·intro h1189
       have h1189 := dcd_f (h1189)
       have H := iff_ h1189 H
       refine Cw_skip ?_
       refine Cw_seq ?_
       refine Cw_region ?_
       refine Ow_q rfl rfl rfl (Qt_fieldAddr (m := 1) rfl rfl rfl rfl rfl) ?_
       refine Ow_q rfl rfl rfl (Qt_loadA (m := 7) (cs := (Op.cells x1174.op v1179 v1180)) rfl rfl rfl rfl ⟨rfl, Rdc.blk (.head _) rfl⟩) ?_
       refine Ow_q rfl rfl rfl (Qt_move rfl) ?_
       obtain ⟨x1193, hx1194, H⟩ := bnd H
       have hs1195 := (hs1181).mono hK1187
       have hs1196 := (hs1182).mono hK1187
       refine Ow_cons rfl (OpW_call rfl Try.call85 rfl rfl (c_M_17z x1174.op v1179 v1180 x1184 x1193 hx1194 _ _ hs1195 hs1196) ?_)
       rintro _ _ _ - ⟨rfl, rfl, rfl⟩
       refine Ow_q rfl rfl rfl (Qt_build (cs := (Result.cells (Result.mk 2 x1193 0 false 0))) rfl rfl rfl rfl rfl rfl) ?_
       refine Ow_cons rfl (OpW_alloc (cs := (Result.cells (Result.mk 0 0 0 false 0))) rfl rfl rfl rfl (fun b1197 => ?_))
       refine Ow_cons rfl (OpW_store (vs := (Result.cells (Result.mk 2 x1193 0 false 0))) (all' := (Result.cells (Result.mk 2 x1193 0 false 0))) rfl rfl rfl rfl rfl .here rfl rfl rfl ?_)
       refine Ow_nil ?_
       refine Cw_join (fun env' K' G' => ∃ (i1199 : Int), [(3, (.pointer (some ((⟨b321, 0, none⟩ : Addr).add 0)))), (5, (.pointer (some ((⟨b322, 0, none⟩ : Addr).add 0)))), (6, (.pointer (some ((⟨b323, 0, none⟩ : Addr).add 0)))), (9, (sv v1155)), (10, (.int .i64 i917)), (11, (.int .i64 i1158)), (12, (.pointer (some ((⟨b1183, 0, none⟩ : Addr).add 0)))), (14, (.pointer (some ((⟨b1197, 0, none⟩ : Addr).add 0))))] = env' ∧ K1186 = K' ∧ (.blk b1197 73 (Result.cells (Result.mk i1199 x1193 0 false 0))) :: (.blk b1183 52 (Waiter.cells x1174 v1179 v1180)) :: (.blk b323 34 (Desk.cells (Desk.mk [] [] 0) nilS nilS)) :: (.blk b322 41 (Op.cells p2 vp2_cases vp2_draws)) :: (.blk b321 34 (Desk.cells (Desk.mk l1160 l1163 i1165) v1159 v1162)) :: (.tok 75 6 [(sv v1155)]) :: G = G' ∧ M_56z l1156 i917 i1158 x1193 x1174 p2 l1160 l1163 i1165 k938 k1170 i1199 = some (y0, y1)) ?_ ?_
       ·skip
        refine Cw_seq ?_
        refine Cw_region ?_
        refine Ow_q rfl rfl rfl (Qt_move rfl) ?_
        refine Ow_q rfl rfl rfl (Qt_cmp rfl rfl rfl) ?_
        refine Ow_nil ?_
        refine Cw_cond rfl ?_ ?_
        ·intro h1200
         have h1200 := dcd_t (h1200)
         have H := ift h1200 H
         refine Cw_region ?_
         refine Ow_q rfl rfl rfl (Qt_fieldAddr (m := 0) rfl rfl rfl rfl rfl) ?_
         refine Ow_cons rfl (OpW_store (vs := [(.int .i64 5)]) (all' := (Result.cells (Result.mk 5 x1193 0 false 0))) rfl rfl rfl rfl rfl .here rfl rfl rfl ?_)
         refine Ow_nil ?_
         refine Pu5 ?_
         refine Pu5 ?_
         refine Pu5 ?_
         refine Pu5 ?_
         refine Pu5 ?_
         refine Pu5 ?_
         refine Shift.done ?_
         exact ⟨_, by exact ⟨rfl, rfl, rfl, rfl, rfl, rfl, rfl, rfl, trivial⟩, 5, rfl, rfl, rfl, H⟩
        ·intro h1200
         have h1200 := dcd_f (h1200)
         have H := iff_ h1200 H
         refine Cw_skip ?_
         refine Pu5 ?_
         refine Pu5 ?_
         refine Pu5 ?_
         refine Pu5 ?_
         refine Pu5 ?_
         refine Pu5 ?_
         refine Shift.done ?_
         exact ⟨_, by exact ⟨rfl, rfl, rfl, rfl, rfl, rfl, rfl, rfl, trivial⟩, 2, rfl, rfl, rfl, H⟩
       rintro _ _ _ - ⟨i1199, rfl, rfl, rfl, H⟩
       unfold M_56z at H
       refine Cw_seq ?_
       refine Cw_region ?_
       refine Ow_q rfl rfl rfl (Qt_loadA (m := 3) (cs := (Desk.cells (Desk.mk l1160 l1163 i1165) v1159 v1162)) rfl rfl rfl rfl ⟨rfl, Rdc.blk (.tail _ (.tail _ (.tail _ (.tail _ (.head _))))) rfl⟩) ?_
       refine Ow_q rfl rfl rfl (Qt_move rfl) ?_
       obtain ⟨x1201, hx1202, H⟩ := bnd H
       have hs1203 := (hs1161).mono hK1187
       have hs1204 := (hs1164).mono hK1187
       refine Ow_cons rfl (OpW_call rfl Try.call60 rfl rfl (c_M_3z (Desk.mk l1160 l1163 i1165) v1159 v1162 i1158 x1201 hx1202 _ _ hs1203 hs1204) ?_)
       rintro _ K1207 _ hK1208 ⟨v1205, v1206, rfl, rfl, hs1209, hs1210⟩
       refine Ow_cons rfl (OpW_store (vs := (Desk.cells x1201 v1205 v1206)) (all' := (Desk.cells x1201 v1205 v1206)) rfl rfl rfl rfl rfl (.there (.there (.there (.there (.there .here))))) rfl rfl rfl ?_)
       refine Ow_nil ?_
       refine Cw_region ?_
       refine Ow_q rfl rfl rfl (Qt_move rfl) ?_
       refine Ow_q rfl rfl rfl (Qt_fieldAddr (m := 0) rfl rfl rfl rfl rfl) ?_
       refine Ow_q rfl rfl rfl (Qt_load1 (v := (.int .i64 x1174.thread)) rfl rfl rfl (Rdc.blk (.tail _ (.tail _ (.head _))) rfl)) ?_
       refine Ow_q rfl rfl rfl (Qt_loadA (m := 5) (cs := (Result.cells (Result.mk i1199 x1193 0 false 0))) rfl rfl rfl rfl ⟨rfl, Rdc.blk (.tail _ (.head _)) rfl⟩) ?_
       obtain ⟨x1211, hx1212, H⟩ := bnd H
       have hs1213 := ((hs1157).mono hK1187).mono hK1208
       refine Ow_cons rfl (OpW_call rfl Try.call61 rfl rfl (c_M_12z l1156 v1155 x1174.thread (Result.mk i1199 x1193 0 false 0) x1211 hx1212 _ _ hs1213) ?_)
       rintro _ K1215 _ hK1216 ⟨v1214, rfl, rfl, hs1217⟩
       refine Ow_q rfl rfl rfl (Qt_assign rfl) ?_
       refine Ow_nil ?_
       refine Pu6 ?_
       refine Pu6 ?_
       refine Pu6 ?_
       refine Re4 ?_
       refine Re4 ?_
       refine Re4 ?_
       refine Re4 ?_
       have hs1218 := (hs1209).mono hK1216
       have hs1219 := (hs1210).mono hK1216
       refine Shift.done ?_
       exact ⟨_, by exact ⟨rfl, rfl, rfl, rfl, rfl, rfl, trivial⟩, _, Nat.lt_succ_self _, v1214, x1211, i1158, v1205, x1201.chans, v1206, x1201.waiting, x1201.tick, rfl, rfl, (hkk1171 ▸ H), hs1217, hs1218, hs1219⟩
     ·intro h1173
      have h1173 := dcd_f (h1173)
      have H := iff_ h1173 H
      refine Cw_exit ?_
      refine Pu3 ?_
      refine Pu3 ?_
      refine Pu3 ?_
      refine Pu3 ?_
      refine Shift.done ?_
      exact ⟨_, by exact ⟨rfl, rfl, rfl, rfl, rfl, trivial⟩, v1155, l1156, v1159, l1160, v1162, l1163, i1165, rfl, rfl, H, hs1157, hs1161, hs1164⟩
    rintro _ K1220 _ hK1221 ⟨v1049, l1050, v1052, l1053, v1055, l1056, i1058, rfl, rfl, H, hs1051, hs1054, hs1057⟩
    unfold M_165z at H
    refine Cw_region ?_
    refine Ow_q rfl rfl rfl (Qt_move rfl) ?_
    refine Ow_q rfl rfl rfl (Qt_arith (e := wI (i917 + 1)) rfl rfl rfl rfl) ?_
    refine Ow_q rfl rfl rfl (Qt_assign rfl) ?_
    refine Ow_nil ?_
    refine Pu3 ?_
    refine Pu3 ?_
    refine Pu3 ?_
    refine Pu3 ?_
    refine Shift.done ?_
    exact ⟨_, by exact ⟨rfl, rfl, rfl, rfl, rfl, trivial⟩, _, Nat.lt_succ_self _, v1049, l1050, (wI (i917 + 1)), v1052, l1053, v1055, l1056, i1058, rfl, rfl, (hkk939 ▸ H), hs1051, hs1054, hs1057⟩
   ·intro h941
    have h941 := dcd_f (h941)
    have H := iff_ h941 H
    refine Cw_exit ?_
    refine Pu3 ?_
    refine Pu3 ?_
    refine Pu2 ?_
    refine Re3 ?_
    refine Shift.done ?_
    exact ⟨_, by exact ⟨rfl, rfl, rfl, trivial⟩, v914, l915, v918, l919, v921, l922, i924, rfl, rfl, H, hs916, hs920, hs923⟩
  rintro _ K1222 _ hK1223 ⟨v648, l649, v651, l652, v654, l655, i657, rfl, rfl, H, hs650, hs653, hs656⟩
  unfold M_108z at H
  refine Cw_seq ?_
  refine Cw_region ?_
  refine Ow_q rfl rfl rfl (Qt_loadA (m := 3) (cs := (Desk.cells (Desk.mk l652 l655 i657) v651 v654)) rfl rfl rfl rfl ⟨rfl, Rdc.blk (.tail _ (.head _)) rfl⟩) ?_
  refine Ow_q rfl rfl rfl (Qt_move rfl) ?_
  refine Ow_cons rfl (OpW_store (vs := (Desk.cells (Desk.mk l652 l655 i657) v651 v654)) (all' := (Desk.cells (Desk.mk l652 l655 i657) v651 v654)) rfl rfl rfl rfl rfl .here rfl rfl rfl ?_)
  refine Ow_q rfl rfl rfl (Qt_assign rfl) ?_
  refine Ow_nil ?_
  refine Cw_ret ?_
  obtain ⟨ey0, ey1⟩ := inj2 H
  subst y0 y1
  refine ⟨(by first | exact .inl rfl | exact .inr rfl), [(.agg (Desk.cells (Desk.mk l652 l655 i657) v651 v654).toArray), (sv v648)], ⟨(.agg (Desk.cells (Desk.mk l652 l655 i657) v651 v654).toArray), _, rfl, ⟨_, 3, (Desk.cells (Desk.mk l652 l655 i657) v651 v654), rfl, rfl, rfl, rfl, ⟨rfl, Rdc.blk (.head _) rfl⟩, rfl⟩, ⟨(sv v648), _, rfl, rfl, rfl⟩⟩, ?_⟩
  refine Pu2 ?_
  refine Re1 ?_
  refine Re1 ?_
  refine Shift.done ?_
  exact ⟨v651, v654, v648, rfl, rfl, hs653, hs656, hs650⟩

set_option maxHeartbeats 1000000 in
theorem c_M_60z (p0 : Desk) (vp0_chans : SV) (vp0_waiting : SV) (p1 : Int) (p2 : Case) (y0 : Int) (H : M_60z p0 p1 p2 = some y0) (K : Kp) (G : List Ent) (hp0_chans : Slr TyChan K (sv vp0_chans) p0.chans) (hp0_waiting : Slr TyWaiter K (sv vp0_waiting) p0.waiting) :
  Fc Try.prog 42 #[(.agg (Desk.cells p0 vp0_chans vp0_waiting).toArray), (.int .i64 p1), (.agg (Case.cells p2).toArray)] K (G) (fun v K' G' => v = (.int .i64 y0) ∧ G = G') := by
 refine Fc_body Try.func42 rfl Try.ntmps42 Try.results42 rfl ?_
 unfold M_60z at H
 refine Cw_seq ?_
 refine Cw_region ?_
 refine Ow_cons rfl (OpW_box (cs := (Desk.cells p0 vp0_chans vp0_waiting)) rfl rfl rfl (fun b135 => ?_))
 refine Ow_cons rfl (OpW_box (cs := (Case.cells p2)) rfl rfl rfl (fun b136 => ?_))
 refine Ow_q rfl rfl rfl (Qt_assign rfl) ?_
 refine Ow_nil ?_
 refine Cw_seq ?_
 refine Cw_join (fun env' K' G' => ∃ (t141 : Bool), [(1, (.int .i64 p1)), (3, (.pointer (some ((⟨b135, 0, none⟩ : Addr).add 0)))), (5, (.pointer (some ((⟨b136, 0, none⟩ : Addr).add 0)))), (18, (.bool t141))] = env' ∧ K = K' ∧ (.blk b136 45 (Case.cells p2)) :: (.blk b135 34 (Desk.cells p0 vp0_chans vp0_waiting)) :: G = G' ∧ M_116z p1 p2 p0 t141 = some y0) ?_ ?_
 ·skip
  refine Cw_region ?_
  refine Ow_q rfl rfl rfl (Qt_fieldAddr (m := 1) rfl rfl rfl rfl rfl) ?_
  refine Ow_q rfl rfl rfl (Qt_load1 (v := (.int .i64 p2.channel)) rfl rfl rfl (Rdc.blk (.head _) rfl)) ?_
  refine Ow_q rfl rfl rfl (Qt_cmp rfl rfl rfl) ?_
  refine Ow_q rfl rfl rfl (Qt_move rfl) ?_
  refine Ow_caseG rfl rfl rfl ?_ ?_
  ·intro h142
   have h142 := dcd_t (h142)
   have H := ift h142 H
   refine Ow_pass rfl rfl rfl rfl rfl rfl rfl ?_
   refine Ow_pass rfl rfl rfl rfl rfl rfl rfl ?_
   refine Ow_pass rfl rfl rfl rfl rfl rfl rfl ?_
   refine Ow_pass rfl rfl rfl rfl rfl rfl rfl ?_
   refine Ow_pass rfl rfl rfl rfl rfl rfl rfl ?_
   refine Ow_pass rfl rfl rfl rfl rfl rfl rfl ?_
   refine Ow_q rfl rfl rfl (Qt_pick_t rfl rfl) ?_
   refine Ow_nil ?_
   refine Pu1 ?_
   refine Pu1 ?_
   refine Shift.done ?_
   exact ⟨_, by exact ⟨rfl, rfl, rfl, rfl, trivial⟩, true, rfl, rfl, rfl, H⟩
  ·intro h142
   have h142 := dcd_f (h142)
   have H := iff_ h142 H
   refine Ow_qw rfl rfl rfl rfl rfl rfl (Qt_fieldAddr (m := 1) rfl rfl rfl rfl rfl) ?_
   refine Ow_qw rfl rfl rfl rfl rfl rfl (Qt_load1 (v := (.int .i64 p2.channel)) rfl rfl rfl (Rdc.blk (.head _) rfl)) ?_
   refine Ow_qw rfl rfl rfl rfl rfl rfl (Qt_fieldAddr (m := 0) rfl rfl rfl rfl rfl) ?_
   refine Ow_qw rfl rfl rfl rfl rfl rfl (Qt_load1 (v := (sv vp0_chans)) rfl rfl rfl (Rdc.blk (.tail _ (.head _)) rfl)) ?_
   refine Ow_qw rfl rfl rfl rfl rfl rfl (Q_len (T := TyChan) hp0_chans rfl rfl) ?_
   refine Ow_qw rfl rfl rfl rfl rfl rfl (Qt_cmp rfl rfl rfl) ?_
   refine Ow_q rfl rfl rfl (Qt_pick_f rfl rfl) ?_
   refine Ow_nil ?_
   refine Pu1 ?_
   refine Pu1 ?_
   refine Shift.done ?_
   exact ⟨_, by exact ⟨rfl, rfl, rfl, rfl, trivial⟩, (dcd (p2.channel ≥ (p0.chans.length : Int))), rfl, rfl, rfl, H⟩
 rintro _ _ _ - ⟨t141, rfl, rfl, rfl, H⟩
 unfold M_116z at H
 refine Cw_cond rfl ?_ ?_
 ·intro h143
  have H := ift h143 H
  refine Cw_seq ?_
  refine Cw_region ?_
  refine Ow_q rfl rfl rfl (Qt_assign rfl) ?_
  refine Ow_nil ?_
  refine Cw_ret ?_
  obtain ey0 := inj1 H
  subst y0
  refine ⟨(by first | exact .inl rfl | exact .inr rfl), [(.int .i64 (-1))], ⟨(.int .i64 (-1)), _, rfl, rfl, rfl⟩, ?_⟩
  refine Re0 ?_
  refine Re0 ?_
  refine Shift.done ?_
  exact ⟨rfl, rfl⟩
 ·intro h143
  have H := iff_ (btf h143) H
  refine Cw_skip ?_
  refine Cw_join (fun env' K' G' => [] = env' ∧ G = G' ∧ M_196z = some y0) ?_ ?_
  ·skip
   refine Cw_seq ?_
   refine Cw_region ?_
   refine Ow_q rfl rfl rfl (Qt_assign rfl) ?_
   refine Ow_nil ?_
   refine Cw_block ?_
   refine Cw_loopM (fun n364 env' K' G' => ∃ (i363 : Int), [(1, (.int .i64 p1)), (3, (.pointer (some ((⟨b135, 0, none⟩ : Addr).add 0)))), (5, (.pointer (some ((⟨b136, 0, none⟩ : Addr).add 0)))), (7, (.int .i64 i363))] = env' ∧ (.blk b136 45 (Case.cells p2)) :: (.blk b135 34 (Desk.cells p0 vp0_chans vp0_waiting)) :: G = G' ∧ lp1 (M_115z p1 p2 p0) n364 i363 = some y0) BIG ?_ ?_
   ·skip
    refine Pu1 ?_
    refine Pu1 ?_
    refine Shift.done ?_
    exact ⟨_, by exact ⟨rfl, rfl, rfl, rfl, trivial⟩, 0, rfl, rfl, H⟩
   rintro n364 _ K365 _ hK366 ⟨i363, rfl, rfl, H⟩
   obtain ⟨m367, k368, rfl, hkk369, H⟩ := lps1 H
   unfold M_115z at H
   refine Cw_seq ?_
   refine Cw_seq ?_
   refine Cw_region ?_
   refine Ow_q rfl rfl rfl (Qt_move rfl) ?_
   refine Ow_q rfl rfl rfl (Qt_fieldAddr (m := 1) rfl rfl rfl rfl rfl) ?_
   refine Ow_q rfl rfl rfl (Qt_load1 (v := (sv vp0_waiting)) rfl rfl rfl (Rdc.blk (.tail _ (.head _)) rfl)) ?_
   have hs372 := (hp0_waiting).mono hK366
   refine Ow_q rfl rfl rfl (Q_len (T := TyWaiter) hs372 rfl rfl) ?_
   refine Ow_q rfl rfl rfl (Qt_cmp rfl rfl rfl) ?_
   refine Ow_nil ?_
   refine Cw_cond rfl ?_ ?_
   ·intro h373
    have h373 := dcd_t (h373)
    have H := ift h373 H
    refine Cw_skip ?_
    refine Cw_seq ?_
    refine Cw_block ?_
    refine Cw_join (fun env' K' G' => ∃ (t470 : Bool), [(1, (.int .i64 p1)), (3, (.pointer (some ((⟨b135, 0, none⟩ : Addr).add 0)))), (5, (.pointer (some ((⟨b136, 0, none⟩ : Addr).add 0)))), (7, (.int .i64 i363)), (48, (.bool t470))] = env' ∧ (.blk b136 45 (Case.cells p2)) :: (.blk b135 34 (Desk.cells p0 vp0_chans vp0_waiting)) :: G = G' ∧ M_114z p1 i363 p2 p0 k368 t470 = some y0) ?_ ?_
    ·skip
     obtain ⟨x471, hx472, H⟩ := bnd H
     rcases bool_ct (!(dcd (x471.thread = p1))) with hb_ | hb_ <;> revert hb_
     ·intro h480
      have h480 := dcd_f (nt_t (h480))
      have H := iff_ h480 H
      obtain ⟨x481, hx482, H⟩ := bnd H
      obtain ⟨x490, hx491, H⟩ := bnd H
      refine Cw_region_any [.blk b136 45 (Case.cells p2), .blk b135 34 (Desk.cells p0 vp0_chans vp0_waiting)] rfl (Inc.cons (.head _) (Inc.cons (.tail _ (.head _)) Inc.nil)) ?_
      refine Awq 0 rfl (by kernel_rfl) rfl rfl rfl (Qt_fieldAddr (m := 1) rfl rfl rfl rfl rfl) ?_
      refine Awq 1 rfl (by kernel_rfl) rfl rfl rfl (Qt_load1 (v := (sv vp0_waiting)) rfl rfl rfl (Rdc.blk (.tail _ (.head _)) rfl)) ?_
      refine Awq 2 rfl (by kernel_rfl) rfl rfl rfl (Qt_move rfl) ?_
      obtain ⟨r494, hr495, hk496⟩ := Slr.at hs372 hx472
      obtain ⟨v497, v498, rfl, hs499, hs500⟩ := hr495
      refine Awq 3 rfl (by kernel_rfl) rfl rfl rfl (Q_ix (T := TyWaiter) hs372 hx472 rfl rfl rfl rfl rfl) ?_
      refine Awq 4 rfl (by kernel_rfl) rfl rfl rfl (Qt_fieldAddr (m := 0) rfl rfl rfl rfl rfl) ?_
      refine Awq 5 rfl (by kernel_rfl) rfl rfl rfl (Qt_load1 (v := (.int .i64 x471.thread)) rfl rfl rfl (Rdc.k hk496 rfl)) ?_
      refine Awq 6 rfl (by kernel_rfl) rfl rfl rfl (Qt_move rfl) ?_
      refine Awq 7 rfl (by kernel_rfl) rfl rfl rfl (Qt_cmp rfl rfl rfl) ?_
      refine Awq 8 rfl (by kernel_rfl) rfl rfl rfl (Qt_move rfl) ?_
      refine Aw.known (d := 34) rfl (nt_mt (dcd_neg h480)) ?_
      refine Aw_qw 9 rfl (by kernel_rfl) (by kernel_rfl) (by kernel_rfl) rfl rfl rfl rfl rfl rfl (Qt_fieldAddr (m := 1) rfl rfl rfl rfl rfl) ?_
      refine Aw_qw 10 rfl (by kernel_rfl) (by kernel_rfl) (by kernel_rfl) rfl rfl rfl rfl rfl rfl (Qt_load1 (v := (sv vp0_waiting)) rfl rfl rfl (Rdc.blk (.tail _ (.head _)) rfl)) ?_
      refine Aw_qw 11 rfl (by kernel_rfl) (by kernel_rfl) (by kernel_rfl) rfl rfl rfl rfl rfl rfl (Qt_move rfl) ?_
      obtain ⟨r501, hr502, hk503⟩ := Slr.at hs372 hx482
      obtain ⟨v504, v505, rfl, hs506, hs507⟩ := hr502
      refine Aw_qw 12 rfl (by kernel_rfl) (by kernel_rfl) (by kernel_rfl) rfl rfl rfl rfl rfl rfl (Q_ix (T := TyWaiter) hs372 hx482 rfl rfl rfl rfl rfl) ?_
      refine Aw_qw 13 rfl (by kernel_rfl) (by kernel_rfl) (by kernel_rfl) rfl rfl rfl rfl rfl rfl (Qt_fieldAddr (m := 1) rfl rfl rfl rfl rfl) ?_
      refine Aw_qw 14 rfl (by kernel_rfl) (by kernel_rfl) (by kernel_rfl) rfl rfl rfl rfl rfl rfl (Qt_loadA (m := 7) (cs := (Op.cells x481.op v504 v505)) rfl rfl rfl rfl ⟨rfl, Rdc.k hk503 rfl⟩) ?_
      refine Aw_qw 15 rfl (by kernel_rfl) (by kernel_rfl) (by kernel_rfl) rfl rfl rfl rfl rfl rfl (Qt_fieldAddr (m := 1) rfl rfl rfl rfl rfl) ?_
      refine Aw_qw 16 rfl (by kernel_rfl) (by kernel_rfl) (by kernel_rfl) rfl rfl rfl rfl rfl rfl (Qt_load1 (v := (.int .i64 p2.channel)) rfl rfl rfl (Rdc.blk (.head _) rfl)) ?_
      refine Aw_qw 17 rfl (by kernel_rfl) (by kernel_rfl) (by kernel_rfl) rfl rfl rfl rfl rfl rfl (Qt_fieldAddr (m := 0) rfl rfl rfl rfl rfl) ?_
      refine Aw_qw 18 rfl (by kernel_rfl) (by kernel_rfl) (by kernel_rfl) rfl rfl rfl rfl rfl rfl (Qt_load1 (v := (.bool p2.send)) rfl rfl rfl (Rdc.blk (.head _) rfl)) ?_
      refine Aw_qw 19 rfl (by kernel_rfl) (by kernel_rfl) (by kernel_rfl) rfl rfl rfl rfl rfl rfl (Qt_not rfl) ?_
      refine Aw_one 20 (by kernel_rfl) (Ax_mkw rfl rfl rfl rfl rfl ?_)
      refine OpW_call rfl Try.call72 rfl rfl (c_M_16z x481.op v504 v505 p2.channel (!(p2.send)) x490 hx491 _ _ hs506 hs507) ?_
      rintro _ K508 _ hK509 ⟨rfl, rfl⟩
      refine ⟨(Inc.cons (.head _) (Inc.cons (.tail _ (.head _)) Inc.nil)), ?_⟩
      refine Aw_qw 21 rfl (by kernel_rfl) (by kernel_rfl) (by kernel_rfl) rfl rfl rfl rfl rfl rfl (Qt_cmp rfl rfl rfl) ?_
      refine Awq 22 rfl (by kernel_rfl) rfl rfl rfl (Qt_pick_t rfl rfl) ?_
      refine Aw_done (by kernel_rfl) ?_
      refine Pu1 ?_
      refine Pu1 ?_
      refine Shift.done ?_
      exact ⟨_, by exact ⟨rfl, rfl, rfl, rfl, rfl, trivial⟩, (dcd (x490 ≥ 0)), rfl, rfl, H⟩
     ·intro h480
      have h480 := dcd_t (nt_f (h480))
      have H := ift h480 H
      refine Cw_region_any [.blk b136 45 (Case.cells p2), .blk b135 34 (Desk.cells p0 vp0_chans vp0_waiting)] rfl (Inc.cons (.head _) (Inc.cons (.tail _ (.head _)) Inc.nil)) ?_
      refine Awq 0 rfl (by kernel_rfl) rfl rfl rfl (Qt_fieldAddr (m := 1) rfl rfl rfl rfl rfl) ?_
      refine Awq 1 rfl (by kernel_rfl) rfl rfl rfl (Qt_load1 (v := (sv vp0_waiting)) rfl rfl rfl (Rdc.blk (.tail _ (.head _)) rfl)) ?_
      refine Awq 2 rfl (by kernel_rfl) rfl rfl rfl (Qt_move rfl) ?_
      obtain ⟨r510, hr511, hk512⟩ := Slr.at hs372 hx472
      obtain ⟨v513, v514, rfl, hs515, hs516⟩ := hr511
      refine Awq 3 rfl (by kernel_rfl) rfl rfl rfl (Q_ix (T := TyWaiter) hs372 hx472 rfl rfl rfl rfl rfl) ?_
      refine Awq 4 rfl (by kernel_rfl) rfl rfl rfl (Qt_fieldAddr (m := 0) rfl rfl rfl rfl rfl) ?_
      refine Awq 5 rfl (by kernel_rfl) rfl rfl rfl (Qt_load1 (v := (.int .i64 x471.thread)) rfl rfl rfl (Rdc.k hk512 rfl)) ?_
      refine Awq 6 rfl (by kernel_rfl) rfl rfl rfl (Qt_move rfl) ?_
      refine Awq 7 rfl (by kernel_rfl) rfl rfl rfl (Qt_cmp rfl rfl rfl) ?_
      refine Awq 8 rfl (by kernel_rfl) rfl rfl rfl (Qt_move rfl) ?_
      refine Aw.known (d := 34) rfl (nt_mf (dcd_pos h480)) ?_
      refine Aw_pass 9 rfl (by kernel_rfl) (by kernel_rfl) (by kernel_rfl) rfl rfl rfl rfl rfl rfl rfl ?_
      refine Aw_pass 10 rfl (by kernel_rfl) (by kernel_rfl) (by kernel_rfl) rfl rfl rfl rfl rfl rfl rfl ?_
      refine Aw_pass 11 rfl (by kernel_rfl) (by kernel_rfl) (by kernel_rfl) rfl rfl rfl rfl rfl rfl rfl ?_
      refine Aw_pass 12 rfl (by kernel_rfl) (by kernel_rfl) (by kernel_rfl) rfl rfl rfl rfl rfl rfl rfl ?_
      refine Aw_pass 13 rfl (by kernel_rfl) (by kernel_rfl) (by kernel_rfl) rfl rfl rfl rfl rfl rfl rfl ?_
      refine Aw_pass 14 rfl (by kernel_rfl) (by kernel_rfl) (by kernel_rfl) rfl rfl rfl rfl rfl rfl rfl ?_
      refine Aw_pass 15 rfl (by kernel_rfl) (by kernel_rfl) (by kernel_rfl) rfl rfl rfl rfl rfl rfl rfl ?_
      refine Aw_pass 16 rfl (by kernel_rfl) (by kernel_rfl) (by kernel_rfl) rfl rfl rfl rfl rfl rfl rfl ?_
      refine Aw_pass 17 rfl (by kernel_rfl) (by kernel_rfl) (by kernel_rfl) rfl rfl rfl rfl rfl rfl rfl ?_
      refine Aw_pass 18 rfl (by kernel_rfl) (by kernel_rfl) (by kernel_rfl) rfl rfl rfl rfl rfl rfl rfl ?_
      refine Aw_pass 19 rfl (by kernel_rfl) (by kernel_rfl) (by kernel_rfl) rfl rfl rfl rfl rfl rfl rfl ?_
      refine Aw_pass 20 rfl (by kernel_rfl) (by kernel_rfl) (by kernel_rfl) rfl rfl rfl rfl rfl rfl rfl ?_
      refine Aw_pass 21 rfl (by kernel_rfl) (by kernel_rfl) (by kernel_rfl) rfl rfl rfl rfl rfl rfl rfl ?_
      refine Awq 22 rfl (by kernel_rfl) rfl rfl rfl (Qt_pick_f rfl rfl) ?_
      refine Aw_done (by kernel_rfl) ?_
      refine Pu1 ?_
      refine Pu1 ?_
      refine Shift.done ?_
      exact ⟨_, by exact ⟨rfl, rfl, rfl, rfl, rfl, trivial⟩, false, rfl, rfl, H⟩
    rintro _ K517 _ hK518 ⟨t470, rfl, rfl, H⟩
    unfold M_114z at H
    refine Cw_cond rfl ?_ ?_
    ·intro h519
     have H := ift h519 H
     refine Cw_seq ?_
     refine Cw_region ?_
     refine Ow_q rfl rfl rfl (Qt_move rfl) ?_
     refine Ow_q rfl rfl rfl (Qt_assign rfl) ?_
     refine Ow_nil ?_
     refine Cw_ret ?_
     obtain ey0 := inj1 H
     subst y0
     refine ⟨(by first | exact .inl rfl | exact .inr rfl), [(.int .i64 i363)], ⟨(.int .i64 i363), _, rfl, rfl, rfl⟩, ?_⟩
     refine Re0 ?_
     refine Re0 ?_
     refine Shift.done ?_
     exact ⟨rfl, rfl⟩
    ·intro h519
     have H := iff_ (btf h519) H
     refine Cw_skip ?_
     refine Cw_region ?_
     refine Ow_q rfl rfl rfl (Qt_move rfl) ?_
     refine Ow_q rfl rfl rfl (Qt_arith (e := wI (i363 + 1)) rfl rfl rfl rfl) ?_
     refine Ow_q rfl rfl rfl (Qt_assign rfl) ?_
     refine Ow_nil ?_
     refine Pu1 ?_
     refine Pu1 ?_
     refine Shift.done ?_
     exact ⟨_, by exact ⟨rfl, rfl, rfl, rfl, trivial⟩, _, Nat.lt_succ_self _, (wI (i363 + 1)), rfl, rfl, (hkk369 ▸ H)⟩
   ·intro h373
    have h373 := dcd_f (h373)
    have H := iff_ h373 H
    refine Cw_exit ?_
    refine Re0 ?_
    refine Re0 ?_
    refine Shift.done ?_
    exact ⟨[], trivial, rfl, rfl, H⟩
  rintro _ K520 _ hK521 ⟨rfl, rfl, H⟩
  unfold M_196z at H
  refine Cw_seq ?_
  refine Cw_region ?_
  refine Ow_q rfl rfl rfl (Qt_assign rfl) ?_
  refine Ow_nil ?_
  refine Cw_ret ?_
  obtain ey0 := inj1 H
  subst y0
  refine ⟨(by first | exact .inl rfl | exact .inr rfl), [(.int .i64 (-1))], ⟨(.int .i64 (-1)), _, rfl, rfl, rfl⟩, ?_⟩
  refine Shift.done ?_
  exact ⟨rfl, rfl⟩

set_option maxHeartbeats 1000000 in
theorem c_M_61z (p0 : Desk) (vp0_chans : SV) (vp0_waiting : SV) (p1 : Int) (p2 : Case) (y0 : Bool) (H : M_61z p0 p1 p2 = some y0) (K : Kp) (G : List Ent) (hp0_chans : Slr TyChan K (sv vp0_chans) p0.chans) (hp0_waiting : Slr TyWaiter K (sv vp0_waiting) p0.waiting) :
  Fc Try.prog 17 #[(.agg (Desk.cells p0 vp0_chans vp0_waiting).toArray), (.int .i64 p1), (.agg (Case.cells p2).toArray)] K (G) (fun v K' G' => v = (.bool y0) ∧ G = G') := by
 refine Fc_body Try.func17 rfl Try.ntmps17 Try.results17 rfl ?_
 unfold M_61z at H
 refine Cw_seq ?_
 refine Cw_region ?_
 refine Ow_cons rfl (OpW_box (cs := (Desk.cells p0 vp0_chans vp0_waiting)) rfl rfl rfl (fun b10 => ?_))
 refine Ow_cons rfl (OpW_box (cs := (Case.cells p2)) rfl rfl rfl (fun b11 => ?_))
 refine Ow_q rfl rfl rfl (Qt_assign rfl) ?_
 refine Ow_nil ?_
 refine Cw_seq ?_
 refine Cw_region ?_
 refine Ow_q rfl rfl rfl (Qt_fieldAddr (m := 0) rfl rfl rfl rfl rfl) ?_
 refine Ow_q rfl rfl rfl (Qt_load1 (v := (sv vp0_chans)) rfl rfl rfl (Rdc.blk (.tail _ (.head _)) rfl)) ?_
 refine Ow_q rfl rfl rfl (Qt_loadA (m := 3) (cs := (Case.cells p2)) rfl rfl rfl rfl ⟨rfl, Rdc.blk (.head _) rfl⟩) ?_
 obtain ⟨x19, hx20, H⟩ := bnd H
 refine Ow_cons rfl (OpW_call rfl Try.call41 rfl rfl (c_M_113z p0.chans vp0_chans p2 x19 hx20 _ _ hp0_chans) ?_)
 rintro _ _ _ - ⟨rfl, rfl, rfl⟩
 refine Ow_q rfl rfl rfl (Qt_move rfl) ?_
 refine Ow_caseG rfl rfl rfl ?_ ?_
 ·intro h21
  have H := ift h21 H
  refine Ow_pass rfl rfl rfl rfl rfl rfl rfl ?_
  refine Ow_pass rfl rfl rfl rfl rfl rfl rfl ?_
  refine Ow_pass rfl rfl rfl rfl rfl rfl rfl ?_
  refine Ow_pass rfl rfl rfl rfl rfl rfl rfl ?_
  refine Ow_pass rfl rfl rfl rfl rfl rfl rfl ?_
  refine Ow_q rfl rfl rfl (Qt_pick_t rfl rfl) ?_
  refine Ow_q rfl rfl rfl (Qt_assign rfl) ?_
  refine Ow_nil ?_
  refine Cw_ret ?_
  obtain ey0 := inj1 H
  subst y0
  refine ⟨(by first | exact .inl rfl | exact .inr rfl), [(.bool true)], ⟨(.bool true), _, rfl, rfl, rfl⟩, ?_⟩
  refine Re0 ?_
  refine Re0 ?_
  refine Shift.done ?_
  exact ⟨rfl, rfl⟩
 ·intro h21
  have H := iff_ (btf h21) H
  refine Ow_qw rfl rfl rfl rfl rfl rfl (Qt_loadA (m := 3) (cs := (Desk.cells p0 vp0_chans vp0_waiting)) rfl rfl rfl rfl ⟨rfl, Rdc.blk (.tail _ (.head _)) rfl⟩) ?_
  refine Ow_qw rfl rfl rfl rfl rfl rfl (Qt_move rfl) ?_
  refine Ow_qw rfl rfl rfl rfl rfl rfl (Qt_loadA (m := 3) (cs := (Case.cells p2)) rfl rfl rfl rfl ⟨rfl, Rdc.blk (.head _) rfl⟩) ?_
  obtain ⟨x22, hx23, H⟩ := bnd H
  refine Ow_want rfl rfl rfl rfl (OpW_call rfl Try.call42 rfl rfl (c_M_60z p0 vp0_chans vp0_waiting p1 p2 x22 hx23 _ _ hp0_chans hp0_waiting) ?_)
  rintro _ K24 _ hK25 ⟨rfl, rfl⟩
  refine Ow_qw rfl rfl rfl rfl rfl rfl (Qt_cmp rfl rfl rfl) ?_
  refine Ow_q rfl rfl rfl (Qt_pick_f rfl rfl) ?_
  refine Ow_q rfl rfl rfl (Qt_assign rfl) ?_
  refine Ow_nil ?_
  refine Cw_ret ?_
  obtain ey0 := inj1 H
  subst y0
  refine ⟨(by first | exact .inl rfl | exact .inr rfl), [(.bool (dcd (x22 ≥ 0)))], ⟨(.bool (dcd (x22 ≥ 0))), _, rfl, rfl, rfl⟩, ?_⟩
  refine Re0 ?_
  refine Re0 ?_
  refine Shift.done ?_
  exact ⟨rfl, rfl⟩



end Go.Hx
