/- Printed by program. -/
import Derived.Test.YthokebmjjkjjfaaXDM
import Derived.Test.YthokebmjjkjjfaaXDWCases
import Derived.Test.YthokebmjjkjjfaaXDWDesk1
import Derived.Test.YthokebmjjkjjfaaXDWDesk2
import Derived.Test.YthokebmjjkjjfaaXDWDesk3
namespace Go.Hx
open Go Go.Proofs
set_option linter.unusedSimpArgs false
set_option linter.unusedVariables false
set_option maxRecDepth 10000
set_option maxHeartbeats 1000000 in
theorem c_M_desk_Do (p0 : Desk) (vp0_chans : SV) (vp0_waiting : SV) (p1 : Int) (p2 : Op) (vp2_cases : SV) (vp2_draws : SV) (y0 : Desk) (y1 : List Done) (y2 : Bool) (H : M_desk_Do p0 p1 p2 = some (y0, y1, y2)) (K : Kp) (G : List Ent) (hp0_chans : Slr TyChan K (sv vp0_chans) p0.chans) (hp0_waiting : Slr TyWaiter K (sv vp0_waiting) p0.waiting) (hp2_cases : Slr TyCase K (sv vp2_cases) p2.cases) (hp2_draws : Slr Ty.i64 K (sv vp2_draws) p2.draws) :
  Fc Try.prog 22 #[(.agg (Desk.cells p0 vp0_chans vp0_waiting).toArray), (.int .i64 p1), (.agg (Op.cells p2 vp2_cases vp2_draws).toArray)] K (G) (fun v K' G' => ∃ (wy0_chans : SV) (rswy0_chans : List (List Value)) (wy0_waiting : SV) (rswy0_waiting : List (List Value)) (wy1 : SV) (rswy1 : List (List Value)), v = (.tuple #[(.agg (Desk.cells y0 wy0_chans wy0_waiting).toArray), (sv wy1), (.bool y2)]) ∧ (.row (sv wy0_chans) 71 3 rswy0_chans.flatten) :: (.row (sv wy0_waiting) 52 8 rswy0_waiting.flatten) :: (.row (sv wy1) 75 6 rswy1.flatten) :: G = G' ∧ RowR TyChan K' rswy0_chans y0.chans ∧ RowR TyWaiter K' rswy0_waiting y0.waiting ∧ RowR TyDone K' rswy1 y1) := by
 refine Fc_body Try.func22 rfl Try.ntmps22 Try.results22 rfl ?_
 unfold M_desk_Do at H
 refine Cw_seq ?_
 refine Cw_region ?_
 refine Ow_cons rfl (OpW_box (cs := (Desk.cells p0 vp0_chans vp0_waiting)) rfl rfl rfl (fun b187 => ?_))
 refine Ow_cons rfl (OpW_box (cs := (Op.cells p2 vp2_cases vp2_draws)) rfl rfl rfl (fun b188 => ?_))
 refine Ow_cons rfl (OpW_alloc (cs := (Desk.cells (Desk.mk [] [] 0) nilS nilS)) rfl rfl rfl rfl (fun b189 => ?_))
 refine Ow_q rfl rfl rfl (Qt_assign rfl) ?_
 refine Ow_q rfl rfl rfl (Qt_assign rfl) ?_
 refine Ow_nil ?_
 refine Cw_seq ?_
 refine Cw_region ?_
 refine Ow_q rfl rfl rfl (Qt_loadA (m := 3) (cs := (Desk.cells p0 vp0_chans vp0_waiting)) rfl rfl rfl rfl ⟨rfl, Rdc.blk (.tail _ (.tail _ (.head _))) rfl⟩) ?_
 obtain ⟨x190, hx191, H⟩ := bnd H
 refine Ow_cons rfl (OpW_call rfl Try.call44 rfl rfl (c_M_39z p0 vp0_chans vp0_waiting x190 hx191 _ _ hp0_chans hp0_waiting) ?_)
 rintro _ _ _ - ⟨b192, v193, rs194, v195, rs196, v197, rs198, rfl, rfl, rfl, hs199, hs200, hs201⟩
 refine Ow_q rfl rfl rfl (Qt_assign rfl) ?_
 refine Ow_nil ?_
 refine Cw_seq ?_
 refine Cw_region ?_
 refine Ow_q rfl rfl rfl (Qt_build (cs := (Result.cells (Result.mk 0 (-1) 0 false 0))) rfl rfl rfl rfl rfl rfl) ?_
 refine Ow_cons rfl (OpW_alloc (cs := (Result.cells (Result.mk 0 0 0 false 0))) rfl rfl rfl rfl (fun b202 => ?_))
 refine Ow_cons rfl (OpW_store (vs := (Result.cells (Result.mk 0 (-1) 0 false 0))) (all' := (Result.cells (Result.mk 0 (-1) 0 false 0))) rfl rfl rfl rfl rfl .here rfl rfl rfl ?_)
 refine Ow_nil ?_
 refine Cw_join (fun env' K' G' => ∃ (i347 : Int) (i348 : Int) (i349 : Int) (t350 : Bool) (i351 : Int) (v352 : SV) (l353 : List Chan) (rs355 : List (List Value)) (v356 : SV) (l357 : List Waiter) (rs359 : List (List Value)) (v360 : SV) (l361 : List Done) (rs363 : List (List Value)), [(1, (.int .i64 p1)), (6, (.pointer (some ((⟨b189, 0, none⟩ : Addr).add 0)))), (9, (.pointer (some ((⟨b192, 0, none⟩ : Addr).add 0)))), (10, (.pointer (some ((⟨b202, 0, none⟩ : Addr).add 0))))] = env' ∧ (.blk b202 73 (Result.cells (Result.mk i347 i348 i349 t350 i351))) :: (.blk b192 92 (Desk_work.cells (Desk_work.mk (Desk.mk l353 l357 x190.desk.tick) l361) v352 v356 v360)) :: (.blk b189 34 (Desk.cells (Desk.mk [] [] 0) nilS nilS)) :: (.row (sv v352) 71 3 rs355.flatten) :: (.row (sv v356) 52 8 rs359.flatten) :: (.row (sv v360) 75 6 rs363.flatten) :: G = G' ∧ M_2z p1 x190 i347 i348 i349 t350 i351 l353 l357 l361 = some (y0, y1, y2) ∧ RowR TyChan K' rs355 l353 ∧ RowR TyWaiter K' rs359 l357 ∧ RowR TyDone K' rs363 l361) ?_ ?_
 ·skip
  refine Cw_seq ?_
  refine Cw_region ?_
  refine Ow_q rfl rfl rfl (Qt_fieldAddr (m := 0) rfl rfl rfl rfl rfl) ?_
  refine Ow_q rfl rfl rfl (Qt_load1 (v := (.int .i64 p2.kind)) rfl rfl rfl (Rdc.blk (.tail _ (.tail _ (.tail _ (.tail _ (.tail _ (.tail _ (.head _))))))) rfl)) ?_
  refine Ow_nil ?_
  refine Cw_block ?_
  refine Cw_seq ?_
  refine Cw_region ?_
  refine Ow_q rfl rfl rfl (Qt_cmp rfl rfl rfl) ?_
  refine Ow_q rfl rfl rfl (Qt_assign rfl) ?_
  refine Ow_nil ?_
  refine Cw_cond rfl ?_ ?_
  ·intro h364
   have h364 := dcd_t (h364)
   have H := ift h364 H
   refine Cw_seq ?_
   refine Cw_region ?_
   refine Ow_q rfl rfl rfl (Qt_fieldAddr (m := 0) rfl rfl rfl rfl rfl) ?_
   refine Ow_cons rfl (OpW_store (vs := [(.int .i64 5)]) (all' := (Result.cells (Result.mk 5 (-1) 0 false 0))) rfl rfl rfl rfl rfl .here rfl rfl rfl ?_)
   refine Ow_nil ?_
   refine Cw_join (fun env' K' G' => ∃ (t375 : Bool), [(1, (.int .i64 p1)), (5, (.pointer (some ((⟨b188, 0, none⟩ : Addr).add 0)))), (6, (.pointer (some ((⟨b189, 0, none⟩ : Addr).add 0)))), (9, (.pointer (some ((⟨b192, 0, none⟩ : Addr).add 0)))), (10, (.pointer (some ((⟨b202, 0, none⟩ : Addr).add 0)))), (101, (.bool t375))] = env' ∧ K = K' ∧ (.blk b202 73 (Result.cells (Result.mk 5 (-1) 0 false 0))) :: (.blk b192 92 (Desk_work.cells x190 v193 v195 v197)) :: (.blk b189 34 (Desk.cells (Desk.mk [] [] 0) nilS nilS)) :: (.blk b188 41 (Op.cells p2 vp2_cases vp2_draws)) :: (.row (sv v193) 71 3 rs194.flatten) :: (.row (sv v195) 52 8 rs196.flatten) :: (.row (sv v197) 75 6 rs198.flatten) :: G = G' ∧ M_47z p1 x190 p2 t375 = some (y0, y1, y2)) ?_ ?_
   ·skip
    refine Cw_region ?_
    refine Ow_q rfl rfl rfl (Qt_loadA (m := 3) (cs := (Desk.cells p0 vp0_chans vp0_waiting)) rfl rfl rfl rfl ⟨rfl, Rdc.blk (.tail _ (.tail _ (.tail _ (.tail _ (.tail _ (.tail _ (.tail _ (.head _)))))))) rfl⟩) ?_
    refine Ow_q rfl rfl rfl (Qt_fieldAddr (m := 2) rfl rfl rfl rfl rfl) ?_
    refine Ow_q rfl rfl rfl (Qt_load1 (v := (.int .i64 p2.channel)) rfl rfl rfl (Rdc.blk (.tail _ (.tail _ (.tail _ (.tail _ (.tail _ (.tail _ (.head _))))))) rfl)) ?_
    obtain ⟨x376, hx377, H⟩ := bnd H
    refine Ow_cons rfl (OpW_call rfl Try.call45 rfl rfl (c_M_21z p0 vp0_chans vp0_waiting p2.channel x376 hx377 _ _ hp0_chans hp0_waiting) ?_)
    rintro _ _ _ - ⟨rfl, rfl, rfl⟩
    refine Ow_q rfl rfl rfl (Qt_move rfl) ?_
    refine Ow_caseG rfl rfl rfl ?_ ?_
    ·intro h378
     have H := ift h378 H
     refine Ow_qw rfl rfl rfl rfl rfl rfl (Qt_fieldAddr (m := 0) rfl rfl rfl rfl rfl) ?_
     refine Ow_qw rfl rfl rfl rfl rfl rfl (Qt_load1 (v := (sv vp0_chans)) rfl rfl rfl (Rdc.blk (.tail _ (.tail _ (.tail _ (.tail _ (.tail _ (.tail _ (.tail _ (.head _)))))))) rfl)) ?_
     refine Ow_qw rfl rfl rfl rfl rfl rfl (Qt_fieldAddr (m := 2) rfl rfl rfl rfl rfl) ?_
     refine Ow_qw rfl rfl rfl rfl rfl rfl (Qt_load1 (v := (.int .i64 p2.channel)) rfl rfl rfl (Rdc.blk (.tail _ (.tail _ (.tail _ (.tail _ (.tail _ (.tail _ (.head _))))))) rfl)) ?_
     obtain ⟨x379, hx380, H⟩ := bnd H
     obtain ⟨r381, hr382, hk383⟩ := Slr.at hp0_chans hx380
     obtain ⟨v384, rfl, hs385⟩ := hr382
     refine Ow_qw rfl rfl rfl rfl rfl rfl (Q_ix (T := TyChan) hp0_chans hx380 rfl rfl rfl rfl rfl) ?_
     refine Ow_qw rfl rfl rfl rfl rfl rfl (Qt_fieldAddr (m := 2) rfl rfl rfl rfl rfl) ?_
     refine Ow_qw rfl rfl rfl rfl rfl rfl (Qt_load1 (v := (.bool x379.closed)) rfl rfl rfl (Rdc.k hk383 rfl)) ?_
     refine Ow_qw rfl rfl rfl rfl rfl rfl (Qt_not rfl) ?_
     refine Ow_q rfl rfl rfl (Qt_pick_t rfl rfl) ?_
     refine Ow_nil ?_
     refine Shift.pull (.there (.there (.there (.there .here)))) ?_
     refine Shift.pull (.there (.there (.there (.there .here)))) ?_
     refine Shift.pull (.there (.there (.there (.there .here)))) ?_
     refine Shift.pull (.there (.there (.there (.there (.there (.there .here)))))) ?_
     refine Shift.pull (.there (.there (.there (.there (.there (.there .here)))))) ?_
     refine Shift.pull (.there (.there (.there (.there (.there (.there .here)))))) ?_
     refine Shift.pull (.there (.there (.there (.there (.there (.there .here)))))) ?_
     refine Shift.rem (.there (.there (.there (.there (.there (.there (.there .here))))))) ?_
     refine Shift.done ?_
     exact ⟨[(1, (.int .i64 p1)), (5, (.pointer (some ((⟨b188, 0, none⟩ : Addr).add 0)))), (6, (.pointer (some ((⟨b189, 0, none⟩ : Addr).add 0)))), (9, (.pointer (some ((⟨b192, 0, none⟩ : Addr).add 0)))), (10, (.pointer (some ((⟨b202, 0, none⟩ : Addr).add 0)))), (101, (.bool (!(x379.closed))))], ⟨rfl, rfl, rfl, rfl, rfl, rfl, trivial⟩, (!(x379.closed)), rfl, rfl, rfl, H⟩
    ·intro h378
     have H := iff_ (btf h378) H
     refine Ow_pass rfl rfl rfl rfl rfl rfl rfl ?_
     refine Ow_pass rfl rfl rfl rfl rfl rfl rfl ?_
     refine Ow_pass rfl rfl rfl rfl rfl rfl rfl ?_
     refine Ow_pass rfl rfl rfl rfl rfl rfl rfl ?_
     refine Ow_pass rfl rfl rfl rfl rfl rfl rfl ?_
     refine Ow_pass rfl rfl rfl rfl rfl rfl rfl ?_
     refine Ow_pass rfl rfl rfl rfl rfl rfl rfl ?_
     refine Ow_pass rfl rfl rfl rfl rfl rfl rfl ?_
     refine Ow_q rfl rfl rfl (Qt_pick_f rfl rfl) ?_
     refine Ow_nil ?_
     refine Shift.pull (.there (.there (.there (.there .here)))) ?_
     refine Shift.pull (.there (.there (.there (.there .here)))) ?_
     refine Shift.pull (.there (.there (.there (.there .here)))) ?_
     refine Shift.pull (.there (.there (.there (.there (.there (.there .here)))))) ?_
     refine Shift.pull (.there (.there (.there (.there (.there (.there .here)))))) ?_
     refine Shift.pull (.there (.there (.there (.there (.there (.there .here)))))) ?_
     refine Shift.pull (.there (.there (.there (.there (.there (.there .here)))))) ?_
     refine Shift.rem (.there (.there (.there (.there (.there (.there (.there .here))))))) ?_
     refine Shift.done ?_
     exact ⟨[(1, (.int .i64 p1)), (5, (.pointer (some ((⟨b188, 0, none⟩ : Addr).add 0)))), (6, (.pointer (some ((⟨b189, 0, none⟩ : Addr).add 0)))), (9, (.pointer (some ((⟨b192, 0, none⟩ : Addr).add 0)))), (10, (.pointer (some ((⟨b202, 0, none⟩ : Addr).add 0)))), (101, (.bool false))], ⟨rfl, rfl, rfl, rfl, rfl, rfl, trivial⟩, false, rfl, rfl, rfl, H⟩
   rintro _ _ _ - ⟨t375, rfl, rfl, rfl, H⟩
   unfold M_47z at H
   refine Cw_cond rfl ?_ ?_
   ·intro h386
    have H := ift h386 H
    refine Cw_seq ?_
    refine Cw_region ?_
    refine Ow_q rfl rfl rfl (Qt_move rfl) ?_
    refine Ow_q rfl rfl rfl (Qt_fieldAddr (m := 2) rfl rfl rfl rfl rfl) ?_
    refine Ow_q rfl rfl rfl (Qt_load1 (v := (.int .i64 p2.channel)) rfl rfl rfl (Rdc.blk (.tail _ (.tail _ (.tail _ (.head _)))) rfl)) ?_
    obtain ⟨x387, x388, x389, hx390, H⟩ := bnd3 H
    refine Ow.shift (Shift.pull (.there (.there (.there (.there (.there (.there .here)))))) (Shift.done ?_))
    refine Ow.shift (Shift.pull (.there (.there (.there (.there (.there (.there .here)))))) (Shift.done ?_))
    refine Ow.shift (Shift.pull (.there (.there (.there (.there (.there (.there .here)))))) (Shift.done ?_))
    refine Ow.shift (Shift.pull (.there (.there (.there (.there .here)))) (Shift.done ?_))
    refine Ow_cons rfl (OpW_call rfl Try.call46 rfl rfl (c_M_79z b192 x190 v193 rs194 v195 rs196 v197 rs198 p2.channel x387 x388 x389 hx390 _ _ hs199 hs200 hs201) ?_)
    rintro _ K397 _ hK398 ⟨v391, rs392, v393, rs394, v395, rs396, rfl, rfl, hs399, hs400, hs401⟩
    refine Ow_nil ?_
    refine Cw_region ?_
    refine Ow_q rfl rfl rfl (Qt_fieldAddr (m := 0) rfl rfl rfl rfl rfl) ?_
    refine Ow_cons rfl (OpW_store (vs := [(.int .i64 6)]) (all' := (Result.cells (Result.mk 6 (-1) 0 false 0))) rfl rfl rfl rfl rfl (.there (.there (.there (.there .here)))) rfl rfl rfl ?_)
    refine Ow_nil ?_
    refine Shift.pull (.there (.there (.there .here))) ?_
    refine Shift.pull (.there (.there (.there .here))) ?_
    refine Shift.pull (.there (.there (.there .here))) ?_
    refine Shift.pull (.there (.there (.there (.there (.there .here))))) ?_
    refine Shift.pull (.there (.there (.there (.there .here)))) ?_
    refine Shift.pull (.there (.there (.there (.there (.there .here))))) ?_
    refine Shift.rem (.there (.there (.there (.there (.there (.there .here)))))) ?_
    refine Shift.done ?_
    exact ⟨[(1, (.int .i64 p1)), (6, (.pointer (some ((⟨b189, 0, none⟩ : Addr).add 0)))), (9, (.pointer (some ((⟨b192, 0, none⟩ : Addr).add 0)))), (10, (.pointer (some ((⟨b202, 0, none⟩ : Addr).add 0))))], ⟨rfl, rfl, rfl, rfl, trivial⟩, 6, (-1), 0, false, 0, v391, x387, rs392, v393, x388, rs394, v395, x389, rs396, rfl, rfl, H, hs399, hs400, hs401⟩
   ·intro h386
    have H := iff_ (btf h386) H
    refine Cw_skip ?_
    refine Shift.pull (.there (.there (.there (.there (.there (.there .here)))))) ?_
    refine Shift.pull (.there (.there (.there (.there (.there (.there .here)))))) ?_
    refine Shift.pull (.there (.there (.there (.there (.there (.there .here)))))) ?_
    refine Shift.pull (.there (.there (.there (.there (.there .here))))) ?_
    refine Shift.pull (.there (.there (.there (.there (.there .here))))) ?_
    refine Shift.pull (.there (.there (.there (.there (.there .here))))) ?_
    refine Shift.rem (.there (.there (.there (.there (.there (.there .here)))))) ?_
    refine Shift.done ?_
    exact ⟨[(1, (.int .i64 p1)), (6, (.pointer (some ((⟨b189, 0, none⟩ : Addr).add 0)))), (9, (.pointer (some ((⟨b192, 0, none⟩ : Addr).add 0)))), (10, (.pointer (some ((⟨b202, 0, none⟩ : Addr).add 0))))], ⟨rfl, rfl, rfl, rfl, trivial⟩, 5, (-1), 0, false, 0, v193, x190.desk.chans, rs194, v195, x190.desk.waiting, rs196, v197, x190.done, rs198, rfl, rfl, H, hs199, hs200, hs201⟩
  ·intro h364
   have h364 := dcd_f (h364)
   have H := iff_ h364 H
   refine Cw_join (fun env' K' G' => ∃ (t403 : Bool), [(1, (.int .i64 p1)), (3, (.pointer (some ((⟨b187, 0, none⟩ : Addr).add 0)))), (5, (.pointer (some ((⟨b188, 0, none⟩ : Addr).add 0)))), (6, (.pointer (some ((⟨b189, 0, none⟩ : Addr).add 0)))), (9, (.pointer (some ((⟨b192, 0, none⟩ : Addr).add 0)))), (10, (.pointer (some ((⟨b202, 0, none⟩ : Addr).add 0)))), (107, (.bool t403))] = env' ∧ K = K' ∧ (.blk b202 73 (Result.cells (Result.mk 0 (-1) 0 false 0))) :: (.blk b192 92 (Desk_work.cells x190 v193 v195 v197)) :: (.blk b189 34 (Desk.cells (Desk.mk [] [] 0) nilS nilS)) :: (.blk b188 41 (Op.cells p2 vp2_cases vp2_draws)) :: (.blk b187 34 (Desk.cells p0 vp0_chans vp0_waiting)) :: (.row (sv v193) 71 3 rs194.flatten) :: (.row (sv v195) 52 8 rs196.flatten) :: (.row (sv v197) 75 6 rs198.flatten) :: G = G' ∧ M_28z p1 x190 p2 p0 t403 = some (y0, y1, y2)) ?_ ?_
   ·skip
    refine Cw_seq ?_
    refine Cw_region ?_
    refine Ow_q rfl rfl rfl (Qt_cmp rfl rfl rfl) ?_
    refine Ow_q rfl rfl rfl (Qt_assign rfl) ?_
    refine Ow_nil ?_
    refine Cw_cond rfl ?_ ?_
    ·intro h404
     have h404 := dcd_t (h404)
     have H := ift h404 H
     refine Cw_skip ?_
     refine Shift.pull (.there (.there (.there (.there .here)))) ?_
     refine Shift.pull (.there (.there (.there (.there .here)))) ?_
     refine Shift.pull (.there (.there (.there (.there .here)))) ?_
     refine Shift.pull (.there (.there (.there (.there (.there (.there (.there .here))))))) ?_
     refine Shift.pull (.there (.there (.there (.there (.there (.there (.there .here))))))) ?_
     refine Shift.pull (.there (.there (.there (.there (.there (.there (.there .here))))))) ?_
     refine Shift.pull (.there (.there (.there (.there (.there (.there (.there .here))))))) ?_
     refine Shift.pull (.there (.there (.there (.there (.there (.there (.there .here))))))) ?_
     refine Shift.done ?_
     exact ⟨[(1, (.int .i64 p1)), (3, (.pointer (some ((⟨b187, 0, none⟩ : Addr).add 0)))), (5, (.pointer (some ((⟨b188, 0, none⟩ : Addr).add 0)))), (6, (.pointer (some ((⟨b189, 0, none⟩ : Addr).add 0)))), (9, (.pointer (some ((⟨b192, 0, none⟩ : Addr).add 0)))), (10, (.pointer (some ((⟨b202, 0, none⟩ : Addr).add 0)))), (107, (.bool (dcd (p2.kind = 5))))], ⟨rfl, rfl, rfl, rfl, rfl, rfl, rfl, trivial⟩, (dcd (p2.kind = 5)), rfl, rfl, rfl, H⟩
    ·intro h404
     have h404 := dcd_f (h404)
     have H := iff_ h404 H
     refine Cw_region ?_
     refine Ow_q rfl rfl rfl (Qt_cmp rfl rfl rfl) ?_
     refine Ow_q rfl rfl rfl (Qt_assign rfl) ?_
     refine Ow_nil ?_
     refine Shift.pull (.there (.there (.there (.there .here)))) ?_
     refine Shift.pull (.there (.there (.there (.there .here)))) ?_
     refine Shift.pull (.there (.there (.there (.there .here)))) ?_
     refine Shift.pull (.there (.there (.there (.there (.there (.there (.there .here))))))) ?_
     refine Shift.pull (.there (.there (.there (.there (.there (.there (.there .here))))))) ?_
     refine Shift.pull (.there (.there (.there (.there (.there (.there (.there .here))))))) ?_
     refine Shift.pull (.there (.there (.there (.there (.there (.there (.there .here))))))) ?_
     refine Shift.pull (.there (.there (.there (.there (.there (.there (.there .here))))))) ?_
     refine Shift.done ?_
     exact ⟨[(1, (.int .i64 p1)), (3, (.pointer (some ((⟨b187, 0, none⟩ : Addr).add 0)))), (5, (.pointer (some ((⟨b188, 0, none⟩ : Addr).add 0)))), (6, (.pointer (some ((⟨b189, 0, none⟩ : Addr).add 0)))), (9, (.pointer (some ((⟨b192, 0, none⟩ : Addr).add 0)))), (10, (.pointer (some ((⟨b202, 0, none⟩ : Addr).add 0)))), (107, (.bool (dcd (p2.kind = 6))))], ⟨rfl, rfl, rfl, rfl, rfl, rfl, rfl, trivial⟩, (dcd (p2.kind = 6)), rfl, rfl, rfl, H⟩
   rintro _ _ _ - ⟨t403, rfl, rfl, rfl, H⟩
   unfold M_28z at H
   refine Cw_cond rfl ?_ ?_
   ·intro h405
    have H := ift h405 H
    refine Cw_seq ?_
    refine Cw_region ?_
    refine Ow_q rfl rfl rfl (Qt_fieldAddr (m := 0) rfl rfl rfl rfl rfl) ?_
    refine Ow_cons rfl (OpW_store (vs := [(.int .i64 7)]) (all' := (Result.cells (Result.mk 7 (-1) 0 false 0))) rfl rfl rfl rfl rfl .here rfl rfl rfl ?_)
    refine Ow_nil ?_
    refine Cw_seq ?_
    refine Cw_region ?_
    refine Ow_q rfl rfl rfl (Qt_loadA (m := 3) (cs := (Desk.cells p0 vp0_chans vp0_waiting)) rfl rfl rfl rfl ⟨rfl, Rdc.blk (.tail _ (.tail _ (.tail _ (.tail _ (.head _))))) rfl⟩) ?_
    refine Ow_q rfl rfl rfl (Qt_fieldAddr (m := 2) rfl rfl rfl rfl rfl) ?_
    refine Ow_q rfl rfl rfl (Qt_load1 (v := (.int .i64 p2.channel)) rfl rfl rfl (Rdc.blk (.tail _ (.tail _ (.tail _ (.head _)))) rfl)) ?_
    obtain ⟨x406, hx407, H⟩ := bnd H
    refine Ow_cons rfl (OpW_call rfl Try.call45 rfl rfl (c_M_21z p0 vp0_chans vp0_waiting p2.channel x406 hx407 _ _ hp0_chans hp0_waiting) ?_)
    rintro _ _ _ - ⟨rfl, rfl, rfl⟩
    refine Ow_nil ?_
    refine Cw_cond rfl ?_ ?_
    ·intro h408
     have H := ift h408 H
     refine Cw_seq ?_
     refine Cw_region ?_
     refine Ow_q rfl rfl rfl (Qt_fieldAddr (m := 0) rfl rfl rfl rfl rfl) ?_
     refine Ow_q rfl rfl rfl (Qt_load1 (v := (sv vp0_chans)) rfl rfl rfl (Rdc.blk (.tail _ (.tail _ (.tail _ (.tail _ (.head _))))) rfl)) ?_
     refine Ow_q rfl rfl rfl (Qt_fieldAddr (m := 2) rfl rfl rfl rfl rfl) ?_
     refine Ow_q rfl rfl rfl (Qt_load1 (v := (.int .i64 p2.channel)) rfl rfl rfl (Rdc.blk (.tail _ (.tail _ (.tail _ (.head _)))) rfl)) ?_
     obtain ⟨x409, hx410, H⟩ := bnd H
     obtain ⟨r411, hr412, hk413⟩ := Slr.at hp0_chans hx410
     obtain ⟨v414, rfl, hs415⟩ := hr412
     refine Ow_q rfl rfl rfl (Q_ix (T := TyChan) hp0_chans hx410 rfl rfl rfl rfl rfl) ?_
     refine Ow_q rfl rfl rfl (Qt_fieldAddr (m := 0) rfl rfl rfl rfl rfl) ?_
     refine Ow_q rfl rfl rfl (Qt_load1 (v := (.int .i64 x409.capacity)) rfl rfl rfl (Rdc.k hk413 rfl)) ?_
     refine Ow_q rfl rfl rfl (Qt_fieldAddr (m := 4) rfl rfl rfl rfl rfl) ?_
     refine Ow_cons rfl (OpW_store (vs := [(.int .i64 x409.capacity)]) (all' := (Result.cells (Result.mk 7 (-1) 0 false x409.capacity))) rfl rfl rfl rfl rfl .here rfl rfl rfl ?_)
     refine Ow_nil ?_
     refine Cw_seq ?_
     refine Cw_region ?_
     refine Ow_q rfl rfl rfl (Qt_fieldAddr (m := 0) rfl rfl rfl rfl rfl) ?_
     refine Ow_q rfl rfl rfl (Qt_load1 (v := (.int .i64 p2.kind)) rfl rfl rfl (Rdc.blk (.tail _ (.tail _ (.tail _ (.head _)))) rfl)) ?_
     refine Ow_q rfl rfl rfl (Qt_cmp rfl rfl rfl) ?_
     refine Ow_nil ?_
     refine Cw_cond rfl ?_ ?_
     ·intro h416
      have h416 := dcd_t (h416)
      have H := ift h416 H
      refine Cw_region ?_
      refine Ow_q rfl rfl rfl (Qt_fieldAddr (m := 0) rfl rfl rfl rfl rfl) ?_
      refine Ow_q rfl rfl rfl (Qt_load1 (v := (sv vp0_chans)) rfl rfl rfl (Rdc.blk (.tail _ (.tail _ (.tail _ (.tail _ (.head _))))) rfl)) ?_
      refine Ow_q rfl rfl rfl (Qt_fieldAddr (m := 2) rfl rfl rfl rfl rfl) ?_
      refine Ow_q rfl rfl rfl (Qt_load1 (v := (.int .i64 p2.channel)) rfl rfl rfl (Rdc.blk (.tail _ (.tail _ (.tail _ (.head _)))) rfl)) ?_
      obtain ⟨x417, hx418, H⟩ := bnd H
      obtain ⟨r419, hr420, hk421⟩ := Slr.at hp0_chans hx418
      obtain ⟨v422, rfl, hs423⟩ := hr420
      refine Ow_q rfl rfl rfl (Q_ix (T := TyChan) hp0_chans hx418 rfl rfl rfl rfl rfl) ?_
      refine Ow_q rfl rfl rfl (Qt_fieldAddr (m := 1) rfl rfl rfl rfl rfl) ?_
      refine Ow_q rfl rfl rfl (Qt_load1 (v := (sv v422)) rfl rfl rfl (Rdc.k hk421 rfl)) ?_
      refine Ow_q rfl rfl rfl (Q_len (T := Ty.u64) hs423 rfl rfl) ?_
      refine Ow_q rfl rfl rfl (Qt_fieldAddr (m := 4) rfl rfl rfl rfl rfl) ?_
      refine Ow_cons rfl (OpW_store (vs := [(.int .i64 (x417.buffer.length : Int))]) (all' := (Result.cells (Result.mk 7 (-1) 0 false (x417.buffer.length : Int)))) rfl rfl rfl rfl rfl .here rfl rfl rfl ?_)
      refine Ow_nil ?_
      refine Shift.pull (.there (.there (.there (.there (.there (.there (.there .here))))))) ?_
      refine Shift.pull (.there (.there (.there (.there (.there (.there (.there .here))))))) ?_
      refine Shift.pull (.there (.there (.there (.there (.there (.there (.there .here))))))) ?_
      refine Shift.pull (.there (.there (.there (.there (.there .here))))) ?_
      refine Shift.pull (.there (.there (.there (.there (.there .here))))) ?_
      refine Shift.pull (.there (.there (.there (.there (.there .here))))) ?_
      refine Shift.rem (.there (.there (.there (.there (.there (.there .here)))))) ?_
      refine Shift.rem (.there (.there (.there (.there (.there (.there .here)))))) ?_
      refine Shift.done ?_
      exact ⟨[(1, (.int .i64 p1)), (6, (.pointer (some ((⟨b189, 0, none⟩ : Addr).add 0)))), (9, (.pointer (some ((⟨b192, 0, none⟩ : Addr).add 0)))), (10, (.pointer (some ((⟨b202, 0, none⟩ : Addr).add 0))))], ⟨rfl, rfl, rfl, rfl, trivial⟩, 7, (-1), 0, false, (x417.buffer.length : Int), v193, x190.desk.chans, rs194, v195, x190.desk.waiting, rs196, v197, x190.done, rs198, rfl, rfl, H, hs199, hs200, hs201⟩
     ·intro h416
      have h416 := dcd_f (h416)
      have H := iff_ h416 H
      refine Cw_skip ?_
      refine Shift.pull (.there (.there (.there (.there (.there (.there (.there .here))))))) ?_
      refine Shift.pull (.there (.there (.there (.there (.there (.there (.there .here))))))) ?_
      refine Shift.pull (.there (.there (.there (.there (.there (.there (.there .here))))))) ?_
      refine Shift.pull (.there (.there (.there (.there (.there .here))))) ?_
      refine Shift.pull (.there (.there (.there (.there (.there .here))))) ?_
      refine Shift.pull (.there (.there (.there (.there (.there .here))))) ?_
      refine Shift.rem (.there (.there (.there (.there (.there (.there .here)))))) ?_
      refine Shift.rem (.there (.there (.there (.there (.there (.there .here)))))) ?_
      refine Shift.done ?_
      exact ⟨[(1, (.int .i64 p1)), (6, (.pointer (some ((⟨b189, 0, none⟩ : Addr).add 0)))), (9, (.pointer (some ((⟨b192, 0, none⟩ : Addr).add 0)))), (10, (.pointer (some ((⟨b202, 0, none⟩ : Addr).add 0))))], ⟨rfl, rfl, rfl, rfl, trivial⟩, 7, (-1), 0, false, x409.capacity, v193, x190.desk.chans, rs194, v195, x190.desk.waiting, rs196, v197, x190.done, rs198, rfl, rfl, H, hs199, hs200, hs201⟩
    ·intro h408
     have H := iff_ (btf h408) H
     refine Cw_skip ?_
     refine Shift.pull (.there (.there (.there (.there (.there (.there (.there .here))))))) ?_
     refine Shift.pull (.there (.there (.there (.there (.there (.there (.there .here))))))) ?_
     refine Shift.pull (.there (.there (.there (.there (.there (.there (.there .here))))))) ?_
     refine Shift.pull (.there (.there (.there (.there (.there .here))))) ?_
     refine Shift.pull (.there (.there (.there (.there (.there .here))))) ?_
     refine Shift.pull (.there (.there (.there (.there (.there .here))))) ?_
     refine Shift.rem (.there (.there (.there (.there (.there (.there .here)))))) ?_
     refine Shift.rem (.there (.there (.there (.there (.there (.there .here)))))) ?_
     refine Shift.done ?_
     exact ⟨[(1, (.int .i64 p1)), (6, (.pointer (some ((⟨b189, 0, none⟩ : Addr).add 0)))), (9, (.pointer (some ((⟨b192, 0, none⟩ : Addr).add 0)))), (10, (.pointer (some ((⟨b202, 0, none⟩ : Addr).add 0))))], ⟨rfl, rfl, rfl, rfl, trivial⟩, 7, (-1), 0, false, 0, v193, x190.desk.chans, rs194, v195, x190.desk.waiting, rs196, v197, x190.done, rs198, rfl, rfl, H, hs199, hs200, hs201⟩
   ·intro h405
    have H := iff_ (btf h405) H
    refine Cw_seq ?_
    refine Cw_region ?_
    refine Ow_q rfl rfl rfl (Qt_loadA (m := 3) (cs := (Desk.cells p0 vp0_chans vp0_waiting)) rfl rfl rfl rfl ⟨rfl, Rdc.blk (.tail _ (.tail _ (.tail _ (.tail _ (.head _))))) rfl⟩) ?_
    refine Ow_q rfl rfl rfl (Qt_move rfl) ?_
    refine Ow_q rfl rfl rfl (Qt_loadA (m := 7) (cs := (Op.cells p2 vp2_cases vp2_draws)) rfl rfl rfl rfl ⟨rfl, Rdc.blk (.tail _ (.tail _ (.tail _ (.head _)))) rfl⟩) ?_
    obtain ⟨x424, hx425, H⟩ := bnd H
    refine Ow_cons rfl (OpW_call rfl Try.call18 rfl rfl (c_M_27z p0 vp0_chans vp0_waiting p1 p2 vp2_cases vp2_draws x424 hx425 _ _ hp0_chans hp0_waiting hp2_cases hp2_draws) ?_)
    rintro _ K426 _ hK427 ⟨rfl, rfl⟩
    refine Ow_q rfl rfl rfl (Qt_assign rfl) ?_
    refine Ow_nil ?_
    refine Cw_join (fun env' K' G' => ∃ (i445 : Int), [(1, (.int .i64 p1)), (3, (.pointer (some ((⟨b187, 0, none⟩ : Addr).add 0)))), (5, (.pointer (some ((⟨b188, 0, none⟩ : Addr).add 0)))), (6, (.pointer (some ((⟨b189, 0, none⟩ : Addr).add 0)))), (9, (.pointer (some ((⟨b192, 0, none⟩ : Addr).add 0)))), (10, (.pointer (some ((⟨b202, 0, none⟩ : Addr).add 0)))), (11, (.int .i64 i445))] = env' ∧ (.blk b202 73 (Result.cells (Result.mk 0 (-1) 0 false 0))) :: (.blk b192 92 (Desk_work.cells x190 v193 v195 v197)) :: (.blk b189 34 (Desk.cells (Desk.mk [] [] 0) nilS nilS)) :: (.blk b188 41 (Op.cells p2 vp2_cases vp2_draws)) :: (.blk b187 34 (Desk.cells p0 vp0_chans vp0_waiting)) :: (.row (sv v193) 71 3 rs194.flatten) :: (.row (sv v195) 52 8 rs196.flatten) :: (.row (sv v197) 75 6 rs198.flatten) :: G = G' ∧ M_49z p1 x190 p2 p0 i445 = some (y0, y1, y2)) ?_ ?_
    ·skip
     refine Cw_seq ?_
     refine Cw_region ?_
     refine Ow_q rfl rfl rfl (Qt_loadA (m := 7) (cs := (Op.cells p2 vp2_cases vp2_draws)) rfl rfl rfl rfl ⟨rfl, Rdc.blk (.tail _ (.tail _ (.tail _ (.head _)))) rfl⟩) ?_
     obtain ⟨x446, x447, hx448, H⟩ := bnd2 H
     have hs449 := (hp2_cases).mono hK427
     have hs450 := (hp2_draws).mono hK427
     refine Ow_cons rfl (OpW_call rfl Try.call47 rfl rfl (c_M_9z p2 vp2_cases vp2_draws x446 x447 hx448 _ _ hs449 hs450) ?_)
     rintro _ _ _ - ⟨rfl, rfl, rfl⟩
     refine Ow_q rfl rfl rfl (Qt_move rfl) ?_
     refine Ow_q rfl rfl rfl (Qt_extract rfl rfl) ?_
     refine Ow_q rfl rfl rfl (Qt_extract rfl rfl) ?_
     refine Ow_cons rfl (OpW_alloc (cs := (Case.cells (Case.mk false 0 0))) rfl rfl rfl rfl (fun b451 => ?_))
     refine Ow_cons rfl (OpW_store (vs := (Case.cells x446)) (all' := (Case.cells x446)) rfl rfl rfl rfl rfl .here rfl rfl rfl ?_)
     refine Ow_q rfl rfl rfl (Qt_assign rfl) ?_
     refine Ow_nil ?_
     refine Cw_join (fun env' K' G' => ∃ (t459 : Bool), [(1, (.int .i64 p1)), (3, (.pointer (some ((⟨b187, 0, none⟩ : Addr).add 0)))), (5, (.pointer (some ((⟨b188, 0, none⟩ : Addr).add 0)))), (6, (.pointer (some ((⟨b189, 0, none⟩ : Addr).add 0)))), (9, (.pointer (some ((⟨b192, 0, none⟩ : Addr).add 0)))), (10, (.pointer (some ((⟨b202, 0, none⟩ : Addr).add 0)))), (11, (.int .i64 x424)), (34, (.bool t459))] = env' ∧ (.blk b202 73 (Result.cells (Result.mk 0 (-1) 0 false 0))) :: (.blk b192 92 (Desk_work.cells x190 v193 v195 v197)) :: (.blk b189 34 (Desk.cells (Desk.mk [] [] 0) nilS nilS)) :: (.blk b188 41 (Op.cells p2 vp2_cases vp2_draws)) :: (.blk b187 34 (Desk.cells p0 vp0_chans vp0_waiting)) :: (.row (sv v193) 71 3 rs194.flatten) :: (.row (sv v195) 52 8 rs196.flatten) :: (.row (sv v197) 75 6 rs198.flatten) :: G = G' ∧ M_50z p1 x424 x190 p2 p0 t459 = some (y0, y1, y2)) ?_ ?_
     ·skip
      refine Cw_region ?_
      refine Ow_q rfl rfl rfl (Qt_move rfl) ?_
      refine Ow_q rfl rfl rfl (Qt_move rfl) ?_
      refine Ow_caseG rfl rfl rfl ?_ ?_
      ·intro h460
       have H := ift h460 H
       refine Ow_qw rfl rfl rfl rfl rfl rfl (Qt_loadA (m := 3) (cs := (Desk.cells p0 vp0_chans vp0_waiting)) rfl rfl rfl rfl ⟨rfl, Rdc.blk (.tail _ (.tail _ (.tail _ (.tail _ (.tail _ (.head _)))))) rfl⟩) ?_
       refine Ow_qw rfl rfl rfl rfl rfl rfl (Qt_move rfl) ?_
       refine Ow_qw rfl rfl rfl rfl rfl rfl (Qt_loadA (m := 3) (cs := (Case.cells x446)) rfl rfl rfl rfl ⟨rfl, Rdc.blk (.head _) rfl⟩) ?_
       obtain ⟨x461, hx462, H⟩ := bnd H
       have hs463 := (hp0_chans).mono hK427
       have hs464 := (hp0_waiting).mono hK427
       refine Ow_want rfl rfl rfl rfl (OpW_call rfl Try.call16 rfl rfl (c_M_43z p0 vp0_chans vp0_waiting p1 x446 x461 hx462 _ _ hs463 hs464) ?_)
       rintro _ K465 _ hK466 ⟨rfl, rfl⟩
       refine Ow_q rfl rfl rfl (Qt_pick_t rfl rfl) ?_
       refine Ow_nil ?_
       refine Shift.pull (.there (.there (.there (.there (.there (.there (.there (.there .here)))))))) ?_
       refine Shift.pull (.there (.there (.there (.there (.there (.there (.there (.there .here)))))))) ?_
       refine Shift.pull (.there (.there (.there (.there (.there (.there (.there (.there .here)))))))) ?_
       refine Shift.pull (.there (.there (.there (.there (.there (.there (.there (.there .here)))))))) ?_
       refine Shift.pull (.there (.there (.there (.there (.there (.there (.there (.there .here)))))))) ?_
       refine Shift.pull (.there (.there (.there (.there (.there (.there (.there (.there .here)))))))) ?_
       refine Shift.pull (.there (.there (.there (.there (.there (.there (.there (.there .here)))))))) ?_
       refine Shift.pull (.there (.there (.there (.there (.there (.there (.there (.there .here)))))))) ?_
       refine Shift.rem (.there (.there (.there (.there (.there (.there (.there (.there .here)))))))) ?_
       refine Shift.done ?_
       exact ⟨[(1, (.int .i64 p1)), (3, (.pointer (some ((⟨b187, 0, none⟩ : Addr).add 0)))), (5, (.pointer (some ((⟨b188, 0, none⟩ : Addr).add 0)))), (6, (.pointer (some ((⟨b189, 0, none⟩ : Addr).add 0)))), (9, (.pointer (some ((⟨b192, 0, none⟩ : Addr).add 0)))), (10, (.pointer (some ((⟨b202, 0, none⟩ : Addr).add 0)))), (11, (.int .i64 x424)), (34, (.bool x461))], ⟨rfl, rfl, rfl, rfl, rfl, rfl, rfl, rfl, trivial⟩, x461, rfl, rfl, H⟩
      ·intro h460
       have H := iff_ (btf h460) H
       refine Ow_pass rfl rfl rfl rfl rfl rfl rfl ?_
       refine Ow_pass rfl rfl rfl rfl rfl rfl rfl ?_
       refine Ow_pass rfl rfl rfl rfl rfl rfl rfl ?_
       refine Ow_pass rfl rfl rfl rfl rfl rfl rfl ?_
       refine Ow_q rfl rfl rfl (Qt_pick_f rfl rfl) ?_
       refine Ow_nil ?_
       refine Shift.pull (.there (.there (.there (.there (.there (.there (.there (.there .here)))))))) ?_
       refine Shift.pull (.there (.there (.there (.there (.there (.there (.there (.there .here)))))))) ?_
       refine Shift.pull (.there (.there (.there (.there (.there (.there (.there (.there .here)))))))) ?_
       refine Shift.pull (.there (.there (.there (.there (.there (.there (.there (.there .here)))))))) ?_
       refine Shift.pull (.there (.there (.there (.there (.there (.there (.there (.there .here)))))))) ?_
       refine Shift.pull (.there (.there (.there (.there (.there (.there (.there (.there .here)))))))) ?_
       refine Shift.pull (.there (.there (.there (.there (.there (.there (.there (.there .here)))))))) ?_
       refine Shift.pull (.there (.there (.there (.there (.there (.there (.there (.there .here)))))))) ?_
       refine Shift.rem (.there (.there (.there (.there (.there (.there (.there (.there .here)))))))) ?_
       refine Shift.done ?_
       exact ⟨[(1, (.int .i64 p1)), (3, (.pointer (some ((⟨b187, 0, none⟩ : Addr).add 0)))), (5, (.pointer (some ((⟨b188, 0, none⟩ : Addr).add 0)))), (6, (.pointer (some ((⟨b189, 0, none⟩ : Addr).add 0)))), (9, (.pointer (some ((⟨b192, 0, none⟩ : Addr).add 0)))), (10, (.pointer (some ((⟨b202, 0, none⟩ : Addr).add 0)))), (11, (.int .i64 x424)), (34, (.bool false))], ⟨rfl, rfl, rfl, rfl, rfl, rfl, rfl, rfl, trivial⟩, false, rfl, rfl, H⟩
     rintro _ K467 _ hK468 ⟨t459, rfl, rfl, H⟩
     unfold M_50z at H
     refine Cw_cond rfl ?_ ?_
     ·intro h469
      have H := ift h469 H
      refine Cw_region ?_
      refine Ow_q rfl rfl rfl (Qt_assign rfl) ?_
      refine Ow_nil ?_
      refine Shift.pull (.there (.there (.there (.there (.there (.there (.there .here))))))) ?_
      refine Shift.pull (.there (.there (.there (.there (.there (.there (.there .here))))))) ?_
      refine Shift.pull (.there (.there (.there (.there (.there (.there (.there .here))))))) ?_
      refine Shift.pull (.there (.there (.there (.there (.there (.there (.there .here))))))) ?_
      refine Shift.pull (.there (.there (.there (.there (.there (.there (.there .here))))))) ?_
      refine Shift.pull (.there (.there (.there (.there (.there (.there (.there .here))))))) ?_
      refine Shift.pull (.there (.there (.there (.there (.there (.there (.there .here))))))) ?_
      refine Shift.pull (.there (.there (.there (.there (.there (.there (.there .here))))))) ?_
      refine Shift.done ?_
      exact ⟨[(1, (.int .i64 p1)), (3, (.pointer (some ((⟨b187, 0, none⟩ : Addr).add 0)))), (5, (.pointer (some ((⟨b188, 0, none⟩ : Addr).add 0)))), (6, (.pointer (some ((⟨b189, 0, none⟩ : Addr).add 0)))), (9, (.pointer (some ((⟨b192, 0, none⟩ : Addr).add 0)))), (10, (.pointer (some ((⟨b202, 0, none⟩ : Addr).add 0)))), (11, (.int .i64 0))], ⟨rfl, rfl, rfl, rfl, rfl, rfl, rfl, trivial⟩, 0, rfl, rfl, H⟩
     ·intro h469
      have H := iff_ (btf h469) H
      refine Cw_skip ?_
      refine Shift.pull (.there (.there (.there (.there (.there (.there (.there .here))))))) ?_
      refine Shift.pull (.there (.there (.there (.there (.there (.there (.there .here))))))) ?_
      refine Shift.pull (.there (.there (.there (.there (.there (.there (.there .here))))))) ?_
      refine Shift.pull (.there (.there (.there (.there (.there (.there (.there .here))))))) ?_
      refine Shift.pull (.there (.there (.there (.there (.there (.there (.there .here))))))) ?_
      refine Shift.pull (.there (.there (.there (.there (.there (.there (.there .here))))))) ?_
      refine Shift.pull (.there (.there (.there (.there (.there (.there (.there .here))))))) ?_
      refine Shift.pull (.there (.there (.there (.there (.there (.there (.there .here))))))) ?_
      refine Shift.done ?_
      exact ⟨[(1, (.int .i64 p1)), (3, (.pointer (some ((⟨b187, 0, none⟩ : Addr).add 0)))), (5, (.pointer (some ((⟨b188, 0, none⟩ : Addr).add 0)))), (6, (.pointer (some ((⟨b189, 0, none⟩ : Addr).add 0)))), (9, (.pointer (some ((⟨b192, 0, none⟩ : Addr).add 0)))), (10, (.pointer (some ((⟨b202, 0, none⟩ : Addr).add 0)))), (11, (.int .i64 x424))], ⟨rfl, rfl, rfl, rfl, rfl, rfl, rfl, trivial⟩, x424, rfl, rfl, H⟩
    rintro _ K470 _ hK471 ⟨i445, rfl, rfl, H⟩
    unfold M_49z at H
    refine Cw_block ?_
    refine Cw_seq ?_
    refine Cw_region ?_
    refine Ow_q rfl rfl rfl (Qt_move rfl) ?_
    refine Ow_q rfl rfl rfl (Qt_cmp rfl rfl rfl) ?_
    refine Ow_q rfl rfl rfl (Qt_assign rfl) ?_
    refine Ow_nil ?_
    refine Cw_cond rfl ?_ ?_
    ·intro h472
     have h472 := dcd_t (h472)
     have H := ift h472 H
     refine Cw_seq ?_
     refine Cw_region ?_
     refine Ow_q rfl rfl rfl (Qt_move rfl) ?_
     refine Ow_q rfl rfl rfl (Qt_move rfl) ?_
     refine Ow_q rfl rfl rfl (Qt_loadA (m := 7) (cs := (Op.cells p2 vp2_cases vp2_draws)) rfl rfl rfl rfl ⟨rfl, Rdc.blk (.tail _ (.tail _ (.tail _ (.head _)))) rfl⟩) ?_
     obtain ⟨x473, hx474, H⟩ := bnd H
     have hs475 := ((hp2_cases).mono hK427).mono hK471
     have hs476 := ((hp2_draws).mono hK427).mono hK471
     refine Ow_cons rfl (OpW_call rfl Try.call49 rfl rfl (c_M_23z p2 vp2_cases vp2_draws x473 hx474 _ _ hs475 hs476) ?_)
     rintro _ K478 _ hK479 ⟨v477, rfl, rfl, hs480⟩
     refine Ow_q rfl rfl rfl (Qt_move rfl) ?_
     obtain ⟨x481, hx482, H⟩ := bnd H
     obtain ⟨r483, hr484, hk485⟩ := Slr.at hs480 hx482
     obtain rfl := hr484
     refine Ow_q rfl rfl rfl (Q_ix (T := TyCase) hs480 hx482 rfl rfl rfl rfl rfl) ?_
     refine Ow_q rfl rfl rfl (Qt_loadA (m := 3) (cs := (Case.cells x481)) rfl rfl rfl rfl ⟨rfl, Rdc.k hk485 rfl⟩) ?_
     obtain ⟨x486, x487, x488, x489, hx490, H⟩ := bnd4 H
     refine Ow.shift (Shift.pull (.there (.there (.there (.there (.there (.there (.there .here))))))) (Shift.done ?_))
     refine Ow.shift (Shift.pull (.there (.there (.there (.there (.there (.there (.there .here))))))) (Shift.done ?_))
     refine Ow.shift (Shift.pull (.there (.there (.there (.there (.there (.there (.there .here))))))) (Shift.done ?_))
     refine Ow.shift (Shift.pull (.there (.there (.there (.there .here)))) (Shift.done ?_))
     have hs491 := (((hs199).mono hK427).mono hK471).mono hK479
     have hs492 := (((hs200).mono hK427).mono hK471).mono hK479
     have hs493 := (((hs201).mono hK427).mono hK471).mono hK479
     refine Ow_cons rfl (OpW_call rfl Try.call48 rfl rfl (c_M_13z b192 x190 v193 rs194 v195 rs196 v197 rs198 p1 x481 x486 x487 x488 x489 hx490 _ _ hs491 hs492 hs493) ?_)
     rintro _ K500 _ hK501 ⟨v494, rs495, v496, rs497, v498, rs499, rfl, rfl, hs502, hs503, hs504⟩
     refine Ow_cons rfl (OpW_store (vs := (Result.cells x486)) (all' := (Result.cells x486)) rfl rfl rfl rfl rfl (.there (.there (.there (.there .here)))) rfl rfl rfl ?_)
     refine Ow_nil ?_
     refine Cw_region ?_
     refine Ow_q rfl rfl rfl (Qt_loadA (m := 7) (cs := (Op.cells p2 vp2_cases vp2_draws)) rfl rfl rfl rfl ⟨rfl, Rdc.blk (.tail _ (.tail _ (.tail _ (.tail _ (.tail _ (.tail _ (.head _))))))) rfl⟩) ?_
     refine Ow_q rfl rfl rfl (Qt_move rfl) ?_
     obtain ⟨x505, hx506, H⟩ := bnd H
     have hs507 := ((hs475).mono hK479).mono hK501
     have hs508 := ((hs476).mono hK479).mono hK501
     refine Ow_cons rfl (OpW_call rfl Try.call50 rfl rfl (c_M_40z p2 vp2_cases vp2_draws i445 x505 hx506 _ _ hs507 hs508) ?_)
     rintro _ _ _ - ⟨rfl, rfl, rfl⟩
     refine Ow_q rfl rfl rfl (Qt_fieldAddr (m := 1) rfl rfl rfl rfl rfl) ?_
     refine Ow_cons rfl (OpW_store (vs := [(.int .i64 x505)]) (all' := (Result.cells (Result.mk x486.kind x505 x486.value x486.ok x486.number))) rfl rfl rfl rfl rfl (.there (.there (.there (.there .here)))) rfl rfl rfl ?_)
     refine Ow_nil ?_
     refine Shift.pull (.there (.there (.there .here))) ?_
     refine Shift.pull (.there (.there (.there .here))) ?_
     refine Shift.pull (.there (.there (.there .here))) ?_
     refine Shift.pull (.there (.there (.there (.there (.there .here))))) ?_
     refine Shift.pull (.there (.there (.there (.there .here)))) ?_
     refine Shift.pull (.there (.there (.there (.there (.there .here))))) ?_
     refine Shift.rem (.there (.there (.there (.there (.there (.there .here)))))) ?_
     refine Shift.rem (.there (.there (.there (.there (.there (.there .here)))))) ?_
     refine Shift.done ?_
     exact ⟨[(1, (.int .i64 p1)), (6, (.pointer (some ((⟨b189, 0, none⟩ : Addr).add 0)))), (9, (.pointer (some ((⟨b192, 0, none⟩ : Addr).add 0)))), (10, (.pointer (some ((⟨b202, 0, none⟩ : Addr).add 0))))], ⟨rfl, rfl, rfl, rfl, trivial⟩, x486.kind, x505, x486.value, x486.ok, x486.number, v494, x487, rs495, v496, x488, rs497, v498, x489, rs499, rfl, rfl, H, hs502, hs503, hs504⟩
    ·intro h472
     have h472 := dcd_f (h472)
     have H := iff_ h472 H
     refine Cw_seq ?_
     refine Cw_region ?_
     refine Ow_q rfl rfl rfl (Qt_fieldAddr (m := 1) rfl rfl rfl rfl rfl) ?_
     refine Ow_q rfl rfl rfl (Qt_load1 (v := (.int .i64 p2.mode)) rfl rfl rfl (Rdc.blk (.tail _ (.tail _ (.tail _ (.head _)))) rfl)) ?_
     refine Ow_q rfl rfl rfl (Qt_cmp rfl rfl rfl) ?_
     refine Ow_q rfl rfl rfl (Qt_assign rfl) ?_
     refine Ow_nil ?_
     refine Cw_cond rfl ?_ ?_
     ·intro h509
      have h509 := dcd_t (h509)
      have H := ift h509 H
      refine Cw_region ?_
      refine Ow_q rfl rfl rfl (Qt_fieldAddr (m := 0) rfl rfl rfl rfl rfl) ?_
      refine Ow_cons rfl (OpW_store (vs := [(.int .i64 3)]) (all' := (Result.cells (Result.mk 3 (-1) 0 false 0))) rfl rfl rfl rfl rfl .here rfl rfl rfl ?_)
      refine Ow_nil ?_
      refine Shift.pull (.there (.there (.there (.there (.there (.there (.there .here))))))) ?_
      refine Shift.pull (.there (.there (.there (.there (.there (.there (.there .here))))))) ?_
      refine Shift.pull (.there (.there (.there (.there (.there (.there (.there .here))))))) ?_
      refine Shift.pull (.there (.there (.there (.there (.there .here))))) ?_
      refine Shift.pull (.there (.there (.there (.there (.there .here))))) ?_
      refine Shift.pull (.there (.there (.there (.there (.there .here))))) ?_
      refine Shift.rem (.there (.there (.there (.there (.there (.there .here)))))) ?_
      refine Shift.rem (.there (.there (.there (.there (.there (.there .here)))))) ?_
      have hs510 := ((hs199).mono hK427).mono hK471
      have hs511 := ((hs200).mono hK427).mono hK471
      have hs512 := ((hs201).mono hK427).mono hK471
      refine Shift.done ?_
      exact ⟨[(1, (.int .i64 p1)), (6, (.pointer (some ((⟨b189, 0, none⟩ : Addr).add 0)))), (9, (.pointer (some ((⟨b192, 0, none⟩ : Addr).add 0)))), (10, (.pointer (some ((⟨b202, 0, none⟩ : Addr).add 0))))], ⟨rfl, rfl, rfl, rfl, trivial⟩, 3, (-1), 0, false, 0, v193, x190.desk.chans, rs194, v195, x190.desk.waiting, rs196, v197, x190.done, rs198, rfl, rfl, H, hs510, hs511, hs512⟩
     ·intro h509
      have h509 := dcd_f (h509)
      have H := iff_ h509 H
      refine Cw_join (fun env' K' G' => ∃ (t514 : Bool), [(1, (.int .i64 p1)), (5, (.pointer (some ((⟨b188, 0, none⟩ : Addr).add 0)))), (6, (.pointer (some ((⟨b189, 0, none⟩ : Addr).add 0)))), (9, (.pointer (some ((⟨b192, 0, none⟩ : Addr).add 0)))), (10, (.pointer (some ((⟨b202, 0, none⟩ : Addr).add 0)))), (73, (.bool t514))] = env' ∧ K470 = K' ∧ (.blk b202 73 (Result.cells (Result.mk 0 (-1) 0 false 0))) :: (.blk b192 92 (Desk_work.cells x190 v193 v195 v197)) :: (.blk b189 34 (Desk.cells (Desk.mk [] [] 0) nilS nilS)) :: (.blk b188 41 (Op.cells p2 vp2_cases vp2_draws)) :: (.row (sv v193) 71 3 rs194.flatten) :: (.row (sv v195) 52 8 rs196.flatten) :: (.row (sv v197) 75 6 rs198.flatten) :: G = G' ∧ M_48z p1 x190 p2 t514 = some (y0, y1, y2)) ?_ ?_
      ·skip
       refine Cw_region ?_
       refine Ow_q rfl rfl rfl (Qt_fieldAddr (m := 1) rfl rfl rfl rfl rfl) ?_
       refine Ow_q rfl rfl rfl (Qt_load1 (v := (.int .i64 p2.mode)) rfl rfl rfl (Rdc.blk (.tail _ (.tail _ (.tail _ (.head _)))) rfl)) ?_
       refine Ow_q rfl rfl rfl (Qt_cmp rfl rfl rfl) ?_
       refine Ow_q rfl rfl rfl (Qt_move rfl) ?_
       refine Ow_caseG rfl rfl rfl ?_ ?_
       ·intro h515
        have h515 := dcd_t (h515)
        have H := ift h515 H
        refine Ow_qw rfl rfl rfl rfl rfl rfl (Qt_fieldAddr (m := 4) rfl rfl rfl rfl rfl) ?_
        refine Ow_qw rfl rfl rfl rfl rfl rfl (Qt_load1 (v := (.int .i64 p2.deadline)) rfl rfl rfl (Rdc.blk (.tail _ (.tail _ (.tail _ (.head _)))) rfl)) ?_
        refine Ow_qw rfl rfl rfl rfl rfl rfl (Qt_fieldAddr (m := 2) rfl rfl rfl rfl rfl) ?_
        refine Ow_qw rfl rfl rfl rfl rfl rfl (Qt_load1 (v := (.int .i64 p0.tick)) rfl rfl rfl (Rdc.blk (.tail _ (.tail _ (.tail _ (.tail _ (.head _))))) rfl)) ?_
        refine Ow_qw rfl rfl rfl rfl rfl rfl (Qt_cmp rfl rfl rfl) ?_
        refine Ow_q rfl rfl rfl (Qt_pick_t rfl rfl) ?_
        refine Ow_q rfl rfl rfl (Qt_assign rfl) ?_
        refine Ow_nil ?_
        refine Shift.pull (.there (.there (.there (.there (.there (.there (.there .here))))))) ?_
        refine Shift.pull (.there (.there (.there (.there (.there (.there (.there .here))))))) ?_
        refine Shift.pull (.there (.there (.there (.there (.there (.there (.there .here))))))) ?_
        refine Shift.pull (.there (.there (.there (.there (.there (.there .here)))))) ?_
        refine Shift.pull (.there (.there (.there (.there (.there (.there .here)))))) ?_
        refine Shift.pull (.there (.there (.there (.there (.there (.there .here)))))) ?_
        refine Shift.pull (.there (.there (.there (.there (.there (.there .here)))))) ?_
        refine Shift.rem (.there (.there (.there (.there (.there (.there (.there .here))))))) ?_
        refine Shift.done ?_
        exact ⟨[(1, (.int .i64 p1)), (5, (.pointer (some ((⟨b188, 0, none⟩ : Addr).add 0)))), (6, (.pointer (some ((⟨b189, 0, none⟩ : Addr).add 0)))), (9, (.pointer (some ((⟨b192, 0, none⟩ : Addr).add 0)))), (10, (.pointer (some ((⟨b202, 0, none⟩ : Addr).add 0)))), (73, (.bool (dcd (p2.deadline ≤ p0.tick))))], ⟨rfl, rfl, rfl, rfl, rfl, rfl, trivial⟩, (dcd (p2.deadline ≤ p0.tick)), rfl, rfl, rfl, H⟩
       ·intro h515
        have h515 := dcd_f (h515)
        have H := iff_ h515 H
        refine Ow_pass rfl rfl rfl rfl rfl rfl rfl ?_
        refine Ow_pass rfl rfl rfl rfl rfl rfl rfl ?_
        refine Ow_pass rfl rfl rfl rfl rfl rfl rfl ?_
        refine Ow_pass rfl rfl rfl rfl rfl rfl rfl ?_
        refine Ow_pass rfl rfl rfl rfl rfl rfl rfl ?_
        refine Ow_q rfl rfl rfl (Qt_pick_f rfl rfl) ?_
        refine Ow_q rfl rfl rfl (Qt_assign rfl) ?_
        refine Ow_nil ?_
        refine Shift.pull (.there (.there (.there (.there (.there (.there (.there .here))))))) ?_
        refine Shift.pull (.there (.there (.there (.there (.there (.there (.there .here))))))) ?_
        refine Shift.pull (.there (.there (.there (.there (.there (.there (.there .here))))))) ?_
        refine Shift.pull (.there (.there (.there (.there (.there (.there .here)))))) ?_
        refine Shift.pull (.there (.there (.there (.there (.there (.there .here)))))) ?_
        refine Shift.pull (.there (.there (.there (.there (.there (.there .here)))))) ?_
        refine Shift.pull (.there (.there (.there (.there (.there (.there .here)))))) ?_
        refine Shift.rem (.there (.there (.there (.there (.there (.there (.there .here))))))) ?_
        refine Shift.done ?_
        exact ⟨[(1, (.int .i64 p1)), (5, (.pointer (some ((⟨b188, 0, none⟩ : Addr).add 0)))), (6, (.pointer (some ((⟨b189, 0, none⟩ : Addr).add 0)))), (9, (.pointer (some ((⟨b192, 0, none⟩ : Addr).add 0)))), (10, (.pointer (some ((⟨b202, 0, none⟩ : Addr).add 0)))), (73, (.bool false))], ⟨rfl, rfl, rfl, rfl, rfl, rfl, trivial⟩, false, rfl, rfl, rfl, H⟩
      rintro _ _ _ - ⟨t514, rfl, rfl, rfl, H⟩
      unfold M_48z at H
      refine Cw_cond rfl ?_ ?_
      ·intro h516
       have H := ift h516 H
       refine Cw_region ?_
       refine Ow_q rfl rfl rfl (Qt_fieldAddr (m := 0) rfl rfl rfl rfl rfl) ?_
       refine Ow_cons rfl (OpW_store (vs := [(.int .i64 4)]) (all' := (Result.cells (Result.mk 4 (-1) 0 false 0))) rfl rfl rfl rfl rfl .here rfl rfl rfl ?_)
       refine Ow_nil ?_
       refine Shift.pull (.there (.there (.there (.there (.there (.there .here)))))) ?_
       refine Shift.pull (.there (.there (.there (.there (.there (.there .here)))))) ?_
       refine Shift.pull (.there (.there (.there (.there (.there (.there .here)))))) ?_
       refine Shift.pull (.there (.there (.there (.there (.there .here))))) ?_
       refine Shift.pull (.there (.there (.there (.there (.there .here))))) ?_
       refine Shift.pull (.there (.there (.there (.there (.there .here))))) ?_
       refine Shift.rem (.there (.there (.there (.there (.there (.there .here)))))) ?_
       have hs517 := ((hs199).mono hK427).mono hK471
       have hs518 := ((hs200).mono hK427).mono hK471
       have hs519 := ((hs201).mono hK427).mono hK471
       refine Shift.done ?_
       exact ⟨[(1, (.int .i64 p1)), (6, (.pointer (some ((⟨b189, 0, none⟩ : Addr).add 0)))), (9, (.pointer (some ((⟨b192, 0, none⟩ : Addr).add 0)))), (10, (.pointer (some ((⟨b202, 0, none⟩ : Addr).add 0))))], ⟨rfl, rfl, rfl, rfl, trivial⟩, 4, (-1), 0, false, 0, v193, x190.desk.chans, rs194, v195, x190.desk.waiting, rs196, v197, x190.done, rs198, rfl, rfl, H, hs517, hs518, hs519⟩
      ·intro h516
       have H := iff_ (btf h516) H
       refine Cw_join (fun env' K' G' => ∃ (v546 : SV) (l547 : List Waiter) (rs549 : List (List Value)), [(6, (.pointer (some ((⟨b189, 0, none⟩ : Addr).add 0)))), (9, (.pointer (some ((⟨b192, 0, none⟩ : Addr).add 0))))] = env' ∧ K470 = K' ∧ (.blk b192 92 (Desk_work.cells (Desk_work.mk (Desk.mk x190.desk.chans l547 x190.desk.tick) x190.done) v193 v546 v197)) :: (.blk b189 34 (Desk.cells (Desk.mk [] [] 0) nilS nilS)) :: (.row (sv v546) 52 8 rs549.flatten) :: (.row (sv v193) 71 3 rs194.flatten) :: (.row (sv v197) 75 6 rs198.flatten) :: G = G' ∧ M_171z x190 l547 = some (y0, y1, y2) ∧ RowR TyWaiter K' rs549 l547) ?_ ?_
       ·skip
        obtain ⟨x554, hx555, H⟩ := bnd H
        refine Cw_region_any [.blk b202 73 (Result.cells (Result.mk 0 (-1) 0 false 0)), .blk b189 34 (Desk.cells (Desk.mk [] [] 0) nilS nilS), .blk b188 41 (Op.cells p2 vp2_cases vp2_draws), .row (sv v193) 71 3 rs194.flatten, .row (sv v197) 75 6 rs198.flatten] rfl (Inc.cons (.head _) (Inc.cons (.tail _ (.tail _ (.head _))) (Inc.cons (.tail _ (.tail _ (.tail _ (.head _)))) (Inc.cons (.tail _ (.tail _ (.tail _ (.tail _ (.head _))))) (Inc.cons (.tail _ (.tail _ (.tail _ (.tail _ (.tail _ (.tail _ (.head _))))))) Inc.nil))))) ?_
        refine Aw_q 0 rfl (by kernel_rfl) (by kernel_rfl) (by kernel_rfl) rfl rfl rfl (Qt_move rfl) ?_
        refine Aw_q 1 rfl (by kernel_rfl) (by kernel_rfl) (by kernel_rfl) rfl rfl rfl (Qt_move rfl) ?_
        refine Aw_q 2 rfl (by kernel_rfl) (by kernel_rfl) (by kernel_rfl) rfl rfl rfl (Qt_nilCheck rfl) ?_
        refine Aw_q 3 rfl (by kernel_rfl) (by kernel_rfl) (by kernel_rfl) rfl rfl rfl (Qt_fieldAddr (m := 0) rfl rfl rfl rfl rfl) ?_
        refine Aw_q 4 rfl (by kernel_rfl) (by kernel_rfl) (by kernel_rfl) rfl rfl rfl (Qt_fieldAddr (m := 1) rfl rfl rfl rfl rfl) ?_
        refine Aw_q 6 rfl (by kernel_rfl) (by kernel_rfl) (by kernel_rfl) rfl rfl rfl (Qt_move rfl) ?_
        refine Aw_q 7 rfl (by kernel_rfl) (by kernel_rfl) (by kernel_rfl) rfl rfl rfl (Qt_loadA (m := 7) (cs := (Op.cells p2 vp2_cases vp2_draws)) rfl rfl rfl rfl ⟨rfl, Rdc.blk (.tail _ (.tail _ (.head _))) rfl⟩) ?_
        refine Aw_q 8 rfl (by kernel_rfl) (by kernel_rfl) (by kernel_rfl) rfl rfl rfl (Qt_build (cs := (Waiter.cells (Waiter.mk p1 p2) vp2_cases vp2_draws)) rfl rfl rfl rfl rfl rfl) ?_
        refine Aw_two 5 9 (by kernel_rfl) ?_ ?_
        ·skip
         refine id (Ax_mk rfl rfl (OpW_of_Qt rfl rfl (Qt_load1 (v := (sv v195)) rfl rfl rfl (Rdc.blk (.tail _ (.head _)) rfl)) ⟨(Inc.cons (.head _) (Inc.cons (.tail _ (.tail _ (.head _))) (Inc.cons (.tail _ (.tail _ (.tail _ (.head _)))) (Inc.cons (.tail _ (.tail _ (.tail _ (.tail _ (.head _))))) (Inc.cons (.tail _ (.tail _ (.tail _ (.tail _ (.tail _ (.tail _ (.head _))))))) Inc.nil))))), ?_⟩))
         refine Aw_one 9 (by kernel_rfl) (Ax_mk rfl rfl ?_)
         have hs562 := ((hp2_cases).mono hK427).mono hK471
         have hs563 := ((hp2_draws).mono hK427).mono hK471
         have hR561 : RowR TyWaiter K470 [(Waiter.cells (Waiter.mk p1 p2) vp2_cases vp2_draws)] [(Waiter.mk p1 p2)] := RowR.cons ⟨vp2_cases, vp2_draws, rfl, hs562, hs563⟩ (RowR.nil)
         refine O_lit (T := TyWaiter) (rows := [(Waiter.cells (Waiter.mk p1 p2) vp2_cases vp2_draws)]) (l := [(Waiter.mk p1 p2)]) rfl rfl rfl hR561 rfl rfl rfl rfl rfl rfl rfl rfl (fun v560 => ⟨(Inc.cons (.tail _ (.head _)) (Inc.cons (.tail _ (.tail _ (.tail _ (.head _)))) (Inc.cons (.tail _ (.tail _ (.tail _ (.tail _ (.head _))))) (Inc.cons (.tail _ (.tail _ (.tail _ (.tail _ (.tail _ (.head _)))))) (Inc.cons (.tail _ (.tail _ (.tail _ (.tail _ (.tail _ (.tail _ (.tail _ (.head _)))))))) Inc.nil))))), ?_⟩)
         refine Aw_one 10 (by kernel_rfl) (Ax_mk rfl rfl ?_)
         have hs567 := ((hs200).mono hK427).mono hK471
         refine O_appRow (T := TyWaiter) (bytes := 96) rfl rfl rfl (.tail _ (.tail _ (.tail _ (.tail _ (.tail _ (.tail _ (.head _))))))) hs567 (SrcT.row (.head _) hR561 rfl) hx555 rfl rfl rfl rfl rfl rfl rfl rfl (fun v564 rs565 hR566 => ⟨_, (.there (.there (.there (.there (.there (.there .here)))))), ⟨(Inc.cons (.tail _ (.head _)) (Inc.cons (.tail _ (.tail _ (.tail _ (.head _)))) (Inc.cons (.tail _ (.tail _ (.tail _ (.tail _ (.head _))))) (Inc.cons (.tail _ (.tail _ (.tail _ (.tail _ (.tail _ (.head _)))))) (Inc.cons (.tail _ (.tail _ (.tail _ (.tail _ (.tail _ (.tail _ (.tail _ (.head _)))))))) Inc.nil))))), ?_⟩⟩)
         refine Aw.shift (Shift.rem .here (Shift.done ⟨(Inc.cons (.head _) (Inc.cons (.tail _ (.tail _ (.head _))) (Inc.cons (.tail _ (.tail _ (.tail _ (.head _)))) (Inc.cons (.tail _ (.tail _ (.tail _ (.tail _ (.head _))))) (Inc.cons (.tail _ (.tail _ (.tail _ (.tail _ (.tail _ (.tail _ (.head _))))))) Inc.nil))))), ?_⟩))
         refine Aw_q 11 rfl (by kernel_rfl) (by kernel_rfl) (by kernel_rfl) rfl rfl rfl (Qt_nilCheck rfl) ?_
         refine Aw_q 12 rfl (by kernel_rfl) (by kernel_rfl) (by kernel_rfl) rfl rfl rfl (Qt_fieldAddr (m := 0) rfl rfl rfl rfl rfl) ?_
         refine Aw_q 13 rfl (by kernel_rfl) (by kernel_rfl) (by kernel_rfl) rfl rfl rfl (Qt_fieldAddr (m := 1) rfl rfl rfl rfl rfl) ?_
         refine Aw_one 14 (by kernel_rfl) (Ax_mk rfl rfl ?_)
         refine OpW_store (vs := [(sv v564)]) (all' := (Desk_work.cells (Desk_work.mk (Desk.mk x190.desk.chans x554 x190.desk.tick) x190.done) v193 v564 v197)) rfl rfl rfl rfl rfl (.there .here) rfl rfl rfl ⟨(Inc.cons (.head _) (Inc.cons (.tail _ (.tail _ (.head _))) (Inc.cons (.tail _ (.tail _ (.tail _ (.head _)))) (Inc.cons (.tail _ (.tail _ (.tail _ (.tail _ (.head _))))) (Inc.cons (.tail _ (.tail _ (.tail _ (.tail _ (.tail _ (.tail _ (.head _))))))) Inc.nil))))), ?_⟩
         refine Aw_done (by kernel_rfl) ?_
         refine Shift.pull (.there (.there (.there (.there (.there (.there .here)))))) ?_
         refine Shift.pull (.there (.there (.there (.there (.there .here))))) ?_
         refine Shift.pull (.there (.there (.there (.there (.there (.there .here)))))) ?_
         refine Shift.pull (.there (.there (.there (.there (.there .here))))) ?_
         refine Shift.pull (.there (.there (.there (.there (.there .here))))) ?_
         refine Shift.rem (.there (.there (.there (.there (.there .here))))) ?_
         refine Shift.rem (.there (.there (.there (.there (.there .here))))) ?_
         refine Shift.done ?_
         exact ⟨[(6, (.pointer (some ((⟨b189, 0, none⟩ : Addr).add 0)))), (9, (.pointer (some ((⟨b192, 0, none⟩ : Addr).add 0))))], ⟨rfl, rfl, trivial⟩, v564, x554, rs565, rfl, rfl, rfl, H, hR566⟩
        ·skip
         refine id (Ax_mk rfl rfl ?_)
         have hs570 := ((hp2_cases).mono hK427).mono hK471
         have hs571 := ((hp2_draws).mono hK427).mono hK471
         have hR569 : RowR TyWaiter K470 [(Waiter.cells (Waiter.mk p1 p2) vp2_cases vp2_draws)] [(Waiter.mk p1 p2)] := RowR.cons ⟨vp2_cases, vp2_draws, rfl, hs570, hs571⟩ (RowR.nil)
         refine O_lit (T := TyWaiter) (rows := [(Waiter.cells (Waiter.mk p1 p2) vp2_cases vp2_draws)]) (l := [(Waiter.mk p1 p2)]) rfl rfl rfl hR569 rfl rfl rfl rfl rfl rfl rfl rfl (fun v568 => ⟨(Inc.cons (.tail _ (.head _)) (Inc.cons (.tail _ (.tail _ (.tail _ (.head _)))) (Inc.cons (.tail _ (.tail _ (.tail _ (.tail _ (.head _))))) (Inc.cons (.tail _ (.tail _ (.tail _ (.tail _ (.tail _ (.head _)))))) (Inc.cons (.tail _ (.tail _ (.tail _ (.tail _ (.tail _ (.tail _ (.tail _ (.head _)))))))) Inc.nil))))), ?_⟩)
         refine Aw_one 5 (by kernel_rfl) (Ax_mk rfl rfl (OpW_of_Qt rfl rfl (Qt_load1 (v := (sv v195)) rfl rfl rfl (Rdc.blk (.tail _ (.tail _ (.head _))) rfl)) ⟨(Inc.cons (.tail _ (.head _)) (Inc.cons (.tail _ (.tail _ (.tail _ (.head _)))) (Inc.cons (.tail _ (.tail _ (.tail _ (.tail _ (.head _))))) (Inc.cons (.tail _ (.tail _ (.tail _ (.tail _ (.tail _ (.head _)))))) (Inc.cons (.tail _ (.tail _ (.tail _ (.tail _ (.tail _ (.tail _ (.tail _ (.head _)))))))) Inc.nil))))), ?_⟩))
         refine Aw_one 10 (by kernel_rfl) (Ax_mk rfl rfl ?_)
         have hs575 := ((hs200).mono hK427).mono hK471
         refine O_appRow (T := TyWaiter) (bytes := 96) rfl rfl rfl (.tail _ (.tail _ (.tail _ (.tail _ (.tail _ (.tail _ (.head _))))))) hs575 (SrcT.row (.head _) hR569 rfl) hx555 rfl rfl rfl rfl rfl rfl rfl rfl (fun v572 rs573 hR574 => ⟨_, (.there (.there (.there (.there (.there (.there .here)))))), ⟨(Inc.cons (.tail _ (.head _)) (Inc.cons (.tail _ (.tail _ (.tail _ (.head _)))) (Inc.cons (.tail _ (.tail _ (.tail _ (.tail _ (.head _))))) (Inc.cons (.tail _ (.tail _ (.tail _ (.tail _ (.tail _ (.head _)))))) (Inc.cons (.tail _ (.tail _ (.tail _ (.tail _ (.tail _ (.tail _ (.tail _ (.head _)))))))) Inc.nil))))), ?_⟩⟩)
         refine Aw.shift (Shift.rem .here (Shift.done ⟨(Inc.cons (.head _) (Inc.cons (.tail _ (.tail _ (.head _))) (Inc.cons (.tail _ (.tail _ (.tail _ (.head _)))) (Inc.cons (.tail _ (.tail _ (.tail _ (.tail _ (.head _))))) (Inc.cons (.tail _ (.tail _ (.tail _ (.tail _ (.tail _ (.tail _ (.head _))))))) Inc.nil))))), ?_⟩))
         refine Aw_q 11 rfl (by kernel_rfl) (by kernel_rfl) (by kernel_rfl) rfl rfl rfl (Qt_nilCheck rfl) ?_
         refine Aw_q 12 rfl (by kernel_rfl) (by kernel_rfl) (by kernel_rfl) rfl rfl rfl (Qt_fieldAddr (m := 0) rfl rfl rfl rfl rfl) ?_
         refine Aw_q 13 rfl (by kernel_rfl) (by kernel_rfl) (by kernel_rfl) rfl rfl rfl (Qt_fieldAddr (m := 1) rfl rfl rfl rfl rfl) ?_
         refine Aw_one 14 (by kernel_rfl) (Ax_mk rfl rfl ?_)
         refine OpW_store (vs := [(sv v572)]) (all' := (Desk_work.cells (Desk_work.mk (Desk.mk x190.desk.chans x554 x190.desk.tick) x190.done) v193 v572 v197)) rfl rfl rfl rfl rfl (.there .here) rfl rfl rfl ⟨(Inc.cons (.head _) (Inc.cons (.tail _ (.tail _ (.head _))) (Inc.cons (.tail _ (.tail _ (.tail _ (.head _)))) (Inc.cons (.tail _ (.tail _ (.tail _ (.tail _ (.head _))))) (Inc.cons (.tail _ (.tail _ (.tail _ (.tail _ (.tail _ (.tail _ (.head _))))))) Inc.nil))))), ?_⟩
         refine Aw_done (by kernel_rfl) ?_
         refine Shift.pull (.there (.there (.there (.there (.there (.there .here)))))) ?_
         refine Shift.pull (.there (.there (.there (.there (.there .here))))) ?_
         refine Shift.pull (.there (.there (.there (.there (.there (.there .here)))))) ?_
         refine Shift.pull (.there (.there (.there (.there (.there .here))))) ?_
         refine Shift.pull (.there (.there (.there (.there (.there .here))))) ?_
         refine Shift.rem (.there (.there (.there (.there (.there .here))))) ?_
         refine Shift.rem (.there (.there (.there (.there (.there .here))))) ?_
         refine Shift.done ?_
         exact ⟨[(6, (.pointer (some ((⟨b189, 0, none⟩ : Addr).add 0)))), (9, (.pointer (some ((⟨b192, 0, none⟩ : Addr).add 0))))], ⟨rfl, rfl, trivial⟩, v572, x554, rs573, rfl, rfl, rfl, H, hR574⟩
       rintro _ _ _ - ⟨v546, l547, rs549, rfl, rfl, rfl, H, hR548⟩
       unfold M_171z at H
       refine Cw_seq ?_
       refine Cw_region ?_
       refine Ow_q rfl rfl rfl (Qt_move rfl) ?_
       refine Ow_q rfl rfl rfl (Qt_nilCheck rfl) ?_
       refine Ow_q rfl rfl rfl (Qt_fieldAddr (m := 0) rfl rfl rfl rfl rfl) ?_
       refine Ow_q rfl rfl rfl (Qt_loadA (m := 3) (cs := (Desk.cells (Desk.mk x190.desk.chans l547 x190.desk.tick) v193 v546)) rfl rfl rfl rfl ⟨rfl, Rdc.blk (.head _) rfl⟩) ?_
       refine Ow_cons rfl (OpW_store (vs := (Desk.cells (Desk.mk x190.desk.chans l547 x190.desk.tick) v193 v546)) (all' := (Desk.cells (Desk.mk x190.desk.chans l547 x190.desk.tick) v193 v546)) rfl rfl rfl rfl rfl (.there .here) rfl rfl rfl ?_)
       refine Ow_q rfl rfl rfl (Qt_assign rfl) ?_
       refine Ow_q rfl rfl rfl (Qt_assign rfl) ?_
       refine Ow_nil ?_
       refine Cw_ret ?_
       obtain ⟨ey0, ey1, ey2⟩ := inj3 H
       subst y0 y1 y2
       refine ⟨(by first | exact .inl rfl | exact .inr rfl), [(.agg (Desk.cells (Desk.mk x190.desk.chans l547 x190.desk.tick) v193 v546).toArray), (sv nilS), (.bool true)], ⟨(.agg (Desk.cells (Desk.mk x190.desk.chans l547 x190.desk.tick) v193 v546).toArray), _, rfl, ⟨_, 3, (Desk.cells (Desk.mk x190.desk.chans l547 x190.desk.tick) v193 v546), rfl, rfl, rfl, rfl, ⟨rfl, Rdc.blk (.tail _ (.head _)) rfl⟩, rfl⟩, ⟨(sv nilS), _, rfl, rfl, ⟨(.bool true), _, rfl, rfl, rfl⟩⟩⟩, ?_⟩
       have hR576 : RowR TyDone K470 [] [] := RowR.nil
       refine Shift.nilRow 75 6 ?_
       refine Shift.pull (.there (.there (.there .here))) ?_
       refine Shift.pull (.there (.there (.there (.there .here)))) ?_
       refine Shift.rem (.there (.there (.there .here))) ?_
       refine Shift.rem (.there (.there (.there .here))) ?_
       refine Shift.rem (.there (.there (.there .here))) ?_
       have hs577 := ((hs199).mono hK427).mono hK471
       refine Shift.done ?_
       exact ⟨v193, rs194, v546, rs549, nilS, ([] : List (List Value)), rfl, rfl, hs577, hR548, hR576⟩
 rintro _ K578 _ hK579 ⟨i347, i348, i349, t350, i351, v352, l353, rs355, v356, l357, rs359, v360, l361, rs363, rfl, rfl, H, hR354, hR358, hR362⟩
 unfold M_2z at H
 refine Cw_seq ?_
 refine Cw_region ?_
 refine Ow_q rfl rfl rfl (Qt_move rfl) ?_
 refine Ow_q rfl rfl rfl (Qt_move rfl) ?_
 refine Ow_q rfl rfl rfl (Qt_loadA (m := 5) (cs := (Result.cells (Result.mk i347 i348 i349 t350 i351))) rfl rfl rfl rfl ⟨rfl, Rdc.blk (.head _) rfl⟩) ?_
 obtain ⟨x580, hx581, H⟩ := bnd H
 refine Ow.shift (Shift.pull (.there (.there (.there (.there (.there .here))))) (Shift.done ?_))
 refine Ow.shift (Shift.pull (.there (.there (.there (.there (.there .here))))) (Shift.done ?_))
 refine Ow.shift (Shift.pull (.there (.there (.there (.there (.there .here))))) (Shift.done ?_))
 refine Ow.shift (Shift.pull (.there (.there (.there (.there .here)))) (Shift.done ?_))
 refine Ow_cons rfl (OpW_call rfl Try.call51 rfl rfl (c_M_24z b192 (Desk_work.mk (Desk.mk l353 l357 x190.desk.tick) l361) v352 rs355 v356 rs359 v360 rs363 p1 (Result.mk i347 i348 i349 t350 i351) x580 hx581 _ _ hR354 hR358 hR362) ?_)
 rintro _ K584 _ hK585 ⟨v582, rs583, rfl, rfl, hs586⟩
 refine Ow_nil ?_
 refine Cw_seq ?_
 refine Cw_region_any [.blk b192 92 (Desk_work.cells (Desk_work.mk (Desk.mk l353 l357 x190.desk.tick) x580) v352 v356 v582), .row (sv v582) 75 6 rs583.flatten, .row (sv v352) 71 3 rs355.flatten, .row (sv v356) 52 8 rs359.flatten, .blk b202 73 (Result.cells (Result.mk i347 i348 i349 t350 i351))] rfl (Inc.cons (.head _) (Inc.cons (.tail _ (.head _)) (Inc.cons (.tail _ (.tail _ (.head _))) (Inc.cons (.tail _ (.tail _ (.tail _ (.head _)))) (Inc.cons (.tail _ (.tail _ (.tail _ (.tail _ (.head _))))) Inc.nil))))) ?_
 refine Aw_q 0 rfl (by kernel_rfl) (by kernel_rfl) (by kernel_rfl) rfl rfl rfl (Qt_move rfl) ?_
 refine Aw_q 1 rfl (by kernel_rfl) (by kernel_rfl) (by kernel_rfl) rfl rfl rfl (Qt_nilCheck rfl) ?_
 refine Aw_q 2 rfl (by kernel_rfl) (by kernel_rfl) (by kernel_rfl) rfl rfl rfl (Qt_fieldAddr (m := 0) rfl rfl rfl rfl rfl) ?_
 refine Aw_q 3 rfl (by kernel_rfl) (by kernel_rfl) (by kernel_rfl) rfl rfl rfl (Qt_loadA (m := 3) (cs := (Desk.cells (Desk.mk l353 l357 x190.desk.tick) v352 v356)) rfl rfl rfl rfl ⟨rfl, Rdc.blk (.head _) rfl⟩) ?_
 refine Aw_q 4 rfl (by kernel_rfl) (by kernel_rfl) (by kernel_rfl) rfl rfl rfl (Qt_move rfl) ?_
 refine Aw_q 5 rfl (by kernel_rfl) (by kernel_rfl) (by kernel_rfl) rfl rfl rfl (Qt_nilCheck rfl) ?_
 refine Aw_q 6 rfl (by kernel_rfl) (by kernel_rfl) (by kernel_rfl) rfl rfl rfl (Qt_fieldAddr (m := 3) rfl rfl rfl rfl rfl) ?_
 refine Aw_q 7 rfl (by kernel_rfl) (by kernel_rfl) (by kernel_rfl) rfl rfl rfl (Qt_load1 (v := (sv v582)) rfl rfl rfl (Rdc.blk (.head _) rfl)) ?_
 refine Aw_one 8 (by kernel_rfl) (Ax_mk rfl rfl ?_)
 refine OpW_store (vs := (Desk.cells (Desk.mk l353 l357 x190.desk.tick) v352 v356)) (all' := (Desk.cells (Desk.mk l353 l357 x190.desk.tick) v352 v356)) rfl rfl rfl rfl rfl (.there (.there (.there (.there (.there .here))))) rfl rfl rfl ⟨(Inc.cons (.head _) (Inc.cons (.tail _ (.head _)) (Inc.cons (.tail _ (.tail _ (.head _))) (Inc.cons (.tail _ (.tail _ (.tail _ (.head _)))) (Inc.cons (.tail _ (.tail _ (.tail _ (.tail _ (.head _))))) Inc.nil))))), ?_⟩
 refine Aw_q 9 rfl (by kernel_rfl) (by kernel_rfl) (by kernel_rfl) rfl rfl rfl (Qt_assign rfl) ?_
 refine Aw_q 10 rfl (by kernel_rfl) (by kernel_rfl) (by kernel_rfl) rfl rfl rfl (Qt_assign rfl) ?_
 refine Aw_done (by kernel_rfl) ?_
 refine Cw_ret ?_
 obtain ⟨ey0, ey1, ey2⟩ := inj3 H
 subst y0 y1 y2
 refine ⟨(by first | exact .inl rfl | exact .inr rfl), [(.agg (Desk.cells (Desk.mk l353 l357 x190.desk.tick) v352 v356).toArray), (sv v582), (.bool false)], ⟨(.agg (Desk.cells (Desk.mk l353 l357 x190.desk.tick) v352 v356).toArray), _, rfl, ⟨_, 3, (Desk.cells (Desk.mk l353 l357 x190.desk.tick) v352 v356), rfl, rfl, rfl, rfl, ⟨rfl, Rdc.blk (.tail _ (.tail _ (.tail _ (.tail _ (.tail _ (.head _)))))) rfl⟩, rfl⟩, ⟨(sv v582), _, rfl, rfl, ⟨(.bool false), _, rfl, rfl, rfl⟩⟩⟩, ?_⟩
 refine Shift.pull (.there .here) ?_
 refine Shift.pull (.there (.there (.there .here))) ?_
 refine Shift.pull (.there (.there (.there .here))) ?_
 refine Shift.rem (.there (.there (.there .here))) ?_
 refine Shift.rem (.there (.there (.there .here))) ?_
 refine Shift.rem (.there (.there (.there .here))) ?_
 have hs587 := (hR354).mono hK585
 have hs588 := (hR358).mono hK585
 refine Shift.done ?_
 exact ⟨v352, rs355, v356, rs359, v582, rs583, rfl, rfl, hs587, hs588, hs586⟩



end Go.Hx
