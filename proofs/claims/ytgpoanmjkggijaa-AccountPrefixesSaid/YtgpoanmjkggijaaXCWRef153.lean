/- Printed by program. -/
import Derived.Test.YtgpoanmjkggijaaXCM
import Derived.Test.YtgpoanmjkggijaaXCWRef151
import Derived.Test.YtgpoanmjkggijaaXCWLaw25
import Derived.Test.YtgpoanmjkggijaaXCWAccount
namespace Go.Hx
open Go Go.Proofs
set_option linter.unusedSimpArgs false
set_option linter.unusedVariables false
set_option maxRecDepth 10000
set_option maxHeartbeats 1000000 in
theorem c_M_101z (p0 : Desk) (vp0_chans : SV) (vp0_waiting : SV) (p1 : Int) (p2 : Op) (vp2_cases : SV) (vp2_draws : SV) (y0 : Desk) (y1 : List Done) (y2 : Bool) (H : M_101z p0 p1 p2 = some (y0, y1, y2)) (K : Kp) (G : List Ent) (hp0_chans : Slr TyChan K (sv vp0_chans) p0.chans) (hp0_waiting : Slr TyWaiter K (sv vp0_waiting) p0.waiting) (hp2_cases : Slr TyCase K (sv vp2_cases) p2.cases) (hp2_draws : Slr Ty.i64 K (sv vp2_draws) p2.draws) :
  Fc Try.prog 69 #[(.agg (Desk.cells p0 vp0_chans vp0_waiting).toArray), (.int .i64 p1), (.agg (Op.cells p2 vp2_cases vp2_draws).toArray)] K (G) (fun v K' G' => ∃ (wy0_chans : SV) (wy0_waiting : SV) (wy1 : SV), v = (.tuple #[(.agg (Desk.cells y0 wy0_chans wy0_waiting).toArray), (sv wy1), (.bool y2)]) ∧ (.tok 108 6 [(sv wy1)]) :: G = G' ∧ Slr TyChan K' (sv wy0_chans) y0.chans ∧ Slr TyWaiter K' (sv wy0_waiting) y0.waiting ∧ Slr TyDone K' (sv wy1) y1) := by
 refine Fc_body Try.func69 rfl Try.ntmps69 Try.results69 rfl ?_
 unfold M_101z at H
 refine Cw_seq ?_
 refine Cw_region ?_
 refine Ow_cons rfl (OpW_box (cs := (Desk.cells p0 vp0_chans vp0_waiting)) rfl rfl rfl (fun b298 => ?_))
 refine Ow_cons rfl (OpW_box (cs := (Op.cells p2 vp2_cases vp2_draws)) rfl rfl rfl (fun b299 => ?_))
 refine Ow_cons rfl (OpW_alloc (cs := (Desk.cells (Desk.mk [] [] 0) nilS nilS)) rfl rfl rfl rfl (fun b300 => ?_))
 refine Ow_q rfl rfl rfl (Qt_assign rfl) ?_
 refine Ow_q rfl rfl rfl (Qt_assign rfl) ?_
 refine Ow_nil ?_
 refine Cw_seq ?_
 refine Cw_seq ?_
 refine Cw_region ?_
 refine Ow_q rfl rfl rfl (Qt_fieldAddr (m := 0) rfl rfl rfl rfl rfl) ?_
 refine Ow_q rfl rfl rfl (Qt_load1 (v := (.int .i64 p2.kind)) rfl rfl rfl (Rdc.blk (.tail _ (.head _)) rfl)) ?_
 refine Ow_nil ?_
 refine Cw_block ?_
 refine Cw_seq ?_
 refine Cw_region ?_
 refine Ow_q rfl rfl rfl (Qt_cmp rfl rfl rfl) ?_
 refine Ow_q rfl rfl rfl (Qt_assign rfl) ?_
 refine Ow_nil ?_
 refine Cw_cond rfl ?_ ?_
 ·intro h338
  have h338 := dcd_t (h338)
  have H := ift h338 H
  refine Cw_seq ?_
  refine Cw_region ?_
  refine Ow_q rfl rfl rfl (Qt_loadA (m := 3) (cs := (Desk.cells p0 vp0_chans vp0_waiting)) rfl rfl rfl rfl ⟨rfl, Rdc.blk (.tail _ (.tail _ (.head _))) rfl⟩) ?_
  refine Ow_q rfl rfl rfl (Qt_move rfl) ?_
  refine Ow_q rfl rfl rfl (Qt_loadA (m := 7) (cs := (Op.cells p2 vp2_cases vp2_draws)) rfl rfl rfl rfl ⟨rfl, Rdc.blk (.tail _ (.head _)) rfl⟩) ?_
  obtain ⟨x339, x340, hx341, H⟩ := bnd2 H
  refine Ow_cons rfl (OpW_call rfl Try.call101 rfl rfl (c_M_88z p0 vp0_chans vp0_waiting p1 p2 vp2_cases vp2_draws x339 x340 hx341 _ _ hp0_chans hp0_waiting hp2_cases hp2_draws) ?_)
  rintro _ K345 _ hK346 ⟨v342, v343, v344, rfl, rfl, hs347, hs348, hs349⟩
  refine Ow_q rfl rfl rfl (Qt_move rfl) ?_
  refine Ow_q rfl rfl rfl (Qt_extract rfl rfl) ?_
  refine Ow_q rfl rfl rfl (Qt_extract rfl rfl) ?_
  refine Ow_cons rfl (OpW_alloc (cs := (Desk.cells (Desk.mk [] [] 0) nilS nilS)) rfl rfl rfl rfl (fun b350 => ?_))
  refine Ow_cons rfl (OpW_store (vs := (Desk.cells x339 v342 v343)) (all' := (Desk.cells x339 v342 v343)) rfl rfl rfl rfl rfl .here rfl rfl rfl ?_)
  refine Ow_q rfl rfl rfl (Qt_assign rfl) ?_
  refine Ow_nil ?_
  refine Cw_seq ?_
  refine Cw_region ?_
  refine Ow_q rfl rfl rfl (Qt_loadA (m := 3) (cs := (Desk.cells x339 v342 v343)) rfl rfl rfl rfl ⟨rfl, Rdc.blk (.head _) rfl⟩) ?_
  refine Ow_q rfl rfl rfl (Qt_move rfl) ?_
  refine Ow_cons rfl (OpW_store (vs := (Desk.cells x339 v342 v343)) (all' := (Desk.cells x339 v342 v343)) rfl rfl rfl rfl rfl (.there (.there .here)) rfl rfl rfl ?_)
  refine Ow_q rfl rfl rfl (Qt_assign rfl) ?_
  refine Ow_q rfl rfl rfl (Qt_assign rfl) ?_
  refine Ow_nil ?_
  refine Cw_ret ?_
  obtain ⟨ey0, ey1, ey2⟩ := inj3 H
  subst y0 y1 y2
  refine ⟨(by first | exact .inl rfl | exact .inr rfl), [(.agg (Desk.cells x339 v342 v343).toArray), (sv v344), (.bool false)], ⟨(.agg (Desk.cells x339 v342 v343).toArray), _, rfl, ⟨_, 3, (Desk.cells x339 v342 v343), rfl, rfl, rfl, rfl, ⟨rfl, Rdc.blk (.tail _ (.tail _ (.head _))) rfl⟩, rfl⟩, ⟨(sv v344), _, rfl, rfl, ⟨(.bool false), _, rfl, rfl, rfl⟩⟩⟩, ?_⟩
  refine Shift.pull (.there .here) ?_
  refine Shift.rem (.there .here) ?_
  refine Shift.rem (.there .here) ?_
  refine Shift.rem (.there .here) ?_
  refine Shift.rem (.there .here) ?_
  refine Shift.done ?_
  exact ⟨v342, v343, v344, rfl, rfl, hs347, hs348, hs349⟩
 ·intro h338
  have h338 := dcd_f (h338)
  have H := iff_ h338 H
  refine Cw_join (fun env' K' G' => ∃ (t352 : Bool), [(1, (.int .i64 p1)), (3, (.pointer (some ((⟨b298, 0, none⟩ : Addr).add 0)))), (5, (.pointer (some ((⟨b299, 0, none⟩ : Addr).add 0)))), (6, (.pointer (some ((⟨b300, 0, none⟩ : Addr).add 0)))), (28, (.bool t352))] = env' ∧ K = K' ∧ (.blk b300 102 (Desk.cells (Desk.mk [] [] 0) nilS nilS)) :: (.blk b299 38 (Op.cells p2 vp2_cases vp2_draws)) :: (.blk b298 102 (Desk.cells p0 vp0_chans vp0_waiting)) :: G = G' ∧ M_34z p1 p2 p0 t352 = some (y0, y1, y2)) ?_ ?_
  ·skip
   refine Cw_seq ?_
   refine Cw_region ?_
   refine Ow_q rfl rfl rfl (Qt_cmp rfl rfl rfl) ?_
   refine Ow_q rfl rfl rfl (Qt_assign rfl) ?_
   refine Ow_nil ?_
   refine Cw_cond rfl ?_ ?_
   ·intro h353
    have h353 := dcd_t (h353)
    have H := ift h353 H
    refine Cw_skip ?_
    refine Shift.pull (.there (.there .here)) ?_
    refine Shift.pull (.there (.there .here)) ?_
    refine Shift.pull (.there (.there .here)) ?_
    refine Shift.done ?_
    exact ⟨[(1, (.int .i64 p1)), (3, (.pointer (some ((⟨b298, 0, none⟩ : Addr).add 0)))), (5, (.pointer (some ((⟨b299, 0, none⟩ : Addr).add 0)))), (6, (.pointer (some ((⟨b300, 0, none⟩ : Addr).add 0)))), (28, (.bool (dcd (p2.kind = 5))))], ⟨rfl, rfl, rfl, rfl, rfl, trivial⟩, (dcd (p2.kind = 5)), rfl, rfl, rfl, H⟩
   ·intro h353
    have h353 := dcd_f (h353)
    have H := iff_ h353 H
    refine Cw_region ?_
    refine Ow_q rfl rfl rfl (Qt_cmp rfl rfl rfl) ?_
    refine Ow_q rfl rfl rfl (Qt_assign rfl) ?_
    refine Ow_nil ?_
    refine Shift.pull (.there (.there .here)) ?_
    refine Shift.pull (.there (.there .here)) ?_
    refine Shift.pull (.there (.there .here)) ?_
    refine Shift.done ?_
    exact ⟨[(1, (.int .i64 p1)), (3, (.pointer (some ((⟨b298, 0, none⟩ : Addr).add 0)))), (5, (.pointer (some ((⟨b299, 0, none⟩ : Addr).add 0)))), (6, (.pointer (some ((⟨b300, 0, none⟩ : Addr).add 0)))), (28, (.bool (dcd (p2.kind = 6))))], ⟨rfl, rfl, rfl, rfl, rfl, trivial⟩, (dcd (p2.kind = 6)), rfl, rfl, rfl, H⟩
  rintro _ _ _ - ⟨t352, rfl, rfl, rfl, H⟩
  unfold M_34z at H
  refine Cw_cond rfl ?_ ?_
  ·intro h354
   have H := ift h354 H
   refine Cw_seq ?_
   refine Cw_region ?_
   refine Ow_q rfl rfl rfl (Qt_assign rfl) ?_
   refine Ow_nil ?_
   refine Cw_join (fun env' K' G' => ∃ (i373 : Int), [(1, (.int .i64 p1)), (3, (.pointer (some ((⟨b298, 0, none⟩ : Addr).add 0)))), (6, (.pointer (some ((⟨b300, 0, none⟩ : Addr).add 0)))), (11, (.int .i64 i373))] = env' ∧ K = K' ∧ (.blk b300 102 (Desk.cells (Desk.mk [] [] 0) nilS nilS)) :: (.blk b298 102 (Desk.cells p0 vp0_chans vp0_waiting)) :: G = G' ∧ M_58z p1 p0 i373 = some (y0, y1, y2)) ?_ ?_
   ·skip
    refine Cw_join (fun env' K' G' => ∃ (t375 : Bool), [(1, (.int .i64 p1)), (3, (.pointer (some ((⟨b298, 0, none⟩ : Addr).add 0)))), (5, (.pointer (some ((⟨b299, 0, none⟩ : Addr).add 0)))), (6, (.pointer (some ((⟨b300, 0, none⟩ : Addr).add 0)))), (11, (.int .i64 0)), (41, (.bool t375))] = env' ∧ K = K' ∧ (.blk b300 102 (Desk.cells (Desk.mk [] [] 0) nilS nilS)) :: (.blk b299 38 (Op.cells p2 vp2_cases vp2_draws)) :: (.blk b298 102 (Desk.cells p0 vp0_chans vp0_waiting)) :: G = G' ∧ M_100z p1 p2 p0 t375 = some (y0, y1, y2)) ?_ ?_
    ·skip
     refine Cw_region ?_
     refine Ow_q rfl rfl rfl (Qt_fieldAddr (m := 2) rfl rfl rfl rfl rfl) ?_
     refine Ow_q rfl rfl rfl (Qt_load1 (v := (.int .i64 p2.channel)) rfl rfl rfl (Rdc.blk (.tail _ (.head _)) rfl)) ?_
     refine Ow_q rfl rfl rfl (Qt_cmp rfl rfl rfl) ?_
     refine Ow_q rfl rfl rfl (Qt_move rfl) ?_
     refine Ow_caseG rfl rfl rfl ?_ ?_
     ·intro h376
      have h376 := dcd_t (h376)
      have H := ift h376 H
      refine Ow_qw rfl rfl rfl rfl rfl rfl (Qt_fieldAddr (m := 2) rfl rfl rfl rfl rfl) ?_
      refine Ow_qw rfl rfl rfl rfl rfl rfl (Qt_load1 (v := (.int .i64 p2.channel)) rfl rfl rfl (Rdc.blk (.tail _ (.head _)) rfl)) ?_
      refine Ow_qw rfl rfl rfl rfl rfl rfl (Qt_fieldAddr (m := 0) rfl rfl rfl rfl rfl) ?_
      refine Ow_qw rfl rfl rfl rfl rfl rfl (Qt_load1 (v := (sv vp0_chans)) rfl rfl rfl (Rdc.blk (.tail _ (.tail _ (.head _))) rfl)) ?_
      refine Ow_qw rfl rfl rfl rfl rfl rfl (Q_len (T := TyChan) hp0_chans rfl rfl) ?_
      refine Ow_qw rfl rfl rfl rfl rfl rfl (Qt_cmp rfl rfl rfl) ?_
      refine Ow_q rfl rfl rfl (Qt_pick_t rfl rfl) ?_
      refine Ow_nil ?_
      refine Shift.pull (.there (.there .here)) ?_
      refine Shift.pull (.there (.there .here)) ?_
      refine Shift.pull (.there (.there .here)) ?_
      refine Shift.done ?_
      exact ⟨[(1, (.int .i64 p1)), (3, (.pointer (some ((⟨b298, 0, none⟩ : Addr).add 0)))), (5, (.pointer (some ((⟨b299, 0, none⟩ : Addr).add 0)))), (6, (.pointer (some ((⟨b300, 0, none⟩ : Addr).add 0)))), (11, (.int .i64 0)), (41, (.bool (dcd (p2.channel < (p0.chans.length : Int)))))], ⟨rfl, rfl, rfl, rfl, rfl, rfl, trivial⟩, (dcd (p2.channel < (p0.chans.length : Int))), rfl, rfl, rfl, H⟩
     ·intro h376
      have h376 := dcd_f (h376)
      have H := iff_ h376 H
      refine Ow_pass rfl rfl rfl rfl rfl rfl rfl ?_
      refine Ow_pass rfl rfl rfl rfl rfl rfl rfl ?_
      refine Ow_pass rfl rfl rfl rfl rfl rfl rfl ?_
      refine Ow_pass rfl rfl rfl rfl rfl rfl rfl ?_
      refine Ow_pass rfl rfl rfl rfl rfl rfl rfl ?_
      refine Ow_pass rfl rfl rfl rfl rfl rfl rfl ?_
      refine Ow_q rfl rfl rfl (Qt_pick_f rfl rfl) ?_
      refine Ow_nil ?_
      refine Shift.pull (.there (.there .here)) ?_
      refine Shift.pull (.there (.there .here)) ?_
      refine Shift.pull (.there (.there .here)) ?_
      refine Shift.done ?_
      exact ⟨[(1, (.int .i64 p1)), (3, (.pointer (some ((⟨b298, 0, none⟩ : Addr).add 0)))), (5, (.pointer (some ((⟨b299, 0, none⟩ : Addr).add 0)))), (6, (.pointer (some ((⟨b300, 0, none⟩ : Addr).add 0)))), (11, (.int .i64 0)), (41, (.bool false))], ⟨rfl, rfl, rfl, rfl, rfl, rfl, trivial⟩, false, rfl, rfl, rfl, H⟩
    rintro _ _ _ - ⟨t375, rfl, rfl, rfl, H⟩
    unfold M_100z at H
    refine Cw_cond rfl ?_ ?_
    ·intro h377
     have H := ift h377 H
     refine Cw_seq ?_
     refine Cw_region ?_
     refine Ow_q rfl rfl rfl (Qt_fieldAddr (m := 0) rfl rfl rfl rfl rfl) ?_
     refine Ow_q rfl rfl rfl (Qt_load1 (v := (sv vp0_chans)) rfl rfl rfl (Rdc.blk (.tail _ (.tail _ (.head _))) rfl)) ?_
     refine Ow_q rfl rfl rfl (Qt_fieldAddr (m := 2) rfl rfl rfl rfl rfl) ?_
     refine Ow_q rfl rfl rfl (Qt_load1 (v := (.int .i64 p2.channel)) rfl rfl rfl (Rdc.blk (.tail _ (.head _)) rfl)) ?_
     obtain ⟨x378, hx379, H⟩ := bnd H
     obtain ⟨r380, hr381, hk382⟩ := Slr.at hp0_chans hx379
     obtain ⟨v383, rfl, hs384⟩ := hr381
     refine Ow_q rfl rfl rfl (Q_ix (T := TyChan) hp0_chans hx379 rfl rfl rfl rfl rfl) ?_
     refine Ow_q rfl rfl rfl (Qt_fieldAddr (m := 1) rfl rfl rfl rfl rfl) ?_
     refine Ow_q rfl rfl rfl (Qt_load1 (v := (sv v383)) rfl rfl rfl (Rdc.k hk382 rfl)) ?_
     refine Ow_q rfl rfl rfl (Q_len (T := Ty.u64) hs384 rfl rfl) ?_
     refine Ow_q rfl rfl rfl (Qt_assign rfl) ?_
     refine Ow_nil ?_
     refine Cw_seq ?_
     refine Cw_region ?_
     refine Ow_q rfl rfl rfl (Qt_fieldAddr (m := 0) rfl rfl rfl rfl rfl) ?_
     refine Ow_q rfl rfl rfl (Qt_load1 (v := (.int .i64 p2.kind)) rfl rfl rfl (Rdc.blk (.tail _ (.head _)) rfl)) ?_
     refine Ow_q rfl rfl rfl (Qt_cmp rfl rfl rfl) ?_
     refine Ow_nil ?_
     refine Cw_cond rfl ?_ ?_
     ·intro h385
      have h385 := dcd_t (h385)
      have H := ift h385 H
      refine Cw_region ?_
      refine Ow_q rfl rfl rfl (Qt_fieldAddr (m := 0) rfl rfl rfl rfl rfl) ?_
      refine Ow_q rfl rfl rfl (Qt_load1 (v := (sv vp0_chans)) rfl rfl rfl (Rdc.blk (.tail _ (.tail _ (.head _))) rfl)) ?_
      refine Ow_q rfl rfl rfl (Qt_fieldAddr (m := 2) rfl rfl rfl rfl rfl) ?_
      refine Ow_q rfl rfl rfl (Qt_load1 (v := (.int .i64 p2.channel)) rfl rfl rfl (Rdc.blk (.tail _ (.head _)) rfl)) ?_
      obtain ⟨x386, hx387, H⟩ := bnd H
      obtain ⟨r388, hr389, hk390⟩ := Slr.at hp0_chans hx387
      obtain ⟨v391, rfl, hs392⟩ := hr389
      refine Ow_q rfl rfl rfl (Q_ix (T := TyChan) hp0_chans hx387 rfl rfl rfl rfl rfl) ?_
      refine Ow_q rfl rfl rfl (Qt_fieldAddr (m := 0) rfl rfl rfl rfl rfl) ?_
      refine Ow_q rfl rfl rfl (Qt_load1 (v := (.int .i64 x386.capacity)) rfl rfl rfl (Rdc.k hk390 rfl)) ?_
      refine Ow_q rfl rfl rfl (Qt_assign rfl) ?_
      refine Ow_nil ?_
      refine Shift.pull (.there (.there .here)) ?_
      refine Shift.pull (.there .here) ?_
      refine Shift.rem (.there (.there .here)) ?_
      refine Shift.done ?_
      exact ⟨[(1, (.int .i64 p1)), (3, (.pointer (some ((⟨b298, 0, none⟩ : Addr).add 0)))), (6, (.pointer (some ((⟨b300, 0, none⟩ : Addr).add 0)))), (11, (.int .i64 x386.capacity))], ⟨rfl, rfl, rfl, rfl, trivial⟩, x386.capacity, rfl, rfl, rfl, H⟩
     ·intro h385
      have h385 := dcd_f (h385)
      have H := iff_ h385 H
      refine Cw_skip ?_
      refine Shift.pull (.there (.there .here)) ?_
      refine Shift.pull (.there .here) ?_
      refine Shift.rem (.there (.there .here)) ?_
      refine Shift.done ?_
      exact ⟨[(1, (.int .i64 p1)), (3, (.pointer (some ((⟨b298, 0, none⟩ : Addr).add 0)))), (6, (.pointer (some ((⟨b300, 0, none⟩ : Addr).add 0)))), (11, (.int .i64 (x378.buffer.length : Int)))], ⟨rfl, rfl, rfl, rfl, trivial⟩, (x378.buffer.length : Int), rfl, rfl, rfl, H⟩
    ·intro h377
     have H := iff_ (btf h377) H
     refine Cw_skip ?_
     refine Shift.pull (.there (.there .here)) ?_
     refine Shift.pull (.there .here) ?_
     refine Shift.rem (.there (.there .here)) ?_
     refine Shift.done ?_
     exact ⟨[(1, (.int .i64 p1)), (3, (.pointer (some ((⟨b298, 0, none⟩ : Addr).add 0)))), (6, (.pointer (some ((⟨b300, 0, none⟩ : Addr).add 0)))), (11, (.int .i64 0))], ⟨rfl, rfl, rfl, rfl, trivial⟩, 0, rfl, rfl, rfl, H⟩
   rintro _ _ _ - ⟨i373, rfl, rfl, rfl, H⟩
   unfold M_58z at H
   refine Cw_seq ?_
   refine Cw_region ?_
   refine Ow_q rfl rfl rfl (Qt_loadA (m := 3) (cs := (Desk.cells p0 vp0_chans vp0_waiting)) rfl rfl rfl rfl ⟨rfl, Rdc.blk (.tail _ (.head _)) rfl⟩) ?_
   refine Ow_q rfl rfl rfl (Qt_move rfl) ?_
   refine Ow_q rfl rfl rfl (Qt_move rfl) ?_
   refine Ow_q rfl rfl rfl (Qt_build (cs := (Result.cells (Result.mk 7 (-1) 0 false i373))) rfl rfl rfl rfl rfl rfl) ?_
   refine Ow_q rfl rfl rfl (Qt_build (cs := (Done.cells (Done.mk p1 (Result.mk 7 (-1) 0 false i373)))) rfl rfl rfl rfl rfl rfl) ?_
   have hR394 : RowR TyDone K [(Done.cells (Done.mk p1 (Result.mk 7 (-1) 0 false i373)))] [(Done.mk p1 (Result.mk 7 (-1) 0 false i373))] := RowR.cons rfl (RowR.nil)
   refine Ow_cons rfl (O_lit (T := TyDone) (rows := [(Done.cells (Done.mk p1 (Result.mk 7 (-1) 0 false i373)))]) (l := [(Done.mk p1 (Result.mk 7 (-1) 0 false i373))]) rfl rfl rfl hR394 rfl rfl rfl rfl rfl rfl rfl rfl (fun v393 => ?_))
   refine Ow_cons rfl (OpW_store (vs := (Desk.cells p0 vp0_chans vp0_waiting)) (all' := (Desk.cells p0 vp0_chans vp0_waiting)) rfl rfl rfl rfl rfl (.there .here) rfl rfl rfl ?_)
   refine Ow_q rfl rfl rfl (Qt_assign rfl) ?_
   refine Ow_q rfl rfl rfl (Qt_assign rfl) ?_
   refine Ow_nil ?_
   refine Cw_ret ?_
   obtain ⟨ey0, ey1, ey2⟩ := inj3 H
   subst y0 y1 y2
   refine ⟨(by first | exact .inl rfl | exact .inr rfl), [(.agg (Desk.cells p0 vp0_chans vp0_waiting).toArray), (sv v393), (.bool false)], ⟨(.agg (Desk.cells p0 vp0_chans vp0_waiting).toArray), _, rfl, ⟨_, 3, (Desk.cells p0 vp0_chans vp0_waiting), rfl, rfl, rfl, rfl, ⟨rfl, Rdc.blk (.tail _ (.head _)) rfl⟩, rfl⟩, ⟨(sv v393), _, rfl, rfl, ⟨(.bool false), _, rfl, rfl, rfl⟩⟩⟩, ?_⟩
   refine Shift.settle (T := TyDone) .here hR394 rfl ?_
   intro K395 hK396 hs397
   refine Shift.rem (.there .here) ?_
   refine Shift.rem (.there .here) ?_
   have hs398 := (hp0_chans).mono hK396
   have hs399 := (hp0_waiting).mono hK396
   refine Shift.done ?_
   exact ⟨vp0_chans, vp0_waiting, v393, rfl, rfl, hs398, hs399, hs397⟩
  ·intro h354
   have H := iff_ (btf h354) H
   refine Cw_skip ?_
   refine Cw_seq ?_
   refine Cw_region ?_
   refine Ow_q rfl rfl rfl (Qt_assign rfl) ?_
   refine Ow_nil ?_
   refine Cw_join (fun env' K' G' => ∃ (i434 : Int), [(1, (.int .i64 p1)), (3, (.pointer (some ((⟨b298, 0, none⟩ : Addr).add 0)))), (5, (.pointer (some ((⟨b299, 0, none⟩ : Addr).add 0)))), (6, (.pointer (some ((⟨b300, 0, none⟩ : Addr).add 0)))), (12, (.int .i64 i434))] = env' ∧ (.blk b300 102 (Desk.cells (Desk.mk [] [] 0) nilS nilS)) :: (.blk b299 38 (Op.cells p2 vp2_cases vp2_draws)) :: (.blk b298 102 (Desk.cells p0 vp0_chans vp0_waiting)) :: G = G' ∧ M_33z p1 p2 p0 i434 = some (y0, y1, y2)) ?_ ?_
   ·skip
    refine Cw_seq ?_
    refine Cw_region ?_
    refine Ow_q rfl rfl rfl (Qt_fieldAddr (m := 0) rfl rfl rfl rfl rfl) ?_
    refine Ow_q rfl rfl rfl (Qt_load1 (v := (.int .i64 p2.kind)) rfl rfl rfl (Rdc.blk (.tail _ (.head _)) rfl)) ?_
    refine Ow_q rfl rfl rfl (Qt_cmp rfl rfl rfl) ?_
    refine Ow_nil ?_
    refine Cw_cond rfl ?_ ?_
    ·intro h435
     have h435 := dcd_t (h435)
     have H := ift h435 H
     refine Cw_region ?_
     refine Ow_q rfl rfl rfl (Qt_loadA (m := 3) (cs := (Desk.cells p0 vp0_chans vp0_waiting)) rfl rfl rfl rfl ⟨rfl, Rdc.blk (.tail _ (.tail _ (.head _))) rfl⟩) ?_
     refine Ow_q rfl rfl rfl (Qt_move rfl) ?_
     refine Ow_q rfl rfl rfl (Qt_loadA (m := 7) (cs := (Op.cells p2 vp2_cases vp2_draws)) rfl rfl rfl rfl ⟨rfl, Rdc.blk (.tail _ (.head _)) rfl⟩) ?_
     obtain ⟨x436, hx437, H⟩ := bnd H
     refine Ow_cons rfl (OpW_call rfl Try.call102 rfl rfl (c_M_98z p0 vp0_chans vp0_waiting p1 p2 vp2_cases vp2_draws x436 hx437 _ _ hp0_chans hp0_waiting hp2_cases hp2_draws) ?_)
     rintro _ K438 _ hK439 ⟨rfl, rfl⟩
     refine Ow_q rfl rfl rfl (Qt_assign rfl) ?_
     refine Ow_nil ?_
     refine Shift.pull (.there (.there .here)) ?_
     refine Shift.pull (.there (.there .here)) ?_
     refine Shift.pull (.there (.there .here)) ?_
     refine Shift.done ?_
     exact ⟨[(1, (.int .i64 p1)), (3, (.pointer (some ((⟨b298, 0, none⟩ : Addr).add 0)))), (5, (.pointer (some ((⟨b299, 0, none⟩ : Addr).add 0)))), (6, (.pointer (some ((⟨b300, 0, none⟩ : Addr).add 0)))), (12, (.int .i64 x436))], ⟨rfl, rfl, rfl, rfl, rfl, trivial⟩, x436, rfl, rfl, H⟩
    ·intro h435
     have h435 := dcd_f (h435)
     have H := iff_ h435 H
     refine Cw_seq ?_
     obtain ⟨x468, hx469, H⟩ := bnd H
     obtain ⟨x474, hx475, H⟩ := bnd H
     obtain ⟨x479, hx480, H⟩ := bnd H
     refine Cw_region_any [.blk b300 102 (Desk.cells (Desk.mk [] [] 0) nilS nilS), .blk b299 38 (Op.cells p2 vp2_cases vp2_draws), .blk b298 102 (Desk.cells p0 vp0_chans vp0_waiting)] rfl (Inc.cons (.head _) (Inc.cons (.tail _ (.head _)) (Inc.cons (.tail _ (.tail _ (.head _))) Inc.nil))) ?_
     refine Aw_q 0 rfl (by kernel_rfl) (by kernel_rfl) (by kernel_rfl) rfl rfl rfl (Qt_loadA (m := 3) (cs := (Desk.cells p0 vp0_chans vp0_waiting)) rfl rfl rfl rfl ⟨rfl, Rdc.blk (.tail _ (.tail _ (.head _))) rfl⟩) ?_
     refine Aw_q 1 rfl (by kernel_rfl) (by kernel_rfl) (by kernel_rfl) rfl rfl rfl (Qt_move rfl) ?_
     refine Aw_q 2 rfl (by kernel_rfl) (by kernel_rfl) (by kernel_rfl) rfl rfl rfl (Qt_loadA (m := 7) (cs := (Op.cells p2 vp2_cases vp2_draws)) rfl rfl rfl rfl ⟨rfl, Rdc.blk (.tail _ (.head _)) rfl⟩) ?_
     refine Aw_one 3 (by kernel_rfl) (Ax_mk rfl rfl ?_)
     refine OpW_call rfl Try.call63 rfl rfl (c_M_17z p2 vp2_cases vp2_draws x468 hx469 _ _ hp2_cases hp2_draws) ?_
     rintro _ K486 _ hK487 ⟨v485, rfl, rfl, hs488⟩
     refine ⟨(Inc.cons (.head _) (Inc.cons (.tail _ (.head _)) (Inc.cons (.tail _ (.tail _ (.head _))) Inc.nil))), ?_⟩
     obtain ⟨r489, hr490, hk491⟩ := Slr.at hs488 hx475
     obtain rfl := hr490
     refine Aw_one 4 (by kernel_rfl) (Ax_mk rfl rfl (OpW_of_Qt rfl rfl (Q_ix (T := TyCase) hs488 hx475 rfl rfl rfl rfl rfl) ⟨(Inc.cons (.head _) (Inc.cons (.tail _ (.head _)) (Inc.cons (.tail _ (.tail _ (.head _))) Inc.nil))), ?_⟩))
     refine Aw_one 5 (by kernel_rfl) (Ax_mk rfl rfl (OpW_of_Qt rfl rfl (Qt_loadA (m := 3) (cs := (Case.cells x474)) rfl rfl rfl rfl ⟨rfl, Rdc.k hk491 rfl⟩) ⟨(Inc.cons (.head _) (Inc.cons (.tail _ (.head _)) (Inc.cons (.tail _ (.tail _ (.head _))) Inc.nil))), ?_⟩))
     refine Aw_one 6 (by kernel_rfl) (Ax_mk rfl rfl ?_)
     have hs492 := (hp0_chans).mono hK487
     have hs493 := (hp0_waiting).mono hK487
     refine OpW_call rfl Try.call103 rfl rfl (c_M_56z p0 vp0_chans vp0_waiting p1 x474 x479 hx480 _ _ hs492 hs493) ?_
     rintro _ K494 _ hK495 ⟨rfl, rfl⟩
     refine ⟨(Inc.cons (.head _) (Inc.cons (.tail _ (.head _)) (Inc.cons (.tail _ (.tail _ (.head _))) Inc.nil))), ?_⟩
     refine Aw_done (by kernel_rfl) ?_
     refine Cw_cond rfl ?_ ?_
     ·intro h496
      have H := ift h496 H
      refine Cw_region ?_
      refine Ow_q rfl rfl rfl (Qt_assign rfl) ?_
      refine Ow_nil ?_
      refine Shift.pull (.there (.there .here)) ?_
      refine Shift.pull (.there (.there .here)) ?_
      refine Shift.pull (.there (.there .here)) ?_
      refine Shift.done ?_
      exact ⟨[(1, (.int .i64 p1)), (3, (.pointer (some ((⟨b298, 0, none⟩ : Addr).add 0)))), (5, (.pointer (some ((⟨b299, 0, none⟩ : Addr).add 0)))), (6, (.pointer (some ((⟨b300, 0, none⟩ : Addr).add 0)))), (12, (.int .i64 0))], ⟨rfl, rfl, rfl, rfl, rfl, trivial⟩, 0, rfl, rfl, H⟩
     ·intro h496
      have H := iff_ (btf h496) H
      refine Cw_skip ?_
      refine Shift.pull (.there (.there .here)) ?_
      refine Shift.pull (.there (.there .here)) ?_
      refine Shift.pull (.there (.there .here)) ?_
      refine Shift.done ?_
      exact ⟨[(1, (.int .i64 p1)), (3, (.pointer (some ((⟨b298, 0, none⟩ : Addr).add 0)))), (5, (.pointer (some ((⟨b299, 0, none⟩ : Addr).add 0)))), (6, (.pointer (some ((⟨b300, 0, none⟩ : Addr).add 0)))), (12, (.int .i64 (-1)))], ⟨rfl, rfl, rfl, rfl, rfl, trivial⟩, (-1), rfl, rfl, H⟩
   rintro _ K497 _ hK498 ⟨i434, rfl, rfl, H⟩
   unfold M_33z at H
   refine Cw_seq ?_
   refine Cw_seq ?_
   refine Cw_region ?_
   refine Ow_q rfl rfl rfl (Qt_move rfl) ?_
   refine Ow_q rfl rfl rfl (Qt_cmp rfl rfl rfl) ?_
   refine Ow_nil ?_
   refine Cw_cond rfl ?_ ?_
   ·intro h628
    have h628 := dcd_t (h628)
    have H := ift h628 H
    refine Cw_join (fun env' K' G' => ∃ (b744 : Nat) (v745 : SV) (l746 : List Done) (v748 : SV) (l749 : List Chan) (v751 : SV) (l752 : List Waiter) (i754 : Int), [(6, (.pointer (some ((⟨b300, 0, none⟩ : Addr).add 0)))), (13, (.pointer (some ((⟨b744, 0, none⟩ : Addr).add 0)))), (14, (sv v745))] = env' ∧ (.blk b744 102 (Desk.cells (Desk.mk l749 l752 i754) v748 v751)) :: (.blk b300 102 (Desk.cells (Desk.mk [] [] 0) nilS nilS)) :: (.tok 108 6 [(sv v745)]) :: G = G' ∧ M_149z l746 l749 l752 i754 = some (y0, y1, y2) ∧ Slr TyDone K' (sv v745) l746 ∧ Slr TyChan K' (sv v748) l749 ∧ Slr TyWaiter K' (sv v751) l752) ?_ ?_
    ·skip
     obtain ⟨x755, hx756, H⟩ := bnd H
     obtain ⟨x763, hx764, H⟩ := bnd H
     obtain ⟨x768, x769, hx770, H⟩ := bnd2 H
     refine Cw_region_any [.blk b300 102 (Desk.cells (Desk.mk [] [] 0) nilS nilS), .blk b299 38 (Op.cells p2 vp2_cases vp2_draws), .blk b298 102 (Desk.cells p0 vp0_chans vp0_waiting)] rfl (Inc.cons (.head _) (Inc.cons (.tail _ (.head _)) (Inc.cons (.tail _ (.tail _ (.head _))) Inc.nil))) ?_
     refine Aw_q 0 rfl (by kernel_rfl) (by kernel_rfl) (by kernel_rfl) rfl rfl rfl (Qt_loadA (m := 3) (cs := (Desk.cells p0 vp0_chans vp0_waiting)) rfl rfl rfl rfl ⟨rfl, Rdc.blk (.tail _ (.tail _ (.head _))) rfl⟩) ?_
     refine Aw_q 1 rfl (by kernel_rfl) (by kernel_rfl) (by kernel_rfl) rfl rfl rfl (Qt_move rfl) ?_
     refine Aw_q 2 rfl (by kernel_rfl) (by kernel_rfl) (by kernel_rfl) rfl rfl rfl (Qt_loadA (m := 7) (cs := (Op.cells p2 vp2_cases vp2_draws)) rfl rfl rfl rfl ⟨rfl, Rdc.blk (.tail _ (.head _)) rfl⟩) ?_
     refine Aw_q 3 rfl (by kernel_rfl) (by kernel_rfl) (by kernel_rfl) rfl rfl rfl (Qt_move rfl) ?_
     refine Aw_q 4 rfl (by kernel_rfl) (by kernel_rfl) (by kernel_rfl) rfl rfl rfl (Qt_loadA (m := 7) (cs := (Op.cells p2 vp2_cases vp2_draws)) rfl rfl rfl rfl ⟨rfl, Rdc.blk (.tail _ (.head _)) rfl⟩) ?_
     refine Aw_q 6 rfl (by kernel_rfl) (by kernel_rfl) (by kernel_rfl) rfl rfl rfl (Qt_move rfl) ?_
     refine Aw_two 5 13 (by kernel_rfl) ?_ ?_
     ·skip
      refine id (Ax_mk rfl rfl ?_)
      have hs784 := (hp2_cases).mono hK498
      have hs785 := (hp2_draws).mono hK498
      refine OpW_call rfl Try.call63 rfl rfl (c_M_17z p2 vp2_cases vp2_draws x755 hx756 _ _ hs784 hs785) ?_
      rintro _ K787 _ hK788 ⟨v786, rfl, rfl, hs789⟩
      refine ⟨(Inc.cons (.head _) (Inc.cons (.tail _ (.head _)) (Inc.cons (.tail _ (.tail _ (.head _))) Inc.nil))), ?_⟩
      refine Aw_two 7 13 (by kernel_rfl) ?_ ?_
      ·skip
       obtain ⟨r790, hr791, hk792⟩ := Slr.at hs789 hx764
       obtain rfl := hr791
       refine id (Ax_mk rfl rfl (OpW_of_Qt rfl rfl (Q_ix (T := TyCase) hs789 hx764 rfl rfl rfl rfl rfl) ⟨(Inc.cons (.head _) (Inc.cons (.tail _ (.head _)) (Inc.cons (.tail _ (.tail _ (.head _))) Inc.nil))), ?_⟩))
       refine Aw_two 8 13 (by kernel_rfl) ?_ ?_
       ·skip
        refine id (Ax_mk rfl rfl (OpW_of_Qt rfl rfl (Qt_loadA (m := 3) (cs := (Case.cells x763)) rfl rfl rfl rfl ⟨rfl, Rdc.k hk792 rfl⟩) ⟨(Inc.cons (.head _) (Inc.cons (.tail _ (.head _)) (Inc.cons (.tail _ (.tail _ (.head _))) Inc.nil))), ?_⟩))
        refine Aw_two 9 13 (by kernel_rfl) ?_ ?_
        ·skip
         refine id (Ax_mk rfl rfl ?_)
         have hs793 := ((hp0_chans).mono hK498).mono hK788
         have hs794 := ((hp0_waiting).mono hK498).mono hK788
         have hs795 := (hs784).mono hK788
         have hs796 := (hs785).mono hK788
         refine OpW_call rfl Try.call104 rfl rfl (c_M_99z p0 vp0_chans vp0_waiting p1 p2 vp2_cases vp2_draws i434 x763 x768 x769 hx770 _ _ hs793 hs794 hs795 hs796) ?_
         rintro _ K800 _ hK801 ⟨v797, v798, v799, rfl, rfl, hs802, hs803, hs804⟩
         refine ⟨(Inc.cons (.tail _ (.head _)) (Inc.cons (.tail _ (.tail _ (.head _))) (Inc.cons (.tail _ (.tail _ (.tail _ (.head _)))) Inc.nil))), ?_⟩
         refine Aw_q 10 rfl (by kernel_rfl) (by kernel_rfl) (by kernel_rfl) rfl rfl rfl (Qt_move rfl) ?_
         refine Aw_q 11 rfl (by kernel_rfl) (by kernel_rfl) (by kernel_rfl) rfl rfl rfl (Qt_extract rfl rfl) ?_
         refine Aw_q 12 rfl (by kernel_rfl) (by kernel_rfl) (by kernel_rfl) rfl rfl rfl (Qt_extract rfl rfl) ?_
         refine Aw_one 13 (by kernel_rfl) (Ax_mk rfl rfl ?_)
         refine OpW_alloc (cs := (Desk.cells (Desk.mk [] [] 0) nilS nilS)) rfl rfl rfl rfl (fun b805 => ⟨(Inc.cons (.tail _ (.tail _ (.head _))) (Inc.cons (.tail _ (.tail _ (.tail _ (.head _)))) (Inc.cons (.tail _ (.tail _ (.tail _ (.tail _ (.head _))))) Inc.nil))), ?_⟩)
         refine Aw_one 14 (by kernel_rfl) (Ax_mk rfl rfl ?_)
         refine OpW_store (vs := (Desk.cells x768 v797 v798)) (all' := (Desk.cells x768 v797 v798)) rfl rfl rfl rfl rfl .here rfl rfl rfl ⟨(Inc.cons (.tail _ (.tail _ (.head _))) (Inc.cons (.tail _ (.tail _ (.tail _ (.head _)))) (Inc.cons (.tail _ (.tail _ (.tail _ (.tail _ (.head _))))) Inc.nil))), ?_⟩
         refine Aw_q 15 rfl (by kernel_rfl) (by kernel_rfl) (by kernel_rfl) rfl rfl rfl (Qt_assign rfl) ?_
         refine Aw_done (by kernel_rfl) ?_
         refine Shift.pull (.there .here) ?_
         refine Shift.pull (.there (.there .here)) ?_
         refine Shift.pull (.there (.there .here)) ?_
         refine Shift.rem (.there (.there (.there .here))) ?_
         refine Shift.rem (.there (.there (.there .here))) ?_
         refine Shift.done ?_
         exact ⟨[(6, (.pointer (some ((⟨b300, 0, none⟩ : Addr).add 0)))), (13, (.pointer (some ((⟨b805, 0, none⟩ : Addr).add 0)))), (14, (sv v799))], ⟨rfl, rfl, rfl, trivial⟩, b805, v799, x769, v797, x768.chans, v798, x768.waiting, x768.tick, rfl, rfl, H, hs804, hs802, hs803⟩
        ·skip
         refine id (Ax_mk rfl rfl ?_)
         refine OpW_alloc (cs := (Desk.cells (Desk.mk [] [] 0) nilS nilS)) rfl rfl rfl rfl (fun b806 => ⟨(Inc.cons (.tail _ (.head _)) (Inc.cons (.tail _ (.tail _ (.head _))) (Inc.cons (.tail _ (.tail _ (.tail _ (.head _)))) Inc.nil))), ?_⟩)
         refine Aw_one 9 (by kernel_rfl) (Ax_mk rfl rfl ?_)
         have hs807 := ((hp0_chans).mono hK498).mono hK788
         have hs808 := ((hp0_waiting).mono hK498).mono hK788
         have hs809 := (hs784).mono hK788
         have hs810 := (hs785).mono hK788
         refine OpW_call rfl Try.call104 rfl rfl (c_M_99z p0 vp0_chans vp0_waiting p1 p2 vp2_cases vp2_draws i434 x763 x768 x769 hx770 _ _ hs807 hs808 hs809 hs810) ?_
         rintro _ K814 _ hK815 ⟨v811, v812, v813, rfl, rfl, hs816, hs817, hs818⟩
         refine ⟨(Inc.cons (.tail _ (.tail _ (.head _))) (Inc.cons (.tail _ (.tail _ (.tail _ (.head _)))) (Inc.cons (.tail _ (.tail _ (.tail _ (.tail _ (.head _))))) Inc.nil))), ?_⟩
         refine Aw_q 10 rfl (by kernel_rfl) (by kernel_rfl) (by kernel_rfl) rfl rfl rfl (Qt_move rfl) ?_
         refine Aw_q 11 rfl (by kernel_rfl) (by kernel_rfl) (by kernel_rfl) rfl rfl rfl (Qt_extract rfl rfl) ?_
         refine Aw_q 12 rfl (by kernel_rfl) (by kernel_rfl) (by kernel_rfl) rfl rfl rfl (Qt_extract rfl rfl) ?_
         refine Aw_one 14 (by kernel_rfl) (Ax_mk rfl rfl ?_)
         refine OpW_store (vs := (Desk.cells x768 v811 v812)) (all' := (Desk.cells x768 v811 v812)) rfl rfl rfl rfl rfl (.there .here) rfl rfl rfl ⟨(Inc.cons (.tail _ (.tail _ (.head _))) (Inc.cons (.tail _ (.tail _ (.tail _ (.head _)))) (Inc.cons (.tail _ (.tail _ (.tail _ (.tail _ (.head _))))) Inc.nil))), ?_⟩
         refine Aw_q 15 rfl (by kernel_rfl) (by kernel_rfl) (by kernel_rfl) rfl rfl rfl (Qt_assign rfl) ?_
         refine Aw_done (by kernel_rfl) ?_
         refine Shift.pull (.there (.there .here)) ?_
         refine Shift.pull (.there (.there .here)) ?_
         refine Shift.rem (.there (.there (.there .here))) ?_
         refine Shift.rem (.there (.there (.there .here))) ?_
         refine Shift.done ?_
         exact ⟨[(6, (.pointer (some ((⟨b300, 0, none⟩ : Addr).add 0)))), (13, (.pointer (some ((⟨b806, 0, none⟩ : Addr).add 0)))), (14, (sv v813))], ⟨rfl, rfl, rfl, trivial⟩, b806, v813, x769, v811, x768.chans, v812, x768.waiting, x768.tick, rfl, rfl, H, hs818, hs816, hs817⟩
       ·skip
        refine id (Ax_mk rfl rfl ?_)
        refine OpW_alloc (cs := (Desk.cells (Desk.mk [] [] 0) nilS nilS)) rfl rfl rfl rfl (fun b819 => ⟨(Inc.cons (.tail _ (.head _)) (Inc.cons (.tail _ (.tail _ (.head _))) (Inc.cons (.tail _ (.tail _ (.tail _ (.head _)))) Inc.nil))), ?_⟩)
        refine Aw_one 8 (by kernel_rfl) (Ax_mk rfl rfl (OpW_of_Qt rfl rfl (Qt_loadA (m := 3) (cs := (Case.cells x763)) rfl rfl rfl rfl ⟨rfl, Rdc.k hk792 rfl⟩) ⟨(Inc.cons (.tail _ (.head _)) (Inc.cons (.tail _ (.tail _ (.head _))) (Inc.cons (.tail _ (.tail _ (.tail _ (.head _)))) Inc.nil))), ?_⟩))
        refine Aw_one 9 (by kernel_rfl) (Ax_mk rfl rfl ?_)
        have hs820 := ((hp0_chans).mono hK498).mono hK788
        have hs821 := ((hp0_waiting).mono hK498).mono hK788
        have hs822 := (hs784).mono hK788
        have hs823 := (hs785).mono hK788
        refine OpW_call rfl Try.call104 rfl rfl (c_M_99z p0 vp0_chans vp0_waiting p1 p2 vp2_cases vp2_draws i434 x763 x768 x769 hx770 _ _ hs820 hs821 hs822 hs823) ?_
        rintro _ K827 _ hK828 ⟨v824, v825, v826, rfl, rfl, hs829, hs830, hs831⟩
        refine ⟨(Inc.cons (.tail _ (.tail _ (.head _))) (Inc.cons (.tail _ (.tail _ (.tail _ (.head _)))) (Inc.cons (.tail _ (.tail _ (.tail _ (.tail _ (.head _))))) Inc.nil))), ?_⟩
        refine Aw_q 10 rfl (by kernel_rfl) (by kernel_rfl) (by kernel_rfl) rfl rfl rfl (Qt_move rfl) ?_
        refine Aw_q 11 rfl (by kernel_rfl) (by kernel_rfl) (by kernel_rfl) rfl rfl rfl (Qt_extract rfl rfl) ?_
        refine Aw_q 12 rfl (by kernel_rfl) (by kernel_rfl) (by kernel_rfl) rfl rfl rfl (Qt_extract rfl rfl) ?_
        refine Aw_one 14 (by kernel_rfl) (Ax_mk rfl rfl ?_)
        refine OpW_store (vs := (Desk.cells x768 v824 v825)) (all' := (Desk.cells x768 v824 v825)) rfl rfl rfl rfl rfl (.there .here) rfl rfl rfl ⟨(Inc.cons (.tail _ (.tail _ (.head _))) (Inc.cons (.tail _ (.tail _ (.tail _ (.head _)))) (Inc.cons (.tail _ (.tail _ (.tail _ (.tail _ (.head _))))) Inc.nil))), ?_⟩
        refine Aw_q 15 rfl (by kernel_rfl) (by kernel_rfl) (by kernel_rfl) rfl rfl rfl (Qt_assign rfl) ?_
        refine Aw_done (by kernel_rfl) ?_
        refine Shift.pull (.there (.there .here)) ?_
        refine Shift.pull (.there (.there .here)) ?_
        refine Shift.rem (.there (.there (.there .here))) ?_
        refine Shift.rem (.there (.there (.there .here))) ?_
        refine Shift.done ?_
        exact ⟨[(6, (.pointer (some ((⟨b300, 0, none⟩ : Addr).add 0)))), (13, (.pointer (some ((⟨b819, 0, none⟩ : Addr).add 0)))), (14, (sv v826))], ⟨rfl, rfl, rfl, trivial⟩, b819, v826, x769, v824, x768.chans, v825, x768.waiting, x768.tick, rfl, rfl, H, hs831, hs829, hs830⟩
      ·skip
       refine id (Ax_mk rfl rfl ?_)
       refine OpW_alloc (cs := (Desk.cells (Desk.mk [] [] 0) nilS nilS)) rfl rfl rfl rfl (fun b832 => ⟨(Inc.cons (.tail _ (.head _)) (Inc.cons (.tail _ (.tail _ (.head _))) (Inc.cons (.tail _ (.tail _ (.tail _ (.head _)))) Inc.nil))), ?_⟩)
       obtain ⟨r833, hr834, hk835⟩ := Slr.at hs789 hx764
       obtain rfl := hr834
       refine Aw_one 7 (by kernel_rfl) (Ax_mk rfl rfl (OpW_of_Qt rfl rfl (Q_ix (T := TyCase) hs789 hx764 rfl rfl rfl rfl rfl) ⟨(Inc.cons (.tail _ (.head _)) (Inc.cons (.tail _ (.tail _ (.head _))) (Inc.cons (.tail _ (.tail _ (.tail _ (.head _)))) Inc.nil))), ?_⟩))
       refine Aw_one 8 (by kernel_rfl) (Ax_mk rfl rfl (OpW_of_Qt rfl rfl (Qt_loadA (m := 3) (cs := (Case.cells x763)) rfl rfl rfl rfl ⟨rfl, Rdc.k hk835 rfl⟩) ⟨(Inc.cons (.tail _ (.head _)) (Inc.cons (.tail _ (.tail _ (.head _))) (Inc.cons (.tail _ (.tail _ (.tail _ (.head _)))) Inc.nil))), ?_⟩))
       refine Aw_one 9 (by kernel_rfl) (Ax_mk rfl rfl ?_)
       have hs836 := ((hp0_chans).mono hK498).mono hK788
       have hs837 := ((hp0_waiting).mono hK498).mono hK788
       have hs838 := (hs784).mono hK788
       have hs839 := (hs785).mono hK788
       refine OpW_call rfl Try.call104 rfl rfl (c_M_99z p0 vp0_chans vp0_waiting p1 p2 vp2_cases vp2_draws i434 x763 x768 x769 hx770 _ _ hs836 hs837 hs838 hs839) ?_
       rintro _ K843 _ hK844 ⟨v840, v841, v842, rfl, rfl, hs845, hs846, hs847⟩
       refine ⟨(Inc.cons (.tail _ (.tail _ (.head _))) (Inc.cons (.tail _ (.tail _ (.tail _ (.head _)))) (Inc.cons (.tail _ (.tail _ (.tail _ (.tail _ (.head _))))) Inc.nil))), ?_⟩
       refine Aw_q 10 rfl (by kernel_rfl) (by kernel_rfl) (by kernel_rfl) rfl rfl rfl (Qt_move rfl) ?_
       refine Aw_q 11 rfl (by kernel_rfl) (by kernel_rfl) (by kernel_rfl) rfl rfl rfl (Qt_extract rfl rfl) ?_
       refine Aw_q 12 rfl (by kernel_rfl) (by kernel_rfl) (by kernel_rfl) rfl rfl rfl (Qt_extract rfl rfl) ?_
       refine Aw_one 14 (by kernel_rfl) (Ax_mk rfl rfl ?_)
       refine OpW_store (vs := (Desk.cells x768 v840 v841)) (all' := (Desk.cells x768 v840 v841)) rfl rfl rfl rfl rfl (.there .here) rfl rfl rfl ⟨(Inc.cons (.tail _ (.tail _ (.head _))) (Inc.cons (.tail _ (.tail _ (.tail _ (.head _)))) (Inc.cons (.tail _ (.tail _ (.tail _ (.tail _ (.head _))))) Inc.nil))), ?_⟩
       refine Aw_q 15 rfl (by kernel_rfl) (by kernel_rfl) (by kernel_rfl) rfl rfl rfl (Qt_assign rfl) ?_
       refine Aw_done (by kernel_rfl) ?_
       refine Shift.pull (.there (.there .here)) ?_
       refine Shift.pull (.there (.there .here)) ?_
       refine Shift.rem (.there (.there (.there .here))) ?_
       refine Shift.rem (.there (.there (.there .here))) ?_
       refine Shift.done ?_
       exact ⟨[(6, (.pointer (some ((⟨b300, 0, none⟩ : Addr).add 0)))), (13, (.pointer (some ((⟨b832, 0, none⟩ : Addr).add 0)))), (14, (sv v842))], ⟨rfl, rfl, rfl, trivial⟩, b832, v842, x769, v840, x768.chans, v841, x768.waiting, x768.tick, rfl, rfl, H, hs847, hs845, hs846⟩
     ·skip
      refine id (Ax_mk rfl rfl ?_)
      refine OpW_alloc (cs := (Desk.cells (Desk.mk [] [] 0) nilS nilS)) rfl rfl rfl rfl (fun b848 => ⟨(Inc.cons (.tail _ (.head _)) (Inc.cons (.tail _ (.tail _ (.head _))) (Inc.cons (.tail _ (.tail _ (.tail _ (.head _)))) Inc.nil))), ?_⟩)
      refine Aw_one 5 (by kernel_rfl) (Ax_mk rfl rfl ?_)
      have hs849 := (hp2_cases).mono hK498
      have hs850 := (hp2_draws).mono hK498
      refine OpW_call rfl Try.call63 rfl rfl (c_M_17z p2 vp2_cases vp2_draws x755 hx756 _ _ hs849 hs850) ?_
      rintro _ K852 _ hK853 ⟨v851, rfl, rfl, hs854⟩
      refine ⟨(Inc.cons (.tail _ (.head _)) (Inc.cons (.tail _ (.tail _ (.head _))) (Inc.cons (.tail _ (.tail _ (.tail _ (.head _)))) Inc.nil))), ?_⟩
      obtain ⟨r855, hr856, hk857⟩ := Slr.at hs854 hx764
      obtain rfl := hr856
      refine Aw_one 7 (by kernel_rfl) (Ax_mk rfl rfl (OpW_of_Qt rfl rfl (Q_ix (T := TyCase) hs854 hx764 rfl rfl rfl rfl rfl) ⟨(Inc.cons (.tail _ (.head _)) (Inc.cons (.tail _ (.tail _ (.head _))) (Inc.cons (.tail _ (.tail _ (.tail _ (.head _)))) Inc.nil))), ?_⟩))
      refine Aw_one 8 (by kernel_rfl) (Ax_mk rfl rfl (OpW_of_Qt rfl rfl (Qt_loadA (m := 3) (cs := (Case.cells x763)) rfl rfl rfl rfl ⟨rfl, Rdc.k hk857 rfl⟩) ⟨(Inc.cons (.tail _ (.head _)) (Inc.cons (.tail _ (.tail _ (.head _))) (Inc.cons (.tail _ (.tail _ (.tail _ (.head _)))) Inc.nil))), ?_⟩))
      refine Aw_one 9 (by kernel_rfl) (Ax_mk rfl rfl ?_)
      have hs858 := ((hp0_chans).mono hK498).mono hK853
      have hs859 := ((hp0_waiting).mono hK498).mono hK853
      have hs860 := (hs849).mono hK853
      have hs861 := (hs850).mono hK853
      refine OpW_call rfl Try.call104 rfl rfl (c_M_99z p0 vp0_chans vp0_waiting p1 p2 vp2_cases vp2_draws i434 x763 x768 x769 hx770 _ _ hs858 hs859 hs860 hs861) ?_
      rintro _ K865 _ hK866 ⟨v862, v863, v864, rfl, rfl, hs867, hs868, hs869⟩
      refine ⟨(Inc.cons (.tail _ (.tail _ (.head _))) (Inc.cons (.tail _ (.tail _ (.tail _ (.head _)))) (Inc.cons (.tail _ (.tail _ (.tail _ (.tail _ (.head _))))) Inc.nil))), ?_⟩
      refine Aw_q 10 rfl (by kernel_rfl) (by kernel_rfl) (by kernel_rfl) rfl rfl rfl (Qt_move rfl) ?_
      refine Aw_q 11 rfl (by kernel_rfl) (by kernel_rfl) (by kernel_rfl) rfl rfl rfl (Qt_extract rfl rfl) ?_
      refine Aw_q 12 rfl (by kernel_rfl) (by kernel_rfl) (by kernel_rfl) rfl rfl rfl (Qt_extract rfl rfl) ?_
      refine Aw_one 14 (by kernel_rfl) (Ax_mk rfl rfl ?_)
      refine OpW_store (vs := (Desk.cells x768 v862 v863)) (all' := (Desk.cells x768 v862 v863)) rfl rfl rfl rfl rfl (.there .here) rfl rfl rfl ⟨(Inc.cons (.tail _ (.tail _ (.head _))) (Inc.cons (.tail _ (.tail _ (.tail _ (.head _)))) (Inc.cons (.tail _ (.tail _ (.tail _ (.tail _ (.head _))))) Inc.nil))), ?_⟩
      refine Aw_q 15 rfl (by kernel_rfl) (by kernel_rfl) (by kernel_rfl) rfl rfl rfl (Qt_assign rfl) ?_
      refine Aw_done (by kernel_rfl) ?_
      refine Shift.pull (.there (.there .here)) ?_
      refine Shift.pull (.there (.there .here)) ?_
      refine Shift.rem (.there (.there (.there .here))) ?_
      refine Shift.rem (.there (.there (.there .here))) ?_
      refine Shift.done ?_
      exact ⟨[(6, (.pointer (some ((⟨b300, 0, none⟩ : Addr).add 0)))), (13, (.pointer (some ((⟨b848, 0, none⟩ : Addr).add 0)))), (14, (sv v864))], ⟨rfl, rfl, rfl, trivial⟩, b848, v864, x769, v862, x768.chans, v863, x768.waiting, x768.tick, rfl, rfl, H, hs869, hs867, hs868⟩
    rintro _ K870 _ hK871 ⟨b744, v745, l746, v748, l749, v751, l752, i754, rfl, rfl, H, hs747, hs750, hs753⟩
    unfold M_149z at H
    refine Cw_seq ?_
    refine Cw_region ?_
    refine Ow_q rfl rfl rfl (Qt_loadA (m := 3) (cs := (Desk.cells (Desk.mk l749 l752 i754) v748 v751)) rfl rfl rfl rfl ⟨rfl, Rdc.blk (.head _) rfl⟩) ?_
    refine Ow_q rfl rfl rfl (Qt_move rfl) ?_
    refine Ow_cons rfl (OpW_store (vs := (Desk.cells (Desk.mk l749 l752 i754) v748 v751)) (all' := (Desk.cells (Desk.mk l749 l752 i754) v748 v751)) rfl rfl rfl rfl rfl (.there .here) rfl rfl rfl ?_)
    refine Ow_q rfl rfl rfl (Qt_assign rfl) ?_
    refine Ow_q rfl rfl rfl (Qt_assign rfl) ?_
    refine Ow_nil ?_
    refine Cw_ret ?_
    obtain ⟨ey0, ey1, ey2⟩ := inj3 H
    subst y0 y1 y2
    refine ⟨(by first | exact .inl rfl | exact .inr rfl), [(.agg (Desk.cells (Desk.mk l749 l752 i754) v748 v751).toArray), (sv v745), (.bool false)], ⟨(.agg (Desk.cells (Desk.mk l749 l752 i754) v748 v751).toArray), _, rfl, ⟨_, 3, (Desk.cells (Desk.mk l749 l752 i754) v748 v751), rfl, rfl, rfl, rfl, ⟨rfl, Rdc.blk (.tail _ (.head _)) rfl⟩, rfl⟩, ⟨(sv v745), _, rfl, rfl, ⟨(.bool false), _, rfl, rfl, rfl⟩⟩⟩, ?_⟩
    refine Shift.pull (.there (.there .here)) ?_
    refine Shift.rem (.there .here) ?_
    refine Shift.rem (.there .here) ?_
    refine Shift.done ?_
    exact ⟨v748, v751, v745, rfl, rfl, hs750, hs753, hs747⟩
   ·intro h628
    have h628 := dcd_f (h628)
    have H := iff_ h628 H
    refine Cw_skip ?_
    refine Cw_seq ?_
    refine Cw_seq ?_
    refine Cw_region ?_
    refine Ow_q rfl rfl rfl (Qt_fieldAddr (m := 1) rfl rfl rfl rfl rfl) ?_
    refine Ow_q rfl rfl rfl (Qt_load1 (v := (.int .i64 p2.mode)) rfl rfl rfl (Rdc.blk (.tail _ (.head _)) rfl)) ?_
    refine Ow_q rfl rfl rfl (Qt_cmp rfl rfl rfl) ?_
    refine Ow_nil ?_
    refine Cw_cond rfl ?_ ?_
    ·intro h875
     have h875 := dcd_t (h875)
     have H := ift h875 H
     refine Cw_seq ?_
     refine Cw_region ?_
     refine Ow_q rfl rfl rfl (Qt_loadA (m := 3) (cs := (Desk.cells p0 vp0_chans vp0_waiting)) rfl rfl rfl rfl ⟨rfl, Rdc.blk (.tail _ (.tail _ (.head _))) rfl⟩) ?_
     refine Ow_q rfl rfl rfl (Qt_move rfl) ?_
     refine Ow_q rfl rfl rfl (Qt_build (cs := (Result.cells (Result.mk 3 (-1) 0 false 0))) rfl rfl rfl rfl rfl rfl) ?_
     refine Ow_q rfl rfl rfl (Qt_build (cs := (Done.cells (Done.mk p1 (Result.mk 3 (-1) 0 false 0)))) rfl rfl rfl rfl rfl rfl) ?_
     have hR877 : RowR TyDone K497 [(Done.cells (Done.mk p1 (Result.mk 3 (-1) 0 false 0)))] [(Done.mk p1 (Result.mk 3 (-1) 0 false 0))] := RowR.cons rfl (RowR.nil)
     refine Ow_cons rfl (O_lit (T := TyDone) (rows := [(Done.cells (Done.mk p1 (Result.mk 3 (-1) 0 false 0)))]) (l := [(Done.mk p1 (Result.mk 3 (-1) 0 false 0))]) rfl rfl rfl hR877 rfl rfl rfl rfl rfl rfl rfl rfl (fun v876 => ?_))
     refine Ow_cons rfl (OpW_store (vs := (Desk.cells p0 vp0_chans vp0_waiting)) (all' := (Desk.cells p0 vp0_chans vp0_waiting)) rfl rfl rfl rfl rfl (.there .here) rfl rfl rfl ?_)
     refine Ow_q rfl rfl rfl (Qt_assign rfl) ?_
     refine Ow_q rfl rfl rfl (Qt_assign rfl) ?_
     refine Ow_nil ?_
     refine Cw_ret ?_
     obtain ⟨ey0, ey1, ey2⟩ := inj3 H
     subst y0 y1 y2
     refine ⟨(by first | exact .inl rfl | exact .inr rfl), [(.agg (Desk.cells p0 vp0_chans vp0_waiting).toArray), (sv v876), (.bool false)], ⟨(.agg (Desk.cells p0 vp0_chans vp0_waiting).toArray), _, rfl, ⟨_, 3, (Desk.cells p0 vp0_chans vp0_waiting), rfl, rfl, rfl, rfl, ⟨rfl, Rdc.blk (.tail _ (.head _)) rfl⟩, rfl⟩, ⟨(sv v876), _, rfl, rfl, ⟨(.bool false), _, rfl, rfl, rfl⟩⟩⟩, ?_⟩
     refine Shift.settle (T := TyDone) .here hR877 rfl ?_
     intro K878 hK879 hs880
     refine Shift.rem (.there .here) ?_
     refine Shift.rem (.there .here) ?_
     refine Shift.rem (.there .here) ?_
     have hs881 := ((hp0_chans).mono hK498).mono hK879
     have hs882 := ((hp0_waiting).mono hK498).mono hK879
     refine Shift.done ?_
     exact ⟨vp0_chans, vp0_waiting, v876, rfl, rfl, hs881, hs882, hs880⟩
    ·intro h875
     have h875 := dcd_f (h875)
     have H := iff_ h875 H
     refine Cw_skip ?_
     refine Cw_seq ?_
     refine Cw_join (fun env' K' G' => ∃ (t889 : Bool), [(1, (.int .i64 p1)), (3, (.pointer (some ((⟨b298, 0, none⟩ : Addr).add 0)))), (5, (.pointer (some ((⟨b299, 0, none⟩ : Addr).add 0)))), (6, (.pointer (some ((⟨b300, 0, none⟩ : Addr).add 0)))), (114, (.bool t889))] = env' ∧ K497 = K' ∧ (.blk b300 102 (Desk.cells (Desk.mk [] [] 0) nilS nilS)) :: (.blk b299 38 (Op.cells p2 vp2_cases vp2_draws)) :: (.blk b298 102 (Desk.cells p0 vp0_chans vp0_waiting)) :: G = G' ∧ M_59z p1 p2 p0 t889 = some (y0, y1, y2)) ?_ ?_
     ·skip
      refine Cw_region ?_
      refine Ow_q rfl rfl rfl (Qt_fieldAddr (m := 1) rfl rfl rfl rfl rfl) ?_
      refine Ow_q rfl rfl rfl (Qt_load1 (v := (.int .i64 p2.mode)) rfl rfl rfl (Rdc.blk (.tail _ (.head _)) rfl)) ?_
      refine Ow_q rfl rfl rfl (Qt_cmp rfl rfl rfl) ?_
      refine Ow_q rfl rfl rfl (Qt_move rfl) ?_
      refine Ow_caseG rfl rfl rfl ?_ ?_
      ·intro h890
       have h890 := dcd_t (h890)
       have H := ift h890 H
       refine Ow_qw rfl rfl rfl rfl rfl rfl (Qt_fieldAddr (m := 4) rfl rfl rfl rfl rfl) ?_
       refine Ow_qw rfl rfl rfl rfl rfl rfl (Qt_load1 (v := (.int .i64 p2.deadline)) rfl rfl rfl (Rdc.blk (.tail _ (.head _)) rfl)) ?_
       refine Ow_qw rfl rfl rfl rfl rfl rfl (Qt_fieldAddr (m := 2) rfl rfl rfl rfl rfl) ?_
       refine Ow_qw rfl rfl rfl rfl rfl rfl (Qt_load1 (v := (.int .i64 p0.tick)) rfl rfl rfl (Rdc.blk (.tail _ (.tail _ (.head _))) rfl)) ?_
       refine Ow_qw rfl rfl rfl rfl rfl rfl (Qt_cmp rfl rfl rfl) ?_
       refine Ow_q rfl rfl rfl (Qt_pick_t rfl rfl) ?_
       refine Ow_nil ?_
       refine Shift.pull (.there (.there .here)) ?_
       refine Shift.pull (.there (.there .here)) ?_
       refine Shift.pull (.there (.there .here)) ?_
       refine Shift.done ?_
       exact ⟨[(1, (.int .i64 p1)), (3, (.pointer (some ((⟨b298, 0, none⟩ : Addr).add 0)))), (5, (.pointer (some ((⟨b299, 0, none⟩ : Addr).add 0)))), (6, (.pointer (some ((⟨b300, 0, none⟩ : Addr).add 0)))), (114, (.bool (dcd (p2.deadline ≤ p0.tick))))], ⟨rfl, rfl, rfl, rfl, rfl, trivial⟩, (dcd (p2.deadline ≤ p0.tick)), rfl, rfl, rfl, H⟩
      ·intro h890
       have h890 := dcd_f (h890)
       have H := iff_ h890 H
       refine Ow_pass rfl rfl rfl rfl rfl rfl rfl ?_
       refine Ow_pass rfl rfl rfl rfl rfl rfl rfl ?_
       refine Ow_pass rfl rfl rfl rfl rfl rfl rfl ?_
       refine Ow_pass rfl rfl rfl rfl rfl rfl rfl ?_
       refine Ow_pass rfl rfl rfl rfl rfl rfl rfl ?_
       refine Ow_q rfl rfl rfl (Qt_pick_f rfl rfl) ?_
       refine Ow_nil ?_
       refine Shift.pull (.there (.there .here)) ?_
       refine Shift.pull (.there (.there .here)) ?_
       refine Shift.pull (.there (.there .here)) ?_
       refine Shift.done ?_
       exact ⟨[(1, (.int .i64 p1)), (3, (.pointer (some ((⟨b298, 0, none⟩ : Addr).add 0)))), (5, (.pointer (some ((⟨b299, 0, none⟩ : Addr).add 0)))), (6, (.pointer (some ((⟨b300, 0, none⟩ : Addr).add 0)))), (114, (.bool false))], ⟨rfl, rfl, rfl, rfl, rfl, trivial⟩, false, rfl, rfl, rfl, H⟩
     rintro _ _ _ - ⟨t889, rfl, rfl, rfl, H⟩
     unfold M_59z at H
     refine Cw_cond rfl ?_ ?_
     ·intro h891
      have H := ift h891 H
      refine Cw_seq ?_
      refine Cw_region ?_
      refine Ow_q rfl rfl rfl (Qt_loadA (m := 3) (cs := (Desk.cells p0 vp0_chans vp0_waiting)) rfl rfl rfl rfl ⟨rfl, Rdc.blk (.tail _ (.tail _ (.head _))) rfl⟩) ?_
      refine Ow_q rfl rfl rfl (Qt_move rfl) ?_
      refine Ow_q rfl rfl rfl (Qt_build (cs := (Result.cells (Result.mk 4 (-1) 0 false 0))) rfl rfl rfl rfl rfl rfl) ?_
      refine Ow_q rfl rfl rfl (Qt_build (cs := (Done.cells (Done.mk p1 (Result.mk 4 (-1) 0 false 0)))) rfl rfl rfl rfl rfl rfl) ?_
      have hR893 : RowR TyDone K497 [(Done.cells (Done.mk p1 (Result.mk 4 (-1) 0 false 0)))] [(Done.mk p1 (Result.mk 4 (-1) 0 false 0))] := RowR.cons rfl (RowR.nil)
      refine Ow_cons rfl (O_lit (T := TyDone) (rows := [(Done.cells (Done.mk p1 (Result.mk 4 (-1) 0 false 0)))]) (l := [(Done.mk p1 (Result.mk 4 (-1) 0 false 0))]) rfl rfl rfl hR893 rfl rfl rfl rfl rfl rfl rfl rfl (fun v892 => ?_))
      refine Ow_cons rfl (OpW_store (vs := (Desk.cells p0 vp0_chans vp0_waiting)) (all' := (Desk.cells p0 vp0_chans vp0_waiting)) rfl rfl rfl rfl rfl (.there .here) rfl rfl rfl ?_)
      refine Ow_q rfl rfl rfl (Qt_assign rfl) ?_
      refine Ow_q rfl rfl rfl (Qt_assign rfl) ?_
      refine Ow_nil ?_
      refine Cw_ret ?_
      obtain ⟨ey0, ey1, ey2⟩ := inj3 H
      subst y0 y1 y2
      refine ⟨(by first | exact .inl rfl | exact .inr rfl), [(.agg (Desk.cells p0 vp0_chans vp0_waiting).toArray), (sv v892), (.bool false)], ⟨(.agg (Desk.cells p0 vp0_chans vp0_waiting).toArray), _, rfl, ⟨_, 3, (Desk.cells p0 vp0_chans vp0_waiting), rfl, rfl, rfl, rfl, ⟨rfl, Rdc.blk (.tail _ (.head _)) rfl⟩, rfl⟩, ⟨(sv v892), _, rfl, rfl, ⟨(.bool false), _, rfl, rfl, rfl⟩⟩⟩, ?_⟩
      refine Shift.settle (T := TyDone) .here hR893 rfl ?_
      intro K894 hK895 hs896
      refine Shift.rem (.there .here) ?_
      refine Shift.rem (.there .here) ?_
      refine Shift.rem (.there .here) ?_
      have hs897 := ((hp0_chans).mono hK498).mono hK895
      have hs898 := ((hp0_waiting).mono hK498).mono hK895
      refine Shift.done ?_
      exact ⟨vp0_chans, vp0_waiting, v892, rfl, rfl, hs897, hs898, hs896⟩
     ·intro h891
      have H := iff_ (btf h891) H
      refine Cw_skip ?_
      refine Cw_join (fun env' K' G' => ∃ (v957 : SV) (l958 : List Waiter), [(3, (.pointer (some ((⟨b298, 0, none⟩ : Addr).add 0)))), (6, (.pointer (some ((⟨b300, 0, none⟩ : Addr).add 0))))] = env' ∧ (.blk b300 102 (Desk.cells (Desk.mk [] [] 0) nilS nilS)) :: (.blk b298 102 (Desk.cells (Desk.mk p0.chans l958 p0.tick) vp0_chans v957)) :: (.tok 77 8 [(sv v957)]) :: G = G' ∧ M_150z p0 l958 = some (y0, y1, y2) ∧ Slr TyWaiter K' (sv v957) l958) ?_ ?_
      ·skip
       obtain ⟨x960, hx961, H⟩ := bnd H
       obtain ⟨x971, hx972, H⟩ := bnd H
       refine Cw_region_any [.blk b300 102 (Desk.cells (Desk.mk [] [] 0) nilS nilS), .blk b299 38 (Op.cells p2 vp2_cases vp2_draws)] rfl (Inc.cons (.head _) (Inc.cons (.tail _ (.head _)) Inc.nil)) ?_
       refine Aw_q 0 rfl (by kernel_rfl) (by kernel_rfl) (by kernel_rfl) rfl rfl rfl (Qt_fieldAddr (m := 1) rfl rfl rfl rfl rfl) ?_
       refine Aw_q 3 rfl (by kernel_rfl) (by kernel_rfl) (by kernel_rfl) rfl rfl rfl (Qt_move rfl) ?_
       refine Aw_q 4 rfl (by kernel_rfl) (by kernel_rfl) (by kernel_rfl) rfl rfl rfl (Qt_loadA (m := 7) (cs := (Op.cells p2 vp2_cases vp2_draws)) rfl rfl rfl rfl ⟨rfl, Rdc.blk (.tail _ (.head _)) rfl⟩) ?_
       refine Aw_q 5 rfl (by kernel_rfl) (by kernel_rfl) (by kernel_rfl) rfl rfl rfl (Qt_build (cs := (Waiter.cells (Waiter.mk p1 p2) vp2_cases vp2_draws)) rfl rfl rfl rfl rfl rfl) ?_
       refine Aw_two 1 6 (by kernel_rfl) ?_ ?_
       ·skip
        refine id (Ax_mk rfl rfl (OpW_of_Qt rfl rfl (Qt_load1 (v := (sv vp0_waiting)) rfl rfl rfl (Rdc.blk (.tail _ (.tail _ (.head _))) rfl)) ⟨(Inc.cons (.head _) (Inc.cons (.tail _ (.head _)) Inc.nil)), ?_⟩))
        refine Aw_two 2 6 (by kernel_rfl) ?_ ?_
        ·skip
         refine id (Ax_mk rfl rfl ?_)
         refine OpW.shift (Shift.nilTok1 77 8 (Shift.done ?_))
         have hs977 := (hp0_waiting).mono hK498
         refine O_appTok (T := TyWaiter) (bytes := 96) (q := 0) rfl rfl rfl (Slr.nil TyWaiter _) (.head _) rfl (SrcT.sl hs977) hx961 rfl rfl rfl rfl rfl rfl rfl rfl (fun v978 K979 hK980 hs981 => ⟨_, .here, ⟨(Inc.cons (.tail _ (.head _)) (Inc.cons (.tail _ (.tail _ (.head _))) Inc.nil)), ?_⟩⟩)
         refine Aw_one 6 (by kernel_rfl) (Ax_mk rfl rfl ?_)
         have hs984 := ((hp2_cases).mono hK498).mono hK980
         have hs985 := ((hp2_draws).mono hK498).mono hK980
         have hR983 : RowR TyWaiter K979 [(Waiter.cells (Waiter.mk p1 p2) vp2_cases vp2_draws)] [(Waiter.mk p1 p2)] := RowR.cons ⟨vp2_cases, vp2_draws, rfl, hs984, hs985⟩ (RowR.nil)
         refine O_lit (T := TyWaiter) (rows := [(Waiter.cells (Waiter.mk p1 p2) vp2_cases vp2_draws)]) (l := [(Waiter.mk p1 p2)]) rfl rfl rfl hR983 rfl rfl rfl rfl rfl rfl rfl rfl (fun v982 => ⟨(Inc.cons (.tail _ (.tail _ (.head _))) (Inc.cons (.tail _ (.tail _ (.tail _ (.head _)))) Inc.nil)), ?_⟩)
         refine Aw_one 7 (by kernel_rfl) (Ax_mk rfl rfl ?_)
         refine O_appTok (T := TyWaiter) (bytes := 96) (q := 0) rfl rfl rfl hs981 (.tail _ (.head _)) rfl (SrcT.row (.head _) hR983 rfl) hx972 rfl rfl rfl rfl rfl rfl rfl rfl (fun v986 K987 hK988 hs989 => ⟨_, (.there .here), ⟨(Inc.cons (.tail _ (.tail _ (.head _))) (Inc.cons (.tail _ (.tail _ (.tail _ (.head _)))) Inc.nil)), ?_⟩⟩)
         refine Aw.shift (Shift.rem .here (Shift.done ⟨(Inc.cons (.tail _ (.head _)) (Inc.cons (.tail _ (.tail _ (.head _))) Inc.nil)), ?_⟩))
         refine Aw_q 8 rfl (by kernel_rfl) (by kernel_rfl) (by kernel_rfl) rfl rfl rfl (Qt_fieldAddr (m := 1) rfl rfl rfl rfl rfl) ?_
         refine Aw_one 9 (by kernel_rfl) (Ax_mk rfl rfl ?_)
         refine OpW_store (vs := [(sv v986)]) (all' := (Desk.cells (Desk.mk p0.chans x971 p0.tick) vp0_chans v986)) rfl rfl rfl rfl rfl (.there (.there (.there .here))) rfl rfl rfl ⟨(Inc.cons (.tail _ (.head _)) (Inc.cons (.tail _ (.tail _ (.head _))) Inc.nil)), ?_⟩
         refine Aw_done (by kernel_rfl) ?_
         refine Shift.pull (.there (.there (.there .here))) ?_
         refine Shift.pull (.there (.there .here)) ?_
         refine Shift.rem (.there (.there (.there .here))) ?_
         refine Shift.done ?_
         exact ⟨[(3, (.pointer (some ((⟨b298, 0, none⟩ : Addr).add 0)))), (6, (.pointer (some ((⟨b300, 0, none⟩ : Addr).add 0))))], ⟨rfl, rfl, trivial⟩, v986, x971, rfl, rfl, H, hs989⟩
        ·skip
         refine id (Ax_mk rfl rfl ?_)
         have hs992 := (hp2_cases).mono hK498
         have hs993 := (hp2_draws).mono hK498
         have hR991 : RowR TyWaiter K497 [(Waiter.cells (Waiter.mk p1 p2) vp2_cases vp2_draws)] [(Waiter.mk p1 p2)] := RowR.cons ⟨vp2_cases, vp2_draws, rfl, hs992, hs993⟩ (RowR.nil)
         refine O_lit (T := TyWaiter) (rows := [(Waiter.cells (Waiter.mk p1 p2) vp2_cases vp2_draws)]) (l := [(Waiter.mk p1 p2)]) rfl rfl rfl hR991 rfl rfl rfl rfl rfl rfl rfl rfl (fun v990 => ⟨(Inc.cons (.tail _ (.head _)) (Inc.cons (.tail _ (.tail _ (.head _))) Inc.nil)), ?_⟩)
         refine Aw_one 2 (by kernel_rfl) (Ax_mk rfl rfl ?_)
         refine OpW.shift (Shift.nilTok1 77 8 (Shift.done ?_))
         have hs994 := (hp0_waiting).mono hK498
         refine O_appTok (T := TyWaiter) (bytes := 96) (q := 0) rfl rfl rfl (Slr.nil TyWaiter _) (.head _) rfl (SrcT.sl hs994) hx961 rfl rfl rfl rfl rfl rfl rfl rfl (fun v995 K996 hK997 hs998 => ⟨_, .here, ⟨(Inc.cons (.tail _ (.tail _ (.head _))) (Inc.cons (.tail _ (.tail _ (.tail _ (.head _)))) Inc.nil)), ?_⟩⟩)
         refine Aw_one 7 (by kernel_rfl) (Ax_mk rfl rfl ?_)
         have hs999 := (hR991).mono hK997
         refine O_appTok (T := TyWaiter) (bytes := 96) (q := 0) rfl rfl rfl hs998 (.head _) rfl (SrcT.row (.tail _ (.head _)) hs999 rfl) hx972 rfl rfl rfl rfl rfl rfl rfl rfl (fun v1000 K1001 hK1002 hs1003 => ⟨_, .here, ⟨(Inc.cons (.tail _ (.tail _ (.head _))) (Inc.cons (.tail _ (.tail _ (.tail _ (.head _)))) Inc.nil)), ?_⟩⟩)
         refine Aw.shift (Shift.rem (.there .here) (Shift.done ⟨(Inc.cons (.tail _ (.head _)) (Inc.cons (.tail _ (.tail _ (.head _))) Inc.nil)), ?_⟩))
         refine Aw_q 8 rfl (by kernel_rfl) (by kernel_rfl) (by kernel_rfl) rfl rfl rfl (Qt_fieldAddr (m := 1) rfl rfl rfl rfl rfl) ?_
         refine Aw_one 9 (by kernel_rfl) (Ax_mk rfl rfl ?_)
         refine OpW_store (vs := [(sv v1000)]) (all' := (Desk.cells (Desk.mk p0.chans x971 p0.tick) vp0_chans v1000)) rfl rfl rfl rfl rfl (.there (.there (.there .here))) rfl rfl rfl ⟨(Inc.cons (.tail _ (.head _)) (Inc.cons (.tail _ (.tail _ (.head _))) Inc.nil)), ?_⟩
         refine Aw_done (by kernel_rfl) ?_
         refine Shift.pull (.there (.there (.there .here))) ?_
         refine Shift.pull (.there (.there .here)) ?_
         refine Shift.rem (.there (.there (.there .here))) ?_
         refine Shift.done ?_
         exact ⟨[(3, (.pointer (some ((⟨b298, 0, none⟩ : Addr).add 0)))), (6, (.pointer (some ((⟨b300, 0, none⟩ : Addr).add 0))))], ⟨rfl, rfl, trivial⟩, v1000, x971, rfl, rfl, H, hs1003⟩
       ·skip
        refine id (Ax_mk rfl rfl ?_)
        have hs1006 := (hp2_cases).mono hK498
        have hs1007 := (hp2_draws).mono hK498
        have hR1005 : RowR TyWaiter K497 [(Waiter.cells (Waiter.mk p1 p2) vp2_cases vp2_draws)] [(Waiter.mk p1 p2)] := RowR.cons ⟨vp2_cases, vp2_draws, rfl, hs1006, hs1007⟩ (RowR.nil)
        refine O_lit (T := TyWaiter) (rows := [(Waiter.cells (Waiter.mk p1 p2) vp2_cases vp2_draws)]) (l := [(Waiter.mk p1 p2)]) rfl rfl rfl hR1005 rfl rfl rfl rfl rfl rfl rfl rfl (fun v1004 => ⟨(Inc.cons (.tail _ (.head _)) (Inc.cons (.tail _ (.tail _ (.head _))) Inc.nil)), ?_⟩)
        refine Aw_one 1 (by kernel_rfl) (Ax_mk rfl rfl (OpW_of_Qt rfl rfl (Qt_load1 (v := (sv vp0_waiting)) rfl rfl rfl (Rdc.blk (.tail _ (.tail _ (.tail _ (.head _)))) rfl)) ⟨(Inc.cons (.tail _ (.head _)) (Inc.cons (.tail _ (.tail _ (.head _))) Inc.nil)), ?_⟩))
        refine Aw_one 2 (by kernel_rfl) (Ax_mk rfl rfl ?_)
        refine OpW.shift (Shift.nilTok1 77 8 (Shift.done ?_))
        have hs1008 := (hp0_waiting).mono hK498
        refine O_appTok (T := TyWaiter) (bytes := 96) (q := 0) rfl rfl rfl (Slr.nil TyWaiter _) (.head _) rfl (SrcT.sl hs1008) hx961 rfl rfl rfl rfl rfl rfl rfl rfl (fun v1009 K1010 hK1011 hs1012 => ⟨_, .here, ⟨(Inc.cons (.tail _ (.tail _ (.head _))) (Inc.cons (.tail _ (.tail _ (.tail _ (.head _)))) Inc.nil)), ?_⟩⟩)
        refine Aw_one 7 (by kernel_rfl) (Ax_mk rfl rfl ?_)
        have hs1013 := (hR1005).mono hK1011
        refine O_appTok (T := TyWaiter) (bytes := 96) (q := 0) rfl rfl rfl hs1012 (.head _) rfl (SrcT.row (.tail _ (.head _)) hs1013 rfl) hx972 rfl rfl rfl rfl rfl rfl rfl rfl (fun v1014 K1015 hK1016 hs1017 => ⟨_, .here, ⟨(Inc.cons (.tail _ (.tail _ (.head _))) (Inc.cons (.tail _ (.tail _ (.tail _ (.head _)))) Inc.nil)), ?_⟩⟩)
        refine Aw.shift (Shift.rem (.there .here) (Shift.done ⟨(Inc.cons (.tail _ (.head _)) (Inc.cons (.tail _ (.tail _ (.head _))) Inc.nil)), ?_⟩))
        refine Aw_q 8 rfl (by kernel_rfl) (by kernel_rfl) (by kernel_rfl) rfl rfl rfl (Qt_fieldAddr (m := 1) rfl rfl rfl rfl rfl) ?_
        refine Aw_one 9 (by kernel_rfl) (Ax_mk rfl rfl ?_)
        refine OpW_store (vs := [(sv v1014)]) (all' := (Desk.cells (Desk.mk p0.chans x971 p0.tick) vp0_chans v1014)) rfl rfl rfl rfl rfl (.there (.there (.there .here))) rfl rfl rfl ⟨(Inc.cons (.tail _ (.head _)) (Inc.cons (.tail _ (.tail _ (.head _))) Inc.nil)), ?_⟩
        refine Aw_done (by kernel_rfl) ?_
        refine Shift.pull (.there (.there (.there .here))) ?_
        refine Shift.pull (.there (.there .here)) ?_
        refine Shift.rem (.there (.there (.there .here))) ?_
        refine Shift.done ?_
        exact ⟨[(3, (.pointer (some ((⟨b298, 0, none⟩ : Addr).add 0)))), (6, (.pointer (some ((⟨b300, 0, none⟩ : Addr).add 0))))], ⟨rfl, rfl, trivial⟩, v1014, x971, rfl, rfl, H, hs1017⟩
      rintro _ K1018 _ hK1019 ⟨v957, l958, rfl, rfl, H, hs959⟩
      unfold M_150z at H
      refine Cw_seq ?_
      refine Cw_region ?_
      refine Ow_q rfl rfl rfl (Qt_loadA (m := 3) (cs := (Desk.cells (Desk.mk p0.chans l958 p0.tick) vp0_chans v957)) rfl rfl rfl rfl ⟨rfl, Rdc.blk (.tail _ (.head _)) rfl⟩) ?_
      refine Ow_cons rfl (OpW_store (vs := (Desk.cells (Desk.mk p0.chans l958 p0.tick) vp0_chans v957)) (all' := (Desk.cells (Desk.mk p0.chans l958 p0.tick) vp0_chans v957)) rfl rfl rfl rfl rfl .here rfl rfl rfl ?_)
      refine Ow_q rfl rfl rfl (Qt_assign rfl) ?_
      refine Ow_q rfl rfl rfl (Qt_assign rfl) ?_
      refine Ow_nil ?_
      refine Cw_ret ?_
      obtain ⟨ey0, ey1, ey2⟩ := inj3 H
      subst y0 y1 y2
      refine ⟨(by first | exact .inl rfl | exact .inr rfl), [(.agg (Desk.cells (Desk.mk p0.chans l958 p0.tick) vp0_chans v957).toArray), (sv nilS), (.bool true)], ⟨(.agg (Desk.cells (Desk.mk p0.chans l958 p0.tick) vp0_chans v957).toArray), _, rfl, ⟨_, 3, (Desk.cells (Desk.mk p0.chans l958 p0.tick) vp0_chans v957), rfl, rfl, rfl, rfl, ⟨rfl, Rdc.blk (.head _) rfl⟩, rfl⟩, ⟨(sv nilS), _, rfl, rfl, ⟨(.bool true), _, rfl, rfl, rfl⟩⟩⟩, ?_⟩
      refine Shift.nilTok1 108 6 ?_
      refine Shift.rem (.there .here) ?_
      refine Shift.rem (.there .here) ?_
      refine Shift.rem (.there .here) ?_
      have hs1020 := ((hp0_chans).mono hK498).mono hK1019
      refine Shift.done ?_
      exact ⟨vp0_chans, v957, nilS, rfl, rfl, hs1020, hs959, (Slr.nil TyDone _)⟩



end Go.Hx

namespace Go.Hx
open Go Go.Proofs
set_option linter.unusedSimpArgs false
set_option linter.unusedVariables false
set_option maxRecDepth 10000
set_option maxHeartbeats 1000000 in
theorem c_M_102z (p0 : List Int) (vp0 : SV) (y0 : Config) (y1 : List (List Op)) (y2 : List Event) (H : M_102z p0 = some (y0, y1, y2)) (K : Kp) (G : List Ent) (hp0 : Slr Ty.u8 K (sv vp0) p0) :
  Fc Try.prog 30 #[(sv vp0)] K (G) (fun v K' G' => ∃ (wy0_capacities : SV) (wy0_starts : SV) (wy1 : SV) (rswy1 : List (List Value)) (wy2 : SV), v = (.tuple #[(.agg (Config.cells y0 wy0_capacities wy0_starts).toArray), (sv wy1), (sv wy2)]) ∧ (.tok 3 1 [(sv wy0_capacities)]) :: (.tok 23 1 [(sv wy0_starts)]) :: (.row (sv wy1) 99 1 rswy1.flatten) :: (.tok 65 8 [(sv wy2)]) :: G = G' ∧ Slr Ty.i64 K' (sv wy0_capacities) y0.capacities ∧ Slr Ty.u64 K' (sv wy0_starts) y0.starts ∧ RowR (Ty.sl TyOp) K' rswy1 y1 ∧ Slr TyEvent K' (sv wy2) y2) := by
 refine Fc_body Try.func30 rfl Try.ntmps30 Try.results30 rfl ?_
 unfold M_102z at H
 refine Cw_seq ?_
 refine Cw_region ?_
 refine Ow_cons rfl (OpW_alloc (cs := (Config.cells (Config.mk [] [] 0) nilS nilS)) rfl rfl rfl rfl (fun b719 => ?_))
 refine Ow_q rfl rfl rfl (Qt_assign rfl) ?_
 refine Ow_q rfl rfl rfl (Qt_assign rfl) ?_
 refine Ow_nil ?_
 refine Cw_seq ?_
 refine Cw_region ?_
 refine Ow_q rfl rfl rfl (Qt_move rfl) ?_
 obtain ⟨x720, hx721, H⟩ := bnd H
 refine Ow_cons rfl (OpW_call rfl Try.call14 rfl rfl (c_M_70z p0 vp0 200 x720 hx721 _ _ hp0) ?_)
 rintro _ _ _ - ⟨b722, v723, rfl, rfl, rfl, hs724⟩
 refine Ow_q rfl rfl rfl (Qt_assign rfl) ?_
 refine Ow_nil ?_
 refine Cw_seq ?_
 refine Cw_region ?_
 refine Ow_q rfl rfl rfl (Qt_move rfl) ?_
 obtain ⟨x725, x726, x727, hx728, H⟩ := bnd3 H
 refine Ow_cons rfl (OpW_call rfl Try.call25 rfl rfl (c_M_71z b722 x720 v723 x725 x726 x727 hx728 _ _ hs724) ?_)
 rintro _ K731 _ hK732 ⟨v729, v730, rfl, rfl, hs733, hs734⟩
 refine Ow_cons rfl (OpW_alloc (cs := (Config.cells (Config.mk [] [] 0) nilS nilS)) rfl rfl rfl rfl (fun b735 => ?_))
 refine Ow_cons rfl (OpW_store (vs := (Config.cells x725 v729 v730)) (all' := (Config.cells x725 v729 v730)) rfl rfl rfl rfl rfl .here rfl rfl rfl ?_)
 refine Ow_nil ?_
 refine Cw_seq ?_
 refine Cw_region ?_
 refine Ow_q rfl rfl rfl (Qt_move rfl) ?_
 refine Ow_q rfl rfl rfl (Qt_loadA (m := 3) (cs := (Config.cells x725 v729 v730)) rfl rfl rfl rfl ⟨rfl, Rdc.blk (.head _) rfl⟩) ?_
 obtain ⟨x736, x737, x738, hx739, H⟩ := bnd3 H
 refine Ow.shift (Shift.pull (.there .here) (Shift.done ?_))
 have hs740 := (hs724).mono hK732
 refine Ow_cons rfl (OpW_call rfl Try.call67 rfl rfl (c_M_28z b722 (Draw_Codes.mk x720.list x726 x727) v723 x725 v729 v730 12 x736 x737 x738 hx739 _ _ hs740 hs733 hs734) ?_)
 rintro _ K743 _ hK744 ⟨v741, rs742, rfl, rfl, hs745⟩
 refine Ow_q rfl rfl rfl (Qt_assign rfl) ?_
 refine Ow_nil ?_
 refine Cw_seq ?_
 refine Cw_region ?_
 refine Ow_q rfl rfl rfl (Qt_loadA (m := 3) (cs := (Config.cells x725 v729 v730)) rfl rfl rfl rfl ⟨rfl, Rdc.blk (.tail _ (.tail _ (.head _))) rfl⟩) ?_
 obtain ⟨x746, hx747, H⟩ := bnd H
 have hs748 := (hs733).mono hK744
 have hs749 := (hs734).mono hK744
 refine Ow_cons rfl (OpW_call rfl Try.call68 rfl rfl (c_M_81z x725 v729 v730 x746 hx747 _ _ hs748 hs749) ?_)
 rintro _ K752 _ hK753 ⟨v750, v751, rfl, rfl, hs754, hs755⟩
 refine Ow_cons rfl (OpW_alloc (cs := (Desk.cells (Desk.mk [] [] 0) nilS nilS)) rfl rfl rfl rfl (fun b756 => ?_))
 refine Ow_cons rfl (OpW_store (vs := (Desk.cells x746 v750 v751)) (all' := (Desk.cells x746 v750 v751)) rfl rfl rfl rfl rfl .here rfl rfl rfl ?_)
 refine Ow_nil ?_
 refine Cw_join (fun env' K' G' => ∃ (v785 : SV) (l786 : List Int) (rs788 : List (List Value)) (v789 : SV) (l790 : List Int) (rs792 : List (List Value)), [(2, (.pointer (some ((⟨b719, 0, none⟩ : Addr).add 0)))), (5, (.pointer (some ((⟨b722, 0, none⟩ : Addr).add 0)))), (6, (.pointer (some ((⟨b735, 0, none⟩ : Addr).add 0)))), (7, (sv v741)), (8, (.pointer (some ((⟨b756, 0, none⟩ : Addr).add 0)))), (9, (sv v785)), (10, (sv v789))] = env' ∧ K752 = K' ∧ (.blk b756 102 (Desk.cells x746 v750 v751)) :: (.blk b735 34 (Config.cells x725 v729 v730)) :: (.blk b722 85 (Draw_Codes.cells (Draw_Codes.mk x720.list x737 x738) v723)) :: (.blk b719 34 (Config.cells (Config.mk [] [] 0) nilS nilS)) :: (.row (sv v785) 3 1 rs788.flatten) :: (.row (sv v789) 3 1 rs792.flatten) :: (.tok 83 3 [(sv v750)]) :: (.row (sv v741) 99 1 rs742.flatten) :: (.tok 3 1 [(sv v729)]) :: (.tok 23 1 [(sv v730)]) :: G = G' ∧ M_133z x736 x746 x725 x720 x737 x738 l786 l790 = some (y0, y1, y2) ∧ RowR Ty.i64 K' rs788 l786 ∧ RowR Ty.i64 K' rs792 l790) ?_ ?_
 ·skip
  obtain ⟨x793, hx794, H⟩ := bnd H
  obtain ⟨x799, hx800, H⟩ := bnd H
  refine Cw_region_any [.blk b756 102 (Desk.cells x746 v750 v751), .tok 83 3 [(sv v750)], .blk b722 85 (Draw_Codes.cells (Draw_Codes.mk x720.list x737 x738) v723), .row (sv v741) 99 1 rs742.flatten, .blk b735 34 (Config.cells x725 v729 v730), .tok 3 1 [(sv v729)], .tok 23 1 [(sv v730)], .blk b719 34 (Config.cells (Config.mk [] [] 0) nilS nilS)] rfl (Inc.cons (.head _) (Inc.cons (.tail _ (.head _)) (Inc.cons (.tail _ (.tail _ (.head _))) (Inc.cons (.tail _ (.tail _ (.tail _ (.head _)))) (Inc.cons (.tail _ (.tail _ (.tail _ (.tail _ (.head _))))) (Inc.cons (.tail _ (.tail _ (.tail _ (.tail _ (.tail _ (.head _)))))) (Inc.cons (.tail _ (.tail _ (.tail _ (.tail _ (.tail _ (.tail _ (.head _))))))) (Inc.cons (.tail _ (.tail _ (.tail _ (.tail _ (.tail _ (.tail _ (.tail _ (.head _)))))))) Inc.nil)))))))) ?_
  refine Aw_q 0 rfl (by kernel_rfl) (by kernel_rfl) (by kernel_rfl) rfl rfl rfl (Qt_fieldAddr (m := 2) rfl rfl rfl rfl rfl) ?_
  refine Aw_q 1 rfl (by kernel_rfl) (by kernel_rfl) (by kernel_rfl) rfl rfl rfl (Qt_load1 (v := (.int .i64 x725.threads)) rfl rfl rfl (Rdc.blk (.tail _ (.tail _ (.tail _ (.tail _ (.head _))))) rfl)) ?_
  refine Aw_q 3 rfl (by kernel_rfl) (by kernel_rfl) (by kernel_rfl) rfl rfl rfl (Qt_fieldAddr (m := 2) rfl rfl rfl rfl rfl) ?_
  refine Aw_q 4 rfl (by kernel_rfl) (by kernel_rfl) (by kernel_rfl) rfl rfl rfl (Qt_load1 (v := (.int .i64 x725.threads)) rfl rfl rfl (Rdc.blk (.tail _ (.tail _ (.tail _ (.tail _ (.head _))))) rfl)) ?_
  refine Aw_two 2 5 (by kernel_rfl) ?_ ?_
  ·skip
   refine id (Ax_mk rfl rfl ?_)
   refine O_make (T := Ty.i64) (r := [(.int .i64 0)]) rfl rfl rfl hx794 rfl rfl rfl rfl rfl rfl rfl rfl rfl rfl (fun v805 rs806 hR807 hz808 => ⟨(Inc.cons (.tail _ (.head _)) (Inc.cons (.tail _ (.tail _ (.head _))) (Inc.cons (.tail _ (.tail _ (.tail _ (.head _)))) (Inc.cons (.tail _ (.tail _ (.tail _ (.tail _ (.head _))))) (Inc.cons (.tail _ (.tail _ (.tail _ (.tail _ (.tail _ (.head _)))))) (Inc.cons (.tail _ (.tail _ (.tail _ (.tail _ (.tail _ (.tail _ (.head _))))))) (Inc.cons (.tail _ (.tail _ (.tail _ (.tail _ (.tail _ (.tail _ (.tail _ (.head _)))))))) (Inc.cons (.tail _ (.tail _ (.tail _ (.tail _ (.tail _ (.tail _ (.tail _ (.tail _ (.head _))))))))) Inc.nil)))))))), ?_⟩)
   refine Aw_q 6 rfl (by kernel_rfl) (by kernel_rfl) (by kernel_rfl) rfl rfl rfl (Qt_assign rfl) ?_
   refine Aw_one 5 (by kernel_rfl) (Ax_mk rfl rfl ?_)
   refine O_make (T := Ty.i64) (r := [(.int .i64 0)]) rfl rfl rfl hx800 rfl rfl rfl rfl rfl rfl rfl rfl rfl rfl (fun v809 rs810 hR811 hz812 => ⟨(Inc.cons (.tail _ (.tail _ (.head _))) (Inc.cons (.tail _ (.tail _ (.tail _ (.head _)))) (Inc.cons (.tail _ (.tail _ (.tail _ (.tail _ (.head _))))) (Inc.cons (.tail _ (.tail _ (.tail _ (.tail _ (.tail _ (.head _)))))) (Inc.cons (.tail _ (.tail _ (.tail _ (.tail _ (.tail _ (.tail _ (.head _))))))) (Inc.cons (.tail _ (.tail _ (.tail _ (.tail _ (.tail _ (.tail _ (.tail _ (.head _)))))))) (Inc.cons (.tail _ (.tail _ (.tail _ (.tail _ (.tail _ (.tail _ (.tail _ (.tail _ (.head _))))))))) (Inc.cons (.tail _ (.tail _ (.tail _ (.tail _ (.tail _ (.tail _ (.tail _ (.tail _ (.tail _ (.head _)))))))))) Inc.nil)))))))), ?_⟩)
   refine Aw_q 7 rfl (by kernel_rfl) (by kernel_rfl) (by kernel_rfl) rfl rfl rfl (Qt_assign rfl) ?_
   refine Aw_done (by kernel_rfl) ?_
   refine Shift.pull (.there (.there (.there (.there (.there (.there (.there (.there .here)))))))) ?_
   refine Shift.pull (.there (.there (.there (.there (.there (.there (.there (.there .here)))))))) ?_
   refine Shift.pull (.there (.there (.there (.there (.there (.there (.there .here))))))) ?_
   refine Shift.pull (.there (.there (.there (.there (.there (.there .here)))))) ?_
   refine Shift.pull (.there (.there (.there (.there .here)))) ?_
   refine Shift.pull (.there (.there (.there (.there (.there .here))))) ?_
   refine Shift.pull (.there (.there (.there (.there (.there (.there (.there (.there (.there .here))))))))) ?_
   refine Shift.pull (.there (.there (.there (.there (.there (.there (.there (.there .here)))))))) ?_
   refine Shift.pull (.there (.there (.there (.there (.there (.there (.there (.there (.there .here))))))))) ?_
   refine Shift.pull (.there (.there (.there (.there (.there (.there (.there (.there (.there .here))))))))) ?_
   refine Shift.done ?_
   exact ⟨[(2, (.pointer (some ((⟨b719, 0, none⟩ : Addr).add 0)))), (5, (.pointer (some ((⟨b722, 0, none⟩ : Addr).add 0)))), (6, (.pointer (some ((⟨b735, 0, none⟩ : Addr).add 0)))), (7, (sv v741)), (8, (.pointer (some ((⟨b756, 0, none⟩ : Addr).add 0)))), (9, (sv v805)), (10, (sv v809))], ⟨rfl, rfl, rfl, rfl, rfl, rfl, rfl, trivial⟩, v805, x793, rs806, v809, x799, rs810, rfl, rfl, rfl, H, hR807, hR811⟩
  ·skip
   refine id (Ax_mk rfl rfl ?_)
   refine O_make (T := Ty.i64) (r := [(.int .i64 0)]) rfl rfl rfl hx800 rfl rfl rfl rfl rfl rfl rfl rfl rfl rfl (fun v813 rs814 hR815 hz816 => ⟨(Inc.cons (.tail _ (.head _)) (Inc.cons (.tail _ (.tail _ (.head _))) (Inc.cons (.tail _ (.tail _ (.tail _ (.head _)))) (Inc.cons (.tail _ (.tail _ (.tail _ (.tail _ (.head _))))) (Inc.cons (.tail _ (.tail _ (.tail _ (.tail _ (.tail _ (.head _)))))) (Inc.cons (.tail _ (.tail _ (.tail _ (.tail _ (.tail _ (.tail _ (.head _))))))) (Inc.cons (.tail _ (.tail _ (.tail _ (.tail _ (.tail _ (.tail _ (.tail _ (.head _)))))))) (Inc.cons (.tail _ (.tail _ (.tail _ (.tail _ (.tail _ (.tail _ (.tail _ (.tail _ (.head _))))))))) Inc.nil)))))))), ?_⟩)
   refine Aw_one 2 (by kernel_rfl) (Ax_mk rfl rfl ?_)
   refine O_make (T := Ty.i64) (r := [(.int .i64 0)]) rfl rfl rfl hx794 rfl rfl rfl rfl rfl rfl rfl rfl rfl rfl (fun v817 rs818 hR819 hz820 => ⟨(Inc.cons (.tail _ (.tail _ (.head _))) (Inc.cons (.tail _ (.tail _ (.tail _ (.head _)))) (Inc.cons (.tail _ (.tail _ (.tail _ (.tail _ (.head _))))) (Inc.cons (.tail _ (.tail _ (.tail _ (.tail _ (.tail _ (.head _)))))) (Inc.cons (.tail _ (.tail _ (.tail _ (.tail _ (.tail _ (.tail _ (.head _))))))) (Inc.cons (.tail _ (.tail _ (.tail _ (.tail _ (.tail _ (.tail _ (.tail _ (.head _)))))))) (Inc.cons (.tail _ (.tail _ (.tail _ (.tail _ (.tail _ (.tail _ (.tail _ (.tail _ (.head _))))))))) (Inc.cons (.tail _ (.tail _ (.tail _ (.tail _ (.tail _ (.tail _ (.tail _ (.tail _ (.tail _ (.head _)))))))))) Inc.nil)))))))), ?_⟩)
   refine Aw_q 6 rfl (by kernel_rfl) (by kernel_rfl) (by kernel_rfl) rfl rfl rfl (Qt_assign rfl) ?_
   refine Aw_q 7 rfl (by kernel_rfl) (by kernel_rfl) (by kernel_rfl) rfl rfl rfl (Qt_assign rfl) ?_
   refine Aw_done (by kernel_rfl) ?_
   refine Shift.pull (.there (.there (.there (.there (.there (.there (.there (.there .here)))))))) ?_
   refine Shift.pull (.there (.there (.there (.there (.there (.there (.there (.there .here)))))))) ?_
   refine Shift.pull (.there (.there (.there (.there (.there (.there (.there .here))))))) ?_
   refine Shift.pull (.there (.there (.there (.there (.there (.there .here)))))) ?_
   refine Shift.pull (.there (.there (.there (.there (.there .here))))) ?_
   refine Shift.pull (.there (.there (.there (.there (.there .here))))) ?_
   refine Shift.pull (.there (.there (.there (.there (.there (.there (.there (.there (.there .here))))))))) ?_
   refine Shift.pull (.there (.there (.there (.there (.there (.there (.there (.there .here)))))))) ?_
   refine Shift.pull (.there (.there (.there (.there (.there (.there (.there (.there (.there .here))))))))) ?_
   refine Shift.pull (.there (.there (.there (.there (.there (.there (.there (.there (.there .here))))))))) ?_
   refine Shift.done ?_
   exact ⟨[(2, (.pointer (some ((⟨b719, 0, none⟩ : Addr).add 0)))), (5, (.pointer (some ((⟨b722, 0, none⟩ : Addr).add 0)))), (6, (.pointer (some ((⟨b735, 0, none⟩ : Addr).add 0)))), (7, (sv v741)), (8, (.pointer (some ((⟨b756, 0, none⟩ : Addr).add 0)))), (9, (sv v817)), (10, (sv v813))], ⟨rfl, rfl, rfl, rfl, rfl, rfl, rfl, trivial⟩, v817, x793, rs818, v813, x799, rs814, rfl, rfl, rfl, H, hR819, hR815⟩
 rintro _ _ _ - ⟨v785, l786, rs788, v789, l790, rs792, rfl, rfl, rfl, H, hR787, hR791⟩
 unfold M_133z at H
 refine Cw_seq ?_
 refine Cw_region ?_
 refine Ow_q rfl rfl rfl (Qt_fieldAddr (m := 2) rfl rfl rfl rfl rfl) ?_
 refine Ow_q rfl rfl rfl (Qt_load1 (v := (.int .i64 x725.threads)) rfl rfl rfl (Rdc.blk (.tail _ (.head _)) rfl)) ?_
 obtain ⟨x821, hx822, H⟩ := bnd H
 refine Ow_cons rfl (O_make (T := TyResult) (r := (Result.cells (Result.mk 0 0 0 false 0))) rfl rfl rfl hx822 rfl rfl rfl rfl rfl rfl rfl rfl rfl rfl (fun v823 rs824 hR825 hz826 => ?_))
 refine Ow_q rfl rfl rfl (Qt_assign rfl) ?_
 refine Ow_nil ?_
 refine Cw_seq ?_
 refine Cw_region ?_
 refine Ow_q rfl rfl rfl (Qt_assign rfl) ?_
 refine Ow_nil ?_
 refine Cw_join (fun env' K' G' => ∃ (v1455 : SV) (l1456 : List Event), [(2, (.pointer (some ((⟨b719, 0, none⟩ : Addr).add 0)))), (6, (.pointer (some ((⟨b735, 0, none⟩ : Addr).add 0)))), (7, (sv v741)), (12, (sv v1455))] = env' ∧ (.blk b735 34 (Config.cells x725 v729 v730)) :: (.blk b719 34 (Config.cells (Config.mk [] [] 0) nilS nilS)) :: (.tok 65 8 [(sv v1455)]) :: (.row (sv v741) 99 1 rs742.flatten) :: (.tok 3 1 [(sv v729)]) :: (.tok 23 1 [(sv v730)]) :: G = G' ∧ M_130z x736 x725 l1456 = some (y0, y1, y2) ∧ Slr TyEvent K' (sv v1455) l1456) ?_ ?_
 ·skip
  refine Cw_seq ?_
  refine Cw_region ?_
  refine Ow_q rfl rfl rfl (Qt_assign rfl) ?_
  refine Ow_nil ?_
  refine Cw_block ?_
  refine Cw_loopM (fun n2086 env' K' G' => ∃ (l2064 : List Int) (rs2066 : List (List Value)) (l2067 : List Int) (rs2069 : List (List Value)) (l2070 : List Result) (rs2072 : List (List Value)) (v2073 : SV) (l2074 : List Event) (i2076 : Int) (v2077 : SV) (l2078 : List Chan) (v2080 : SV) (l2081 : List Waiter) (i2083 : Int) (i2084 : Int) (i2085 : Int), [(2, (.pointer (some ((⟨b719, 0, none⟩ : Addr).add 0)))), (5, (.pointer (some ((⟨b722, 0, none⟩ : Addr).add 0)))), (6, (.pointer (some ((⟨b735, 0, none⟩ : Addr).add 0)))), (7, (sv v741)), (8, (.pointer (some ((⟨b756, 0, none⟩ : Addr).add 0)))), (9, (sv v785)), (10, (sv v789)), (11, (sv v823)), (12, (sv v2073)), (13, (.int .i64 i2076))] = env' ∧ (.blk b756 102 (Desk.cells (Desk.mk l2078 l2081 i2083) v2077 v2080)) :: (.blk b735 34 (Config.cells x725 v729 v730)) :: (.blk b722 85 (Draw_Codes.cells (Draw_Codes.mk x720.list i2084 i2085) v723)) :: (.blk b719 34 (Config.cells (Config.mk [] [] 0) nilS nilS)) :: (.row (sv v785) 3 1 rs2066.flatten) :: (.row (sv v789) 3 1 rs2069.flatten) :: (.row (sv v823) 25 5 rs2072.flatten) :: (.tok 65 8 [(sv v2073)]) :: (.row (sv v741) 99 1 rs742.flatten) :: (.tok 3 1 [(sv v729)]) :: (.tok 23 1 [(sv v730)]) :: G = G' ∧ lp10 (M_132z x736 x725 x720) n2086 l2064 l2067 l2070 l2074 i2076 l2078 l2081 i2083 i2084 i2085 = some (y0, y1, y2) ∧ RowR Ty.i64 K' rs2066 l2064 ∧ RowR Ty.i64 K' rs2069 l2067 ∧ RowR TyResult K' rs2072 l2070 ∧ Slr TyEvent K' (sv v2073) l2074 ∧ Slr TyChan K' (sv v2077) l2078 ∧ Slr TyWaiter K' (sv v2080) l2081) BIG ?_ ?_
  ·skip
   refine Shift.nilTok1 65 8 ?_
   refine Shift.pull (.there (.there (.there (.there (.there (.there (.there (.there (.there (.there (.there .here))))))))))) ?_
   refine Shift.pull (.there (.there (.there (.there (.there (.there (.there (.there (.there (.there (.there .here))))))))))) ?_
   refine Shift.pull (.there (.there (.there (.there (.there (.there (.there (.there (.there (.there (.there .here))))))))))) ?_
   refine Shift.pull (.there (.there (.there .here))) ?_
   refine Shift.pull (.there (.there (.there (.there .here)))) ?_
   refine Shift.pull (.there (.there (.there (.there (.there (.there (.there (.there (.there (.there .here)))))))))) ?_
   refine Shift.pull (.there (.there (.there (.there (.there (.there (.there (.there (.there (.there .here)))))))))) ?_
   refine Shift.pull (.there (.there (.there (.there (.there (.there (.there (.there (.there (.there .here)))))))))) ?_
   refine Shift.pull (.there (.there (.there (.there (.there (.there (.there (.there (.there (.there .here)))))))))) ?_
   refine Shift.pull (.there (.there (.there (.there (.there (.there (.there (.there (.there (.there .here)))))))))) ?_
   refine Shift.pull (.there (.there (.there (.there (.there (.there (.there (.there (.there (.there .here)))))))))) ?_
   refine Shift.rem (.there (.there (.there (.there (.there (.there (.there (.there (.there (.there (.there .here))))))))))) ?_
   refine Shift.done ?_
   exact ⟨[(2, (.pointer (some ((⟨b719, 0, none⟩ : Addr).add 0)))), (5, (.pointer (some ((⟨b722, 0, none⟩ : Addr).add 0)))), (6, (.pointer (some ((⟨b735, 0, none⟩ : Addr).add 0)))), (7, (sv v741)), (8, (.pointer (some ((⟨b756, 0, none⟩ : Addr).add 0)))), (9, (sv v785)), (10, (sv v789)), (11, (sv v823)), (12, (sv nilS)), (13, (.int .i64 0))], ⟨rfl, rfl, rfl, rfl, rfl, rfl, rfl, rfl, rfl, rfl, trivial⟩, l786, rs788, l790, rs792, x821, rs824, nilS, ([] : List Event), 0, v750, x746.chans, v751, x746.waiting, x746.tick, x737, x738, rfl, rfl, H, hR787, hR791, hR825, (Slr.nil TyEvent _), hs754, hs755⟩
  rintro n2086 _ K2087 _ hK2088 ⟨l2064, rs2066, l2067, rs2069, l2070, rs2072, v2073, l2074, i2076, v2077, l2078, v2080, l2081, i2083, i2084, i2085, rfl, rfl, H, hR2065, hR2068, hR2071, hs2075, hs2079, hs2082⟩
  obtain ⟨m2089, k2090, rfl, hkk2091, H⟩ := lps10 H
  unfold M_132z at H
  refine Cw_seq ?_
  refine Cw_join (fun env' K' G' => ∃ (t2104 : Bool) (i2105 : Int) (i2106 : Int), [(2, (.pointer (some ((⟨b719, 0, none⟩ : Addr).add 0)))), (5, (.pointer (some ((⟨b722, 0, none⟩ : Addr).add 0)))), (6, (.pointer (some ((⟨b735, 0, none⟩ : Addr).add 0)))), (7, (sv v741)), (8, (.pointer (some ((⟨b756, 0, none⟩ : Addr).add 0)))), (9, (sv v785)), (10, (sv v789)), (11, (sv v823)), (12, (sv v2073)), (13, (.int .i64 i2076)), (41, (.bool t2104))] = env' ∧ K2087 = K' ∧ (.blk b756 102 (Desk.cells (Desk.mk l2078 l2081 i2083) v2077 v2080)) :: (.blk b735 34 (Config.cells x725 v729 v730)) :: (.blk b722 85 (Draw_Codes.cells (Draw_Codes.mk x720.list i2105 i2106) v723)) :: (.blk b719 34 (Config.cells (Config.mk [] [] 0) nilS nilS)) :: (.row (sv v785) 3 1 rs2066.flatten) :: (.row (sv v789) 3 1 rs2069.flatten) :: (.row (sv v823) 25 5 rs2072.flatten) :: (.tok 65 8 [(sv v2073)]) :: (.row (sv v741) 99 1 rs742.flatten) :: (.tok 3 1 [(sv v729)]) :: (.tok 23 1 [(sv v730)]) :: G = G' ∧ M_60z x736 l2064 l2067 l2070 l2074 i2076 l2078 l2081 i2083 x725 x720 k2090 t2104 i2105 i2106 = some (y0, y1, y2)) ?_ ?_
  ·skip
   refine Cw_region ?_
   refine Ow_q rfl rfl rfl (Qt_move rfl) ?_
   refine Ow_q rfl rfl rfl (Qt_cmp rfl rfl rfl) ?_
   refine Ow_q rfl rfl rfl (Qt_move rfl) ?_
   refine Ow_caseG rfl rfl rfl ?_ ?_
   ·intro h2107
    have h2107 := dcd_t (h2107)
    have H := ift h2107 H
    refine Ow_qw rfl rfl rfl rfl rfl rfl (Qt_move rfl) ?_
    obtain ⟨x2108, hx2109, H⟩ := bnd H
    refine Ow.shift (Shift.pull (.there (.there .here)) (Shift.done ?_))
    have hs2110 := (((hs740).mono hK744).mono hK753).mono hK2088
    refine Ow_want rfl rfl rfl rfl (OpW_call rfl Try.call66 rfl rfl (c_M_47z b722 (Draw_Codes.mk x720.list i2084 i2085) v723 x2108 hx2109 _ _ hs2110) ?_)
    rintro _ _ _ - ⟨rfl, rfl, rfl⟩
    refine Ow_q rfl rfl rfl (Qt_pick_t rfl rfl) ?_
    refine Ow_nil ?_
    refine Shift.pull (.there (.there (.there (.there (.there (.there (.there (.there (.there (.there .here)))))))))) ?_
    refine Shift.pull (.there (.there (.there (.there (.there (.there (.there (.there (.there (.there .here)))))))))) ?_
    refine Shift.pull (.there (.there (.there (.there (.there (.there (.there (.there (.there (.there .here)))))))))) ?_
    refine Shift.pull (.there (.there (.there (.there (.there (.there (.there (.there (.there (.there .here)))))))))) ?_
    refine Shift.pull (.there (.there (.there (.there (.there (.there (.there (.there (.there (.there .here)))))))))) ?_
    refine Shift.pull (.there (.there (.there (.there (.there (.there (.there (.there (.there (.there .here)))))))))) ?_
    refine Shift.pull (.there (.there (.there (.there (.there (.there (.there (.there (.there (.there .here)))))))))) ?_
    refine Shift.pull (.there (.there (.there (.there (.there (.there (.there (.there (.there (.there .here)))))))))) ?_
    refine Shift.pull (.there (.there (.there (.there (.there (.there (.there (.there .here)))))))) ?_
    refine Shift.pull (.there (.there (.there (.there (.there (.there (.there (.there (.there (.there .here)))))))))) ?_
    refine Shift.pull (.there (.there (.there (.there (.there (.there (.there (.there (.there (.there .here)))))))))) ?_
    refine Shift.done ?_
    exact ⟨[(2, (.pointer (some ((⟨b719, 0, none⟩ : Addr).add 0)))), (5, (.pointer (some ((⟨b722, 0, none⟩ : Addr).add 0)))), (6, (.pointer (some ((⟨b735, 0, none⟩ : Addr).add 0)))), (7, (sv v741)), (8, (.pointer (some ((⟨b756, 0, none⟩ : Addr).add 0)))), (9, (sv v785)), (10, (sv v789)), (11, (sv v823)), (12, (sv v2073)), (13, (.int .i64 i2076)), (41, (.bool x2108))], ⟨rfl, rfl, rfl, rfl, rfl, rfl, rfl, rfl, rfl, rfl, rfl, trivial⟩, x2108, ((Draw_Codes.mk x720.list i2084 i2085).at_), ((Draw_Codes.mk x720.list i2084 i2085).value), rfl, rfl, rfl, H⟩
   ·intro h2107
    have h2107 := dcd_f (h2107)
    have H := iff_ h2107 H
    refine Ow_pass rfl rfl rfl rfl rfl rfl rfl ?_
    refine Ow_pass rfl rfl rfl rfl rfl rfl rfl ?_
    refine Ow_q rfl rfl rfl (Qt_pick_f rfl rfl) ?_
    refine Ow_nil ?_
    refine Shift.pull (.there (.there (.there (.there (.there (.there (.there (.there (.there (.there .here)))))))))) ?_
    refine Shift.pull (.there (.there (.there (.there (.there (.there (.there (.there (.there (.there .here)))))))))) ?_
    refine Shift.pull (.there (.there (.there (.there (.there (.there (.there (.there (.there (.there .here)))))))))) ?_
    refine Shift.pull (.there (.there (.there (.there (.there (.there (.there (.there (.there (.there .here)))))))))) ?_
    refine Shift.pull (.there (.there (.there (.there (.there (.there (.there (.there (.there (.there .here)))))))))) ?_
    refine Shift.pull (.there (.there (.there (.there (.there (.there (.there (.there (.there (.there .here)))))))))) ?_
    refine Shift.pull (.there (.there (.there (.there (.there (.there (.there (.there (.there (.there .here)))))))))) ?_
    refine Shift.pull (.there (.there (.there (.there (.there (.there (.there (.there (.there (.there .here)))))))))) ?_
    refine Shift.pull (.there (.there (.there (.there (.there (.there (.there (.there (.there (.there .here)))))))))) ?_
    refine Shift.pull (.there (.there (.there (.there (.there (.there (.there (.there (.there (.there .here)))))))))) ?_
    refine Shift.pull (.there (.there (.there (.there (.there (.there (.there (.there (.there (.there .here)))))))))) ?_
    refine Shift.done ?_
    exact ⟨[(2, (.pointer (some ((⟨b719, 0, none⟩ : Addr).add 0)))), (5, (.pointer (some ((⟨b722, 0, none⟩ : Addr).add 0)))), (6, (.pointer (some ((⟨b735, 0, none⟩ : Addr).add 0)))), (7, (sv v741)), (8, (.pointer (some ((⟨b756, 0, none⟩ : Addr).add 0)))), (9, (sv v785)), (10, (sv v789)), (11, (sv v823)), (12, (sv v2073)), (13, (.int .i64 i2076)), (41, (.bool false))], ⟨rfl, rfl, rfl, rfl, rfl, rfl, rfl, rfl, rfl, rfl, rfl, trivial⟩, false, i2084, i2085, rfl, rfl, rfl, H⟩
  rintro _ _ _ - ⟨t2104, i2105, i2106, rfl, rfl, rfl, H⟩
  unfold M_60z at H
  refine Cw_cond rfl ?_ ?_
  ·intro h2111
   have H := ift h2111 H
   refine Cw_skip ?_
   refine Cw_join (fun env' K' G' => ∃ (l2366 : List Int) (rs2368 : List (List Value)) (l2369 : List Int) (rs2371 : List (List Value)) (l2372 : List Result) (rs2374 : List (List Value)) (v2375 : SV) (l2376 : List Event) (v2378 : SV) (l2379 : List Chan) (v2381 : SV) (l2382 : List Waiter) (i2384 : Int) (i2385 : Int), [(2, (.pointer (some ((⟨b719, 0, none⟩ : Addr).add 0)))), (5, (.pointer (some ((⟨b722, 0, none⟩ : Addr).add 0)))), (6, (.pointer (some ((⟨b735, 0, none⟩ : Addr).add 0)))), (7, (sv v741)), (8, (.pointer (some ((⟨b756, 0, none⟩ : Addr).add 0)))), (9, (sv v785)), (10, (sv v789)), (11, (sv v823)), (12, (sv v2375)), (13, (.int .i64 i2076))] = env' ∧ (.blk b756 102 (Desk.cells (Desk.mk l2379 l2382 i2384) v2378 v2381)) :: (.blk b735 34 (Config.cells x725 v729 v730)) :: (.blk b722 85 (Draw_Codes.cells (Draw_Codes.mk x720.list i2385 ((Draw_Codes.mk x720.list i2105 i2106).value)) v723)) :: (.blk b719 34 (Config.cells (Config.mk [] [] 0) nilS nilS)) :: (.row (sv v785) 3 1 rs2368.flatten) :: (.row (sv v789) 3 1 rs2371.flatten) :: (.row (sv v823) 25 5 rs2374.flatten) :: (.tok 65 8 [(sv v2375)]) :: (.row (sv v741) 99 1 rs742.flatten) :: (.tok 3 1 [(sv v729)]) :: (.tok 23 1 [(sv v730)]) :: G = G' ∧ M_20z x736 i2076 x725 x720 i2105 i2106 k2090 l2366 l2369 l2372 l2376 l2379 l2382 i2384 i2385 = some (y0, y1, y2) ∧ RowR Ty.i64 K' rs2368 l2366 ∧ RowR Ty.i64 K' rs2371 l2369 ∧ RowR TyResult K' rs2374 l2372 ∧ Slr TyEvent K' (sv v2375) l2376 ∧ Slr TyChan K' (sv v2378) l2379 ∧ Slr TyWaiter K' (sv v2381) l2382) ?_ ?_
   ·skip
    refine Cw_block ?_
    refine Cw_seq ?_
    refine Cw_region ?_
    refine Ow_q rfl rfl rfl (Qt_move rfl) ?_
    refine Ow_q rfl rfl rfl (Qt_fieldAddr (m := 2) rfl rfl rfl rfl rfl) ?_
    refine Ow_q rfl rfl rfl (Qt_load1 (v := (.int .i64 x725.threads)) rfl rfl rfl (Rdc.blk (.tail _ (.head _)) rfl)) ?_
    obtain ⟨x2386, x2387, hx2388, H⟩ := bnd2 H
    refine Ow.shift (Shift.pull (.there (.there .here)) (Shift.done ?_))
    have hs2389 := (((hs740).mono hK744).mono hK753).mono hK2088
    refine Ow_cons rfl (OpW_call rfl Try.call27 rfl rfl (c_M_0z b722 (Draw_Codes.mk x720.list i2105 i2106) v723 x725.threads x2386 x2387 hx2388 _ _ hs2389) ?_)
    rintro _ _ _ - ⟨rfl, rfl, rfl⟩
    refine Ow_q rfl rfl rfl (Qt_assign rfl) ?_
    refine Ow_nil ?_
    refine Cw_block ?_
    refine Cw_join (fun env' K' G' => ∃ (t2424 : Bool), [(2, (.pointer (some ((⟨b719, 0, none⟩ : Addr).add 0)))), (5, (.pointer (some ((⟨b722, 0, none⟩ : Addr).add 0)))), (6, (.pointer (some ((⟨b735, 0, none⟩ : Addr).add 0)))), (7, (sv v741)), (8, (.pointer (some ((⟨b756, 0, none⟩ : Addr).add 0)))), (9, (sv v785)), (10, (sv v789)), (11, (sv v823)), (12, (sv v2073)), (13, (.int .i64 i2076)), (14, (.int .i64 x2386)), (48, (.bool t2424))] = env' ∧ K2087 = K' ∧ (.blk b756 102 (Desk.cells (Desk.mk l2078 l2081 i2083) v2077 v2080)) :: (.blk b735 34 (Config.cells x725 v729 v730)) :: (.blk b722 85 (Draw_Codes.cells (Draw_Codes.mk x720.list x2387 ((Draw_Codes.mk x720.list i2105 i2106).value)) v723)) :: (.blk b719 34 (Config.cells (Config.mk [] [] 0) nilS nilS)) :: (.row (sv v785) 3 1 rs2066.flatten) :: (.row (sv v789) 3 1 rs2069.flatten) :: (.row (sv v823) 25 5 rs2072.flatten) :: (.tok 65 8 [(sv v2073)]) :: (.row (sv v741) 99 1 rs742.flatten) :: (.tok 3 1 [(sv v729)]) :: (.tok 23 1 [(sv v730)]) :: G = G' ∧ M_21z x736 l2064 l2067 l2070 l2074 i2076 x2386 l2078 l2081 i2083 x725 x720 x2387 i2105 i2106 k2090 t2424 = some (y0, y1, y2)) ?_ ?_
    ·skip
     obtain ⟨x2425, hx2426, H⟩ := bnd H
     rcases bool_ct (dcd (x2425 = 0)) with hb_ | hb_ <;> revert hb_
     ·intro h2430
      have h2430 := dcd_t (h2430)
      have H := ift h2430 H
      obtain ⟨x2431, hx2432, H⟩ := bnd H
      obtain ⟨x2436, hx2437, H⟩ := bnd H
      refine Cw_region_any [.blk b722 85 (Draw_Codes.cells (Draw_Codes.mk x720.list x2387 ((Draw_Codes.mk x720.list i2105 i2106).value)) v723), .blk b756 102 (Desk.cells (Desk.mk l2078 l2081 i2083) v2077 v2080), .blk b735 34 (Config.cells x725 v729 v730), .blk b719 34 (Config.cells (Config.mk [] [] 0) nilS nilS), .row (sv v785) 3 1 rs2066.flatten, .row (sv v789) 3 1 rs2069.flatten, .row (sv v823) 25 5 rs2072.flatten, .tok 65 8 [(sv v2073)], .row (sv v741) 99 1 rs742.flatten, .tok 3 1 [(sv v729)], .tok 23 1 [(sv v730)]] rfl (Inc.cons (.head _) (Inc.cons (.tail _ (.head _)) (Inc.cons (.tail _ (.tail _ (.head _))) (Inc.cons (.tail _ (.tail _ (.tail _ (.head _)))) (Inc.cons (.tail _ (.tail _ (.tail _ (.tail _ (.head _))))) (Inc.cons (.tail _ (.tail _ (.tail _ (.tail _ (.tail _ (.head _)))))) (Inc.cons (.tail _ (.tail _ (.tail _ (.tail _ (.tail _ (.tail _ (.head _))))))) (Inc.cons (.tail _ (.tail _ (.tail _ (.tail _ (.tail _ (.tail _ (.tail _ (.head _)))))))) (Inc.cons (.tail _ (.tail _ (.tail _ (.tail _ (.tail _ (.tail _ (.tail _ (.tail _ (.head _))))))))) (Inc.cons (.tail _ (.tail _ (.tail _ (.tail _ (.tail _ (.tail _ (.tail _ (.tail _ (.tail _ (.head _)))))))))) (Inc.cons (.tail _ (.tail _ (.tail _ (.tail _ (.tail _ (.tail _ (.tail _ (.tail _ (.tail _ (.tail _ (.head _))))))))))) Inc.nil))))))))))) ?_
      refine Aw_q 0 rfl (by kernel_rfl) (by kernel_rfl) (by kernel_rfl) rfl rfl rfl (Qt_move rfl) ?_
      refine Aw_q 1 rfl (by kernel_rfl) (by kernel_rfl) (by kernel_rfl) rfl rfl rfl (Qt_move rfl) ?_
      obtain ⟨r2444, hq2445, hr2446⟩ := RowR.at hR2068 hx2426
      obtain rfl := hr2446
      refine Aw_q 2 rfl (by kernel_rfl) (by kernel_rfl) (by kernel_rfl) rfl rfl rfl (Q_ixR (T := Ty.i64) (.tail _ (.tail _ (.tail _ (.tail _ (.tail _ (.head _)))))) hR2068 hq2445 (getI_ix hx2426).1 rfl rfl rfl rfl rfl) ?_
      refine Aw_q 3 rfl (by kernel_rfl) (by kernel_rfl) (by kernel_rfl) rfl rfl rfl (Qt_load1 (v := (.int .i64 x2425)) rfl rfl rfl (Rd_row (T := Ty.i64) (.tail _ (.tail _ (.tail _ (.tail _ (.tail _ (.head _)))))) hR2068 hq2445 rfl rfl)) ?_
      refine Aw_q 4 rfl (by kernel_rfl) (by kernel_rfl) (by kernel_rfl) rfl rfl rfl (Qt_cmp rfl rfl rfl) ?_
      refine Aw_q 5 rfl (by kernel_rfl) (by kernel_rfl) (by kernel_rfl) rfl rfl rfl (Qt_move rfl) ?_
      refine Aw.known (d := 54) rfl (dcd_pos h2430) ?_
      refine Aw_qw 6 rfl (by kernel_rfl) (by kernel_rfl) (by kernel_rfl) rfl rfl rfl rfl rfl rfl (Qt_move rfl) ?_
      refine Aw_qw 7 rfl (by kernel_rfl) (by kernel_rfl) (by kernel_rfl) rfl rfl rfl rfl rfl rfl (Qt_move rfl) ?_
      obtain ⟨r2447, hq2448, hr2449⟩ := RowR.at hR2065 hx2432
      obtain rfl := hr2449
      refine Aw_qw 8 rfl (by kernel_rfl) (by kernel_rfl) (by kernel_rfl) rfl rfl rfl rfl rfl rfl (Q_ixR (T := Ty.i64) (.tail _ (.tail _ (.tail _ (.tail _ (.head _))))) hR2065 hq2448 (getI_ix hx2432).1 rfl rfl rfl rfl rfl) ?_
      refine Aw_qw 9 rfl (by kernel_rfl) (by kernel_rfl) (by kernel_rfl) rfl rfl rfl rfl rfl rfl (Qt_load1 (v := (.int .i64 x2431)) rfl rfl rfl (Rd_row (T := Ty.i64) (.tail _ (.tail _ (.tail _ (.tail _ (.head _))))) hR2065 hq2448 rfl rfl)) ?_
      refine Aw_qw 10 rfl (by kernel_rfl) (by kernel_rfl) (by kernel_rfl) rfl rfl rfl rfl rfl rfl (Qt_move rfl) ?_
      refine Aw_qw 11 rfl (by kernel_rfl) (by kernel_rfl) (by kernel_rfl) rfl rfl rfl rfl rfl rfl (Qt_move rfl) ?_
      have hs2450 := ((hs745).mono hK753).mono hK2088
      obtain ⟨r2451, hq2452, hr2453⟩ := RowR.at hs2450 hx2437
      obtain ⟨v2454, rfl, hs2455⟩ := hr2453
      refine Aw_qw 12 rfl (by kernel_rfl) (by kernel_rfl) (by kernel_rfl) rfl rfl rfl rfl rfl rfl (Q_ixR (T := (Ty.sl TyOp)) (.tail _ (.tail _ (.tail _ (.tail _ (.tail _ (.tail _ (.tail _ (.tail _ (.head _))))))))) hs2450 hq2452 (getI_ix hx2437).1 rfl rfl rfl rfl rfl) ?_
      refine Aw_qw 13 rfl (by kernel_rfl) (by kernel_rfl) (by kernel_rfl) rfl rfl rfl rfl rfl rfl (Qt_load1 (v := (sv v2454)) rfl rfl rfl (Rd_row (T := (Ty.sl TyOp)) (.tail _ (.tail _ (.tail _ (.tail _ (.tail _ (.tail _ (.tail _ (.tail _ (.head _))))))))) hs2450 hq2452 rfl rfl)) ?_
      refine Aw_qw 14 rfl (by kernel_rfl) (by kernel_rfl) (by kernel_rfl) rfl rfl rfl rfl rfl rfl (Q_len (T := TyOp) hs2455 rfl rfl) ?_
      refine Aw_qw 15 rfl (by kernel_rfl) (by kernel_rfl) (by kernel_rfl) rfl rfl rfl rfl rfl rfl (Qt_cmp rfl rfl rfl) ?_
      refine Aw_q 16 rfl (by kernel_rfl) (by kernel_rfl) (by kernel_rfl) rfl rfl rfl (Qt_pick_t rfl rfl) ?_
      refine Aw_q 17 rfl (by kernel_rfl) (by kernel_rfl) (by kernel_rfl) rfl rfl rfl (Qt_assign rfl) ?_
      refine Aw_done (by kernel_rfl) ?_
      refine Shift.pull (.there (.there (.there (.there (.there (.there (.there (.there (.there (.there .here)))))))))) ?_
      refine Shift.pull (.there (.there (.there (.there (.there (.there (.there (.there (.there (.there .here)))))))))) ?_
      refine Shift.pull (.there (.there (.there (.there (.there (.there (.there (.there (.there (.there .here)))))))))) ?_
      refine Shift.pull (.there (.there (.there (.there (.there (.there (.there (.there (.there (.there .here)))))))))) ?_
      refine Shift.pull (.there (.there (.there (.there (.there (.there (.there (.there (.there (.there .here)))))))))) ?_
      refine Shift.pull (.there (.there (.there (.there (.there (.there (.there (.there (.there (.there .here)))))))))) ?_
      refine Shift.pull (.there (.there (.there (.there (.there (.there (.there (.there (.there (.there .here)))))))))) ?_
      refine Shift.pull (.there (.there (.there (.there (.there (.there (.there (.there (.there (.there .here)))))))))) ?_
      refine Shift.pull (.there (.there (.there (.there (.there (.there (.there (.there .here)))))))) ?_
      refine Shift.pull (.there (.there (.there (.there (.there (.there (.there (.there (.there (.there .here)))))))))) ?_
      refine Shift.pull (.there (.there (.there (.there (.there (.there (.there (.there (.there (.there .here)))))))))) ?_
      refine Shift.done ?_
      exact ⟨[(2, (.pointer (some ((⟨b719, 0, none⟩ : Addr).add 0)))), (5, (.pointer (some ((⟨b722, 0, none⟩ : Addr).add 0)))), (6, (.pointer (some ((⟨b735, 0, none⟩ : Addr).add 0)))), (7, (sv v741)), (8, (.pointer (some ((⟨b756, 0, none⟩ : Addr).add 0)))), (9, (sv v785)), (10, (sv v789)), (11, (sv v823)), (12, (sv v2073)), (13, (.int .i64 i2076)), (14, (.int .i64 x2386)), (48, (.bool (dcd (x2431 < (x2436.length : Int)))))], ⟨rfl, rfl, rfl, rfl, rfl, rfl, rfl, rfl, rfl, rfl, rfl, rfl, trivial⟩, (dcd (x2431 < (x2436.length : Int))), rfl, rfl, rfl, H⟩
     ·intro h2430
      have h2430 := dcd_f (h2430)
      have H := iff_ h2430 H
      refine Cw_region_any [.blk b722 85 (Draw_Codes.cells (Draw_Codes.mk x720.list x2387 ((Draw_Codes.mk x720.list i2105 i2106).value)) v723), .blk b756 102 (Desk.cells (Desk.mk l2078 l2081 i2083) v2077 v2080), .blk b735 34 (Config.cells x725 v729 v730), .blk b719 34 (Config.cells (Config.mk [] [] 0) nilS nilS), .row (sv v785) 3 1 rs2066.flatten, .row (sv v789) 3 1 rs2069.flatten, .row (sv v823) 25 5 rs2072.flatten, .tok 65 8 [(sv v2073)], .row (sv v741) 99 1 rs742.flatten, .tok 3 1 [(sv v729)], .tok 23 1 [(sv v730)]] rfl (Inc.cons (.head _) (Inc.cons (.tail _ (.head _)) (Inc.cons (.tail _ (.tail _ (.head _))) (Inc.cons (.tail _ (.tail _ (.tail _ (.head _)))) (Inc.cons (.tail _ (.tail _ (.tail _ (.tail _ (.head _))))) (Inc.cons (.tail _ (.tail _ (.tail _ (.tail _ (.tail _ (.head _)))))) (Inc.cons (.tail _ (.tail _ (.tail _ (.tail _ (.tail _ (.tail _ (.head _))))))) (Inc.cons (.tail _ (.tail _ (.tail _ (.tail _ (.tail _ (.tail _ (.tail _ (.head _)))))))) (Inc.cons (.tail _ (.tail _ (.tail _ (.tail _ (.tail _ (.tail _ (.tail _ (.tail _ (.head _))))))))) (Inc.cons (.tail _ (.tail _ (.tail _ (.tail _ (.tail _ (.tail _ (.tail _ (.tail _ (.tail _ (.head _)))))))))) (Inc.cons (.tail _ (.tail _ (.tail _ (.tail _ (.tail _ (.tail _ (.tail _ (.tail _ (.tail _ (.tail _ (.head _))))))))))) Inc.nil))))))))))) ?_
      refine Aw_q 0 rfl (by kernel_rfl) (by kernel_rfl) (by kernel_rfl) rfl rfl rfl (Qt_move rfl) ?_
      refine Aw_q 1 rfl (by kernel_rfl) (by kernel_rfl) (by kernel_rfl) rfl rfl rfl (Qt_move rfl) ?_
      obtain ⟨r2456, hq2457, hr2458⟩ := RowR.at hR2068 hx2426
      obtain rfl := hr2458
      refine Aw_q 2 rfl (by kernel_rfl) (by kernel_rfl) (by kernel_rfl) rfl rfl rfl (Q_ixR (T := Ty.i64) (.tail _ (.tail _ (.tail _ (.tail _ (.tail _ (.head _)))))) hR2068 hq2457 (getI_ix hx2426).1 rfl rfl rfl rfl rfl) ?_
      refine Aw_q 3 rfl (by kernel_rfl) (by kernel_rfl) (by kernel_rfl) rfl rfl rfl (Qt_load1 (v := (.int .i64 x2425)) rfl rfl rfl (Rd_row (T := Ty.i64) (.tail _ (.tail _ (.tail _ (.tail _ (.tail _ (.head _)))))) hR2068 hq2457 rfl rfl)) ?_
      refine Aw_q 4 rfl (by kernel_rfl) (by kernel_rfl) (by kernel_rfl) rfl rfl rfl (Qt_cmp rfl rfl rfl) ?_
      refine Aw_q 5 rfl (by kernel_rfl) (by kernel_rfl) (by kernel_rfl) rfl rfl rfl (Qt_move rfl) ?_
      refine Aw.known (d := 54) rfl (dcd_neg h2430) ?_
      refine Aw_pass 6 rfl (by kernel_rfl) (by kernel_rfl) (by kernel_rfl) rfl rfl rfl rfl rfl rfl rfl ?_
      refine Aw_pass 7 rfl (by kernel_rfl) (by kernel_rfl) (by kernel_rfl) rfl rfl rfl rfl rfl rfl rfl ?_
      refine Aw_pass 8 rfl (by kernel_rfl) (by kernel_rfl) (by kernel_rfl) rfl rfl rfl rfl rfl rfl rfl ?_
      refine Aw_pass 9 rfl (by kernel_rfl) (by kernel_rfl) (by kernel_rfl) rfl rfl rfl rfl rfl rfl rfl ?_
      refine Aw_pass 10 rfl (by kernel_rfl) (by kernel_rfl) (by kernel_rfl) rfl rfl rfl rfl rfl rfl rfl ?_
      refine Aw_pass 11 rfl (by kernel_rfl) (by kernel_rfl) (by kernel_rfl) rfl rfl rfl rfl rfl rfl rfl ?_
      refine Aw_pass 12 rfl (by kernel_rfl) (by kernel_rfl) (by kernel_rfl) rfl rfl rfl rfl rfl rfl rfl ?_
      refine Aw_pass 13 rfl (by kernel_rfl) (by kernel_rfl) (by kernel_rfl) rfl rfl rfl rfl rfl rfl rfl ?_
      refine Aw_pass 14 rfl (by kernel_rfl) (by kernel_rfl) (by kernel_rfl) rfl rfl rfl rfl rfl rfl rfl ?_
      refine Aw_pass 15 rfl (by kernel_rfl) (by kernel_rfl) (by kernel_rfl) rfl rfl rfl rfl rfl rfl rfl ?_
      refine Aw_q 16 rfl (by kernel_rfl) (by kernel_rfl) (by kernel_rfl) rfl rfl rfl (Qt_pick_f rfl rfl) ?_
      refine Aw_q 17 rfl (by kernel_rfl) (by kernel_rfl) (by kernel_rfl) rfl rfl rfl (Qt_assign rfl) ?_
      refine Aw_done (by kernel_rfl) ?_
      refine Shift.pull (.there (.there (.there (.there (.there (.there (.there (.there (.there (.there .here)))))))))) ?_
      refine Shift.pull (.there (.there (.there (.there (.there (.there (.there (.there (.there (.there .here)))))))))) ?_
      refine Shift.pull (.there (.there (.there (.there (.there (.there (.there (.there (.there (.there .here)))))))))) ?_
      refine Shift.pull (.there (.there (.there (.there (.there (.there (.there (.there (.there (.there .here)))))))))) ?_
      refine Shift.pull (.there (.there (.there (.there (.there (.there (.there (.there (.there (.there .here)))))))))) ?_
      refine Shift.pull (.there (.there (.there (.there (.there (.there (.there (.there (.there (.there .here)))))))))) ?_
      refine Shift.pull (.there (.there (.there (.there (.there (.there (.there (.there (.there (.there .here)))))))))) ?_
      refine Shift.pull (.there (.there (.there (.there (.there (.there (.there (.there (.there (.there .here)))))))))) ?_
      refine Shift.pull (.there (.there (.there (.there (.there (.there (.there (.there .here)))))))) ?_
      refine Shift.pull (.there (.there (.there (.there (.there (.there (.there (.there (.there (.there .here)))))))))) ?_
      refine Shift.pull (.there (.there (.there (.there (.there (.there (.there (.there (.there (.there .here)))))))))) ?_
      refine Shift.done ?_
      exact ⟨[(2, (.pointer (some ((⟨b719, 0, none⟩ : Addr).add 0)))), (5, (.pointer (some ((⟨b722, 0, none⟩ : Addr).add 0)))), (6, (.pointer (some ((⟨b735, 0, none⟩ : Addr).add 0)))), (7, (sv v741)), (8, (.pointer (some ((⟨b756, 0, none⟩ : Addr).add 0)))), (9, (sv v785)), (10, (sv v789)), (11, (sv v823)), (12, (sv v2073)), (13, (.int .i64 i2076)), (14, (.int .i64 x2386)), (48, (.bool false))], ⟨rfl, rfl, rfl, rfl, rfl, rfl, rfl, rfl, rfl, rfl, rfl, rfl, trivial⟩, false, rfl, rfl, rfl, H⟩
    rintro _ _ _ - ⟨t2424, rfl, rfl, rfl, H⟩
    unfold M_21z at H
    refine Cw_cond rfl ?_ ?_
    ·intro h2459
     have H := ift h2459 H
     refine Cw_seq ?_
     refine Cw_region ?_
     refine Ow_q rfl rfl rfl (Qt_move rfl) ?_
     refine Ow_q rfl rfl rfl (Qt_move rfl) ?_
     refine Ow_q rfl rfl rfl (Qt_move rfl) ?_
     refine Ow_q rfl rfl rfl (Qt_move rfl) ?_
     obtain ⟨x2460, hx2461, H⟩ := bnd H
     obtain ⟨r2462, hq2463, hr2464⟩ := RowR.at hR2065 hx2461
     obtain rfl := hr2464
     refine Ow_q rfl rfl rfl (Q_ixR (T := Ty.i64) (.tail _ (.tail _ (.tail _ (.tail _ (.head _))))) hR2065 hq2463 (getI_ix hx2461).1 rfl rfl rfl rfl rfl) ?_
     refine Ow_q rfl rfl rfl (Qt_load1 (v := (.int .i64 x2460)) rfl rfl rfl (Rd_row (T := Ty.i64) (.tail _ (.tail _ (.tail _ (.tail _ (.head _))))) hR2065 hq2463 rfl rfl)) ?_
     refine Ow_q rfl rfl rfl (Qt_build (cs := (Event.cells (Event.mk x2386 x2460 false (Result.mk 0 0 0 false 0)))) rfl rfl rfl rfl rfl rfl) ?_
     have hR2466 : RowR TyEvent K2087 [(Event.cells (Event.mk x2386 x2460 false (Result.mk 0 0 0 false 0)))] [(Event.mk x2386 x2460 false (Result.mk 0 0 0 false 0))] := RowR.cons rfl (RowR.nil)
     refine Ow_cons rfl (O_lit (T := TyEvent) (rows := [(Event.cells (Event.mk x2386 x2460 false (Result.mk 0 0 0 false 0)))]) (l := [(Event.mk x2386 x2460 false (Result.mk 0 0 0 false 0))]) rfl rfl rfl hR2466 rfl rfl rfl rfl rfl rfl rfl rfl (fun v2465 => ?_))
     obtain ⟨x2467, hx2468, H⟩ := bnd H
     refine Ow_cons rfl (O_appTok (T := TyEvent) (bytes := 64) (q := 0) rfl rfl rfl hs2075 (.tail _ (.tail _ (.tail _ (.tail _ (.tail _ (.tail _ (.tail _ (.tail _ (.head _))))))))) rfl (SrcT.row (.head _) hR2466 rfl) hx2468 rfl rfl rfl rfl rfl rfl rfl rfl (fun v2469 K2470 hK2471 hs2472 => ⟨_, (.there (.there (.there (.there (.there (.there (.there (.there .here)))))))), ?_⟩))
     refine Ow.shift (Shift.rem .here (Shift.done ?_))
     refine Ow_q rfl rfl rfl (Qt_assign rfl) ?_
     refine Ow_nil ?_
     refine Cw_region ?_
     refine Ow_q rfl rfl rfl (Qt_move rfl) ?_
     refine Ow_q rfl rfl rfl (Qt_move rfl) ?_
     obtain ⟨x2473, hx2474, H⟩ := bnd H
     have hs2475 := (hR2068).mono hK2471
     obtain ⟨r2476, hq2477, hr2478⟩ := RowR.at hs2475 hx2474
     obtain rfl := hr2478
     refine Ow_q rfl rfl rfl (Q_ixR (T := Ty.i64) (.tail _ (.tail _ (.tail _ (.tail _ (.tail _ (.head _)))))) hs2475 hq2477 (getI_ix hx2474).1 rfl rfl rfl rfl rfl) ?_
     refine Ow_cons rfl (O_storeR (T := Ty.i64) (vs := [(.int .i64 1)]) (r' := [(.int .i64 1)]) (l' := (setI l2067 x2386 1)) rfl rfl rfl rfl rfl (.there (.there (.there (.there (.there .here))))) hs2475 hq2477 rfl rfl rfl (RowR.set x2386 hs2475 rfl) (fun hR2479 => ?_))
     have hE2480 := set_at hq2477 (v := [(.int .i64 1)])
     refine Ow_nil ?_
     refine Shift.pull (.there (.there (.there (.there (.there (.there (.there (.there (.there (.there .here)))))))))) ?_
     refine Shift.pull (.there (.there (.there (.there (.there (.there (.there (.there (.there (.there .here)))))))))) ?_
     refine Shift.pull (.there (.there (.there (.there (.there (.there (.there (.there (.there (.there .here)))))))))) ?_
     refine Shift.pull (.there (.there (.there (.there (.there (.there (.there (.there (.there (.there .here)))))))))) ?_
     refine Shift.pull (.there (.there (.there (.there (.there (.there (.there (.there (.there (.there .here)))))))))) ?_
     refine Shift.pull (.there (.there (.there (.there (.there (.there (.there (.there (.there (.there .here)))))))))) ?_
     refine Shift.pull (.there (.there (.there (.there (.there (.there (.there (.there (.there (.there .here)))))))))) ?_
     refine Shift.pull (.there (.there (.there (.there (.there (.there (.there (.there (.there (.there .here)))))))))) ?_
     refine Shift.pull (.there (.there (.there (.there (.there (.there (.there (.there (.there (.there .here)))))))))) ?_
     refine Shift.pull (.there (.there (.there (.there (.there (.there (.there (.there (.there (.there .here)))))))))) ?_
     refine Shift.pull (.there (.there (.there (.there (.there (.there (.there (.there (.there (.there .here)))))))))) ?_
     have hs2481 := (hR2065).mono hK2471
     have hs2482 := (hR2071).mono hK2471
     have hs2483 := (hs2079).mono hK2471
     have hs2484 := (hs2082).mono hK2471
     refine Shift.done ?_
     exact ⟨[(2, (.pointer (some ((⟨b719, 0, none⟩ : Addr).add 0)))), (5, (.pointer (some ((⟨b722, 0, none⟩ : Addr).add 0)))), (6, (.pointer (some ((⟨b735, 0, none⟩ : Addr).add 0)))), (7, (sv v741)), (8, (.pointer (some ((⟨b756, 0, none⟩ : Addr).add 0)))), (9, (sv v785)), (10, (sv v789)), (11, (sv v823)), (12, (sv v2469)), (13, (.int .i64 i2076))], ⟨rfl, rfl, rfl, rfl, rfl, rfl, rfl, rfl, rfl, rfl, trivial⟩, l2064, rs2066, (setI l2067 x2386 1), (rs2069.set x2386.toNat [(.int .i64 1)]), l2070, rs2072, v2469, x2467, v2077, l2078, v2080, l2081, i2083, x2387, rfl, rfl, H, hs2481, hR2479, hs2482, hs2472, hs2483, hs2484⟩
    ·intro h2459
     have H := iff_ (btf h2459) H
     refine Cw_seq ?_
     refine Cw_region ?_
     refine Ow_q rfl rfl rfl (Qt_move rfl) ?_
     refine Ow_q rfl rfl rfl (Qt_move rfl) ?_
     obtain ⟨x2485, hx2486, H⟩ := bnd H
     obtain ⟨r2487, hq2488, hr2489⟩ := RowR.at hR2068 hx2486
     obtain rfl := hr2489
     refine Ow_q rfl rfl rfl (Q_ixR (T := Ty.i64) (.tail _ (.tail _ (.tail _ (.tail _ (.tail _ (.head _)))))) hR2068 hq2488 (getI_ix hx2486).1 rfl rfl rfl rfl rfl) ?_
     refine Ow_q rfl rfl rfl (Qt_load1 (v := (.int .i64 x2485)) rfl rfl rfl (Rd_row (T := Ty.i64) (.tail _ (.tail _ (.tail _ (.tail _ (.tail _ (.head _)))))) hR2068 hq2488 rfl rfl)) ?_
     refine Ow_q rfl rfl rfl (Qt_cmp rfl rfl rfl) ?_
     refine Ow_q rfl rfl rfl (Qt_assign rfl) ?_
     refine Ow_nil ?_
     refine Cw_cond rfl ?_ ?_
     ·intro h2490
      have h2490 := dcd_t (h2490)
      have H := ift h2490 H
      refine Cw_seq ?_
      refine Cw_region ?_
      refine Ow_q rfl rfl rfl (Qt_assign rfl) ?_
      refine Ow_nil ?_
      refine Cw_seq ?_
      obtain ⟨x2549, hx2550, H⟩ := bnd H
      obtain ⟨x2557, hx2558, H⟩ := bnd H
      obtain ⟨x2562, hx2563, H⟩ := bnd H
      obtain ⟨x2571, x2572, x2573, hx2574, H⟩ := bnd3 H
      refine Cw_region_any [.blk b735 34 (Config.cells x725 v729 v730), .blk b722 85 (Draw_Codes.cells (Draw_Codes.mk x720.list x2387 ((Draw_Codes.mk x720.list i2105 i2106).value)) v723), .blk b719 34 (Config.cells (Config.mk [] [] 0) nilS nilS), .row (sv v785) 3 1 rs2066.flatten, .row (sv v789) 3 1 rs2069.flatten, .row (sv v823) 25 5 rs2072.flatten, .tok 65 8 [(sv v2073)], .row (sv v741) 99 1 rs742.flatten, .tok 3 1 [(sv v729)], .tok 23 1 [(sv v730)]] rfl (Inc.cons (.tail _ (.head _)) (Inc.cons (.tail _ (.tail _ (.head _))) (Inc.cons (.tail _ (.tail _ (.tail _ (.head _)))) (Inc.cons (.tail _ (.tail _ (.tail _ (.tail _ (.head _))))) (Inc.cons (.tail _ (.tail _ (.tail _ (.tail _ (.tail _ (.head _)))))) (Inc.cons (.tail _ (.tail _ (.tail _ (.tail _ (.tail _ (.tail _ (.head _))))))) (Inc.cons (.tail _ (.tail _ (.tail _ (.tail _ (.tail _ (.tail _ (.tail _ (.head _)))))))) (Inc.cons (.tail _ (.tail _ (.tail _ (.tail _ (.tail _ (.tail _ (.tail _ (.tail _ (.head _))))))))) (Inc.cons (.tail _ (.tail _ (.tail _ (.tail _ (.tail _ (.tail _ (.tail _ (.tail _ (.tail _ (.head _)))))))))) (Inc.cons (.tail _ (.tail _ (.tail _ (.tail _ (.tail _ (.tail _ (.tail _ (.tail _ (.tail _ (.tail _ (.head _))))))))))) Inc.nil)))))))))) ?_
      refine Aw_q 1 rfl (by kernel_rfl) (by kernel_rfl) (by kernel_rfl) rfl rfl rfl (Qt_move rfl) ?_
      refine Aw_q 2 rfl (by kernel_rfl) (by kernel_rfl) (by kernel_rfl) rfl rfl rfl (Qt_move rfl) ?_
      refine Aw_q 3 rfl (by kernel_rfl) (by kernel_rfl) (by kernel_rfl) rfl rfl rfl (Qt_move rfl) ?_
      have hs2583 := ((hs745).mono hK753).mono hK2088
      obtain ⟨r2584, hq2585, hr2586⟩ := RowR.at hs2583 hx2550
      obtain ⟨v2587, rfl, hs2588⟩ := hr2586
      refine Aw_q 4 rfl (by kernel_rfl) (by kernel_rfl) (by kernel_rfl) rfl rfl rfl (Q_ixR (T := (Ty.sl TyOp)) (.tail _ (.tail _ (.tail _ (.tail _ (.tail _ (.tail _ (.tail _ (.head _)))))))) hs2583 hq2585 (getI_ix hx2550).1 rfl rfl rfl rfl rfl) ?_
      refine Aw_q 5 rfl (by kernel_rfl) (by kernel_rfl) (by kernel_rfl) rfl rfl rfl (Qt_load1 (v := (sv v2587)) rfl rfl rfl (Rd_row (T := (Ty.sl TyOp)) (.tail _ (.tail _ (.tail _ (.tail _ (.tail _ (.tail _ (.tail _ (.head _)))))))) hs2583 hq2585 rfl rfl)) ?_
      refine Aw_q 6 rfl (by kernel_rfl) (by kernel_rfl) (by kernel_rfl) rfl rfl rfl (Qt_move rfl) ?_
      refine Aw_q 7 rfl (by kernel_rfl) (by kernel_rfl) (by kernel_rfl) rfl rfl rfl (Qt_move rfl) ?_
      obtain ⟨r2589, hq2590, hr2591⟩ := RowR.at hR2065 hx2558
      obtain rfl := hr2591
      refine Aw_q 8 rfl (by kernel_rfl) (by kernel_rfl) (by kernel_rfl) rfl rfl rfl (Q_ixR (T := Ty.i64) (.tail _ (.tail _ (.tail _ (.head _)))) hR2065 hq2590 (getI_ix hx2558).1 rfl rfl rfl rfl rfl) ?_
      refine Aw_q 9 rfl (by kernel_rfl) (by kernel_rfl) (by kernel_rfl) rfl rfl rfl (Qt_load1 (v := (.int .i64 x2557)) rfl rfl rfl (Rd_row (T := Ty.i64) (.tail _ (.tail _ (.tail _ (.head _)))) hR2065 hq2590 rfl rfl)) ?_
      obtain ⟨r2592, hr2593, hk2594⟩ := Slr.at hs2588 hx2563
      obtain ⟨v2595, v2596, rfl, hs2597, hs2598⟩ := hr2593
      refine Aw_q 10 rfl (by kernel_rfl) (by kernel_rfl) (by kernel_rfl) rfl rfl rfl (Q_ix (T := TyOp) hs2588 hx2563 rfl rfl rfl rfl rfl) ?_
      refine Aw_q 11 rfl (by kernel_rfl) (by kernel_rfl) (by kernel_rfl) rfl rfl rfl (Qt_loadA (m := 7) (cs := (Op.cells x2562 v2595 v2596)) rfl rfl rfl rfl ⟨rfl, Rdc.k hk2594 rfl⟩) ?_
      refine Aw_one 0 (by kernel_rfl) (Ax_mk rfl rfl (OpW_of_Qt rfl rfl (Qt_loadA (m := 3) (cs := (Desk.cells (Desk.mk l2078 l2081 i2083) v2077 v2080)) rfl rfl rfl rfl ⟨rfl, Rdc.blk (.head _) rfl⟩) ⟨(Inc.cons (.tail _ (.head _)) (Inc.cons (.tail _ (.tail _ (.head _))) (Inc.cons (.tail _ (.tail _ (.tail _ (.head _)))) (Inc.cons (.tail _ (.tail _ (.tail _ (.tail _ (.head _))))) (Inc.cons (.tail _ (.tail _ (.tail _ (.tail _ (.tail _ (.head _)))))) (Inc.cons (.tail _ (.tail _ (.tail _ (.tail _ (.tail _ (.tail _ (.head _))))))) (Inc.cons (.tail _ (.tail _ (.tail _ (.tail _ (.tail _ (.tail _ (.tail _ (.head _)))))))) (Inc.cons (.tail _ (.tail _ (.tail _ (.tail _ (.tail _ (.tail _ (.tail _ (.tail _ (.head _))))))))) (Inc.cons (.tail _ (.tail _ (.tail _ (.tail _ (.tail _ (.tail _ (.tail _ (.tail _ (.tail _ (.head _)))))))))) (Inc.cons (.tail _ (.tail _ (.tail _ (.tail _ (.tail _ (.tail _ (.tail _ (.tail _ (.tail _ (.tail _ (.head _))))))))))) Inc.nil)))))))))), ?_⟩))
      refine Aw_one 12 (by kernel_rfl) (Ax_mk rfl rfl ?_)
      refine OpW_call rfl Try.call69 rfl rfl (c_M_101z (Desk.mk l2078 l2081 i2083) v2077 v2080 x2386 x2562 v2595 v2596 x2571 x2572 x2573 hx2574 _ _ hs2079 hs2082 hs2597 hs2598) ?_
      rintro _ K2602 _ hK2603 ⟨v2599, v2600, v2601, rfl, rfl, hs2604, hs2605, hs2606⟩
      refine ⟨(Inc.cons (.tail _ (.tail _ (.head _))) (Inc.cons (.tail _ (.tail _ (.tail _ (.head _)))) (Inc.cons (.tail _ (.tail _ (.tail _ (.tail _ (.head _))))) (Inc.cons (.tail _ (.tail _ (.tail _ (.tail _ (.tail _ (.head _)))))) (Inc.cons (.tail _ (.tail _ (.tail _ (.tail _ (.tail _ (.tail _ (.head _))))))) (Inc.cons (.tail _ (.tail _ (.tail _ (.tail _ (.tail _ (.tail _ (.tail _ (.head _)))))))) (Inc.cons (.tail _ (.tail _ (.tail _ (.tail _ (.tail _ (.tail _ (.tail _ (.tail _ (.head _))))))))) (Inc.cons (.tail _ (.tail _ (.tail _ (.tail _ (.tail _ (.tail _ (.tail _ (.tail _ (.tail _ (.head _)))))))))) (Inc.cons (.tail _ (.tail _ (.tail _ (.tail _ (.tail _ (.tail _ (.tail _ (.tail _ (.tail _ (.tail _ (.head _))))))))))) (Inc.cons (.tail _ (.tail _ (.tail _ (.tail _ (.tail _ (.tail _ (.tail _ (.tail _ (.tail _ (.tail _ (.tail _ (.head _)))))))))))) Inc.nil)))))))))), ?_⟩
      refine Aw_q 13 rfl (by kernel_rfl) (by kernel_rfl) (by kernel_rfl) rfl rfl rfl (Qt_move rfl) ?_
      refine Aw_q 14 rfl (by kernel_rfl) (by kernel_rfl) (by kernel_rfl) rfl rfl rfl (Qt_extract rfl rfl) ?_
      refine Aw_q 15 rfl (by kernel_rfl) (by kernel_rfl) (by kernel_rfl) rfl rfl rfl (Qt_extract rfl rfl) ?_
      refine Aw_q 16 rfl (by kernel_rfl) (by kernel_rfl) (by kernel_rfl) rfl rfl rfl (Qt_extract rfl rfl) ?_
      refine Aw_one 17 (by kernel_rfl) (Ax_mk rfl rfl ?_)
      refine OpW_store (vs := (Desk.cells x2571 v2599 v2600)) (all' := (Desk.cells x2571 v2599 v2600)) rfl rfl rfl rfl rfl (.there .here) rfl rfl rfl ⟨(Inc.cons (.tail _ (.tail _ (.head _))) (Inc.cons (.tail _ (.tail _ (.tail _ (.head _)))) (Inc.cons (.tail _ (.tail _ (.tail _ (.tail _ (.head _))))) (Inc.cons (.tail _ (.tail _ (.tail _ (.tail _ (.tail _ (.head _)))))) (Inc.cons (.tail _ (.tail _ (.tail _ (.tail _ (.tail _ (.tail _ (.head _))))))) (Inc.cons (.tail _ (.tail _ (.tail _ (.tail _ (.tail _ (.tail _ (.tail _ (.head _)))))))) (Inc.cons (.tail _ (.tail _ (.tail _ (.tail _ (.tail _ (.tail _ (.tail _ (.tail _ (.head _))))))))) (Inc.cons (.tail _ (.tail _ (.tail _ (.tail _ (.tail _ (.tail _ (.tail _ (.tail _ (.tail _ (.head _)))))))))) (Inc.cons (.tail _ (.tail _ (.tail _ (.tail _ (.tail _ (.tail _ (.tail _ (.tail _ (.tail _ (.tail _ (.head _))))))))))) (Inc.cons (.tail _ (.tail _ (.tail _ (.tail _ (.tail _ (.tail _ (.tail _ (.tail _ (.tail _ (.tail _ (.tail _ (.head _)))))))))))) Inc.nil)))))))))), ?_⟩
      refine Aw_q 18 rfl (by kernel_rfl) (by kernel_rfl) (by kernel_rfl) rfl rfl rfl (Qt_assign rfl) ?_
      refine Aw_done (by kernel_rfl) ?_
      refine Cw_seq ?_
      refine Cw_region ?_
      refine Ow_q rfl rfl rfl (Qt_move rfl) ?_
      refine Ow_q rfl rfl rfl (Qt_move rfl) ?_
      obtain ⟨x2607, hx2608, H⟩ := bnd H
      have hs2609 := (hR2068).mono hK2603
      obtain ⟨r2610, hq2611, hr2612⟩ := RowR.at hs2609 hx2608
      obtain rfl := hr2612
      refine Ow_q rfl rfl rfl (Q_ixR (T := Ty.i64) (.tail _ (.tail _ (.tail _ (.tail _ (.tail _ (.tail _ (.head _))))))) hs2609 hq2611 (getI_ix hx2608).1 rfl rfl rfl rfl rfl) ?_
      refine Ow_cons rfl (O_storeR (T := Ty.i64) (vs := [(.int .i64 2)]) (r' := [(.int .i64 2)]) (l' := (setI l2067 x2386 2)) rfl rfl rfl rfl rfl (.there (.there (.there (.there (.there (.there .here)))))) hs2609 hq2611 rfl rfl rfl (RowR.set x2386 hs2609 rfl) (fun hR2613 => ?_))
      have hE2614 := set_at hq2611 (v := [(.int .i64 2)])
      refine Ow_nil ?_
      refine Cw_seq ?_
      refine Cw_region ?_
      refine Ow_q rfl rfl rfl (Qt_move rfl) ?_
      refine Ow_q rfl rfl rfl (Q_len (T := TyDone) hs2606 rfl rfl) ?_
      refine Ow_q rfl rfl rfl (Qt_move rfl) ?_
      refine Ow_nil ?_
      refine Cw_block ?_
      refine Cw_loopM (fun n2679 env' K' G' => ∃ (l2672 : List Int) (rs2674 : List (List Value)) (l2675 : List Result) (rs2677 : List (List Value)) (i2678 : Int), [(2, (.pointer (some ((⟨b719, 0, none⟩ : Addr).add 0)))), (5, (.pointer (some ((⟨b722, 0, none⟩ : Addr).add 0)))), (6, (.pointer (some ((⟨b735, 0, none⟩ : Addr).add 0)))), (7, (sv v741)), (8, (.pointer (some ((⟨b756, 0, none⟩ : Addr).add 0)))), (9, (sv v785)), (10, (sv v789)), (11, (sv v823)), (12, (sv v2073)), (13, (.int .i64 i2076)), (104, (sv v2601)), (105, (.int .i64 (x2572.length : Int))), (106, (.int .i64 i2678))] = env' ∧ K2602 = K' ∧ (.blk b756 102 (Desk.cells x2571 v2599 v2600)) :: (.blk b735 34 (Config.cells x725 v729 v730)) :: (.blk b722 85 (Draw_Codes.cells (Draw_Codes.mk x720.list x2387 ((Draw_Codes.mk x720.list i2105 i2106).value)) v723)) :: (.blk b719 34 (Config.cells (Config.mk [] [] 0) nilS nilS)) :: (.row (sv v789) 3 1 rs2674.flatten) :: (.row (sv v823) 25 5 rs2677.flatten) :: (.tok 108 6 [(sv v2601)]) :: (.row (sv v785) 3 1 rs2066.flatten) :: (.tok 65 8 [(sv v2073)]) :: (.row (sv v741) 99 1 rs742.flatten) :: (.tok 3 1 [(sv v729)]) :: (.tok 23 1 [(sv v730)]) :: G = G' ∧ lp3 (M_131z x736 l2064 l2074 i2076 x2572 x2571 x725 x720 x2387 i2105 i2106 k2090) n2679 l2672 l2675 i2678 = some (y0, y1, y2) ∧ RowR Ty.i64 K' rs2674 l2672 ∧ RowR TyResult K' rs2677 l2675) BIG ?_ ?_
      ·skip
       refine Shift.pull (.there (.there (.there (.there (.there (.there (.there (.there (.there (.there (.there .here))))))))))) ?_
       refine Shift.pull (.there (.there (.there (.there (.there (.there (.there (.there (.there (.there (.there .here))))))))))) ?_
       refine Shift.pull (.there (.there (.there (.there (.there (.there (.there (.there (.there (.there (.there .here))))))))))) ?_
       refine Shift.pull (.there (.there (.there (.there (.there (.there (.there (.there (.there (.there (.there .here))))))))))) ?_
       refine Shift.pull (.there (.there (.there (.there (.there (.there (.there (.there (.there .here))))))))) ?_
       refine Shift.pull (.there (.there (.there (.there (.there .here))))) ?_
       refine Shift.pull (.there (.there (.there (.there (.there (.there (.there (.there (.there (.there (.there .here))))))))))) ?_
       refine Shift.pull (.there (.there (.there (.there (.there (.there (.there (.there (.there (.there (.there .here))))))))))) ?_
       refine Shift.pull (.there (.there (.there (.there (.there (.there (.there (.there (.there (.there (.there .here))))))))))) ?_
       refine Shift.pull (.there (.there (.there (.there (.there (.there (.there (.there (.there (.there (.there .here))))))))))) ?_
       refine Shift.pull (.there (.there (.there (.there (.there (.there (.there (.there (.there (.there (.there .here))))))))))) ?_
       refine Shift.pull (.there (.there (.there (.there (.there (.there (.there (.there (.there (.there (.there .here))))))))))) ?_
       have hs2680 := (hR2071).mono hK2603
       refine Shift.done ?_
       exact ⟨[(2, (.pointer (some ((⟨b719, 0, none⟩ : Addr).add 0)))), (5, (.pointer (some ((⟨b722, 0, none⟩ : Addr).add 0)))), (6, (.pointer (some ((⟨b735, 0, none⟩ : Addr).add 0)))), (7, (sv v741)), (8, (.pointer (some ((⟨b756, 0, none⟩ : Addr).add 0)))), (9, (sv v785)), (10, (sv v789)), (11, (sv v823)), (12, (sv v2073)), (13, (.int .i64 i2076)), (104, (sv v2601)), (105, (.int .i64 (x2572.length : Int))), (106, (.int .i64 0))], ⟨rfl, rfl, rfl, rfl, rfl, rfl, rfl, rfl, rfl, rfl, rfl, rfl, rfl, trivial⟩, (setI l2067 x2386 2), (rs2069.set x2386.toNat [(.int .i64 2)]), l2070, rs2072, 0, rfl, rfl, rfl, H, hR2613, hs2680⟩
      rintro n2679 _ _ _ - ⟨l2672, rs2674, l2675, rs2677, i2678, rfl, rfl, rfl, H, hR2673, hR2676⟩
      obtain ⟨m2681, k2682, rfl, hkk2683, H⟩ := lps3 H
      unfold M_131z at H
      refine Cw_seq ?_
      refine Cw_region ?_
      refine Ow_q rfl rfl rfl (Qt_cmp rfl rfl rfl) ?_
      refine Ow_nil ?_
      refine Cw_seq ?_
      refine Cw_cond rfl ?_ ?_
      ·intro h2685
       have h2685 := dcd_t (h2685)
       have H := ift h2685 H
       refine Cw_skip ?_
       refine Cw_seq ?_
       refine Cw_block ?_
       refine Cw_seq ?_
       refine Cw_region ?_
       obtain ⟨x2706, hx2707, H⟩ := bnd H
       obtain ⟨r2708, hr2709, hk2710⟩ := Slr.at hs2606 hx2707
       obtain rfl := hr2709
       refine Ow_q rfl rfl rfl (Q_ix (T := TyDone) hs2606 hx2707 rfl rfl rfl rfl rfl) ?_
       refine Ow_q rfl rfl rfl (Qt_loadA (m := 6) (cs := (Done.cells x2706)) rfl rfl rfl rfl ⟨rfl, Rdc.k hk2710 rfl⟩) ?_
       refine Ow_cons rfl (OpW_alloc (cs := (Done.cells (Done.mk 0 (Result.mk 0 0 0 false 0)))) rfl rfl rfl rfl (fun b2711 => ?_))
       refine Ow_cons rfl (OpW_store (vs := (Done.cells x2706)) (all' := (Done.cells x2706)) rfl rfl rfl rfl rfl .here rfl rfl rfl ?_)
       refine Ow_nil ?_
       refine Cw_seq ?_
       refine Cw_region ?_
       refine Ow_q rfl rfl rfl (Qt_move rfl) ?_
       refine Ow_q rfl rfl rfl (Qt_fieldAddr (m := 0) rfl rfl rfl rfl rfl) ?_
       refine Ow_q rfl rfl rfl (Qt_load1 (v := (.int .i64 x2706.thread)) rfl rfl rfl (Rdc.blk (.head _) rfl)) ?_
       refine Ow_q rfl rfl rfl (Qt_fieldAddr (m := 1) rfl rfl rfl rfl rfl) ?_
       refine Ow_q rfl rfl rfl (Qt_loadA (m := 5) (cs := (Result.cells x2706.result)) rfl rfl rfl rfl ⟨rfl, Rdc.blk (.head _) rfl⟩) ?_
       obtain ⟨x2712, hx2713, H⟩ := bnd H
       obtain ⟨r2714, hq2715, hr2716⟩ := RowR.at hR2676 hx2713
       obtain rfl := hr2716
       refine Ow_q rfl rfl rfl (Q_ixR (T := TyResult) (.tail _ (.tail _ (.tail _ (.tail _ (.tail _ (.tail _ (.head _))))))) hR2676 hq2715 (getI_ix hx2713).1 rfl rfl rfl rfl rfl) ?_
       refine Ow_cons rfl (O_storeR (T := TyResult) (vs := (Result.cells x2706.result)) (r' := (Result.cells x2706.result)) (l' := (setI l2675 x2706.thread x2706.result)) rfl rfl rfl rfl rfl (.there (.there (.there (.there (.there (.there .here)))))) hR2676 hq2715 rfl rfl rfl (RowR.set x2706.thread hR2676 rfl) (fun hR2717 => ?_))
       have hE2718 := set_at hq2715 (v := (Result.cells x2706.result))
       refine Ow_nil ?_
       refine Cw_region ?_
       refine Ow_q rfl rfl rfl (Qt_move rfl) ?_
       refine Ow_q rfl rfl rfl (Qt_fieldAddr (m := 0) rfl rfl rfl rfl rfl) ?_
       refine Ow_q rfl rfl rfl (Qt_load1 (v := (.int .i64 x2706.thread)) rfl rfl rfl (Rdc.blk (.head _) rfl)) ?_
       obtain ⟨x2719, hx2720, H⟩ := bnd H
       obtain ⟨r2721, hq2722, hr2723⟩ := RowR.at hR2673 hx2720
       obtain rfl := hr2723
       refine Ow_q rfl rfl rfl (Q_ixR (T := Ty.i64) (.tail _ (.tail _ (.tail _ (.tail _ (.tail _ (.head _)))))) hR2673 hq2722 (getI_ix hx2720).1 rfl rfl rfl rfl rfl) ?_
       refine Ow_cons rfl (O_storeR (T := Ty.i64) (vs := [(.int .i64 3)]) (r' := [(.int .i64 3)]) (l' := (setI l2672 x2706.thread 3)) rfl rfl rfl rfl rfl (.there (.there (.there (.there (.there .here))))) hR2673 hq2722 rfl rfl rfl (RowR.set x2706.thread hR2673 rfl) (fun hR2724 => ?_))
       have hE2725 := set_at hq2722 (v := [(.int .i64 3)])
       refine Ow_nil ?_
       refine Cw_region ?_
       refine Ow_q rfl rfl rfl (Qt_arith (e := wI (i2678 + 1)) rfl rfl rfl rfl) ?_
       refine Ow_q rfl rfl rfl (Qt_move rfl) ?_
       refine Ow_nil ?_
       refine Shift.pull (.there (.there (.there (.there (.there (.there (.there (.there (.there (.there (.there (.there .here)))))))))))) ?_
       refine Shift.pull (.there (.there (.there (.there (.there (.there (.there (.there (.there (.there (.there (.there .here)))))))))))) ?_
       refine Shift.pull (.there (.there (.there (.there (.there (.there (.there (.there (.there (.there (.there (.there .here)))))))))))) ?_
       refine Shift.pull (.there (.there (.there (.there (.there (.there (.there (.there (.there (.there (.there (.there .here)))))))))))) ?_
       refine Shift.pull (.there (.there (.there (.there (.there (.there (.there (.there (.there (.there (.there (.there .here)))))))))))) ?_
       refine Shift.pull (.there (.there (.there (.there (.there (.there (.there (.there (.there (.there (.there (.there .here)))))))))))) ?_
       refine Shift.pull (.there (.there (.there (.there (.there (.there (.there (.there (.there (.there (.there (.there .here)))))))))))) ?_
       refine Shift.pull (.there (.there (.there (.there (.there (.there (.there (.there (.there (.there (.there (.there .here)))))))))))) ?_
       refine Shift.pull (.there (.there (.there (.there (.there (.there (.there (.there (.there (.there (.there (.there .here)))))))))))) ?_
       refine Shift.pull (.there (.there (.there (.there (.there (.there (.there (.there (.there (.there (.there (.there .here)))))))))))) ?_
       refine Shift.pull (.there (.there (.there (.there (.there (.there (.there (.there (.there (.there (.there (.there .here)))))))))))) ?_
       refine Shift.pull (.there (.there (.there (.there (.there (.there (.there (.there (.there (.there (.there (.there .here)))))))))))) ?_
       refine Shift.rem (.there (.there (.there (.there (.there (.there (.there (.there (.there (.there (.there (.there .here)))))))))))) ?_
       refine Shift.done ?_
       exact ⟨[(2, (.pointer (some ((⟨b719, 0, none⟩ : Addr).add 0)))), (5, (.pointer (some ((⟨b722, 0, none⟩ : Addr).add 0)))), (6, (.pointer (some ((⟨b735, 0, none⟩ : Addr).add 0)))), (7, (sv v741)), (8, (.pointer (some ((⟨b756, 0, none⟩ : Addr).add 0)))), (9, (sv v785)), (10, (sv v789)), (11, (sv v823)), (12, (sv v2073)), (13, (.int .i64 i2076)), (104, (sv v2601)), (105, (.int .i64 (x2572.length : Int))), (106, (.int .i64 (wI (i2678 + 1))))], ⟨rfl, rfl, rfl, rfl, rfl, rfl, rfl, rfl, rfl, rfl, rfl, rfl, rfl, trivial⟩, _, Nat.lt_succ_self _, (setI l2672 x2706.thread 3), (rs2674.set x2706.thread.toNat [(.int .i64 3)]), (setI l2675 x2706.thread x2706.result), (rs2677.set x2706.thread.toNat (Result.cells x2706.result)), (wI (i2678 + 1)), rfl, rfl, rfl, (hkk2683 ▸ H), hR2724, hR2717⟩
      ·intro h2685
       have h2685 := dcd_f (h2685)
       have H := iff_ h2685 H
       refine Cw_exit ?_
       refine Shift.pull (.there (.there (.there (.there (.there (.there (.there (.there (.there (.there (.there .here))))))))))) ?_
       refine Shift.pull (.there (.there (.there (.there (.there (.there (.there (.there (.there (.there (.there .here))))))))))) ?_
       refine Shift.pull (.there (.there (.there (.there (.there (.there (.there (.there (.there (.there (.there .here))))))))))) ?_
       refine Shift.pull (.there (.there (.there (.there (.there (.there (.there (.there (.there (.there (.there .here))))))))))) ?_
       refine Shift.pull (.there (.there (.there (.there (.there (.there (.there (.there (.there .here))))))))) ?_
       refine Shift.pull (.there (.there (.there (.there (.there (.there (.there (.there (.there .here))))))))) ?_
       refine Shift.pull (.there (.there (.there (.there (.there (.there (.there (.there (.there (.there (.there .here))))))))))) ?_
       refine Shift.pull (.there (.there (.there (.there (.there (.there (.there (.there (.there (.there .here)))))))))) ?_
       refine Shift.pull (.there (.there (.there (.there (.there (.there (.there (.there (.there (.there .here)))))))))) ?_
       refine Shift.pull (.there (.there (.there (.there (.there (.there (.there (.there (.there (.there .here)))))))))) ?_
       refine Shift.pull (.there (.there (.there (.there (.there (.there (.there (.there (.there (.there .here)))))))))) ?_
       refine Shift.rem (.there (.there (.there (.there (.there (.there (.there (.there (.there (.there (.there .here))))))))))) ?_
       have hs2726 := (hR2065).mono hK2603
       have hs2727 := (hs2075).mono hK2603
       refine Shift.done ?_
       exact ⟨[(2, (.pointer (some ((⟨b719, 0, none⟩ : Addr).add 0)))), (5, (.pointer (some ((⟨b722, 0, none⟩ : Addr).add 0)))), (6, (.pointer (some ((⟨b735, 0, none⟩ : Addr).add 0)))), (7, (sv v741)), (8, (.pointer (some ((⟨b756, 0, none⟩ : Addr).add 0)))), (9, (sv v785)), (10, (sv v789)), (11, (sv v823)), (12, (sv v2073)), (13, (.int .i64 i2076))], ⟨rfl, rfl, rfl, rfl, rfl, rfl, rfl, rfl, rfl, rfl, trivial⟩, l2064, rs2066, l2672, rs2674, l2675, rs2677, v2073, l2074, v2599, x2571.chans, v2600, x2571.waiting, x2571.tick, x2387, rfl, rfl, H, hs2726, hR2673, hR2676, hs2727, hs2604, hs2605⟩
     ·intro h2490
      have h2490 := dcd_f (h2490)
      have H := iff_ h2490 H
      refine Cw_seq ?_
      refine Cw_region ?_
      refine Ow_q rfl rfl rfl (Qt_move rfl) ?_
      refine Ow_q rfl rfl rfl (Qt_move rfl) ?_
      obtain ⟨x2728, hx2729, H⟩ := bnd H
      obtain ⟨r2730, hq2731, hr2732⟩ := RowR.at hR2068 hx2729
      obtain rfl := hr2732
      refine Ow_q rfl rfl rfl (Q_ixR (T := Ty.i64) (.tail _ (.tail _ (.tail _ (.tail _ (.tail _ (.head _)))))) hR2068 hq2731 (getI_ix hx2729).1 rfl rfl rfl rfl rfl) ?_
      refine Ow_q rfl rfl rfl (Qt_load1 (v := (.int .i64 x2728)) rfl rfl rfl (Rd_row (T := Ty.i64) (.tail _ (.tail _ (.tail _ (.tail _ (.tail _ (.head _)))))) hR2068 hq2731 rfl rfl)) ?_
      refine Ow_q rfl rfl rfl (Qt_cmp rfl rfl rfl) ?_
      refine Ow_q rfl rfl rfl (Qt_assign rfl) ?_
      refine Ow_nil ?_
      refine Cw_cond rfl ?_ ?_
      ·intro h2733
       have h2733 := dcd_t (h2733)
       have H := ift h2733 H
       refine Cw_seq ?_
       obtain ⟨x2764, hx2765, H⟩ := bnd H
       obtain ⟨x2769, hx2770, H⟩ := bnd H
       obtain ⟨x2776, hx2777, H⟩ := bnd H
       refine Cw_region_any [.blk b756 102 (Desk.cells (Desk.mk l2078 l2081 i2083) v2077 v2080), .blk b735 34 (Config.cells x725 v729 v730), .blk b722 85 (Draw_Codes.cells (Draw_Codes.mk x720.list x2387 ((Draw_Codes.mk x720.list i2105 i2106).value)) v723), .blk b719 34 (Config.cells (Config.mk [] [] 0) nilS nilS), .row (sv v785) 3 1 rs2066.flatten, .row (sv v789) 3 1 rs2069.flatten, .row (sv v823) 25 5 rs2072.flatten, .row (sv v741) 99 1 rs742.flatten, .tok 3 1 [(sv v729)], .tok 23 1 [(sv v730)]] rfl (Inc.cons (.head _) (Inc.cons (.tail _ (.head _)) (Inc.cons (.tail _ (.tail _ (.head _))) (Inc.cons (.tail _ (.tail _ (.tail _ (.head _)))) (Inc.cons (.tail _ (.tail _ (.tail _ (.tail _ (.head _))))) (Inc.cons (.tail _ (.tail _ (.tail _ (.tail _ (.tail _ (.head _)))))) (Inc.cons (.tail _ (.tail _ (.tail _ (.tail _ (.tail _ (.tail _ (.head _))))))) (Inc.cons (.tail _ (.tail _ (.tail _ (.tail _ (.tail _ (.tail _ (.tail _ (.tail _ (.head _))))))))) (Inc.cons (.tail _ (.tail _ (.tail _ (.tail _ (.tail _ (.tail _ (.tail _ (.tail _ (.tail _ (.head _)))))))))) (Inc.cons (.tail _ (.tail _ (.tail _ (.tail _ (.tail _ (.tail _ (.tail _ (.tail _ (.tail _ (.tail _ (.head _))))))))))) Inc.nil)))))))))) ?_
       refine Aw_q 0 rfl (by kernel_rfl) (by kernel_rfl) (by kernel_rfl) rfl rfl rfl (Qt_move rfl) ?_
       refine Aw_q 1 rfl (by kernel_rfl) (by kernel_rfl) (by kernel_rfl) rfl rfl rfl (Qt_move rfl) ?_
       refine Aw_q 2 rfl (by kernel_rfl) (by kernel_rfl) (by kernel_rfl) rfl rfl rfl (Qt_move rfl) ?_
       refine Aw_q 3 rfl (by kernel_rfl) (by kernel_rfl) (by kernel_rfl) rfl rfl rfl (Qt_move rfl) ?_
       obtain ⟨r2782, hq2783, hr2784⟩ := RowR.at hR2065 hx2765
       obtain rfl := hr2784
       refine Aw_q 4 rfl (by kernel_rfl) (by kernel_rfl) (by kernel_rfl) rfl rfl rfl (Q_ixR (T := Ty.i64) (.tail _ (.tail _ (.tail _ (.tail _ (.head _))))) hR2065 hq2783 (getI_ix hx2765).1 rfl rfl rfl rfl rfl) ?_
       refine Aw_q 5 rfl (by kernel_rfl) (by kernel_rfl) (by kernel_rfl) rfl rfl rfl (Qt_load1 (v := (.int .i64 x2764)) rfl rfl rfl (Rd_row (T := Ty.i64) (.tail _ (.tail _ (.tail _ (.tail _ (.head _))))) hR2065 hq2783 rfl rfl)) ?_
       refine Aw_q 6 rfl (by kernel_rfl) (by kernel_rfl) (by kernel_rfl) rfl rfl rfl (Qt_move rfl) ?_
       refine Aw_q 7 rfl (by kernel_rfl) (by kernel_rfl) (by kernel_rfl) rfl rfl rfl (Qt_move rfl) ?_
       obtain ⟨r2785, hq2786, hr2787⟩ := RowR.at hR2071 hx2770
       obtain rfl := hr2787
       refine Aw_q 8 rfl (by kernel_rfl) (by kernel_rfl) (by kernel_rfl) rfl rfl rfl (Q_ixR (T := TyResult) (.tail _ (.tail _ (.tail _ (.tail _ (.tail _ (.tail _ (.head _))))))) hR2071 hq2786 (getI_ix hx2770).1 rfl rfl rfl rfl rfl) ?_
       refine Aw_q 9 rfl (by kernel_rfl) (by kernel_rfl) (by kernel_rfl) rfl rfl rfl (Qt_loadA (m := 5) (cs := (Result.cells x2769)) rfl rfl rfl rfl ⟨rfl, Rd_row (T := TyResult) (.tail _ (.tail _ (.tail _ (.tail _ (.tail _ (.tail _ (.head _))))))) hR2071 hq2786 rfl rfl⟩) ?_
       refine Aw_q 10 rfl (by kernel_rfl) (by kernel_rfl) (by kernel_rfl) rfl rfl rfl (Qt_build (cs := (Event.cells (Event.mk x2386 x2764 true x2769))) rfl rfl rfl rfl rfl rfl) ?_
       refine Aw_one 11 (by kernel_rfl) (Ax_mk rfl rfl ?_)
       have hR2789 : RowR TyEvent K2087 [(Event.cells (Event.mk x2386 x2764 true x2769))] [(Event.mk x2386 x2764 true x2769)] := RowR.cons rfl (RowR.nil)
       refine O_lit (T := TyEvent) (rows := [(Event.cells (Event.mk x2386 x2764 true x2769))]) (l := [(Event.mk x2386 x2764 true x2769)]) rfl rfl rfl hR2789 rfl rfl rfl rfl rfl rfl rfl rfl (fun v2788 => ⟨(Inc.cons (.tail _ (.head _)) (Inc.cons (.tail _ (.tail _ (.head _))) (Inc.cons (.tail _ (.tail _ (.tail _ (.head _)))) (Inc.cons (.tail _ (.tail _ (.tail _ (.tail _ (.head _))))) (Inc.cons (.tail _ (.tail _ (.tail _ (.tail _ (.tail _ (.head _)))))) (Inc.cons (.tail _ (.tail _ (.tail _ (.tail _ (.tail _ (.tail _ (.head _))))))) (Inc.cons (.tail _ (.tail _ (.tail _ (.tail _ (.tail _ (.tail _ (.tail _ (.head _)))))))) (Inc.cons (.tail _ (.tail _ (.tail _ (.tail _ (.tail _ (.tail _ (.tail _ (.tail _ (.tail _ (.head _)))))))))) (Inc.cons (.tail _ (.tail _ (.tail _ (.tail _ (.tail _ (.tail _ (.tail _ (.tail _ (.tail _ (.tail _ (.head _))))))))))) (Inc.cons (.tail _ (.tail _ (.tail _ (.tail _ (.tail _ (.tail _ (.tail _ (.tail _ (.tail _ (.tail _ (.tail _ (.head _)))))))))))) Inc.nil)))))))))), ?_⟩)
       refine Aw_one 12 (by kernel_rfl) (Ax_mk rfl rfl ?_)
       refine O_appTok (T := TyEvent) (bytes := 64) (q := 0) rfl rfl rfl hs2075 (.tail _ (.tail _ (.tail _ (.tail _ (.tail _ (.tail _ (.tail _ (.tail _ (.head _))))))))) rfl (SrcT.row (.head _) hR2789 rfl) hx2777 rfl rfl rfl rfl rfl rfl rfl rfl (fun v2790 K2791 hK2792 hs2793 => ⟨_, (.there (.there (.there (.there (.there (.there (.there (.there .here)))))))), ⟨(Inc.cons (.tail _ (.head _)) (Inc.cons (.tail _ (.tail _ (.head _))) (Inc.cons (.tail _ (.tail _ (.tail _ (.head _)))) (Inc.cons (.tail _ (.tail _ (.tail _ (.tail _ (.head _))))) (Inc.cons (.tail _ (.tail _ (.tail _ (.tail _ (.tail _ (.head _)))))) (Inc.cons (.tail _ (.tail _ (.tail _ (.tail _ (.tail _ (.tail _ (.head _))))))) (Inc.cons (.tail _ (.tail _ (.tail _ (.tail _ (.tail _ (.tail _ (.tail _ (.head _)))))))) (Inc.cons (.tail _ (.tail _ (.tail _ (.tail _ (.tail _ (.tail _ (.tail _ (.tail _ (.tail _ (.head _)))))))))) (Inc.cons (.tail _ (.tail _ (.tail _ (.tail _ (.tail _ (.tail _ (.tail _ (.tail _ (.tail _ (.tail _ (.head _))))))))))) (Inc.cons (.tail _ (.tail _ (.tail _ (.tail _ (.tail _ (.tail _ (.tail _ (.tail _ (.tail _ (.tail _ (.tail _ (.head _)))))))))))) Inc.nil)))))))))), ?_⟩⟩)
       refine Aw.shift (Shift.rem .here (Shift.done ⟨(Inc.cons (.head _) (Inc.cons (.tail _ (.head _)) (Inc.cons (.tail _ (.tail _ (.head _))) (Inc.cons (.tail _ (.tail _ (.tail _ (.head _)))) (Inc.cons (.tail _ (.tail _ (.tail _ (.tail _ (.head _))))) (Inc.cons (.tail _ (.tail _ (.tail _ (.tail _ (.tail _ (.head _)))))) (Inc.cons (.tail _ (.tail _ (.tail _ (.tail _ (.tail _ (.tail _ (.head _))))))) (Inc.cons (.tail _ (.tail _ (.tail _ (.tail _ (.tail _ (.tail _ (.tail _ (.tail _ (.head _))))))))) (Inc.cons (.tail _ (.tail _ (.tail _ (.tail _ (.tail _ (.tail _ (.tail _ (.tail _ (.tail _ (.head _)))))))))) (Inc.cons (.tail _ (.tail _ (.tail _ (.tail _ (.tail _ (.tail _ (.tail _ (.tail _ (.tail _ (.tail _ (.head _))))))))))) Inc.nil)))))))))), ?_⟩))
       refine Aw_q 13 rfl (by kernel_rfl) (by kernel_rfl) (by kernel_rfl) rfl rfl rfl (Qt_assign rfl) ?_
       refine Aw_done (by kernel_rfl) ?_
       refine Cw_seq ?_
       refine Cw_region ?_
       refine Ow_q rfl rfl rfl (Qt_move rfl) ?_
       refine Ow_q rfl rfl rfl (Qt_move rfl) ?_
       obtain ⟨x2794, hx2795, H⟩ := bnd H
       have hs2796 := (hR2065).mono hK2792
       obtain ⟨r2797, hq2798, hr2799⟩ := RowR.at hs2796 hx2795
       obtain rfl := hr2799
       refine Ow_q rfl rfl rfl (Q_ixR (T := Ty.i64) (.tail _ (.tail _ (.tail _ (.tail _ (.head _))))) hs2796 hq2798 (getI_ix hx2795).1 rfl rfl rfl rfl rfl) ?_
       refine Ow_q rfl rfl rfl (Qt_load1 (v := (.int .i64 x2794)) rfl rfl rfl (Rd_row (T := Ty.i64) (.tail _ (.tail _ (.tail _ (.tail _ (.head _))))) hs2796 hq2798 rfl rfl)) ?_
       refine Ow_q rfl rfl rfl (Qt_arith (e := wI (x2794 + 1)) rfl rfl rfl rfl) ?_
       obtain ⟨x2800, hx2801, H⟩ := bnd H
       obtain ⟨r2802, hq2803, hr2804⟩ := RowR.at hs2796 hx2801
       obtain rfl := hr2804
       refine Ow_q rfl rfl rfl (Q_ixR (T := Ty.i64) (.tail _ (.tail _ (.tail _ (.tail _ (.head _))))) hs2796 hq2803 (getI_ix hx2801).1 rfl rfl rfl rfl rfl) ?_
       refine Ow_cons rfl (O_storeR (T := Ty.i64) (vs := [(.int .i64 (wI (x2794 + 1)))]) (r' := [(.int .i64 (wI (x2794 + 1)))]) (l' := (setI l2064 x2386 (wI (x2794 + 1)))) rfl rfl rfl rfl rfl (.there (.there (.there (.there .here)))) hs2796 hq2803 rfl rfl rfl (RowR.set x2386 hs2796 rfl) (fun hR2805 => ?_))
       have hE2806 := set_at hq2803 (v := [(.int .i64 (wI (x2794 + 1)))])
       refine Ow_nil ?_
       refine Cw_region ?_
       refine Ow_q rfl rfl rfl (Qt_move rfl) ?_
       refine Ow_q rfl rfl rfl (Qt_move rfl) ?_
       obtain ⟨x2807, hx2808, H⟩ := bnd H
       have hs2809 := (hR2068).mono hK2792
       obtain ⟨r2810, hq2811, hr2812⟩ := RowR.at hs2809 hx2808
       obtain rfl := hr2812
       refine Ow_q rfl rfl rfl (Q_ixR (T := Ty.i64) (.tail _ (.tail _ (.tail _ (.tail _ (.tail _ (.head _)))))) hs2809 hq2811 (getI_ix hx2808).1 rfl rfl rfl rfl rfl) ?_
       refine Ow_cons rfl (O_storeR (T := Ty.i64) (vs := [(.int .i64 0)]) (r' := [(.int .i64 0)]) (l' := (setI l2067 x2386 0)) rfl rfl rfl rfl rfl (.there (.there (.there (.there (.there .here))))) hs2809 hq2811 rfl rfl rfl (RowR.set x2386 hs2809 rfl) (fun hR2813 => ?_))
       have hE2814 := set_at hq2811 (v := [(.int .i64 0)])
       refine Ow_nil ?_
       refine Shift.pull (.there (.there (.there (.there (.there (.there (.there (.there (.there (.there .here)))))))))) ?_
       refine Shift.pull (.there (.there (.there (.there (.there (.there (.there (.there (.there (.there .here)))))))))) ?_
       refine Shift.pull (.there (.there (.there (.there (.there (.there (.there (.there (.there (.there .here)))))))))) ?_
       refine Shift.pull (.there (.there (.there (.there (.there (.there (.there (.there (.there (.there .here)))))))))) ?_
       refine Shift.pull (.there (.there (.there (.there (.there (.there (.there (.there (.there (.there .here)))))))))) ?_
       refine Shift.pull (.there (.there (.there (.there (.there (.there (.there (.there (.there (.there .here)))))))))) ?_
       refine Shift.pull (.there (.there (.there (.there (.there (.there (.there (.there (.there (.there .here)))))))))) ?_
       refine Shift.pull (.there (.there (.there (.there (.there (.there (.there (.there (.there (.there .here)))))))))) ?_
       refine Shift.pull (.there (.there (.there (.there (.there (.there (.there (.there (.there (.there .here)))))))))) ?_
       refine Shift.pull (.there (.there (.there (.there (.there (.there (.there (.there (.there (.there .here)))))))))) ?_
       refine Shift.pull (.there (.there (.there (.there (.there (.there (.there (.there (.there (.there .here)))))))))) ?_
       have hs2815 := (hR2071).mono hK2792
       have hs2816 := (hs2079).mono hK2792
       have hs2817 := (hs2082).mono hK2792
       refine Shift.done ?_
       exact ⟨[(2, (.pointer (some ((⟨b719, 0, none⟩ : Addr).add 0)))), (5, (.pointer (some ((⟨b722, 0, none⟩ : Addr).add 0)))), (6, (.pointer (some ((⟨b735, 0, none⟩ : Addr).add 0)))), (7, (sv v741)), (8, (.pointer (some ((⟨b756, 0, none⟩ : Addr).add 0)))), (9, (sv v785)), (10, (sv v789)), (11, (sv v823)), (12, (sv v2790)), (13, (.int .i64 i2076))], ⟨rfl, rfl, rfl, rfl, rfl, rfl, rfl, rfl, rfl, rfl, trivial⟩, (setI l2064 x2386 (wI (x2794 + 1))), (rs2066.set x2386.toNat [(.int .i64 (wI (x2794 + 1)))]), (setI l2067 x2386 0), (rs2069.set x2386.toNat [(.int .i64 0)]), l2070, rs2072, v2790, x2776, v2077, l2078, v2080, l2081, i2083, x2387, rfl, rfl, H, hR2805, hR2813, hs2815, hs2793, hs2816, hs2817⟩
      ·intro h2733
       have h2733 := dcd_f (h2733)
       have H := iff_ h2733 H
       refine Cw_skip ?_
       refine Shift.pull (.there (.there (.there (.there (.there (.there (.there (.there (.there (.there .here)))))))))) ?_
       refine Shift.pull (.there (.there (.there (.there (.there (.there (.there (.there (.there (.there .here)))))))))) ?_
       refine Shift.pull (.there (.there (.there (.there (.there (.there (.there (.there (.there (.there .here)))))))))) ?_
       refine Shift.pull (.there (.there (.there (.there (.there (.there (.there (.there (.there (.there .here)))))))))) ?_
       refine Shift.pull (.there (.there (.there (.there (.there (.there (.there (.there (.there (.there .here)))))))))) ?_
       refine Shift.pull (.there (.there (.there (.there (.there (.there (.there (.there (.there (.there .here)))))))))) ?_
       refine Shift.pull (.there (.there (.there (.there (.there (.there (.there (.there (.there (.there .here)))))))))) ?_
       refine Shift.pull (.there (.there (.there (.there (.there (.there (.there (.there (.there (.there .here)))))))))) ?_
       refine Shift.pull (.there (.there (.there (.there (.there (.there (.there (.there (.there (.there .here)))))))))) ?_
       refine Shift.pull (.there (.there (.there (.there (.there (.there (.there (.there (.there (.there .here)))))))))) ?_
       refine Shift.pull (.there (.there (.there (.there (.there (.there (.there (.there (.there (.there .here)))))))))) ?_
       refine Shift.done ?_
       exact ⟨[(2, (.pointer (some ((⟨b719, 0, none⟩ : Addr).add 0)))), (5, (.pointer (some ((⟨b722, 0, none⟩ : Addr).add 0)))), (6, (.pointer (some ((⟨b735, 0, none⟩ : Addr).add 0)))), (7, (sv v741)), (8, (.pointer (some ((⟨b756, 0, none⟩ : Addr).add 0)))), (9, (sv v785)), (10, (sv v789)), (11, (sv v823)), (12, (sv v2073)), (13, (.int .i64 i2076))], ⟨rfl, rfl, rfl, rfl, rfl, rfl, rfl, rfl, rfl, rfl, trivial⟩, l2064, rs2066, l2067, rs2069, l2070, rs2072, v2073, l2074, v2077, l2078, v2080, l2081, i2083, x2387, rfl, rfl, H, hR2065, hR2068, hR2071, hs2075, hs2079, hs2082⟩
   rintro _ K2818 _ hK2819 ⟨l2366, rs2368, l2369, rs2371, l2372, rs2374, v2375, l2376, v2378, l2379, v2381, l2382, i2384, i2385, rfl, rfl, H, hR2367, hR2370, hR2373, hs2377, hs2380, hs2383⟩
   unfold M_20z at H
   refine Cw_region ?_
   refine Ow_q rfl rfl rfl (Qt_move rfl) ?_
   refine Ow_q rfl rfl rfl (Qt_arith (e := wI (i2076 + 1)) rfl rfl rfl rfl) ?_
   refine Ow_q rfl rfl rfl (Qt_assign rfl) ?_
   refine Ow_nil ?_
   refine Shift.pull (.there (.there (.there (.there (.there (.there (.there (.there (.there (.there .here)))))))))) ?_
   refine Shift.pull (.there (.there (.there (.there (.there (.there (.there (.there (.there (.there .here)))))))))) ?_
   refine Shift.pull (.there (.there (.there (.there (.there (.there (.there (.there (.there (.there .here)))))))))) ?_
   refine Shift.pull (.there (.there (.there (.there (.there (.there (.there (.there (.there (.there .here)))))))))) ?_
   refine Shift.pull (.there (.there (.there (.there (.there (.there (.there (.there (.there (.there .here)))))))))) ?_
   refine Shift.pull (.there (.there (.there (.there (.there (.there (.there (.there (.there (.there .here)))))))))) ?_
   refine Shift.pull (.there (.there (.there (.there (.there (.there (.there (.there (.there (.there .here)))))))))) ?_
   refine Shift.pull (.there (.there (.there (.there (.there (.there (.there (.there (.there (.there .here)))))))))) ?_
   refine Shift.pull (.there (.there (.there (.there (.there (.there (.there (.there (.there (.there .here)))))))))) ?_
   refine Shift.pull (.there (.there (.there (.there (.there (.there (.there (.there (.there (.there .here)))))))))) ?_
   refine Shift.pull (.there (.there (.there (.there (.there (.there (.there (.there (.there (.there .here)))))))))) ?_
   refine Shift.done ?_
   exact ⟨[(2, (.pointer (some ((⟨b719, 0, none⟩ : Addr).add 0)))), (5, (.pointer (some ((⟨b722, 0, none⟩ : Addr).add 0)))), (6, (.pointer (some ((⟨b735, 0, none⟩ : Addr).add 0)))), (7, (sv v741)), (8, (.pointer (some ((⟨b756, 0, none⟩ : Addr).add 0)))), (9, (sv v785)), (10, (sv v789)), (11, (sv v823)), (12, (sv v2375)), (13, (.int .i64 (wI (i2076 + 1))))], ⟨rfl, rfl, rfl, rfl, rfl, rfl, rfl, rfl, rfl, rfl, trivial⟩, _, Nat.lt_succ_self _, l2366, rs2368, l2369, rs2371, l2372, rs2374, v2375, l2376, (wI (i2076 + 1)), v2378, l2379, v2381, l2382, i2384, i2385, ((Draw_Codes.mk x720.list i2105 i2106).value), rfl, rfl, (hkk2091 ▸ H), hR2367, hR2370, hR2373, hs2377, hs2380, hs2383⟩
  ·intro h2111
   have H := iff_ (btf h2111) H
   refine Cw_exit ?_
   refine Shift.pull (.there (.there (.there (.there (.there (.there (.there (.there (.there (.there .here)))))))))) ?_
   refine Shift.pull (.there (.there (.there (.there (.there (.there (.there (.there (.there (.there .here)))))))))) ?_
   refine Shift.pull (.there (.there (.there (.there (.there (.there (.there (.there (.there (.there .here)))))))))) ?_
   refine Shift.pull (.there (.there (.there (.there (.there (.there (.there (.there (.there (.there .here)))))))))) ?_
   refine Shift.pull (.there (.there (.there (.there (.there (.there (.there .here))))))) ?_
   refine Shift.pull (.there (.there (.there (.there (.there (.there .here)))))) ?_
   refine Shift.rem (.there (.there (.there (.there (.there (.there .here)))))) ?_
   refine Shift.rem (.there (.there (.there (.there (.there (.there .here)))))) ?_
   refine Shift.rem (.there (.there (.there (.there (.there (.there .here)))))) ?_
   refine Shift.rem (.there (.there (.there (.there (.there (.there .here)))))) ?_
   refine Shift.rem (.there (.there (.there (.there (.there (.there .here)))))) ?_
   refine Shift.done ?_
   exact ⟨[(2, (.pointer (some ((⟨b719, 0, none⟩ : Addr).add 0)))), (6, (.pointer (some ((⟨b735, 0, none⟩ : Addr).add 0)))), (7, (sv v741)), (12, (sv v2073))], ⟨rfl, rfl, rfl, rfl, trivial⟩, v2073, l2074, rfl, rfl, H, hs2075⟩
 rintro _ K2820 _ hK2821 ⟨v1455, l1456, rfl, rfl, H, hs1457⟩
 unfold M_130z at H
 refine Cw_seq ?_
 refine Cw_region ?_
 refine Ow_q rfl rfl rfl (Qt_loadA (m := 3) (cs := (Config.cells x725 v729 v730)) rfl rfl rfl rfl ⟨rfl, Rdc.blk (.head _) rfl⟩) ?_
 refine Ow_q rfl rfl rfl (Qt_move rfl) ?_
 refine Ow_q rfl rfl rfl (Qt_move rfl) ?_
 refine Ow_cons rfl (OpW_store (vs := (Config.cells x725 v729 v730)) (all' := (Config.cells x725 v729 v730)) rfl rfl rfl rfl rfl (.there .here) rfl rfl rfl ?_)
 refine Ow_q rfl rfl rfl (Qt_assign rfl) ?_
 refine Ow_q rfl rfl rfl (Qt_assign rfl) ?_
 refine Ow_nil ?_
 refine Cw_ret ?_
 obtain ⟨ey0, ey1, ey2⟩ := inj3 H
 subst y0 y1 y2
 refine ⟨(by first | exact .inl rfl | exact .inr rfl), [(.agg (Config.cells x725 v729 v730).toArray), (sv v741), (sv v1455)], ⟨(.agg (Config.cells x725 v729 v730).toArray), _, rfl, ⟨_, 3, (Config.cells x725 v729 v730), rfl, rfl, rfl, rfl, ⟨rfl, Rdc.blk (.tail _ (.head _)) rfl⟩, rfl⟩, ⟨(sv v741), _, rfl, rfl, ⟨(sv v1455), _, rfl, rfl, rfl⟩⟩⟩, ?_⟩
 refine Shift.pull (.there (.there .here)) ?_
 refine Shift.pull (.there (.there (.there .here))) ?_
 refine Shift.pull (.there (.there (.there (.there (.there .here))))) ?_
 refine Shift.pull (.there (.there (.there (.there (.there .here))))) ?_
 refine Shift.rem (.there (.there (.there (.there .here)))) ?_
 refine Shift.rem (.there (.there (.there (.there .here)))) ?_
 have hs2822 := ((hs748).mono hK753).mono hK2821
 have hs2823 := ((hs749).mono hK753).mono hK2821
 have hs2824 := ((hs745).mono hK753).mono hK2821
 refine Shift.done ?_
 exact ⟨v729, v730, v741, rs742, v1455, rfl, rfl, hs2822, hs2823, hs2824, hs1457⟩



end Go.Hx

namespace Go.Hx
open Go Go.Proofs
set_option linter.unusedSimpArgs false
set_option linter.unusedVariables false
set_option maxRecDepth 10000
set_option maxHeartbeats 1000000 in
theorem c_M_140z (p0 : List Int) (vp0 : SV) (y0 : Bool) (H : M_140z p0 = some y0) (K : Kp) (G : List Ent) (hp0 : Slr Ty.u8 K (sv vp0) p0) :
  Fc Try.prog 7 #[(sv vp0)] K (G) (fun v K' G' => v = (.bool y0) ∧ G = G') := by
 refine Fc_body Try.func7 rfl Try.ntmps7 Try.results7 rfl ?_
 unfold M_140z at H
 refine Cw_seq ?_
 refine Cw_region ?_
 refine Ow_q rfl rfl rfl (Qt_assign rfl) ?_
 refine Ow_nil ?_
 refine Cw_seq ?_
 refine Cw_seq ?_
 refine Cw_region ?_
 obtain ⟨x82, hx83, H⟩ := bnd H
 refine Ow_cons rfl (OpW_call rfl Try.call29 rfl rfl (c_M_119z  x82 hx83 _ _ ) ?_)
 rintro _ K84 _ hK85 ⟨rfl, rfl⟩
 refine Ow_q rfl rfl rfl (Qt_not rfl) ?_
 refine Ow_nil ?_
 refine Cw_cond rfl ?_ ?_
 ·intro h86
  have h86 := nt_t (h86)
  have H := iff_ (btf h86) H
  refine Cw_seq ?_
  refine Cw_region ?_
  refine Ow_q rfl rfl rfl (Qt_assign rfl) ?_
  refine Ow_nil ?_
  refine Cw_ret ?_
  obtain ey0 := inj1 H
  subst y0
  refine ⟨(by first | exact .inl rfl | exact .inr rfl), [(.bool false)], ⟨(.bool false), _, rfl, rfl, rfl⟩, ?_⟩
  refine Shift.done ?_
  exact ⟨rfl, rfl⟩
 ·intro h86
  have h86 := nt_f (h86)
  have H := ift h86 H
  refine Cw_skip ?_
  refine Cw_seq ?_
  refine Cw_region ?_
  refine Ow_q rfl rfl rfl (Qt_move rfl) ?_
  obtain ⟨x87, x88, x89, hx90, H⟩ := bnd3 H
  have hs91 := (hp0).mono hK85
  refine Ow_cons rfl (OpW_call rfl Try.call30 rfl rfl (c_M_102z p0 vp0 x87 x88 x89 hx90 _ _ hs91) ?_)
  rintro _ K97 _ hK98 ⟨v92, v93, v94, rs95, v96, rfl, rfl, hs99, hs100, hs101, hs102⟩
  refine Ow_q rfl rfl rfl (Qt_move rfl) ?_
  refine Ow_q rfl rfl rfl (Qt_extract rfl rfl) ?_
  refine Ow_q rfl rfl rfl (Qt_extract rfl rfl) ?_
  refine Ow_q rfl rfl rfl (Qt_extract rfl rfl) ?_
  refine Ow_cons rfl (OpW_alloc (cs := (Config.cells (Config.mk [] [] 0) nilS nilS)) rfl rfl rfl rfl (fun b103 => ?_))
  refine Ow_cons rfl (OpW_store (vs := (Config.cells x87 v92 v93)) (all' := (Config.cells x87 v92 v93)) rfl rfl rfl rfl rfl .here rfl rfl rfl ?_)
  refine Ow_q rfl rfl rfl (Qt_assign rfl) ?_
  refine Ow_q rfl rfl rfl (Qt_assign rfl) ?_
  refine Ow_nil ?_
  refine Cw_join (fun env' K' G' => [] = env' ∧ G = G' ∧ M_138z = some y0) ?_ ?_
  ·skip
   refine Cw_seq ?_
   refine Cw_region ?_
   refine Ow_q rfl rfl rfl (Qt_assign rfl) ?_
   refine Ow_nil ?_
   refine Cw_block ?_
   refine Cw_loopM (fun n208 env' K' G' => ∃ (i207 : Int), [(3, (.pointer (some ((⟨b103, 0, none⟩ : Addr).add 0)))), (4, (sv v94)), (5, (sv v96)), (6, (.int .i64 i207))] = env' ∧ (.blk b103 34 (Config.cells x87 v92 v93)) :: (.tok 99 1 [(sv v94)]) :: (.tok 3 1 [(sv v92)]) :: (.tok 23 1 [(sv v93)]) :: (.tok 65 8 [(sv v96)]) :: G = G' ∧ lp1 (M_139z x88 x89 x87) n208 i207 = some y0 ∧ Slr (Ty.sl TyOp) K' (sv v94) x88) BIG ?_ ?_
   ·skip
    refine Shift.settle (T := (Ty.sl TyOp)) (.there (.there (.there .here))) hs101 rfl ?_
    intro K209 hK210 hs211
    refine Shift.pull (.there (.there (.there (.there .here)))) ?_
    refine Shift.pull (.there (.there (.there .here))) ?_
    refine Shift.pull (.there (.there (.there .here))) ?_
    refine Shift.pull (.there (.there (.there (.there .here)))) ?_
    refine Shift.pull (.there (.there (.there (.there .here)))) ?_
    refine Shift.done ?_
    exact ⟨[(3, (.pointer (some ((⟨b103, 0, none⟩ : Addr).add 0)))), (4, (sv v94)), (5, (sv v96)), (6, (.int .i64 0))], ⟨rfl, rfl, rfl, rfl, trivial⟩, 0, rfl, rfl, H, hs211⟩
   rintro n208 _ K212 _ hK213 ⟨i207, rfl, rfl, H, hs206⟩
   obtain ⟨m214, k215, rfl, hkk216, H⟩ := lps1 H
   unfold M_139z at H
   refine Cw_seq ?_
   refine Cw_seq ?_
   refine Cw_region ?_
   refine Ow_q rfl rfl rfl (Qt_move rfl) ?_
   refine Ow_q rfl rfl rfl (Qt_move rfl) ?_
   have hs219 := (hs102).mono hK213
   refine Ow_q rfl rfl rfl (Q_len (T := TyEvent) hs219 rfl rfl) ?_
   refine Ow_q rfl rfl rfl (Qt_cmp rfl rfl rfl) ?_
   refine Ow_nil ?_
   refine Cw_cond rfl ?_ ?_
   ·intro h220
    have h220 := dcd_t (h220)
    have H := ift h220 H
    refine Cw_skip ?_
    refine Cw_seq ?_
    refine Cw_block ?_
    refine Cw_seq ?_
    obtain ⟨x236, hx237, H⟩ := bnd H
    obtain ⟨x239, hx240, H⟩ := bnd H
    refine Cw_region_any [.blk b103 34 (Config.cells x87 v92 v93), .tok 99 1 [(sv v94)], .tok 3 1 [(sv v92)], .tok 23 1 [(sv v93)], .tok 65 8 [(sv v96)]] rfl (Inc.cons (.head _) (Inc.cons (.tail _ (.head _)) (Inc.cons (.tail _ (.tail _ (.head _))) (Inc.cons (.tail _ (.tail _ (.tail _ (.head _)))) (Inc.cons (.tail _ (.tail _ (.tail _ (.tail _ (.head _))))) Inc.nil))))) ?_
    refine Aw_q 0 rfl (by kernel_rfl) (by kernel_rfl) (by kernel_rfl) rfl rfl rfl (Qt_loadA (m := 3) (cs := (Config.cells x87 v92 v93)) rfl rfl rfl rfl ⟨rfl, Rdc.blk (.head _) rfl⟩) ?_
    refine Aw_q 1 rfl (by kernel_rfl) (by kernel_rfl) (by kernel_rfl) rfl rfl rfl (Qt_move rfl) ?_
    refine Aw_q 2 rfl (by kernel_rfl) (by kernel_rfl) (by kernel_rfl) rfl rfl rfl (Qt_move rfl) ?_
    refine Aw_q 3 rfl (by kernel_rfl) (by kernel_rfl) (by kernel_rfl) rfl rfl rfl (Qt_move rfl) ?_
    have hs245 := Slr.cut hs219 hx237
    refine Aw_q 4 rfl (by kernel_rfl) (by kernel_rfl) (by kernel_rfl) rfl rfl rfl (Q_cutH (T := TyEvent) hs219 hx237 rfl rfl rfl rfl) ?_
    refine Aw_one 5 (by kernel_rfl) (Ax_mk rfl rfl ?_)
    have hs246 := (hs99).mono hK213
    have hs247 := (hs100).mono hK213
    refine OpW_call rfl Try.call31 rfl rfl (c_M_11z x87 v92 v93 x88 v94 x236 (cutS v96 8 0 i207.toNat) x239 hx240 _ _ hs246 hs247 hs206 hs245) ?_
    rintro _ K248 _ hK249 ⟨rfl, rfl⟩
    refine ⟨(Inc.cons (.head _) (Inc.cons (.tail _ (.head _)) (Inc.cons (.tail _ (.tail _ (.head _))) (Inc.cons (.tail _ (.tail _ (.tail _ (.head _)))) (Inc.cons (.tail _ (.tail _ (.tail _ (.tail _ (.head _))))) Inc.nil))))), ?_⟩
    refine Aw_q 6 rfl (by kernel_rfl) (by kernel_rfl) (by kernel_rfl) rfl rfl rfl (Qt_not rfl) ?_
    refine Aw_done (by kernel_rfl) ?_
    refine Cw_cond rfl ?_ ?_
    ·intro h250
     have h250 := nt_t (h250)
     have H := iff_ (btf h250) H
     refine Cw_seq ?_
     refine Cw_region ?_
     refine Ow_q rfl rfl rfl (Qt_assign rfl) ?_
     refine Ow_nil ?_
     refine Cw_ret ?_
     obtain ey0 := inj1 H
     subst y0
     refine ⟨(by first | exact .inl rfl | exact .inr rfl), [(.bool false)], ⟨(.bool false), _, rfl, rfl, rfl⟩, ?_⟩
     refine Shift.rem .here ?_
     refine Shift.rem .here ?_
     refine Shift.rem .here ?_
     refine Shift.rem .here ?_
     refine Shift.rem .here ?_
     refine Shift.done ?_
     exact ⟨rfl, rfl⟩
    ·intro h250
     have h250 := nt_f (h250)
     have H := ift h250 H
     refine Cw_skip ?_
     refine Cw_region ?_
     refine Ow_q rfl rfl rfl (Qt_move rfl) ?_
     refine Ow_q rfl rfl rfl (Qt_arith (e := wI (i207 + 3)) rfl rfl rfl rfl) ?_
     refine Ow_q rfl rfl rfl (Qt_assign rfl) ?_
     refine Ow_nil ?_
     refine Shift.pull (.there (.there (.there (.there .here)))) ?_
     refine Shift.pull (.there (.there (.there (.there .here)))) ?_
     refine Shift.pull (.there (.there (.there (.there .here)))) ?_
     refine Shift.pull (.there (.there (.there (.there .here)))) ?_
     refine Shift.pull (.there (.there (.there (.there .here)))) ?_
     have hs251 := (hs206).mono hK249
     refine Shift.done ?_
     exact ⟨[(3, (.pointer (some ((⟨b103, 0, none⟩ : Addr).add 0)))), (4, (sv v94)), (5, (sv v96)), (6, (.int .i64 (wI (i207 + 3))))], ⟨rfl, rfl, rfl, rfl, trivial⟩, _, Nat.lt_succ_self _, (wI (i207 + 3)), rfl, rfl, (hkk216 ▸ H), hs251⟩
   ·intro h220
    have h220 := dcd_f (h220)
    have H := iff_ h220 H
    refine Cw_exit ?_
    refine Shift.rem .here ?_
    refine Shift.rem .here ?_
    refine Shift.rem .here ?_
    refine Shift.rem .here ?_
    refine Shift.rem .here ?_
    refine Shift.done ?_
    exact ⟨[], trivial, rfl, rfl, H⟩
  rintro _ K252 _ hK253 ⟨rfl, rfl, H⟩
  unfold M_138z at H
  refine Cw_seq ?_
  refine Cw_region ?_
  refine Ow_q rfl rfl rfl (Qt_assign rfl) ?_
  refine Ow_nil ?_
  refine Cw_ret ?_
  obtain ey0 := inj1 H
  subst y0
  refine ⟨(by first | exact .inl rfl | exact .inr rfl), [(.bool true)], ⟨(.bool true), _, rfl, rfl, rfl⟩, ?_⟩
  refine Shift.done ?_
  exact ⟨rfl, rfl⟩



end Go.Hx
