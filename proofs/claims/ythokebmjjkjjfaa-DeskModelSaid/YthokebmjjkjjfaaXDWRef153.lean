/- Printed by program. -/
import Derived.Test.YthokebmjjkjjfaaXDM
import Derived.Test.YthokebmjjkjjfaaXDWRef15
import Derived.Test.YthokebmjjkjjfaaXDWSlices
import Derived.Test.YthokebmjjkjjfaaXDWDesk3
namespace Go.Hx
open Go Go.Proofs
set_option linter.unusedSimpArgs false
set_option linter.unusedVariables false
set_option maxRecDepth 10000
set_option maxHeartbeats 1000000 in
theorem c_M_158z (p0 : Desk) (vp0_chans : SV) (vp0_waiting : SV) (p1 : Int) (p2 : Op) (vp2_cases : SV) (vp2_draws : SV) (y0 : Desk) (y1 : List Done) (y2 : Bool) (H : M_158z p0 p1 p2 = some (y0, y1, y2)) (K : Kp) (G : List Ent) (hp0_chans : Slr TyChan K (sv vp0_chans) p0.chans) (hp0_waiting : Slr TyWaiter K (sv vp0_waiting) p0.waiting) (hp2_cases : Slr TyCase K (sv vp2_cases) p2.cases) (hp2_draws : Slr Ty.i64 K (sv vp2_draws) p2.draws) :
  Fc Try.prog 33 #[(.agg (Desk.cells p0 vp0_chans vp0_waiting).toArray), (.int .i64 p1), (.agg (Op.cells p2 vp2_cases vp2_draws).toArray)] K (G) (fun v K' G' => ∃ (wy0_chans : SV) (wy0_waiting : SV) (wy1 : SV), v = (.tuple #[(.agg (Desk.cells y0 wy0_chans wy0_waiting).toArray), (sv wy1), (.bool y2)]) ∧ (.tok 75 6 [(sv wy1)]) :: G = G' ∧ Slr TyChan K' (sv wy0_chans) y0.chans ∧ Slr TyWaiter K' (sv wy0_waiting) y0.waiting ∧ Slr TyDone K' (sv wy1) y1) := by
 refine Fc_body Try.func33 rfl Try.ntmps33 Try.results33 rfl ?_
 unfold M_158z at H
 refine Cw_seq<|Cw_region<|?_
 refine Ow_cons rfl (OpW_box (cs := (Desk.cells p0 vp0_chans vp0_waiting)) rfl rfl rfl (fun b298 => ?_))
 refine Ow_cons rfl (OpW_box (cs := (Op.cells p2 vp2_cases vp2_draws)) rfl rfl rfl (fun b299 => ?_))
 refine Ow_cons rfl (OpW_alloc (cs := (Desk.cells (Desk.mk [] [] 0) nilS nilS)) rfl rfl rfl rfl (fun b300 => ?_))
 refine Ow_q rfl rfl rfl (Qt_assign rfl)<|Ow_q rfl rfl rfl (Qt_assign rfl)<|Ow_nil<|Cw_seq<|Cw_seq<|Cw_region<|Ow_q rfl rfl rfl (Qt_fieldAddr (m := 0) rfl rfl rfl rfl rfl)<|Ow_q rfl rfl rfl (Qt_load1 (v := (.int .i64 p2.kind)) rfl rfl rfl (Rdc.blk Mb1 rfl))<|Ow_nil<|Cw_block<|?_
 refine Cw_seq<|Cw_region<|Ow_q rfl rfl rfl (Qt_cmp rfl rfl rfl)<|Ow_q rfl rfl rfl (Qt_assign rfl)<|Ow_nil<|?_
 refine Cw_cond rfl ?_ ?_
 ·intro h338
  have h338 := dcd_t (h338)
  have H := ift h338 H
  refine Cw_seq<|Cw_region<|Ow_q rfl rfl rfl (Qt_loadA (m := 3) (cs := (Desk.cells p0 vp0_chans vp0_waiting)) rfl rfl rfl rfl ⟨rfl, Rdc.blk Mb2 rfl⟩)<|Ow_q rfl rfl rfl (Qt_move rfl)<|Ow_q rfl rfl rfl (Qt_loadA (m := 7) (cs := (Op.cells p2 vp2_cases vp2_draws)) rfl rfl rfl rfl ⟨rfl, Rdc.blk Mb1 rfl⟩)<|?_
  obtain ⟨x339, x340, hx341, H⟩ := bnd2 H
  refine Ow_cons rfl (OpW_call rfl Try.call62 rfl rfl (c_M_150z p0 vp0_chans vp0_waiting p1 p2 vp2_cases vp2_draws x339 x340 hx341 _ _ hp0_chans hp0_waiting hp2_cases hp2_draws) ?_)
  rintro _ K345 _ hK346 ⟨v342, v343, v344, rfl, rfl, hs347, hs348, hs349⟩
  refine Ow_q rfl rfl rfl (Qt_move rfl)<|Ow_q rfl rfl rfl (Qt_extract rfl rfl)<|Ow_q rfl rfl rfl (Qt_extract rfl rfl)<|?_
  refine Ow_cons rfl (OpW_alloc (cs := (Desk.cells (Desk.mk [] [] 0) nilS nilS)) rfl rfl rfl rfl (fun b350 => ?_))
  refine Ow_cons rfl (OpW_store (vs := (Desk.cells x339 v342 v343)) (all' := (Desk.cells x339 v342 v343)) rfl rfl rfl rfl rfl .here rfl rfl rfl ?_)
  refine Ow_q rfl rfl rfl (Qt_assign rfl)<|Ow_nil<|Cw_seq<|Cw_region<|Ow_q rfl rfl rfl (Qt_loadA (m := 3) (cs := (Desk.cells x339 v342 v343)) rfl rfl rfl rfl ⟨rfl, Rdc.blk Mb0 rfl⟩)<|Ow_q rfl rfl rfl (Qt_move rfl)<|?_
  refine Ow_cons rfl (OpW_store (vs := (Desk.cells x339 v342 v343)) (all' := (Desk.cells x339 v342 v343)) rfl rfl rfl rfl rfl (.there (.there .here)) rfl rfl rfl ?_)
  refine Ow_q rfl rfl rfl (Qt_assign rfl)<|Ow_q rfl rfl rfl (Qt_assign rfl)<|Ow_nil<|Cw_ret<|?_
  obtain ⟨ey0, ey1, ey2⟩ := inj3 H
  subst y0 y1 y2
  refine ⟨(by first | exact .inl rfl | exact .inr rfl), [(.agg (Desk.cells x339 v342 v343).toArray), (sv v344), (.bool false)], ⟨(.agg (Desk.cells x339 v342 v343).toArray), _, rfl, ⟨_, 3, (Desk.cells x339 v342 v343), rfl, rfl, rfl, rfl, ⟨rfl, Rdc.blk Mb2 rfl⟩, rfl⟩, ⟨(sv v344), _, rfl, rfl, ⟨(.bool false), _, rfl, rfl, rfl⟩⟩⟩, ?_⟩
  refine Pu1<|Re1<|Re1<|Re1<|Re1<|Shift.done<|?_
  exact ⟨v342, v343, v344, rfl, rfl, hs347, hs348, hs349⟩
 ·intro h338
  have h338 := dcd_f (h338)
  have H := iff_ h338 H
  refine Cw_join (fun env' K' G' => ∃ (t352 : Bool), [(1, (.int .i64 p1)), (3, (.pointer (some ((⟨b298, 0, none⟩ : Addr).add 0)))), (5, (.pointer (some ((⟨b299, 0, none⟩ : Addr).add 0)))), (6, (.pointer (some ((⟨b300, 0, none⟩ : Addr).add 0)))), (28, (.bool t352))] = env' ∧ K = K' ∧ (.blk b300 34 (Desk.cells (Desk.mk [] [] 0) nilS nilS)) :: (.blk b299 41 (Op.cells p2 vp2_cases vp2_draws)) :: (.blk b298 34 (Desk.cells p0 vp0_chans vp0_waiting)) :: G = G' ∧ M_57z p1 p2 p0 t352 = some (y0, y1, y2)) ?_ ?_
  ·skip
   refine Cw_seq<|Cw_region<|Ow_q rfl rfl rfl (Qt_cmp rfl rfl rfl)<|Ow_q rfl rfl rfl (Qt_assign rfl)<|Ow_nil<|?_
   refine Cw_cond rfl ?_ ?_
   ·intro h353
    have h353 := dcd_t (h353)
    have H := ift h353 H
    refine Cw_skip<|Pu2<|Pu2<|Pu2<|Shift.done<|?_
    exact ⟨_, by exact ⟨rfl, rfl, rfl, rfl, rfl, trivial⟩, (dcd (p2.kind = 5)), rfl, rfl, rfl, H⟩
   ·intro h353
    have h353 := dcd_f (h353)
    have H := iff_ h353 H
    refine Cw_region<|Ow_q rfl rfl rfl (Qt_cmp rfl rfl rfl)<|Ow_q rfl rfl rfl (Qt_assign rfl)<|Ow_nil<|Pu2<|Pu2<|Pu2<|Shift.done<|?_
    exact ⟨_, by exact ⟨rfl, rfl, rfl, rfl, rfl, trivial⟩, (dcd (p2.kind = 6)), rfl, rfl, rfl, H⟩
  rintro _ _ _ - ⟨t352, rfl, rfl, rfl, H⟩
  unfold M_57z at H
  refine Cw_cond rfl ?_ ?_
  ·intro h354
   have H := ift h354 H
   refine Cw_seq<|Cw_region<|Ow_q rfl rfl rfl (Qt_assign rfl)<|Ow_nil<|?_
   refine Cw_join (fun env' K' G' => ∃ (i373 : Int), [(1, (.int .i64 p1)), (3, (.pointer (some ((⟨b298, 0, none⟩ : Addr).add 0)))), (6, (.pointer (some ((⟨b300, 0, none⟩ : Addr).add 0)))), (11, (.int .i64 i373))] = env' ∧ K = K' ∧ (.blk b300 34 (Desk.cells (Desk.mk [] [] 0) nilS nilS)) :: (.blk b298 34 (Desk.cells p0 vp0_chans vp0_waiting)) :: G = G' ∧ M_98z p1 p0 i373 = some (y0, y1, y2)) ?_ ?_
   ·skip
    refine Cw_join (fun env' K' G' => ∃ (t375 : Bool), [(1, (.int .i64 p1)), (3, (.pointer (some ((⟨b298, 0, none⟩ : Addr).add 0)))), (5, (.pointer (some ((⟨b299, 0, none⟩ : Addr).add 0)))), (6, (.pointer (some ((⟨b300, 0, none⟩ : Addr).add 0)))), (11, (.int .i64 0)), (41, (.bool t375))] = env' ∧ K = K' ∧ (.blk b300 34 (Desk.cells (Desk.mk [] [] 0) nilS nilS)) :: (.blk b299 41 (Op.cells p2 vp2_cases vp2_draws)) :: (.blk b298 34 (Desk.cells p0 vp0_chans vp0_waiting)) :: G = G' ∧ M_157z p1 p2 p0 t375 = some (y0, y1, y2)) ?_ ?_
    ·skip
     refine Cw_region<|Ow_q rfl rfl rfl (Qt_fieldAddr (m := 2) rfl rfl rfl rfl rfl)<|Ow_q rfl rfl rfl (Qt_load1 (v := (.int .i64 p2.channel)) rfl rfl rfl (Rdc.blk Mb1 rfl))<|Ow_q rfl rfl rfl (Qt_cmp rfl rfl rfl)<|Ow_q rfl rfl rfl (Qt_move rfl)<|?_
     refine Ow_caseG rfl rfl rfl ?_ ?_
     ·intro h376
      have h376 := dcd_t (h376)
      have H := ift h376 H
      refine Ow_qw rfl rfl rfl rfl rfl rfl (Qt_fieldAddr (m := 2) rfl rfl rfl rfl rfl)<|Ow_qw rfl rfl rfl rfl rfl rfl (Qt_load1 (v := (.int .i64 p2.channel)) rfl rfl rfl (Rdc.blk Mb1 rfl))<|Ow_qw rfl rfl rfl rfl rfl rfl (Qt_fieldAddr (m := 0) rfl rfl rfl rfl rfl)<|Ow_qw rfl rfl rfl rfl rfl rfl (Qt_load1 (v := (sv vp0_chans)) rfl rfl rfl (Rdc.blk Mb2 rfl))<|Ow_qw rfl rfl rfl rfl rfl rfl (Q_len (T := TyChan) hp0_chans rfl rfl)<|Ow_qw rfl rfl rfl rfl rfl rfl (Qt_cmp rfl rfl rfl)<|Ow_q rfl rfl rfl (Qt_pick_t rfl rfl)<|Ow_nil<|Pu2<|Pu2<|?_
      refine Pu2<|Shift.done<|?_
      exact ⟨_, by exact ⟨rfl, rfl, rfl, rfl, rfl, rfl, trivial⟩, (dcd (p2.channel < (p0.chans.length : Int))), rfl, rfl, rfl, H⟩
     ·intro h376
      have h376 := dcd_f (h376)
      have H := iff_ h376 H
      refine Ow_pass rfl rfl rfl rfl rfl rfl rfl<|Ow_pass rfl rfl rfl rfl rfl rfl rfl<|Ow_pass rfl rfl rfl rfl rfl rfl rfl<|Ow_pass rfl rfl rfl rfl rfl rfl rfl<|Ow_pass rfl rfl rfl rfl rfl rfl rfl<|Ow_pass rfl rfl rfl rfl rfl rfl rfl<|Ow_q rfl rfl rfl (Qt_pick_f rfl rfl)<|Ow_nil<|Pu2<|Pu2<|?_
      refine Pu2<|Shift.done<|?_
      exact ⟨_, by exact ⟨rfl, rfl, rfl, rfl, rfl, rfl, trivial⟩, false, rfl, rfl, rfl, H⟩
    rintro _ _ _ - ⟨t375, rfl, rfl, rfl, H⟩
    unfold M_157z at H
    refine Cw_cond rfl ?_ ?_
    ·intro h377
     have H := ift h377 H
     refine Cw_seq<|Cw_region<|Ow_q rfl rfl rfl (Qt_fieldAddr (m := 0) rfl rfl rfl rfl rfl)<|Ow_q rfl rfl rfl (Qt_load1 (v := (sv vp0_chans)) rfl rfl rfl (Rdc.blk Mb2 rfl))<|Ow_q rfl rfl rfl (Qt_fieldAddr (m := 2) rfl rfl rfl rfl rfl)<|Ow_q rfl rfl rfl (Qt_load1 (v := (.int .i64 p2.channel)) rfl rfl rfl (Rdc.blk Mb1 rfl))<|?_
     obtain ⟨x378, hx379, H⟩ := bnd H
     obtain ⟨r380, hr381, hk382⟩ := Slr.at hp0_chans hx379
     obtain ⟨v383, rfl, hs384⟩ := hr381
     refine Ow_q rfl rfl rfl (Q_ix (T := TyChan) hp0_chans hx379 rfl rfl rfl rfl rfl)<|Ow_q rfl rfl rfl (Qt_fieldAddr (m := 1) rfl rfl rfl rfl rfl)<|Ow_q rfl rfl rfl (Qt_load1 (v := (sv v383)) rfl rfl rfl (Rdc.k hk382 rfl))<|Ow_q rfl rfl rfl (Q_len (T := Ty.u64) hs384 rfl rfl)<|Ow_q rfl rfl rfl (Qt_assign rfl)<|Ow_nil<|Cw_seq<|Cw_region<|Ow_q rfl rfl rfl (Qt_fieldAddr (m := 0) rfl rfl rfl rfl rfl)<|Ow_q rfl rfl rfl (Qt_load1 (v := (.int .i64 p2.kind)) rfl rfl rfl (Rdc.blk Mb1 rfl))<|?_
     refine Ow_q rfl rfl rfl (Qt_cmp rfl rfl rfl)<|Ow_nil<|?_
     refine Cw_cond rfl ?_ ?_
     ·intro h385
      have h385 := dcd_t (h385)
      have H := ift h385 H
      refine Cw_region<|Ow_q rfl rfl rfl (Qt_fieldAddr (m := 0) rfl rfl rfl rfl rfl)<|Ow_q rfl rfl rfl (Qt_load1 (v := (sv vp0_chans)) rfl rfl rfl (Rdc.blk Mb2 rfl))<|Ow_q rfl rfl rfl (Qt_fieldAddr (m := 2) rfl rfl rfl rfl rfl)<|Ow_q rfl rfl rfl (Qt_load1 (v := (.int .i64 p2.channel)) rfl rfl rfl (Rdc.blk Mb1 rfl))<|?_
      obtain ⟨x386, hx387, H⟩ := bnd H
      obtain ⟨r388, hr389, hk390⟩ := Slr.at hp0_chans hx387
      obtain ⟨v391, rfl, hs392⟩ := hr389
      refine Ow_q rfl rfl rfl (Q_ix (T := TyChan) hp0_chans hx387 rfl rfl rfl rfl rfl)<|Ow_q rfl rfl rfl (Qt_fieldAddr (m := 0) rfl rfl rfl rfl rfl)<|Ow_q rfl rfl rfl (Qt_load1 (v := (.int .i64 x386.capacity)) rfl rfl rfl (Rdc.k hk390 rfl))<|Ow_q rfl rfl rfl (Qt_assign rfl)<|Ow_nil<|Pu2<|Pu1<|Re2<|Shift.done<|?_
      exact ⟨_, by exact ⟨rfl, rfl, rfl, rfl, trivial⟩, x386.capacity, rfl, rfl, rfl, H⟩
     ·intro h385
      have h385 := dcd_f (h385)
      have H := iff_ h385 H
      refine Cw_skip<|Pu2<|Pu1<|Re2<|Shift.done<|?_
      exact ⟨_, by exact ⟨rfl, rfl, rfl, rfl, trivial⟩, (x378.buffer.length : Int), rfl, rfl, rfl, H⟩
    ·intro h377
     have H := iff_ (btf h377) H
     refine Cw_skip<|Pu2<|Pu1<|Re2<|Shift.done<|?_
     exact ⟨_, by exact ⟨rfl, rfl, rfl, rfl, trivial⟩, 0, rfl, rfl, rfl, H⟩
   rintro _ _ _ - ⟨i373, rfl, rfl, rfl, H⟩
   unfold M_98z at H
   refine Cw_seq<|Cw_region<|Ow_q rfl rfl rfl (Qt_loadA (m := 3) (cs := (Desk.cells p0 vp0_chans vp0_waiting)) rfl rfl rfl rfl ⟨rfl, Rdc.blk Mb1 rfl⟩)<|Ow_q rfl rfl rfl (Qt_move rfl)<|Ow_q rfl rfl rfl (Qt_move rfl)<|Ow_q rfl rfl rfl (Qt_build (cs := (Result.cells (Result.mk 7 (-1) 0 false i373))) rfl rfl rfl rfl rfl rfl)<|Ow_q rfl rfl rfl (Qt_build (cs := (Done.cells (Done.mk p1 (Result.mk 7 (-1) 0 false i373)))) rfl rfl rfl rfl rfl rfl)<|?_
   have hR394 : RowR TyDone K [(Done.cells (Done.mk p1 (Result.mk 7 (-1) 0 false i373)))] [(Done.mk p1 (Result.mk 7 (-1) 0 false i373))] := RowR.cons rfl (RowR.nil)
   refine Ow_cons rfl (O_lit (T := TyDone) (rows := [(Done.cells (Done.mk p1 (Result.mk 7 (-1) 0 false i373)))]) (l := [(Done.mk p1 (Result.mk 7 (-1) 0 false i373))]) rfl rfl rfl hR394 rfl rfl rfl rfl rfl rfl rfl rfl (fun v393 => ?_))
   refine Ow_cons rfl (OpW_store (vs := (Desk.cells p0 vp0_chans vp0_waiting)) (all' := (Desk.cells p0 vp0_chans vp0_waiting)) rfl rfl rfl rfl rfl (.there .here) rfl rfl rfl ?_)
   refine Ow_q rfl rfl rfl (Qt_assign rfl)<|Ow_q rfl rfl rfl (Qt_assign rfl)<|Ow_nil<|Cw_ret<|?_
   obtain ⟨ey0, ey1, ey2⟩ := inj3 H
   subst y0 y1 y2
   refine ⟨(by first | exact .inl rfl | exact .inr rfl), [(.agg (Desk.cells p0 vp0_chans vp0_waiting).toArray), (sv v393), (.bool false)], ⟨(.agg (Desk.cells p0 vp0_chans vp0_waiting).toArray), _, rfl, ⟨_, 3, (Desk.cells p0 vp0_chans vp0_waiting), rfl, rfl, rfl, rfl, ⟨rfl, Rdc.blk Mb1 rfl⟩, rfl⟩, ⟨(sv v393), _, rfl, rfl, ⟨(.bool false), _, rfl, rfl, rfl⟩⟩⟩, ?_⟩
   refine Shift.settle (T := TyDone) .here hR394 rfl ?_
   intro K395 hK396 hs397
   refine Re1<|Re1<|?_
   have hs398 := (hp0_chans).mono hK396
   have hs399 := (hp0_waiting).mono hK396
   exact Shift.done ⟨vp0_chans, vp0_waiting, v393, rfl, rfl, hs398, hs399, hs397⟩
  ·intro h354
   have H := iff_ (btf h354) H
   refine Cw_skip<|Cw_seq<|Cw_region<|Ow_q rfl rfl rfl (Qt_assign rfl)<|Ow_nil<|?_
   refine Cw_join (fun env' K' G' => ∃ (i434 : Int), [(1, (.int .i64 p1)), (3, (.pointer (some ((⟨b298, 0, none⟩ : Addr).add 0)))), (5, (.pointer (some ((⟨b299, 0, none⟩ : Addr).add 0)))), (6, (.pointer (some ((⟨b300, 0, none⟩ : Addr).add 0)))), (12, (.int .i64 i434))] = env' ∧ (.blk b300 34 (Desk.cells (Desk.mk [] [] 0) nilS nilS)) :: (.blk b299 41 (Op.cells p2 vp2_cases vp2_draws)) :: (.blk b298 34 (Desk.cells p0 vp0_chans vp0_waiting)) :: G = G' ∧ M_56z p1 p2 p0 i434 = some (y0, y1, y2)) ?_ ?_
   ·skip
    refine Cw_seq<|Cw_region<|Ow_q rfl rfl rfl (Qt_fieldAddr (m := 0) rfl rfl rfl rfl rfl)<|Ow_q rfl rfl rfl (Qt_load1 (v := (.int .i64 p2.kind)) rfl rfl rfl (Rdc.blk Mb1 rfl))<|Ow_q rfl rfl rfl (Qt_cmp rfl rfl rfl)<|Ow_nil<|?_
    refine Cw_cond rfl ?_ ?_
    ·intro h435
     have h435 := dcd_t (h435)
     have H := ift h435 H
     refine Cw_region<|Ow_q rfl rfl rfl (Qt_loadA (m := 3) (cs := (Desk.cells p0 vp0_chans vp0_waiting)) rfl rfl rfl rfl ⟨rfl, Rdc.blk Mb2 rfl⟩)<|Ow_q rfl rfl rfl (Qt_move rfl)<|Ow_q rfl rfl rfl (Qt_loadA (m := 7) (cs := (Op.cells p2 vp2_cases vp2_draws)) rfl rfl rfl rfl ⟨rfl, Rdc.blk Mb1 rfl⟩)<|?_
     obtain ⟨x436, hx437, H⟩ := bnd H
     refine Ow_cons rfl (OpW_call rfl Try.call19 rfl rfl (c_M_155z p0 vp0_chans vp0_waiting p1 p2 vp2_cases vp2_draws x436 hx437 _ _ hp0_chans hp0_waiting hp2_cases hp2_draws) ?_)
     rintro _ K438 _ hK439 ⟨rfl, rfl⟩
     refine Ow_q rfl rfl rfl (Qt_assign rfl)<|Ow_nil<|Pu2<|Pu2<|Pu2<|Shift.done<|?_
     exact ⟨_, by exact ⟨rfl, rfl, rfl, rfl, rfl, trivial⟩, x436, rfl, rfl, H⟩
    ·intro h435
     have h435 := dcd_f (h435)
     have H := iff_ h435 H
     refine Cw_seq ?_
     obtain ⟨x468, hx469, H⟩ := bnd H
     obtain ⟨x474, hx475, H⟩ := bnd H
     obtain ⟨x479, hx480, H⟩ := bnd H
     refine Cw_region_any [.blk b300 34 (Desk.cells (Desk.mk [] [] 0) nilS nilS), .blk b299 41 (Op.cells p2 vp2_cases vp2_draws), .blk b298 34 (Desk.cells p0 vp0_chans vp0_waiting)] rfl (Inc.cons Mb0 (Inc.cons Mb1 (Inc.cons Mb2 Inc.nil)))<|Awq 0 rfl (by kernel_rfl) rfl rfl rfl (Qt_loadA (m := 3) (cs := (Desk.cells p0 vp0_chans vp0_waiting)) rfl rfl rfl rfl ⟨rfl, Rdc.blk Mb2 rfl⟩)<|Awq 1 rfl (by kernel_rfl) rfl rfl rfl (Qt_move rfl)<|Awq 2 rfl (by kernel_rfl) rfl rfl rfl (Qt_loadA (m := 7) (cs := (Op.cells p2 vp2_cases vp2_draws)) rfl rfl rfl rfl ⟨rfl, Rdc.blk Mb1 rfl⟩)<|?_
     refine Aw_one 3 (by kernel_rfl) (Ax_mk rfl rfl ?_)
     refine OpW_call rfl Try.call63 rfl rfl (c_M_2z p2 vp2_cases vp2_draws x468 hx469 _ _ hp2_cases hp2_draws) ?_
     rintro _ K486 _ hK487 ⟨v485, rfl, rfl, hs488⟩
     refine ⟨(Inc.cons Mb0 (Inc.cons Mb1 (Inc.cons Mb2 Inc.nil))), ?_⟩
     obtain ⟨r489, hr490, hk491⟩ := Slr.at hs488 hx475
     obtain rfl := hr490
     refine Aw_one 4 (by kernel_rfl) (Ax_mk rfl rfl (OpW_of_Qt rfl rfl (Q_ix (T := TyCase) hs488 hx475 rfl rfl rfl rfl rfl) ⟨(Inc.cons Mb0 (Inc.cons Mb1 (Inc.cons Mb2 Inc.nil))), ?_⟩))
     refine Aw_one 5 (by kernel_rfl) (Ax_mk rfl rfl (OpW_of_Qt rfl rfl (Qt_loadA (m := 3) (cs := (Case.cells x474)) rfl rfl rfl rfl ⟨rfl, Rdc.k hk491 rfl⟩) ⟨(Inc.cons Mb0 (Inc.cons Mb1 (Inc.cons Mb2 Inc.nil))), ?_⟩))
     refine Aw_one 6 (by kernel_rfl) (Ax_mk rfl rfl ?_)
     have hs492 := (hp0_chans).mono hK487
     have hs493 := (hp0_waiting).mono hK487
     refine OpW_call rfl Try.call17 rfl rfl (c_M_96z p0 vp0_chans vp0_waiting p1 x474 x479 hx480 _ _ hs492 hs493) ?_
     rintro _ K494 _ hK495 ⟨rfl, rfl⟩
     refine ⟨(Inc.cons Mb0 (Inc.cons Mb1 (Inc.cons Mb2 Inc.nil))), ?_⟩
     refine Aw_done (by kernel_rfl) ?_
     refine Cw_cond rfl ?_ ?_
     ·intro h496
      have H := ift h496 H
      refine Cw_region<|Ow_q rfl rfl rfl (Qt_assign rfl)<|Ow_nil<|Pu2<|Pu2<|Pu2<|Shift.done<|?_
      exact ⟨_, by exact ⟨rfl, rfl, rfl, rfl, rfl, trivial⟩, 0, rfl, rfl, H⟩
     ·intro h496
      have H := iff_ (btf h496) H
      refine Cw_skip<|Pu2<|Pu2<|Pu2<|Shift.done<|?_
      exact ⟨_, by exact ⟨rfl, rfl, rfl, rfl, rfl, trivial⟩, (-1), rfl, rfl, H⟩
   rintro _ K497 _ hK498 ⟨i434, rfl, rfl, H⟩
   unfold M_56z at H
   refine Cw_seq<|Cw_seq<|Cw_region<|Ow_q rfl rfl rfl (Qt_move rfl)<|Ow_q rfl rfl rfl (Qt_cmp rfl rfl rfl)<|Ow_nil<|?_
   refine Cw_cond rfl ?_ ?_
   ·intro h628
    have h628 := dcd_t (h628)
    have H := ift h628 H
    refine Cw_join (fun env' K' G' => ∃ (b744 : Nat) (v745 : SV) (l746 : List Done) (v748 : SV) (l749 : List Chan) (v751 : SV) (l752 : List Waiter) (i754 : Int), [(6, (.pointer (some ((⟨b300, 0, none⟩ : Addr).add 0)))), (13, (.pointer (some ((⟨b744, 0, none⟩ : Addr).add 0)))), (14, (sv v745))] = env' ∧ (.blk b744 34 (Desk.cells (Desk.mk l749 l752 i754) v748 v751)) :: (.blk b300 34 (Desk.cells (Desk.mk [] [] 0) nilS nilS)) :: (.tok 75 6 [(sv v745)]) :: G = G' ∧ M_221z l746 l749 l752 i754 = some (y0, y1, y2) ∧ Slr TyDone K' (sv v745) l746 ∧ Slr TyChan K' (sv v748) l749 ∧ Slr TyWaiter K' (sv v751) l752) ?_ ?_
    ·skip
     obtain ⟨x755, hx756, H⟩ := bnd H
     obtain ⟨x763, hx764, H⟩ := bnd H
     obtain ⟨x768, x769, hx770, H⟩ := bnd2 H
     refine Cw_region_any [.blk b300 34 (Desk.cells (Desk.mk [] [] 0) nilS nilS), .blk b299 41 (Op.cells p2 vp2_cases vp2_draws), .blk b298 34 (Desk.cells p0 vp0_chans vp0_waiting)] rfl (Inc.cons Mb0 (Inc.cons Mb1 (Inc.cons Mb2 Inc.nil)))<|Awq 0 rfl (by kernel_rfl) rfl rfl rfl (Qt_loadA (m := 3) (cs := (Desk.cells p0 vp0_chans vp0_waiting)) rfl rfl rfl rfl ⟨rfl, Rdc.blk Mb2 rfl⟩)<|Awq 1 rfl (by kernel_rfl) rfl rfl rfl (Qt_move rfl)<|Awq 2 rfl (by kernel_rfl) rfl rfl rfl (Qt_loadA (m := 7) (cs := (Op.cells p2 vp2_cases vp2_draws)) rfl rfl rfl rfl ⟨rfl, Rdc.blk Mb1 rfl⟩)<|Awq 3 rfl (by kernel_rfl) rfl rfl rfl (Qt_move rfl)<|Awq 4 rfl (by kernel_rfl) rfl rfl rfl (Qt_loadA (m := 7) (cs := (Op.cells p2 vp2_cases vp2_draws)) rfl rfl rfl rfl ⟨rfl, Rdc.blk Mb1 rfl⟩)<|Awq 6 rfl (by kernel_rfl) rfl rfl rfl (Qt_move rfl)<|?_
     refine Aw_two 5 13 (by kernel_rfl) ?_ ?_
     ·skip
      refine id (Ax_mk rfl rfl ?_)
      have hs784 := (hp2_cases).mono hK498
      have hs785 := (hp2_draws).mono hK498
      refine OpW_call rfl Try.call63 rfl rfl (c_M_2z p2 vp2_cases vp2_draws x755 hx756 _ _ hs784 hs785) ?_
      rintro _ K787 _ hK788 ⟨v786, rfl, rfl, hs789⟩
      refine ⟨(Inc.cons Mb0 (Inc.cons Mb1 (Inc.cons Mb2 Inc.nil))), ?_⟩
      refine Aw_two 7 13 (by kernel_rfl) ?_ ?_
      ·skip
       obtain ⟨r790, hr791, hk792⟩ := Slr.at hs789 hx764
       obtain rfl := hr791
       refine id (Ax_mk rfl rfl (OpW_of_Qt rfl rfl (Q_ix (T := TyCase) hs789 hx764 rfl rfl rfl rfl rfl) ⟨(Inc.cons Mb0 (Inc.cons Mb1 (Inc.cons Mb2 Inc.nil))), ?_⟩))
       refine Aw_two 8 13 (by kernel_rfl) ?_ ?_
       ·skip
        refine id (Ax_mk rfl rfl (OpW_of_Qt rfl rfl (Qt_loadA (m := 3) (cs := (Case.cells x763)) rfl rfl rfl rfl ⟨rfl, Rdc.k hk792 rfl⟩) ⟨(Inc.cons Mb0 (Inc.cons Mb1 (Inc.cons Mb2 Inc.nil))), ?_⟩))
        refine Aw_two 9 13 (by kernel_rfl) ?_ ?_
        ·skip
         refine id (Ax_mk rfl rfl ?_)
         have hs793 := ((hp0_chans).mono hK498).mono hK788
         have hs794 := ((hp0_waiting).mono hK498).mono hK788
         have hs795 := (hs784).mono hK788
         have hs796 := (hs785).mono hK788
         refine OpW_call rfl Try.call64 rfl rfl (c_M_156z p0 vp0_chans vp0_waiting p1 p2 vp2_cases vp2_draws i434 x763 x768 x769 hx770 _ _ hs793 hs794 hs795 hs796) ?_
         rintro _ K800 _ hK801 ⟨v797, v798, v799, rfl, rfl, hs802, hs803, hs804⟩
         refine ⟨(Inc.cons Mb1 (Inc.cons Mb2 (Inc.cons Mb3 Inc.nil))), ?_⟩
         refine Awq 10 rfl (by kernel_rfl) rfl rfl rfl (Qt_move rfl)<|Awq 11 rfl (by kernel_rfl) rfl rfl rfl (Qt_extract rfl rfl)<|Awq 12 rfl (by kernel_rfl) rfl rfl rfl (Qt_extract rfl rfl)<|?_
         refine Aw_one 13 (by kernel_rfl) (Ax_mk rfl rfl ?_)
         refine OpW_alloc (cs := (Desk.cells (Desk.mk [] [] 0) nilS nilS)) rfl rfl rfl rfl (fun b805 => ⟨(Inc.cons Mb2 (Inc.cons Mb3 (Inc.cons Mb4 Inc.nil))), ?_⟩)
         refine Aw_one 14 (by kernel_rfl) (Ax_mk rfl rfl ?_)
         refine OpW_store (vs := (Desk.cells x768 v797 v798)) (all' := (Desk.cells x768 v797 v798)) rfl rfl rfl rfl rfl .here rfl rfl rfl ⟨(Inc.cons Mb2 (Inc.cons Mb3 (Inc.cons Mb4 Inc.nil))), ?_⟩
         refine Awq 15 rfl (by kernel_rfl) rfl rfl rfl (Qt_assign rfl)<|Aw_done (by kernel_rfl)<|Pu1<|Pu2<|Pu2<|Re3<|Re3<|Shift.done<|?_
         exact ⟨_, by exact ⟨rfl, rfl, rfl, trivial⟩, b805, v799, x769, v797, x768.chans, v798, x768.waiting, x768.tick, rfl, rfl, H, hs804, hs802, hs803⟩
        ·skip
         refine id (Ax_mk rfl rfl ?_)
         refine OpW_alloc (cs := (Desk.cells (Desk.mk [] [] 0) nilS nilS)) rfl rfl rfl rfl (fun b806 => ⟨(Inc.cons Mb1 (Inc.cons Mb2 (Inc.cons Mb3 Inc.nil))), ?_⟩)
         refine Aw_one 9 (by kernel_rfl) (Ax_mk rfl rfl ?_)
         have hs807 := ((hp0_chans).mono hK498).mono hK788
         have hs808 := ((hp0_waiting).mono hK498).mono hK788
         have hs809 := (hs784).mono hK788
         have hs810 := (hs785).mono hK788
         refine OpW_call rfl Try.call64 rfl rfl (c_M_156z p0 vp0_chans vp0_waiting p1 p2 vp2_cases vp2_draws i434 x763 x768 x769 hx770 _ _ hs807 hs808 hs809 hs810) ?_
         rintro _ K814 _ hK815 ⟨v811, v812, v813, rfl, rfl, hs816, hs817, hs818⟩
         refine ⟨(Inc.cons Mb2 (Inc.cons Mb3 (Inc.cons Mb4 Inc.nil))), ?_⟩
         refine Awq 10 rfl (by kernel_rfl) rfl rfl rfl (Qt_move rfl)<|Awq 11 rfl (by kernel_rfl) rfl rfl rfl (Qt_extract rfl rfl)<|Awq 12 rfl (by kernel_rfl) rfl rfl rfl (Qt_extract rfl rfl)<|?_
         refine Aw_one 14 (by kernel_rfl) (Ax_mk rfl rfl ?_)
         refine OpW_store (vs := (Desk.cells x768 v811 v812)) (all' := (Desk.cells x768 v811 v812)) rfl rfl rfl rfl rfl (.there .here) rfl rfl rfl ⟨(Inc.cons Mb2 (Inc.cons Mb3 (Inc.cons Mb4 Inc.nil))), ?_⟩
         refine Awq 15 rfl (by kernel_rfl) rfl rfl rfl (Qt_assign rfl)<|Aw_done (by kernel_rfl)<|Pu2<|Pu2<|Re3<|Re3<|Shift.done<|?_
         exact ⟨_, by exact ⟨rfl, rfl, rfl, trivial⟩, b806, v813, x769, v811, x768.chans, v812, x768.waiting, x768.tick, rfl, rfl, H, hs818, hs816, hs817⟩
       ·skip
        refine id (Ax_mk rfl rfl ?_)
        refine OpW_alloc (cs := (Desk.cells (Desk.mk [] [] 0) nilS nilS)) rfl rfl rfl rfl (fun b819 => ⟨(Inc.cons Mb1 (Inc.cons Mb2 (Inc.cons Mb3 Inc.nil))), ?_⟩)
        refine Aw_one 8 (by kernel_rfl) (Ax_mk rfl rfl (OpW_of_Qt rfl rfl (Qt_loadA (m := 3) (cs := (Case.cells x763)) rfl rfl rfl rfl ⟨rfl, Rdc.k hk792 rfl⟩) ⟨(Inc.cons Mb1 (Inc.cons Mb2 (Inc.cons Mb3 Inc.nil))), ?_⟩))
        refine Aw_one 9 (by kernel_rfl) (Ax_mk rfl rfl ?_)
        have hs820 := ((hp0_chans).mono hK498).mono hK788
        have hs821 := ((hp0_waiting).mono hK498).mono hK788
        have hs822 := (hs784).mono hK788
        have hs823 := (hs785).mono hK788
        refine OpW_call rfl Try.call64 rfl rfl (c_M_156z p0 vp0_chans vp0_waiting p1 p2 vp2_cases vp2_draws i434 x763 x768 x769 hx770 _ _ hs820 hs821 hs822 hs823) ?_
        rintro _ K827 _ hK828 ⟨v824, v825, v826, rfl, rfl, hs829, hs830, hs831⟩
        refine ⟨(Inc.cons Mb2 (Inc.cons Mb3 (Inc.cons Mb4 Inc.nil))), ?_⟩
        refine Awq 10 rfl (by kernel_rfl) rfl rfl rfl (Qt_move rfl)<|Awq 11 rfl (by kernel_rfl) rfl rfl rfl (Qt_extract rfl rfl)<|Awq 12 rfl (by kernel_rfl) rfl rfl rfl (Qt_extract rfl rfl)<|?_
        refine Aw_one 14 (by kernel_rfl) (Ax_mk rfl rfl ?_)
        refine OpW_store (vs := (Desk.cells x768 v824 v825)) (all' := (Desk.cells x768 v824 v825)) rfl rfl rfl rfl rfl (.there .here) rfl rfl rfl ⟨(Inc.cons Mb2 (Inc.cons Mb3 (Inc.cons Mb4 Inc.nil))), ?_⟩
        refine Awq 15 rfl (by kernel_rfl) rfl rfl rfl (Qt_assign rfl)<|Aw_done (by kernel_rfl)<|Pu2<|Pu2<|Re3<|Re3<|Shift.done<|?_
        exact ⟨_, by exact ⟨rfl, rfl, rfl, trivial⟩, b819, v826, x769, v824, x768.chans, v825, x768.waiting, x768.tick, rfl, rfl, H, hs831, hs829, hs830⟩
      ·skip
       refine id (Ax_mk rfl rfl ?_)
       refine OpW_alloc (cs := (Desk.cells (Desk.mk [] [] 0) nilS nilS)) rfl rfl rfl rfl (fun b832 => ⟨(Inc.cons Mb1 (Inc.cons Mb2 (Inc.cons Mb3 Inc.nil))), ?_⟩)
       obtain ⟨r833, hr834, hk835⟩ := Slr.at hs789 hx764
       obtain rfl := hr834
       refine Aw_one 7 (by kernel_rfl) (Ax_mk rfl rfl (OpW_of_Qt rfl rfl (Q_ix (T := TyCase) hs789 hx764 rfl rfl rfl rfl rfl) ⟨(Inc.cons Mb1 (Inc.cons Mb2 (Inc.cons Mb3 Inc.nil))), ?_⟩))
       refine Aw_one 8 (by kernel_rfl) (Ax_mk rfl rfl (OpW_of_Qt rfl rfl (Qt_loadA (m := 3) (cs := (Case.cells x763)) rfl rfl rfl rfl ⟨rfl, Rdc.k hk835 rfl⟩) ⟨(Inc.cons Mb1 (Inc.cons Mb2 (Inc.cons Mb3 Inc.nil))), ?_⟩))
       refine Aw_one 9 (by kernel_rfl) (Ax_mk rfl rfl ?_)
       have hs836 := ((hp0_chans).mono hK498).mono hK788
       have hs837 := ((hp0_waiting).mono hK498).mono hK788
       have hs838 := (hs784).mono hK788
       have hs839 := (hs785).mono hK788
       refine OpW_call rfl Try.call64 rfl rfl (c_M_156z p0 vp0_chans vp0_waiting p1 p2 vp2_cases vp2_draws i434 x763 x768 x769 hx770 _ _ hs836 hs837 hs838 hs839) ?_
       rintro _ K843 _ hK844 ⟨v840, v841, v842, rfl, rfl, hs845, hs846, hs847⟩
       refine ⟨(Inc.cons Mb2 (Inc.cons Mb3 (Inc.cons Mb4 Inc.nil))), ?_⟩
       refine Awq 10 rfl (by kernel_rfl) rfl rfl rfl (Qt_move rfl)<|Awq 11 rfl (by kernel_rfl) rfl rfl rfl (Qt_extract rfl rfl)<|Awq 12 rfl (by kernel_rfl) rfl rfl rfl (Qt_extract rfl rfl)<|?_
       refine Aw_one 14 (by kernel_rfl) (Ax_mk rfl rfl ?_)
       refine OpW_store (vs := (Desk.cells x768 v840 v841)) (all' := (Desk.cells x768 v840 v841)) rfl rfl rfl rfl rfl (.there .here) rfl rfl rfl ⟨(Inc.cons Mb2 (Inc.cons Mb3 (Inc.cons Mb4 Inc.nil))), ?_⟩
       refine Awq 15 rfl (by kernel_rfl) rfl rfl rfl (Qt_assign rfl)<|Aw_done (by kernel_rfl)<|Pu2<|Pu2<|Re3<|Re3<|Shift.done<|?_
       exact ⟨_, by exact ⟨rfl, rfl, rfl, trivial⟩, b832, v842, x769, v840, x768.chans, v841, x768.waiting, x768.tick, rfl, rfl, H, hs847, hs845, hs846⟩
     ·skip
      refine id (Ax_mk rfl rfl ?_)
      refine OpW_alloc (cs := (Desk.cells (Desk.mk [] [] 0) nilS nilS)) rfl rfl rfl rfl (fun b848 => ⟨(Inc.cons Mb1 (Inc.cons Mb2 (Inc.cons Mb3 Inc.nil))), ?_⟩)
      refine Aw_one 5 (by kernel_rfl) (Ax_mk rfl rfl ?_)
      have hs849 := (hp2_cases).mono hK498
      have hs850 := (hp2_draws).mono hK498
      refine OpW_call rfl Try.call63 rfl rfl (c_M_2z p2 vp2_cases vp2_draws x755 hx756 _ _ hs849 hs850) ?_
      rintro _ K852 _ hK853 ⟨v851, rfl, rfl, hs854⟩
      refine ⟨(Inc.cons Mb1 (Inc.cons Mb2 (Inc.cons Mb3 Inc.nil))), ?_⟩
      obtain ⟨r855, hr856, hk857⟩ := Slr.at hs854 hx764
      obtain rfl := hr856
      refine Aw_one 7 (by kernel_rfl) (Ax_mk rfl rfl (OpW_of_Qt rfl rfl (Q_ix (T := TyCase) hs854 hx764 rfl rfl rfl rfl rfl) ⟨(Inc.cons Mb1 (Inc.cons Mb2 (Inc.cons Mb3 Inc.nil))), ?_⟩))
      refine Aw_one 8 (by kernel_rfl) (Ax_mk rfl rfl (OpW_of_Qt rfl rfl (Qt_loadA (m := 3) (cs := (Case.cells x763)) rfl rfl rfl rfl ⟨rfl, Rdc.k hk857 rfl⟩) ⟨(Inc.cons Mb1 (Inc.cons Mb2 (Inc.cons Mb3 Inc.nil))), ?_⟩))
      refine Aw_one 9 (by kernel_rfl) (Ax_mk rfl rfl ?_)
      have hs858 := ((hp0_chans).mono hK498).mono hK853
      have hs859 := ((hp0_waiting).mono hK498).mono hK853
      have hs860 := (hs849).mono hK853
      have hs861 := (hs850).mono hK853
      refine OpW_call rfl Try.call64 rfl rfl (c_M_156z p0 vp0_chans vp0_waiting p1 p2 vp2_cases vp2_draws i434 x763 x768 x769 hx770 _ _ hs858 hs859 hs860 hs861) ?_
      rintro _ K865 _ hK866 ⟨v862, v863, v864, rfl, rfl, hs867, hs868, hs869⟩
      refine ⟨(Inc.cons Mb2 (Inc.cons Mb3 (Inc.cons Mb4 Inc.nil))), ?_⟩
      refine Awq 10 rfl (by kernel_rfl) rfl rfl rfl (Qt_move rfl)<|Awq 11 rfl (by kernel_rfl) rfl rfl rfl (Qt_extract rfl rfl)<|Awq 12 rfl (by kernel_rfl) rfl rfl rfl (Qt_extract rfl rfl)<|?_
      refine Aw_one 14 (by kernel_rfl) (Ax_mk rfl rfl ?_)
      refine OpW_store (vs := (Desk.cells x768 v862 v863)) (all' := (Desk.cells x768 v862 v863)) rfl rfl rfl rfl rfl (.there .here) rfl rfl rfl ⟨(Inc.cons Mb2 (Inc.cons Mb3 (Inc.cons Mb4 Inc.nil))), ?_⟩
      refine Awq 15 rfl (by kernel_rfl) rfl rfl rfl (Qt_assign rfl)<|Aw_done (by kernel_rfl)<|Pu2<|Pu2<|Re3<|Re3<|Shift.done<|?_
      exact ⟨_, by exact ⟨rfl, rfl, rfl, trivial⟩, b848, v864, x769, v862, x768.chans, v863, x768.waiting, x768.tick, rfl, rfl, H, hs869, hs867, hs868⟩
    rintro _ K870 _ hK871 ⟨b744, v745, l746, v748, l749, v751, l752, i754, rfl, rfl, H, hs747, hs750, hs753⟩
    unfold M_221z at H
    refine Cw_seq<|Cw_region<|Ow_q rfl rfl rfl (Qt_loadA (m := 3) (cs := (Desk.cells (Desk.mk l749 l752 i754) v748 v751)) rfl rfl rfl rfl ⟨rfl, Rdc.blk Mb0 rfl⟩)<|Ow_q rfl rfl rfl (Qt_move rfl)<|?_
    refine Ow_cons rfl (OpW_store (vs := (Desk.cells (Desk.mk l749 l752 i754) v748 v751)) (all' := (Desk.cells (Desk.mk l749 l752 i754) v748 v751)) rfl rfl rfl rfl rfl (.there .here) rfl rfl rfl ?_)
    refine Ow_q rfl rfl rfl (Qt_assign rfl)<|Ow_q rfl rfl rfl (Qt_assign rfl)<|Ow_nil<|Cw_ret<|?_
    obtain ⟨ey0, ey1, ey2⟩ := inj3 H
    subst y0 y1 y2
    refine ⟨(by first | exact .inl rfl | exact .inr rfl), [(.agg (Desk.cells (Desk.mk l749 l752 i754) v748 v751).toArray), (sv v745), (.bool false)], ⟨(.agg (Desk.cells (Desk.mk l749 l752 i754) v748 v751).toArray), _, rfl, ⟨_, 3, (Desk.cells (Desk.mk l749 l752 i754) v748 v751), rfl, rfl, rfl, rfl, ⟨rfl, Rdc.blk Mb1 rfl⟩, rfl⟩, ⟨(sv v745), _, rfl, rfl, ⟨(.bool false), _, rfl, rfl, rfl⟩⟩⟩, ?_⟩
    refine Pu2<|Re1<|Re1<|Shift.done<|?_
    exact ⟨v748, v751, v745, rfl, rfl, hs750, hs753, hs747⟩
   ·intro h628
    have h628 := dcd_f (h628)
    have H := iff_ h628 H
    refine Cw_skip<|Cw_seq<|Cw_seq<|Cw_region<|Ow_q rfl rfl rfl (Qt_fieldAddr (m := 1) rfl rfl rfl rfl rfl)<|Ow_q rfl rfl rfl (Qt_load1 (v := (.int .i64 p2.mode)) rfl rfl rfl (Rdc.blk Mb1 rfl))<|Ow_q rfl rfl rfl (Qt_cmp rfl rfl rfl)<|Ow_nil<|?_
    refine Cw_cond rfl ?_ ?_
    ·intro h875
     have h875 := dcd_t (h875)
     have H := ift h875 H
     refine Cw_seq<|Cw_region<|Ow_q rfl rfl rfl (Qt_loadA (m := 3) (cs := (Desk.cells p0 vp0_chans vp0_waiting)) rfl rfl rfl rfl ⟨rfl, Rdc.blk Mb2 rfl⟩)<|Ow_q rfl rfl rfl (Qt_move rfl)<|Ow_q rfl rfl rfl (Qt_build (cs := (Result.cells (Result.mk 3 (-1) 0 false 0))) rfl rfl rfl rfl rfl rfl)<|Ow_q rfl rfl rfl (Qt_build (cs := (Done.cells (Done.mk p1 (Result.mk 3 (-1) 0 false 0)))) rfl rfl rfl rfl rfl rfl)<|?_
     have hR877 : RowR TyDone K497 [(Done.cells (Done.mk p1 (Result.mk 3 (-1) 0 false 0)))] [(Done.mk p1 (Result.mk 3 (-1) 0 false 0))] := RowR.cons rfl (RowR.nil)
     refine Ow_cons rfl (O_lit (T := TyDone) (rows := [(Done.cells (Done.mk p1 (Result.mk 3 (-1) 0 false 0)))]) (l := [(Done.mk p1 (Result.mk 3 (-1) 0 false 0))]) rfl rfl rfl hR877 rfl rfl rfl rfl rfl rfl rfl rfl (fun v876 => ?_))
     refine Ow_cons rfl (OpW_store (vs := (Desk.cells p0 vp0_chans vp0_waiting)) (all' := (Desk.cells p0 vp0_chans vp0_waiting)) rfl rfl rfl rfl rfl (.there .here) rfl rfl rfl ?_)
     refine Ow_q rfl rfl rfl (Qt_assign rfl)<|Ow_q rfl rfl rfl (Qt_assign rfl)<|Ow_nil<|Cw_ret<|?_
     obtain ⟨ey0, ey1, ey2⟩ := inj3 H
     subst y0 y1 y2
     refine ⟨(by first | exact .inl rfl | exact .inr rfl), [(.agg (Desk.cells p0 vp0_chans vp0_waiting).toArray), (sv v876), (.bool false)], ⟨(.agg (Desk.cells p0 vp0_chans vp0_waiting).toArray), _, rfl, ⟨_, 3, (Desk.cells p0 vp0_chans vp0_waiting), rfl, rfl, rfl, rfl, ⟨rfl, Rdc.blk Mb1 rfl⟩, rfl⟩, ⟨(sv v876), _, rfl, rfl, ⟨(.bool false), _, rfl, rfl, rfl⟩⟩⟩, ?_⟩
     refine Shift.settle (T := TyDone) .here hR877 rfl ?_
     intro K878 hK879 hs880
     refine Re1<|Re1<|Re1<|?_
     have hs881 := ((hp0_chans).mono hK498).mono hK879
     have hs882 := ((hp0_waiting).mono hK498).mono hK879
     exact Shift.done ⟨vp0_chans, vp0_waiting, v876, rfl, rfl, hs881, hs882, hs880⟩
    ·intro h875
     have h875 := dcd_f (h875)
     have H := iff_ h875 H
     refine Cw_skip<|Cw_seq<|?_
     refine Cw_join (fun env' K' G' => ∃ (t889 : Bool), [(1, (.int .i64 p1)), (3, (.pointer (some ((⟨b298, 0, none⟩ : Addr).add 0)))), (5, (.pointer (some ((⟨b299, 0, none⟩ : Addr).add 0)))), (6, (.pointer (some ((⟨b300, 0, none⟩ : Addr).add 0)))), (114, (.bool t889))] = env' ∧ K497 = K' ∧ (.blk b300 34 (Desk.cells (Desk.mk [] [] 0) nilS nilS)) :: (.blk b299 41 (Op.cells p2 vp2_cases vp2_draws)) :: (.blk b298 34 (Desk.cells p0 vp0_chans vp0_waiting)) :: G = G' ∧ M_99z p1 p2 p0 t889 = some (y0, y1, y2)) ?_ ?_
     ·skip
      refine Cw_region<|Ow_q rfl rfl rfl (Qt_fieldAddr (m := 1) rfl rfl rfl rfl rfl)<|Ow_q rfl rfl rfl (Qt_load1 (v := (.int .i64 p2.mode)) rfl rfl rfl (Rdc.blk Mb1 rfl))<|Ow_q rfl rfl rfl (Qt_cmp rfl rfl rfl)<|Ow_q rfl rfl rfl (Qt_move rfl)<|?_
      refine Ow_caseG rfl rfl rfl ?_ ?_
      ·intro h890
       have h890 := dcd_t (h890)
       have H := ift h890 H
       refine Ow_qw rfl rfl rfl rfl rfl rfl (Qt_fieldAddr (m := 4) rfl rfl rfl rfl rfl)<|Ow_qw rfl rfl rfl rfl rfl rfl (Qt_load1 (v := (.int .i64 p2.deadline)) rfl rfl rfl (Rdc.blk Mb1 rfl))<|Ow_qw rfl rfl rfl rfl rfl rfl (Qt_fieldAddr (m := 2) rfl rfl rfl rfl rfl)<|Ow_qw rfl rfl rfl rfl rfl rfl (Qt_load1 (v := (.int .i64 p0.tick)) rfl rfl rfl (Rdc.blk Mb2 rfl))<|Ow_qw rfl rfl rfl rfl rfl rfl (Qt_cmp rfl rfl rfl)<|Ow_q rfl rfl rfl (Qt_pick_t rfl rfl)<|Ow_nil<|Pu2<|Pu2<|Pu2<|?_
       exact Shift.done ⟨_, by exact ⟨rfl, rfl, rfl, rfl, rfl, trivial⟩, (dcd (p2.deadline ≤ p0.tick)), rfl, rfl, rfl, H⟩
      ·intro h890
       have h890 := dcd_f (h890)
       have H := iff_ h890 H
       refine Ow_pass rfl rfl rfl rfl rfl rfl rfl<|Ow_pass rfl rfl rfl rfl rfl rfl rfl<|Ow_pass rfl rfl rfl rfl rfl rfl rfl<|Ow_pass rfl rfl rfl rfl rfl rfl rfl<|Ow_pass rfl rfl rfl rfl rfl rfl rfl<|Ow_q rfl rfl rfl (Qt_pick_f rfl rfl)<|Ow_nil<|Pu2<|Pu2<|Pu2<|?_
       exact Shift.done ⟨_, by exact ⟨rfl, rfl, rfl, rfl, rfl, trivial⟩, false, rfl, rfl, rfl, H⟩
     rintro _ _ _ - ⟨t889, rfl, rfl, rfl, H⟩
     unfold M_99z at H
     refine Cw_cond rfl ?_ ?_
     ·intro h891
      have H := ift h891 H
      refine Cw_seq<|Cw_region<|Ow_q rfl rfl rfl (Qt_loadA (m := 3) (cs := (Desk.cells p0 vp0_chans vp0_waiting)) rfl rfl rfl rfl ⟨rfl, Rdc.blk Mb2 rfl⟩)<|Ow_q rfl rfl rfl (Qt_move rfl)<|Ow_q rfl rfl rfl (Qt_build (cs := (Result.cells (Result.mk 4 (-1) 0 false 0))) rfl rfl rfl rfl rfl rfl)<|Ow_q rfl rfl rfl (Qt_build (cs := (Done.cells (Done.mk p1 (Result.mk 4 (-1) 0 false 0)))) rfl rfl rfl rfl rfl rfl)<|?_
      have hR893 : RowR TyDone K497 [(Done.cells (Done.mk p1 (Result.mk 4 (-1) 0 false 0)))] [(Done.mk p1 (Result.mk 4 (-1) 0 false 0))] := RowR.cons rfl (RowR.nil)
      refine Ow_cons rfl (O_lit (T := TyDone) (rows := [(Done.cells (Done.mk p1 (Result.mk 4 (-1) 0 false 0)))]) (l := [(Done.mk p1 (Result.mk 4 (-1) 0 false 0))]) rfl rfl rfl hR893 rfl rfl rfl rfl rfl rfl rfl rfl (fun v892 => ?_))
      refine Ow_cons rfl (OpW_store (vs := (Desk.cells p0 vp0_chans vp0_waiting)) (all' := (Desk.cells p0 vp0_chans vp0_waiting)) rfl rfl rfl rfl rfl (.there .here) rfl rfl rfl ?_)
      refine Ow_q rfl rfl rfl (Qt_assign rfl)<|Ow_q rfl rfl rfl (Qt_assign rfl)<|Ow_nil<|Cw_ret<|?_
      obtain ⟨ey0, ey1, ey2⟩ := inj3 H
      subst y0 y1 y2
      refine ⟨(by first | exact .inl rfl | exact .inr rfl), [(.agg (Desk.cells p0 vp0_chans vp0_waiting).toArray), (sv v892), (.bool false)], ⟨(.agg (Desk.cells p0 vp0_chans vp0_waiting).toArray), _, rfl, ⟨_, 3, (Desk.cells p0 vp0_chans vp0_waiting), rfl, rfl, rfl, rfl, ⟨rfl, Rdc.blk Mb1 rfl⟩, rfl⟩, ⟨(sv v892), _, rfl, rfl, ⟨(.bool false), _, rfl, rfl, rfl⟩⟩⟩, ?_⟩
      refine Shift.settle (T := TyDone) .here hR893 rfl ?_
      intro K894 hK895 hs896
      refine Re1<|Re1<|Re1<|?_
      have hs897 := ((hp0_chans).mono hK498).mono hK895
      have hs898 := ((hp0_waiting).mono hK498).mono hK895
      exact Shift.done ⟨vp0_chans, vp0_waiting, v892, rfl, rfl, hs897, hs898, hs896⟩
     ·intro h891
      have H := iff_ (btf h891) H
      refine Cw_skip ?_
      refine Cw_join (fun env' K' G' => ∃ (v957 : SV) (l958 : List Waiter), [(3, (.pointer (some ((⟨b298, 0, none⟩ : Addr).add 0)))), (6, (.pointer (some ((⟨b300, 0, none⟩ : Addr).add 0))))] = env' ∧ (.blk b300 34 (Desk.cells (Desk.mk [] [] 0) nilS nilS)) :: (.blk b298 34 (Desk.cells (Desk.mk p0.chans l958 p0.tick) vp0_chans v957)) :: (.tok 52 8 [(sv v957)]) :: G = G' ∧ M_222z p0 l958 = some (y0, y1, y2) ∧ Slr TyWaiter K' (sv v957) l958) ?_ ?_
      ·skip
       obtain ⟨x960, hx961, H⟩ := bnd H
       obtain ⟨x971, hx972, H⟩ := bnd H
       refine Cw_region_any [.blk b300 34 (Desk.cells (Desk.mk [] [] 0) nilS nilS), .blk b299 41 (Op.cells p2 vp2_cases vp2_draws)] rfl (Inc.cons Mb0 (Inc.cons Mb1 Inc.nil))<|Awq 0 rfl (by kernel_rfl) rfl rfl rfl (Qt_fieldAddr (m := 1) rfl rfl rfl rfl rfl)<|Awq 3 rfl (by kernel_rfl) rfl rfl rfl (Qt_move rfl)<|Awq 4 rfl (by kernel_rfl) rfl rfl rfl (Qt_loadA (m := 7) (cs := (Op.cells p2 vp2_cases vp2_draws)) rfl rfl rfl rfl ⟨rfl, Rdc.blk Mb1 rfl⟩)<|Awq 5 rfl (by kernel_rfl) rfl rfl rfl (Qt_build (cs := (Waiter.cells (Waiter.mk p1 p2) vp2_cases vp2_draws)) rfl rfl rfl rfl rfl rfl)<|?_
       refine Aw_two 1 6 (by kernel_rfl) ?_ ?_
       ·skip
        refine id (Ax_mk rfl rfl (OpW_of_Qt rfl rfl (Qt_load1 (v := (sv vp0_waiting)) rfl rfl rfl (Rdc.blk Mb2 rfl)) ⟨(Inc.cons Mb0 (Inc.cons Mb1 Inc.nil)), ?_⟩))
        refine Aw_two 2 6 (by kernel_rfl) ?_ ?_
        ·skip
         refine id (Ax_mk rfl rfl ?_)
         refine OpW.shift (Shift.nilTok1 52 8 (Shift.done ?_))
         have hs977 := (hp0_waiting).mono hK498
         refine O_appTok (T := TyWaiter) (bytes := 96) (q := 0) rfl rfl rfl (Slr.nil TyWaiter _) Mb0 rfl (SrcT.sl hs977) hx961 rfl rfl rfl rfl rfl rfl rfl rfl (fun v978 K979 hK980 hs981 => ⟨_, .here, ⟨(Inc.cons Mb1 (Inc.cons Mb2 Inc.nil)), ?_⟩⟩)
         refine Aw_one 6 (by kernel_rfl) (Ax_mk rfl rfl ?_)
         have hs984 := ((hp2_cases).mono hK498).mono hK980
         have hs985 := ((hp2_draws).mono hK498).mono hK980
         have hR983 : RowR TyWaiter K979 [(Waiter.cells (Waiter.mk p1 p2) vp2_cases vp2_draws)] [(Waiter.mk p1 p2)] := RowR.cons ⟨vp2_cases, vp2_draws, rfl, hs984, hs985⟩ (RowR.nil)
         refine O_lit (T := TyWaiter) (rows := [(Waiter.cells (Waiter.mk p1 p2) vp2_cases vp2_draws)]) (l := [(Waiter.mk p1 p2)]) rfl rfl rfl hR983 rfl rfl rfl rfl rfl rfl rfl rfl (fun v982 => ⟨(Inc.cons Mb2 (Inc.cons Mb3 Inc.nil)), ?_⟩)
         refine Aw_one 7 (by kernel_rfl) (Ax_mk rfl rfl ?_)
         refine O_appTok (T := TyWaiter) (bytes := 96) (q := 0) rfl rfl rfl hs981 Mb1 rfl (SrcT.row Mb0 hR983 rfl) hx972 rfl rfl rfl rfl rfl rfl rfl rfl (fun v986 K987 hK988 hs989 => ⟨_, (.there .here), ⟨(Inc.cons Mb2 (Inc.cons Mb3 Inc.nil)), ?_⟩⟩)
         refine Aw.shift (Re0 (Shift.done ⟨(Inc.cons Mb1 (Inc.cons Mb2 Inc.nil)), ?_⟩))
         refine Awq 8 rfl (by kernel_rfl) rfl rfl rfl (Qt_fieldAddr (m := 1) rfl rfl rfl rfl rfl) ?_
         refine Aw_one 9 (by kernel_rfl) (Ax_mk rfl rfl ?_)
         refine OpW_store (vs := [(sv v986)]) (all' := (Desk.cells (Desk.mk p0.chans x971 p0.tick) vp0_chans v986)) rfl rfl rfl rfl rfl (.there (.there (.there .here))) rfl rfl rfl ⟨(Inc.cons Mb1 (Inc.cons Mb2 Inc.nil)), ?_⟩
         refine Aw_done (by kernel_rfl)<|Pu3<|Pu2<|Re3<|Shift.done<|?_
         exact ⟨_, by exact ⟨rfl, rfl, trivial⟩, v986, x971, rfl, rfl, H, hs989⟩
        ·skip
         refine id (Ax_mk rfl rfl ?_)
         have hs992 := (hp2_cases).mono hK498
         have hs993 := (hp2_draws).mono hK498
         have hR991 : RowR TyWaiter K497 [(Waiter.cells (Waiter.mk p1 p2) vp2_cases vp2_draws)] [(Waiter.mk p1 p2)] := RowR.cons ⟨vp2_cases, vp2_draws, rfl, hs992, hs993⟩ (RowR.nil)
         refine O_lit (T := TyWaiter) (rows := [(Waiter.cells (Waiter.mk p1 p2) vp2_cases vp2_draws)]) (l := [(Waiter.mk p1 p2)]) rfl rfl rfl hR991 rfl rfl rfl rfl rfl rfl rfl rfl (fun v990 => ⟨(Inc.cons Mb1 (Inc.cons Mb2 Inc.nil)), ?_⟩)
         refine Aw_one 2 (by kernel_rfl) (Ax_mk rfl rfl ?_)
         refine OpW.shift (Shift.nilTok1 52 8 (Shift.done ?_))
         have hs994 := (hp0_waiting).mono hK498
         refine O_appTok (T := TyWaiter) (bytes := 96) (q := 0) rfl rfl rfl (Slr.nil TyWaiter _) Mb0 rfl (SrcT.sl hs994) hx961 rfl rfl rfl rfl rfl rfl rfl rfl (fun v995 K996 hK997 hs998 => ⟨_, .here, ⟨(Inc.cons Mb2 (Inc.cons Mb3 Inc.nil)), ?_⟩⟩)
         refine Aw_one 7 (by kernel_rfl) (Ax_mk rfl rfl ?_)
         have hs999 := (hR991).mono hK997
         refine O_appTok (T := TyWaiter) (bytes := 96) (q := 0) rfl rfl rfl hs998 Mb0 rfl (SrcT.row Mb1 hs999 rfl) hx972 rfl rfl rfl rfl rfl rfl rfl rfl (fun v1000 K1001 hK1002 hs1003 => ⟨_, .here, ⟨(Inc.cons Mb2 (Inc.cons Mb3 Inc.nil)), ?_⟩⟩)
         refine Aw.shift (Re1 (Shift.done ⟨(Inc.cons Mb1 (Inc.cons Mb2 Inc.nil)), ?_⟩))
         refine Awq 8 rfl (by kernel_rfl) rfl rfl rfl (Qt_fieldAddr (m := 1) rfl rfl rfl rfl rfl) ?_
         refine Aw_one 9 (by kernel_rfl) (Ax_mk rfl rfl ?_)
         refine OpW_store (vs := [(sv v1000)]) (all' := (Desk.cells (Desk.mk p0.chans x971 p0.tick) vp0_chans v1000)) rfl rfl rfl rfl rfl (.there (.there (.there .here))) rfl rfl rfl ⟨(Inc.cons Mb1 (Inc.cons Mb2 Inc.nil)), ?_⟩
         refine Aw_done (by kernel_rfl)<|Pu3<|Pu2<|Re3<|Shift.done<|?_
         exact ⟨_, by exact ⟨rfl, rfl, trivial⟩, v1000, x971, rfl, rfl, H, hs1003⟩
       ·skip
        refine id (Ax_mk rfl rfl ?_)
        have hs1006 := (hp2_cases).mono hK498
        have hs1007 := (hp2_draws).mono hK498
        have hR1005 : RowR TyWaiter K497 [(Waiter.cells (Waiter.mk p1 p2) vp2_cases vp2_draws)] [(Waiter.mk p1 p2)] := RowR.cons ⟨vp2_cases, vp2_draws, rfl, hs1006, hs1007⟩ (RowR.nil)
        refine O_lit (T := TyWaiter) (rows := [(Waiter.cells (Waiter.mk p1 p2) vp2_cases vp2_draws)]) (l := [(Waiter.mk p1 p2)]) rfl rfl rfl hR1005 rfl rfl rfl rfl rfl rfl rfl rfl (fun v1004 => ⟨(Inc.cons Mb1 (Inc.cons Mb2 Inc.nil)), ?_⟩)
        refine Aw_one 1 (by kernel_rfl) (Ax_mk rfl rfl (OpW_of_Qt rfl rfl (Qt_load1 (v := (sv vp0_waiting)) rfl rfl rfl (Rdc.blk Mb3 rfl)) ⟨(Inc.cons Mb1 (Inc.cons Mb2 Inc.nil)), ?_⟩))
        refine Aw_one 2 (by kernel_rfl) (Ax_mk rfl rfl ?_)
        refine OpW.shift (Shift.nilTok1 52 8 (Shift.done ?_))
        have hs1008 := (hp0_waiting).mono hK498
        refine O_appTok (T := TyWaiter) (bytes := 96) (q := 0) rfl rfl rfl (Slr.nil TyWaiter _) Mb0 rfl (SrcT.sl hs1008) hx961 rfl rfl rfl rfl rfl rfl rfl rfl (fun v1009 K1010 hK1011 hs1012 => ⟨_, .here, ⟨(Inc.cons Mb2 (Inc.cons Mb3 Inc.nil)), ?_⟩⟩)
        refine Aw_one 7 (by kernel_rfl) (Ax_mk rfl rfl ?_)
        have hs1013 := (hR1005).mono hK1011
        refine O_appTok (T := TyWaiter) (bytes := 96) (q := 0) rfl rfl rfl hs1012 Mb0 rfl (SrcT.row Mb1 hs1013 rfl) hx972 rfl rfl rfl rfl rfl rfl rfl rfl (fun v1014 K1015 hK1016 hs1017 => ⟨_, .here, ⟨(Inc.cons Mb2 (Inc.cons Mb3 Inc.nil)), ?_⟩⟩)
        refine Aw.shift (Re1 (Shift.done ⟨(Inc.cons Mb1 (Inc.cons Mb2 Inc.nil)), ?_⟩))
        refine Awq 8 rfl (by kernel_rfl) rfl rfl rfl (Qt_fieldAddr (m := 1) rfl rfl rfl rfl rfl) ?_
        refine Aw_one 9 (by kernel_rfl) (Ax_mk rfl rfl ?_)
        refine OpW_store (vs := [(sv v1014)]) (all' := (Desk.cells (Desk.mk p0.chans x971 p0.tick) vp0_chans v1014)) rfl rfl rfl rfl rfl (.there (.there (.there .here))) rfl rfl rfl ⟨(Inc.cons Mb1 (Inc.cons Mb2 Inc.nil)), ?_⟩
        refine Aw_done (by kernel_rfl)<|Pu3<|Pu2<|Re3<|Shift.done<|?_
        exact ⟨_, by exact ⟨rfl, rfl, trivial⟩, v1014, x971, rfl, rfl, H, hs1017⟩
      rintro _ K1018 _ hK1019 ⟨v957, l958, rfl, rfl, H, hs959⟩
      unfold M_222z at H
      refine Cw_seq<|Cw_region<|Ow_q rfl rfl rfl (Qt_loadA (m := 3) (cs := (Desk.cells (Desk.mk p0.chans l958 p0.tick) vp0_chans v957)) rfl rfl rfl rfl ⟨rfl, Rdc.blk Mb1 rfl⟩)<|?_
      refine Ow_cons rfl (OpW_store (vs := (Desk.cells (Desk.mk p0.chans l958 p0.tick) vp0_chans v957)) (all' := (Desk.cells (Desk.mk p0.chans l958 p0.tick) vp0_chans v957)) rfl rfl rfl rfl rfl .here rfl rfl rfl ?_)
      refine Ow_q rfl rfl rfl (Qt_assign rfl)<|Ow_q rfl rfl rfl (Qt_assign rfl)<|Ow_nil<|Cw_ret<|?_
      obtain ⟨ey0, ey1, ey2⟩ := inj3 H
      subst y0 y1 y2
      refine ⟨(by first | exact .inl rfl | exact .inr rfl), [(.agg (Desk.cells (Desk.mk p0.chans l958 p0.tick) vp0_chans v957).toArray), (sv nilS), (.bool true)], ⟨(.agg (Desk.cells (Desk.mk p0.chans l958 p0.tick) vp0_chans v957).toArray), _, rfl, ⟨_, 3, (Desk.cells (Desk.mk p0.chans l958 p0.tick) vp0_chans v957), rfl, rfl, rfl, rfl, ⟨rfl, Rdc.blk Mb0 rfl⟩, rfl⟩, ⟨(sv nilS), _, rfl, rfl, ⟨(.bool true), _, rfl, rfl, rfl⟩⟩⟩, ?_⟩
      refine Shift.nilTok1 75 6<|Re1<|Re1<|Re1<|?_
      have hs1020 := ((hp0_chans).mono hK498).mono hK1019
      exact Shift.done ⟨vp0_chans, v957, nilS, rfl, rfl, hs1020, hs959, (Slr.nil TyDone _)⟩


end Go.Hx

namespace Go.Hx
open Go Go.Proofs
set_option linter.unusedSimpArgs false
set_option linter.unusedVariables false
set_option maxRecDepth 10000
set_option maxHeartbeats 1000000 in
theorem c_M_59z (bp0 : Nat) (p0 : Draw_Codes) (vp0_list : SV) (p1 : Config) (vp1_capacities : SV) (vp1_starts : SV) (p2 : Int) (y0 : Desk) (z0_at_ : Int) (z0_value : Int) (H : M_59z p0 p1 p2 = some (y0, z0_at_, z0_value)) (K : Kp) (G : List Ent) (hp0_list : Slr Ty.u8 K (sv vp0_list) p0.list) (hp1_capacities : Slr Ty.i64 K (sv vp1_capacities) p1.capacities) (hp1_starts : Slr Ty.u64 K (sv vp1_starts) p1.starts) :
  Fc Try.prog 12 #[(.pointer (some ((⟨bp0, 0, none⟩ : Addr).add 0))), (.agg (Config.cells p1 vp1_capacities vp1_starts).toArray), (.int .i64 p2)] K ((.blk bp0 77 (Draw_Codes.cells p0 vp0_list)) :: G) (fun v K' G' => ∃ (wy0_chans : SV) (wy0_waiting : SV), v = (.agg (Desk.cells y0 wy0_chans wy0_waiting).toArray) ∧ (.blk bp0 77 (Draw_Codes.cells (Draw_Codes.mk p0.list z0_at_ z0_value) vp0_list)) :: G = G' ∧ Slr TyChan K' (sv wy0_chans) y0.chans ∧ Slr TyWaiter K' (sv wy0_waiting) y0.waiting) := by
 refine Fc_body Try.func12 rfl Try.ntmps12 Try.results12 rfl ?_
 unfold M_59z at H
 refine Cw_seq<|Cw_region<|?_
 refine Ow_cons rfl (OpW_box (cs := (Config.cells p1 vp1_capacities vp1_starts)) rfl rfl rfl (fun b250 => ?_))
 refine Ow_cons rfl (OpW_alloc (cs := (Desk.cells (Desk.mk [] [] 0) nilS nilS)) rfl rfl rfl rfl (fun b251 => ?_))
 refine Ow_nil<|Cw_seq<|Cw_region<|Ow_q rfl rfl rfl (Qt_loadA (m := 3) (cs := (Config.cells p1 vp1_capacities vp1_starts)) rfl rfl rfl rfl ⟨rfl, Rdc.blk Mb1 rfl⟩)<|?_
 obtain ⟨x252, hx253, H⟩ := bnd H
 refine Ow_cons rfl (OpW_call rfl Try.call28 rfl rfl (c_M_139z p1 vp1_capacities vp1_starts x252 hx253 _ _ hp1_capacities hp1_starts) ?_)
 rintro _ K256 _ hK257 ⟨v254, v255, rfl, rfl, hs258, hs259⟩
 refine Ow_cons rfl (OpW_alloc (cs := (Desk.cells (Desk.mk [] [] 0) nilS nilS)) rfl rfl rfl rfl (fun b260 => ?_))
 refine Ow_cons rfl (OpW_store (vs := (Desk.cells x252 v254 v255)) (all' := (Desk.cells x252 v254 v255)) rfl rfl rfl rfl rfl .here rfl rfl rfl ?_)
 refine Ow_nil ?_
 refine Cw_join (fun env' K' G' => ∃ (i475 : Int) (i476 : Int) (v477 : SV) (l478 : List Chan) (v480 : SV) (l481 : List Waiter) (i483 : Int), [(6, (.pointer (some ((⟨b251, 0, none⟩ : Addr).add 0)))), (7, (.pointer (some ((⟨b260, 0, none⟩ : Addr).add 0))))] = env' ∧ (.blk bp0 77 (Draw_Codes.cells (Draw_Codes.mk p0.list i475 i476) vp0_list)) :: (.blk b260 34 (Desk.cells (Desk.mk l478 l481 i483) v477 v480)) :: (.blk b251 34 (Desk.cells (Desk.mk [] [] 0) nilS nilS)) :: G = G' ∧ M_58z p0 i475 i476 l478 l481 i483 = some (y0, z0_at_, z0_value) ∧ Slr TyChan K' (sv v477) l478 ∧ Slr TyWaiter K' (sv v480) l481) ?_ ?_
 ·skip
  refine Cw_seq<|Cw_region<|Ow_q rfl rfl rfl (Qt_assign rfl)<|Ow_nil<|Cw_block<|?_
  refine Cw_loopM (fun n698 env' K' G' => ∃ (i688 : Int) (i689 : Int) (i690 : Int) (v691 : SV) (l692 : List Chan) (v694 : SV) (l695 : List Waiter) (i697 : Int), [(0, (.pointer (some ((⟨bp0, 0, none⟩ : Addr).add 0)))), (2, (.int .i64 p2)), (4, (.pointer (some ((⟨b250, 0, none⟩ : Addr).add 0)))), (6, (.pointer (some ((⟨b251, 0, none⟩ : Addr).add 0)))), (7, (.pointer (some ((⟨b260, 0, none⟩ : Addr).add 0)))), (8, (.int .i64 i688))] = env' ∧ (.blk bp0 77 (Draw_Codes.cells (Draw_Codes.mk p0.list i689 i690) vp0_list)) :: (.blk b260 34 (Desk.cells (Desk.mk l692 l695 i697) v691 v694)) :: (.blk b251 34 (Desk.cells (Desk.mk [] [] 0) nilS nilS)) :: (.blk b250 29 (Config.cells p1 vp1_capacities vp1_starts)) :: G = G' ∧ lp6 (M_159z p2 p0 p1) n698 i688 i689 i690 l692 l695 i697 = some (y0, z0_at_, z0_value) ∧ Slr TyChan K' (sv v691) l692 ∧ Slr TyWaiter K' (sv v694) l695) BIG ?_ ?_
  ·skip
   refine Pu3<|Pu3<|Pu2<|Pu4<|Re4<|Shift.done<|?_
   exact ⟨_, by exact ⟨rfl, rfl, rfl, rfl, rfl, rfl, trivial⟩, 0, p0.at_, p0.value, v254, x252.chans, v255, x252.waiting, x252.tick, rfl, rfl, H, hs258, hs259⟩
  rintro n698 _ K699 _ hK700 ⟨i688, i689, i690, v691, l692, v694, l695, i697, rfl, rfl, H, hs693, hs696⟩
  obtain ⟨m701, k702, rfl, hkk703, H⟩ := lps6 H
  unfold M_159z at H
  refine Cw_seq ?_
  refine Cw_join (fun env' K' G' => ∃ (t716 : Bool) (i717 : Int) (i718 : Int), [(0, (.pointer (some ((⟨bp0, 0, none⟩ : Addr).add 0)))), (2, (.int .i64 p2)), (4, (.pointer (some ((⟨b250, 0, none⟩ : Addr).add 0)))), (6, (.pointer (some ((⟨b251, 0, none⟩ : Addr).add 0)))), (7, (.pointer (some ((⟨b260, 0, none⟩ : Addr).add 0)))), (8, (.int .i64 i688)), (19, (.bool t716))] = env' ∧ K699 = K' ∧ (.blk bp0 77 (Draw_Codes.cells (Draw_Codes.mk p0.list i717 i718) vp0_list)) :: (.blk b260 34 (Desk.cells (Desk.mk l692 l695 i697) v691 v694)) :: (.blk b251 34 (Desk.cells (Desk.mk [] [] 0) nilS nilS)) :: (.blk b250 29 (Config.cells p1 vp1_capacities vp1_starts)) :: G = G' ∧ M_36z p2 i688 p0 l692 l695 i697 p1 k702 t716 i717 i718 = some (y0, z0_at_, z0_value)) ?_ ?_
  ·skip
   refine Cw_region<|Ow_q rfl rfl rfl (Qt_move rfl)<|Ow_q rfl rfl rfl (Qt_move rfl)<|Ow_q rfl rfl rfl (Qt_cmp rfl rfl rfl)<|Ow_q rfl rfl rfl (Qt_move rfl)<|?_
   refine Ow_caseG rfl rfl rfl ?_ ?_
   ·intro h719
    have h719 := dcd_t (h719)
    have H := ift h719 H
    refine Ow_qw rfl rfl rfl rfl rfl rfl (Qt_move rfl) ?_
    obtain ⟨x720, hx721, H⟩ := bnd H
    have hs722 := ((hp0_list).mono hK257).mono hK700
    refine Ow_want rfl rfl rfl rfl (OpW_call rfl Try.call30 rfl rfl (c_M_136z bp0 (Draw_Codes.mk p0.list i689 i690) vp0_list x720 hx721 _ _ hs722) ?_)
    rintro _ _ _ - ⟨rfl, rfl, rfl⟩
    refine Ow_q rfl rfl rfl (Qt_pick_t rfl rfl)<|Ow_nil<|Pu3<|Pu3<|Pu3<|Pu3<|Shift.done<|?_
    exact ⟨_, by exact ⟨rfl, rfl, rfl, rfl, rfl, rfl, rfl, trivial⟩, x720, ((Draw_Codes.mk p0.list i689 i690).at_), ((Draw_Codes.mk p0.list i689 i690).value), rfl, rfl, rfl, H⟩
   ·intro h719
    have h719 := dcd_f (h719)
    have H := iff_ h719 H
    refine Ow_pass rfl rfl rfl rfl rfl rfl rfl<|Ow_pass rfl rfl rfl rfl rfl rfl rfl<|Ow_q rfl rfl rfl (Qt_pick_f rfl rfl)<|Ow_nil<|Pu3<|Pu3<|Pu3<|Pu3<|Shift.done<|?_
    exact ⟨_, by exact ⟨rfl, rfl, rfl, rfl, rfl, rfl, rfl, trivial⟩, false, i689, i690, rfl, rfl, rfl, H⟩
  rintro _ _ _ - ⟨t716, i717, i718, rfl, rfl, rfl, H⟩
  unfold M_36z at H
  refine Cw_cond rfl ?_ ?_
  ·intro h723
   have H := ift h723 H
   refine Cw_skip ?_
   refine Cw_join (fun env' K' G' => ∃ (i798 : Int) (i799 : Int) (v800 : SV) (l801 : List Chan) (v803 : SV) (l804 : List Waiter) (i806 : Int), [(0, (.pointer (some ((⟨bp0, 0, none⟩ : Addr).add 0)))), (2, (.int .i64 p2)), (4, (.pointer (some ((⟨b250, 0, none⟩ : Addr).add 0)))), (6, (.pointer (some ((⟨b251, 0, none⟩ : Addr).add 0)))), (7, (.pointer (some ((⟨b260, 0, none⟩ : Addr).add 0)))), (8, (.int .i64 i688))] = env' ∧ (.blk bp0 77 (Draw_Codes.cells (Draw_Codes.mk p0.list i798 i799) vp0_list)) :: (.blk b260 34 (Desk.cells (Desk.mk l801 l804 i806) v800 v803)) :: (.blk b251 34 (Desk.cells (Desk.mk [] [] 0) nilS nilS)) :: (.blk b250 29 (Config.cells p1 vp1_capacities vp1_starts)) :: G = G' ∧ M_16z p2 i688 p0 p1 k702 i798 i799 l801 l804 i806 = some (y0, z0_at_, z0_value) ∧ Slr TyChan K' (sv v800) l801 ∧ Slr TyWaiter K' (sv v803) l804) ?_ ?_
   ·skip
    refine Cw_block<|Cw_seq<|Cw_seq<|Cw_region<|Ow_q rfl rfl rfl (Qt_move rfl)<|?_
    obtain ⟨x842, x843, hx844, H⟩ := bnd2 H
    have hs845 := ((hp0_list).mono hK257).mono hK700
    refine Ow_cons rfl (OpW_call rfl Try.call20 rfl rfl (c_M_0z bp0 (Draw_Codes.mk p0.list i717 i718) vp0_list 10 x842 x843 hx844 _ _ hs845) ?_)
    rintro _ _ _ - ⟨rfl, rfl, rfl⟩
    refine Ow_q rfl rfl rfl (Qt_cmp rfl rfl rfl)<|Ow_nil<|?_
    refine Cw_cond rfl ?_ ?_
    ·intro h846
     have h846 := dcd_t (h846)
     have H := ift h846 H
     refine Cw_seq ?_
     obtain ⟨x877, x878, hx879, H⟩ := bnd2 H
     obtain ⟨x880, x881, hx882, H⟩ := bnd2 H
     refine Cw_region_any [.blk b251 34 (Desk.cells (Desk.mk [] [] 0) nilS nilS), .blk b250 29 (Config.cells p1 vp1_capacities vp1_starts)] rfl (Inc.cons Mb2 (Inc.cons Mb3 Inc.nil))<|Awq 1 rfl (by kernel_rfl) rfl rfl rfl (Qt_move rfl)<|?_
     refine Aw_two 0 2 (by kernel_rfl) ?_ ?_
     ·skip
      refine id (Ax_mk rfl rfl (OpW_of_Qt rfl rfl (Qt_loadA (m := 3) (cs := (Desk.cells (Desk.mk l692 l695 i697) v691 v694)) rfl rfl rfl rfl ⟨rfl, Rdc.blk Mb1 rfl⟩) ⟨(Inc.cons Mb2 (Inc.cons Mb3 Inc.nil)), ?_⟩))
      refine Aw_one 2 (by kernel_rfl) (Ax_mk rfl rfl ?_)
      refine OpW_call rfl Try.call20 rfl rfl (c_M_0z bp0 (Draw_Codes.mk p0.list x843 ((Draw_Codes.mk p0.list i717 i718).value)) vp0_list 4 x877 x878 hx879 _ _ hs845) ?_
      rintro _ _ _ - ⟨rfl, rfl, rfl⟩
      refine ⟨(Inc.cons Mb2 (Inc.cons Mb3 Inc.nil)), ?_⟩
      refine Aw_one 3 (by kernel_rfl) (Ax_mk rfl rfl ?_)
      refine OpW_call rfl Try.call32 rfl rfl (c_M_143z (Desk.mk l692 l695 i697) v691 v694 x877 x880 x881 hx882 _ _ hs693 hs696) ?_
      rintro _ K894 _ hK895 ⟨v891, v892, v893, rfl, rfl, hs896, hs897, hs898⟩
      refine ⟨(Inc.cons Mb3 (Inc.cons Mb4 Inc.nil)), ?_⟩
      refine Awq 4 rfl (by kernel_rfl) rfl rfl rfl (Qt_move rfl)<|Awq 5 rfl (by kernel_rfl) rfl rfl rfl (Qt_extract rfl rfl)<|Awq 6 rfl (by kernel_rfl) rfl rfl rfl (Qt_extract rfl rfl)<|?_
      refine Aw_one 7 (by kernel_rfl) (Ax_mk rfl rfl ?_)
      refine OpW_store (vs := (Desk.cells x880 v891 v892)) (all' := (Desk.cells x880 v891 v892)) rfl rfl rfl rfl rfl (.there (.there .here)) rfl rfl rfl ⟨(Inc.cons Mb3 (Inc.cons Mb4 Inc.nil)), ?_⟩
      refine Aw_done (by kernel_rfl)<|Cw_exit<|Pu4<|Pu4<|Pu4<|Pu4<|Re4<|Shift.done<|?_
      exact ⟨_, by exact ⟨rfl, rfl, rfl, rfl, rfl, rfl, trivial⟩, x878, ((Draw_Codes.mk p0.list x843 ((Draw_Codes.mk p0.list i717 i718).value)).value), v891, x880.chans, v892, x880.waiting, x880.tick, rfl, rfl, H, hs896, hs897⟩
     ·skip
      refine id (Ax_mk rfl rfl ?_)
      refine OpW_call rfl Try.call20 rfl rfl (c_M_0z bp0 (Draw_Codes.mk p0.list x843 ((Draw_Codes.mk p0.list i717 i718).value)) vp0_list 4 x877 x878 hx879 _ _ hs845) ?_
      rintro _ _ _ - ⟨rfl, rfl, rfl⟩
      refine ⟨(Inc.cons Mb2 (Inc.cons Mb3 Inc.nil)), ?_⟩
      refine Aw_one 0 (by kernel_rfl) (Ax_mk rfl rfl (OpW_of_Qt rfl rfl (Qt_loadA (m := 3) (cs := (Desk.cells (Desk.mk l692 l695 i697) v691 v694)) rfl rfl rfl rfl ⟨rfl, Rdc.blk Mb1 rfl⟩) ⟨(Inc.cons Mb2 (Inc.cons Mb3 Inc.nil)), ?_⟩))
      refine Aw_one 3 (by kernel_rfl) (Ax_mk rfl rfl ?_)
      refine OpW_call rfl Try.call32 rfl rfl (c_M_143z (Desk.mk l692 l695 i697) v691 v694 x877 x880 x881 hx882 _ _ hs693 hs696) ?_
      rintro _ K902 _ hK903 ⟨v899, v900, v901, rfl, rfl, hs904, hs905, hs906⟩
      refine ⟨(Inc.cons Mb3 (Inc.cons Mb4 Inc.nil)), ?_⟩
      refine Awq 4 rfl (by kernel_rfl) rfl rfl rfl (Qt_move rfl)<|Awq 5 rfl (by kernel_rfl) rfl rfl rfl (Qt_extract rfl rfl)<|Awq 6 rfl (by kernel_rfl) rfl rfl rfl (Qt_extract rfl rfl)<|?_
      refine Aw_one 7 (by kernel_rfl) (Ax_mk rfl rfl ?_)
      refine OpW_store (vs := (Desk.cells x880 v899 v900)) (all' := (Desk.cells x880 v899 v900)) rfl rfl rfl rfl rfl (.there (.there .here)) rfl rfl rfl ⟨(Inc.cons Mb3 (Inc.cons Mb4 Inc.nil)), ?_⟩
      refine Aw_done (by kernel_rfl)<|Cw_exit<|Pu4<|Pu4<|Pu4<|Pu4<|Re4<|Shift.done<|?_
      exact ⟨_, by exact ⟨rfl, rfl, rfl, rfl, rfl, rfl, trivial⟩, x878, ((Draw_Codes.mk p0.list x843 ((Draw_Codes.mk p0.list i717 i718).value)).value), v899, x880.chans, v900, x880.waiting, x880.tick, rfl, rfl, H, hs904, hs905⟩
    ·intro h846
     have h846 := dcd_f (h846)
     have H := iff_ h846 H
     refine Cw_skip<|Cw_seq<|Cw_region<|Ow_q rfl rfl rfl (Qt_move rfl)<|Ow_q rfl rfl rfl (Qt_fieldAddr (m := 2) rfl rfl rfl rfl rfl)<|Ow_q rfl rfl rfl (Qt_load1 (v := (.int .i64 p1.threads)) rfl rfl rfl (Rdc.blk Mb3 rfl))<|?_
     obtain ⟨x907, x908, hx909, H⟩ := bnd2 H
     refine Ow_cons rfl (OpW_call rfl Try.call20 rfl rfl (c_M_0z bp0 (Draw_Codes.mk p0.list x843 ((Draw_Codes.mk p0.list i717 i718).value)) vp0_list p1.threads x907 x908 hx909 _ _ hs845) ?_)
     rintro _ _ _ - ⟨rfl, rfl, rfl⟩
     refine Ow_q rfl rfl rfl (Qt_assign rfl)<|Ow_nil<|Cw_seq<|Cw_region<|Ow_q rfl rfl rfl (Qt_move rfl)<|Ow_q rfl rfl rfl (Qt_loadA (m := 3) (cs := (Config.cells p1 vp1_capacities vp1_starts)) rfl rfl rfl rfl ⟨rfl, Rdc.blk Mb3 rfl⟩)<|?_
     obtain ⟨x910, x911, x912, hx913, H⟩ := bnd3 H
     have hs914 := ((hp1_capacities).mono hK257).mono hK700
     have hs915 := ((hp1_starts).mono hK257).mono hK700
     refine Ow_cons rfl (OpW_call rfl Try.call21 rfl rfl (c_M_88z bp0 (Draw_Codes.mk p0.list x908 ((Draw_Codes.mk p0.list x843 ((Draw_Codes.mk p0.list i717 i718).value)).value)) vp0_list p1 vp1_capacities vp1_starts x910 x911 x912 hx913 _ _ hs845 hs914 hs915) ?_)
     rintro _ K918 _ hK919 ⟨v916, v917, rfl, rfl, hs920, hs921⟩
     refine Ow_cons rfl (OpW_alloc (cs := (Op.cells (Op.mk 0 0 0 0 0 [] []) nilS nilS)) rfl rfl rfl rfl (fun b922 => ?_))
     refine Ow_cons rfl (OpW_store (vs := (Op.cells x910 v916 v917)) (all' := (Op.cells x910 v916 v917)) rfl rfl rfl rfl rfl .here rfl rfl rfl ?_)
     refine Ow_nil<|Cw_seq<|Cw_region<|Ow_q rfl rfl rfl (Qt_loadA (m := 3) (cs := (Desk.cells (Desk.mk l692 l695 i697) v691 v694)) rfl rfl rfl rfl ⟨rfl, Rdc.blk Mb2 rfl⟩)<|Ow_q rfl rfl rfl (Qt_move rfl)<|?_
     obtain ⟨x923, hx924, H⟩ := bnd H
     have hs925 := (hs693).mono hK919
     have hs926 := (hs696).mono hK919
     refine Ow_cons rfl (OpW_call rfl Try.call14 rfl rfl (c_M_50z (Desk.mk l692 l695 i697) v691 v694 x907 x923 hx924 _ _ hs925 hs926) ?_)
     rintro _ K927 _ hK928 ⟨rfl, rfl⟩
     refine Ow_q rfl rfl rfl (Qt_not rfl)<|Ow_nil<|?_
     refine Cw_cond rfl ?_ ?_
     ·intro h929
      have h929 := nt_t (h929)
      have H := iff_ (btf h929) H
      refine Cw_region<|Ow_q rfl rfl rfl (Qt_loadA (m := 3) (cs := (Desk.cells (Desk.mk l692 l695 i697) v691 v694)) rfl rfl rfl rfl ⟨rfl, Rdc.blk Mb2 rfl⟩)<|Ow_q rfl rfl rfl (Qt_move rfl)<|Ow_q rfl rfl rfl (Qt_loadA (m := 7) (cs := (Op.cells x910 v916 v917)) rfl rfl rfl rfl ⟨rfl, Rdc.blk Mb0 rfl⟩)<|?_
      obtain ⟨x930, x931, x932, hx933, H⟩ := bnd3 H
      have hs934 := (hs925).mono hK928
      have hs935 := (hs926).mono hK928
      have hs936 := (hs920).mono hK928
      have hs937 := (hs921).mono hK928
      refine Ow_cons rfl (OpW_call rfl Try.call33 rfl rfl (c_M_158z (Desk.mk l692 l695 i697) v691 v694 x907 x910 v916 v917 x930 x931 x932 hx933 _ _ hs934 hs935 hs936 hs937) ?_)
      rintro _ K941 _ hK942 ⟨v938, v939, v940, rfl, rfl, hs943, hs944, hs945⟩
      refine Ow_q rfl rfl rfl (Qt_move rfl)<|Ow_q rfl rfl rfl (Qt_extract rfl rfl)<|Ow_q rfl rfl rfl (Qt_extract rfl rfl)<|Ow_q rfl rfl rfl (Qt_extract rfl rfl)<|?_
      refine Ow_cons rfl (OpW_store (vs := (Desk.cells x930 v938 v939)) (all' := (Desk.cells x930 v938 v939)) rfl rfl rfl rfl rfl (.there (.there (.there .here))) rfl rfl rfl ?_)
      refine Ow_nil<|Pu5<|Pu5<|Pu5<|Pu5<|Re4<|Re4<|Shift.done<|?_
      exact ⟨_, by exact ⟨rfl, rfl, rfl, rfl, rfl, rfl, trivial⟩, x911, x912, v938, x930.chans, v939, x930.waiting, x930.tick, rfl, rfl, H, hs943, hs944⟩
     ·intro h929
      have h929 := nt_f (h929)
      have H := ift h929 H
      refine Cw_skip<|Pu4<|Pu4<|Pu4<|Pu4<|Re4<|?_
      have hs946 := (hs925).mono hK928
      have hs947 := (hs926).mono hK928
      exact Shift.done ⟨_, by exact ⟨rfl, rfl, rfl, rfl, rfl, rfl, trivial⟩, x911, x912, v691, l692, v694, l695, i697, rfl, rfl, H, hs946, hs947⟩
   rintro _ K948 _ hK949 ⟨i798, i799, v800, l801, v803, l804, i806, rfl, rfl, H, hs802, hs805⟩
   unfold M_16z at H
   refine Cw_region<|Ow_q rfl rfl rfl (Qt_move rfl)<|Ow_q rfl rfl rfl (Qt_arith (e := wI (i688 + 1)) rfl rfl rfl rfl)<|Ow_q rfl rfl rfl (Qt_assign rfl)<|Ow_nil<|Pu3<|Pu3<|Pu3<|Pu3<|Shift.done<|?_
   exact ⟨_, by exact ⟨rfl, rfl, rfl, rfl, rfl, rfl, trivial⟩, _, Nat.lt_succ_self _, (wI (i688 + 1)), i798, i799, v800, l801, v803, l804, i806, rfl, rfl, (hkk703 ▸ H), hs802, hs805⟩
  ·intro h723
   have H := iff_ (btf h723) H
   refine Cw_exit<|Pu2<|Pu2<|Pu2<|Re3<|Shift.done<|?_
   exact ⟨_, by exact ⟨rfl, rfl, trivial⟩, i717, i718, v691, l692, v694, l695, i697, rfl, rfl, H, hs693, hs696⟩
 rintro _ K950 _ hK951 ⟨i475, i476, v477, l478, v480, l481, i483, rfl, rfl, H, hs479, hs482⟩
 unfold M_58z at H
 refine Cw_seq<|Cw_region<|Ow_q rfl rfl rfl (Qt_loadA (m := 3) (cs := (Desk.cells (Desk.mk l478 l481 i483) v477 v480)) rfl rfl rfl rfl ⟨rfl, Rdc.blk Mb1 rfl⟩)<|?_
 refine Ow_cons rfl (OpW_store (vs := (Desk.cells (Desk.mk l478 l481 i483) v477 v480)) (all' := (Desk.cells (Desk.mk l478 l481 i483) v477 v480)) rfl rfl rfl rfl rfl (.there (.there .here)) rfl rfl rfl ?_)
 refine Ow_nil<|Cw_ret<|?_
 obtain ⟨ey0, ez0_at_, ez0_value⟩ := inj3 H
 subst y0 z0_at_ z0_value
 refine ⟨(by first | exact .inl rfl | exact .inr rfl), [(.agg (Desk.cells (Desk.mk l478 l481 i483) v477 v480).toArray)], ⟨(.agg (Desk.cells (Desk.mk l478 l481 i483) v477 v480).toArray), _, rfl, ⟨_, 3, (Desk.cells (Desk.mk l478 l481 i483) v477 v480), rfl, rfl, rfl, rfl, ⟨rfl, Rdc.blk Mb2 rfl⟩, rfl⟩, rfl⟩, ?_⟩
 refine Re1<|Re1<|Shift.done<|?_
 exact ⟨v477, v480, rfl, rfl, hs479, hs482⟩


end Go.Hx

namespace Go.Hx
open Go Go.Proofs
set_option linter.unusedSimpArgs false
set_option linter.unusedVariables false
set_option maxRecDepth 10000
set_option maxHeartbeats 1000000 in
theorem c_M_17z (p0 : List Int) (vp0 : SV) (p1 : List Int) (vp1 : SV) (y0 : Bool) (H : M_17z p0 p1 = some y0) (K : Kp) (G : List Ent) (hp0 : Slr Ty.u64 K (sv vp0) p0) (hp1 : Slr Ty.u64 K (sv vp1) p1) :
  Fc Try.prog 52 #[(sv vp0), (sv vp1)] K (G) (fun v K' G' => v = (.bool y0) ∧ G = G') := by
 refine Fc_body Try.func52 rfl Try.ntmps52 Try.results52 rfl ?_
 unfold M_17z at H
 refine Cw_seq<|Cw_region<|Ow_q rfl rfl rfl (Qt_assign rfl)<|Ow_nil<|Cw_seq<|Cw_seq<|Cw_region<|Ow_q rfl rfl rfl (Qt_move rfl)<|Ow_q rfl rfl rfl (Q_len (T := Ty.u64) hp0 rfl rfl)<|Ow_q rfl rfl rfl (Qt_move rfl)<|?_
 refine Ow_q rfl rfl rfl (Q_len (T := Ty.u64) hp1 rfl rfl)<|Ow_q rfl rfl rfl (Qt_cmp rfl rfl rfl)<|Ow_nil<|?_
 refine Cw_cond rfl ?_ ?_
 ·intro h53
  have h53 := dcd_f (nt_t (h53))
  have H := iff_ h53 H
  refine Cw_seq<|Cw_region<|Ow_q rfl rfl rfl (Qt_assign rfl)<|Ow_nil<|Cw_ret<|?_
  obtain ey0 := inj1 H
  subst y0
  refine ⟨(by first | exact .inl rfl | exact .inr rfl), [(.bool false)], ⟨(.bool false), _, rfl, rfl, rfl⟩, ?_⟩
  exact Shift.done ⟨rfl, rfl⟩
 ·intro h53
  have h53 := dcd_t (nt_f (h53))
  have H := ift h53 H
  refine Cw_skip ?_
  refine Cw_join (fun env' K' G' => [] = env' ∧ G = G' ∧ M_160z = some y0) ?_ ?_
  ·skip
   refine Cw_seq<|Cw_region<|Ow_q rfl rfl rfl (Qt_assign rfl)<|Ow_nil<|Cw_block<|?_
   refine Cw_loopM (fun n150 env' K' G' => ∃ (i149 : Int), [(0, (sv vp0)), (1, (sv vp1)), (5, (.int .i64 i149))] = env' ∧ K = K' ∧ G = G' ∧ lp1 (M_100z p0 p1) n150 i149 = some y0) BIG ?_ ?_
   ·skip
    exact Shift.done ⟨_, by exact ⟨rfl, rfl, rfl, trivial⟩, 0, rfl, rfl, rfl, H⟩
   rintro n150 _ _ _ - ⟨i149, rfl, rfl, rfl, H⟩
   obtain ⟨m151, k152, rfl, hkk153, H⟩ := lps1 H
   unfold M_100z at H
   refine Cw_seq<|Cw_seq<|Cw_region<|Ow_q rfl rfl rfl (Qt_move rfl)<|Ow_q rfl rfl rfl (Qt_move rfl)<|Ow_q rfl rfl rfl (Q_len (T := Ty.u64) hp0 rfl rfl)<|Ow_q rfl rfl rfl (Qt_cmp rfl rfl rfl)<|Ow_nil<|?_
   refine Cw_cond rfl ?_ ?_
   ·intro h155
    have h155 := dcd_t (h155)
    have H := ift h155 H
    refine Cw_skip<|Cw_seq<|Cw_block<|Cw_seq<|?_
    obtain ⟨x173, hx174, H⟩ := bnd H
    obtain ⟨x178, hx179, H⟩ := bnd H
    refine Cw_region_any [] rfl Inc.nil<|Awq 0 rfl (by kernel_rfl) rfl rfl rfl (Qt_move rfl)<|Awq 1 rfl (by kernel_rfl) rfl rfl rfl (Qt_move rfl)<|?_
    obtain ⟨r183, hr184, hk185⟩ := Slr.at hp0 hx174
    obtain rfl := hr184
    refine Awq 2 rfl (by kernel_rfl) rfl rfl rfl (Q_ix (T := Ty.u64) hp0 hx174 rfl rfl rfl rfl rfl)<|Awq 3 rfl (by kernel_rfl) rfl rfl rfl (Qt_load1 (v := (.int .u64 x173)) rfl rfl rfl (Rdc.k hk185 rfl))<|Awq 4 rfl (by kernel_rfl) rfl rfl rfl (Qt_move rfl)<|Awq 5 rfl (by kernel_rfl) rfl rfl rfl (Qt_move rfl)<|?_
    obtain ⟨r186, hr187, hk188⟩ := Slr.at hp1 hx179
    obtain rfl := hr187
    refine Awq 6 rfl (by kernel_rfl) rfl rfl rfl (Q_ix (T := Ty.u64) hp1 hx179 rfl rfl rfl rfl rfl)<|Awq 7 rfl (by kernel_rfl) rfl rfl rfl (Qt_load1 (v := (.int .u64 x178)) rfl rfl rfl (Rdc.k hk188 rfl))<|Awq 8 rfl (by kernel_rfl) rfl rfl rfl (Qt_cmp rfl rfl rfl)<|Aw_done (by kernel_rfl)<|?_
    refine Cw_cond rfl ?_ ?_
    ·intro h189
     have h189 := dcd_f (nt_t (h189))
     have H := iff_ h189 H
     refine Cw_seq<|Cw_region<|Ow_q rfl rfl rfl (Qt_assign rfl)<|Ow_nil<|Cw_ret<|?_
     obtain ey0 := inj1 H
     subst y0
     refine ⟨(by first | exact .inl rfl | exact .inr rfl), [(.bool false)], ⟨(.bool false), _, rfl, rfl, rfl⟩, ?_⟩
     exact Shift.done ⟨rfl, rfl⟩
    ·intro h189
     have h189 := dcd_t (nt_f (h189))
     have H := ift h189 H
     refine Cw_skip<|Cw_region<|Ow_q rfl rfl rfl (Qt_move rfl)<|Ow_q rfl rfl rfl (Qt_arith (e := wI (i149 + 1)) rfl rfl rfl rfl)<|Ow_q rfl rfl rfl (Qt_assign rfl)<|Ow_nil<|Shift.done<|?_
     exact ⟨_, by exact ⟨rfl, rfl, rfl, trivial⟩, _, Nat.lt_succ_self _, (wI (i149 + 1)), rfl, rfl, rfl, (hkk153 ▸ H)⟩
   ·intro h155
    have h155 := dcd_f (h155)
    have H := iff_ h155 H
    refine Cw_exit<|Shift.done<|?_
    exact ⟨[], trivial, rfl, rfl, H⟩
  rintro _ K190 _ hK191 ⟨rfl, rfl, H⟩
  unfold M_160z at H
  refine Cw_seq<|Cw_region<|Ow_q rfl rfl rfl (Qt_assign rfl)<|Ow_nil<|Cw_ret<|?_
  obtain ey0 := inj1 H
  subst y0
  refine ⟨(by first | exact .inl rfl | exact .inr rfl), [(.bool true)], ⟨(.bool true), _, rfl, rfl, rfl⟩, ?_⟩
  exact Shift.done ⟨rfl, rfl⟩



end Go.Hx

namespace Go.Hx
open Go Go.Proofs
set_option linter.unusedSimpArgs false
set_option linter.unusedVariables false
set_option maxRecDepth 10000
set_option maxHeartbeats 1000000 in
theorem c_M_3z (p0 : List Chan) (vp0 : SV) (p1 : List Chan) (vp1 : SV) (y0 : Bool) (H : M_3z p0 p1 = some y0) (K : Kp) (G : List Ent) (hp0 : Slr TyChan K (sv vp0) p0) (hp1 : Slr TyChan K (sv vp1) p1) :
  Fc Try.prog 23 #[(sv vp0), (sv vp1)] K (G) (fun v K' G' => v = (.bool y0) ∧ G = G') := by
 refine Fc_body Try.func23 rfl Try.ntmps23 Try.results23 rfl ?_
 unfold M_3z at H
 refine Cw_seq<|Cw_region<|Ow_q rfl rfl rfl (Qt_assign rfl)<|Ow_nil<|Cw_seq<|Cw_seq<|Cw_region<|Ow_q rfl rfl rfl (Qt_move rfl)<|Ow_q rfl rfl rfl (Q_len (T := TyChan) hp0 rfl rfl)<|Ow_q rfl rfl rfl (Qt_move rfl)<|?_
 refine Ow_q rfl rfl rfl (Q_len (T := TyChan) hp1 rfl rfl)<|Ow_q rfl rfl rfl (Qt_cmp rfl rfl rfl)<|Ow_nil<|?_
 refine Cw_cond rfl ?_ ?_
 ·intro h251
  have h251 := dcd_f (nt_t (h251))
  have H := iff_ h251 H
  refine Cw_seq<|Cw_region<|Ow_q rfl rfl rfl (Qt_assign rfl)<|Ow_nil<|Cw_ret<|?_
  obtain ey0 := inj1 H
  subst y0
  refine ⟨(by first | exact .inl rfl | exact .inr rfl), [(.bool false)], ⟨(.bool false), _, rfl, rfl, rfl⟩, ?_⟩
  exact Shift.done ⟨rfl, rfl⟩
 ·intro h251
  have h251 := dcd_t (nt_f (h251))
  have H := ift h251 H
  refine Cw_skip ?_
  refine Cw_join (fun env' K' G' => [] = env' ∧ G = G' ∧ M_161z = some y0) ?_ ?_
  ·skip
   refine Cw_seq<|Cw_region<|Ow_q rfl rfl rfl (Qt_assign rfl)<|Ow_nil<|Cw_block<|?_
   refine Cw_loopM (fun n744 env' K' G' => ∃ (i743 : Int), [(0, (sv vp0)), (1, (sv vp1)), (5, (.int .i64 i743))] = env' ∧ G = G' ∧ lp1 (M_101z p0 p1) n744 i743 = some y0) BIG ?_ ?_
   ·skip
    exact Shift.done ⟨_, by exact ⟨rfl, rfl, rfl, trivial⟩, 0, rfl, rfl, H⟩
   rintro n744 _ K745 _ hK746 ⟨i743, rfl, rfl, H⟩
   obtain ⟨m747, k748, rfl, hkk749, H⟩ := lps1 H
   unfold M_101z at H
   refine Cw_seq<|Cw_seq<|Cw_region<|Ow_q rfl rfl rfl (Qt_move rfl)<|Ow_q rfl rfl rfl (Qt_move rfl)<|?_
   have hs752 := (hp0).mono hK746
   refine Ow_q rfl rfl rfl (Q_len (T := TyChan) hs752 rfl rfl)<|Ow_q rfl rfl rfl (Qt_cmp rfl rfl rfl)<|Ow_nil<|?_
   refine Cw_cond rfl ?_ ?_
   ·intro h753
    have h753 := dcd_t (h753)
    have H := ift h753 H
    refine Cw_skip<|Cw_seq<|Cw_block<|?_
    refine Cw_join (fun env' K' G' => ∃ (t986 : Bool), [(0, (sv vp0)), (1, (sv vp1)), (5, (.int .i64 i743)), (54, (.bool t986))] = env' ∧ G = G' ∧ M_18z p0 p1 i743 k748 t986 = some y0) ?_ ?_
    ·skip
     obtain ⟨x987, hx988, H⟩ := bnd H
     obtain ⟨x994, hx995, H⟩ := bnd H
     rcases bool_ct (!(dcd (x987.capacity = x994.capacity))) with hb_ | hb_ <;> revert hb_
     ·intro h1002
      have h1002 := dcd_f (nt_t (h1002))
      have H := iff_ h1002 H
      refine Cw_region_any [] rfl Inc.nil<|Awq 0 rfl (by kernel_rfl) rfl rfl rfl (Qt_move rfl)<|Awq 1 rfl (by kernel_rfl) rfl rfl rfl (Qt_move rfl)<|?_
      obtain ⟨r1003, hr1004, hk1005⟩ := Slr.at hs752 hx988
      obtain ⟨v1006, rfl, hs1007⟩ := hr1004
      refine Awq 2 rfl (by kernel_rfl) rfl rfl rfl (Q_ix (T := TyChan) hs752 hx988 rfl rfl rfl rfl rfl)<|Awq 3 rfl (by kernel_rfl) rfl rfl rfl (Qt_fieldAddr (m := 0) rfl rfl rfl rfl rfl)<|Awq 4 rfl (by kernel_rfl) rfl rfl rfl (Qt_load1 (v := (.int .i64 x987.capacity)) rfl rfl rfl (Rdc.k hk1005 rfl))<|Awq 5 rfl (by kernel_rfl) rfl rfl rfl (Qt_move rfl)<|Awq 6 rfl (by kernel_rfl) rfl rfl rfl (Qt_move rfl)<|?_
      have hs1008 := (hp1).mono hK746
      obtain ⟨r1009, hr1010, hk1011⟩ := Slr.at hs1008 hx995
      obtain ⟨v1012, rfl, hs1013⟩ := hr1010
      refine Awq 7 rfl (by kernel_rfl) rfl rfl rfl (Q_ix (T := TyChan) hs1008 hx995 rfl rfl rfl rfl rfl)<|Awq 8 rfl (by kernel_rfl) rfl rfl rfl (Qt_fieldAddr (m := 0) rfl rfl rfl rfl rfl)<|Awq 9 rfl (by kernel_rfl) rfl rfl rfl (Qt_load1 (v := (.int .i64 x994.capacity)) rfl rfl rfl (Rdc.k hk1011 rfl))<|Awq 10 rfl (by kernel_rfl) rfl rfl rfl (Qt_cmp rfl rfl rfl)<|Awq 11 rfl (by kernel_rfl) rfl rfl rfl (Qt_move rfl)<|Aw.known (d := 28) rfl (nt_mt (dcd_neg h1002))<|Awps 12 rfl (by kernel_rfl) rfl rfl rfl rfl rfl rfl rfl<|Awps 13 rfl (by kernel_rfl) rfl rfl rfl rfl rfl rfl rfl<|Awps 14 rfl (by kernel_rfl) rfl rfl rfl rfl rfl rfl rfl<|Awps 15 rfl (by kernel_rfl) rfl rfl rfl rfl rfl rfl rfl<|?_
      refine Awps 16 rfl (by kernel_rfl) rfl rfl rfl rfl rfl rfl rfl<|Awps 17 rfl (by kernel_rfl) rfl rfl rfl rfl rfl rfl rfl<|Awps 18 rfl (by kernel_rfl) rfl rfl rfl rfl rfl rfl rfl<|Awps 19 rfl (by kernel_rfl) rfl rfl rfl rfl rfl rfl rfl<|Awps 20 rfl (by kernel_rfl) rfl rfl rfl rfl rfl rfl rfl<|Awps 21 rfl (by kernel_rfl) rfl rfl rfl rfl rfl rfl rfl<|Awps 22 rfl (by kernel_rfl) rfl rfl rfl rfl rfl rfl rfl<|Awq 23 rfl (by kernel_rfl) rfl rfl rfl (Qt_pick_t rfl rfl)<|Awq 24 rfl (by kernel_rfl) rfl rfl rfl (Qt_move rfl)<|Awps 25 rfl (by kernel_rfl) rfl rfl rfl rfl rfl rfl rfl<|?_
      refine Awps 26 rfl (by kernel_rfl) rfl rfl rfl rfl rfl rfl rfl<|Awps 27 rfl (by kernel_rfl) rfl rfl rfl rfl rfl rfl rfl<|Awps 28 rfl (by kernel_rfl) rfl rfl rfl rfl rfl rfl rfl<|Awps 29 rfl (by kernel_rfl) rfl rfl rfl rfl rfl rfl rfl<|Awps 30 rfl (by kernel_rfl) rfl rfl rfl rfl rfl rfl rfl<|Awps 31 rfl (by kernel_rfl) rfl rfl rfl rfl rfl rfl rfl<|Awps 32 rfl (by kernel_rfl) rfl rfl rfl rfl rfl rfl rfl<|Awps 33 rfl (by kernel_rfl) rfl rfl rfl rfl rfl rfl rfl<|Awps 34 rfl (by kernel_rfl) rfl rfl rfl rfl rfl rfl rfl<|Awps 35 rfl (by kernel_rfl) rfl rfl rfl rfl rfl rfl rfl<|?_
      refine Awps 36 rfl (by kernel_rfl) rfl rfl rfl rfl rfl rfl rfl<|Awq 37 rfl (by kernel_rfl) rfl rfl rfl (Qt_pick_t rfl rfl)<|Aw_done (by kernel_rfl)<|Shift.done<|?_
      exact ⟨_, by exact ⟨rfl, rfl, rfl, rfl, trivial⟩, true, rfl, rfl, H⟩
     ·intro h1002
      have h1002 := dcd_t (nt_f (h1002))
      have H := ift h1002 H
      obtain ⟨x1014, hx1015, H⟩ := bnd H
      obtain ⟨x1021, hx1022, H⟩ := bnd H
      rcases bool_ct (!((x1014.closed == x1021.closed))) with hb_ | hb_ <;> revert hb_
      ·intro h1028
       have h1028 := nt_t (h1028)
       have H := iff_ (btf h1028) H
       refine Cw_region_any [] rfl Inc.nil<|Awq 0 rfl (by kernel_rfl) rfl rfl rfl (Qt_move rfl)<|Awq 1 rfl (by kernel_rfl) rfl rfl rfl (Qt_move rfl)<|?_
       obtain ⟨r1029, hr1030, hk1031⟩ := Slr.at hs752 hx988
       obtain ⟨v1032, rfl, hs1033⟩ := hr1030
       refine Awq 2 rfl (by kernel_rfl) rfl rfl rfl (Q_ix (T := TyChan) hs752 hx988 rfl rfl rfl rfl rfl)<|Awq 3 rfl (by kernel_rfl) rfl rfl rfl (Qt_fieldAddr (m := 0) rfl rfl rfl rfl rfl)<|Awq 4 rfl (by kernel_rfl) rfl rfl rfl (Qt_load1 (v := (.int .i64 x987.capacity)) rfl rfl rfl (Rdc.k hk1031 rfl))<|Awq 5 rfl (by kernel_rfl) rfl rfl rfl (Qt_move rfl)<|Awq 6 rfl (by kernel_rfl) rfl rfl rfl (Qt_move rfl)<|?_
       have hs1034 := (hp1).mono hK746
       obtain ⟨r1035, hr1036, hk1037⟩ := Slr.at hs1034 hx995
       obtain ⟨v1038, rfl, hs1039⟩ := hr1036
       refine Awq 7 rfl (by kernel_rfl) rfl rfl rfl (Q_ix (T := TyChan) hs1034 hx995 rfl rfl rfl rfl rfl)<|Awq 8 rfl (by kernel_rfl) rfl rfl rfl (Qt_fieldAddr (m := 0) rfl rfl rfl rfl rfl)<|Awq 9 rfl (by kernel_rfl) rfl rfl rfl (Qt_load1 (v := (.int .i64 x994.capacity)) rfl rfl rfl (Rdc.k hk1037 rfl))<|Awq 10 rfl (by kernel_rfl) rfl rfl rfl (Qt_cmp rfl rfl rfl)<|Awq 11 rfl (by kernel_rfl) rfl rfl rfl (Qt_move rfl)<|Aw.known (d := 28) rfl (nt_mf (dcd_pos h1002))<|Awqw 12 rfl (by kernel_rfl) rfl rfl rfl rfl rfl rfl (Qt_move rfl)<|Awqw 13 rfl (by kernel_rfl) rfl rfl rfl rfl rfl rfl (Qt_move rfl)<|?_
       obtain ⟨r1040, hr1041, hk1042⟩ := Slr.at hs752 hx1015
       obtain ⟨v1043, rfl, hs1044⟩ := hr1041
       refine Awqw 14 rfl (by kernel_rfl) rfl rfl rfl rfl rfl rfl (Q_ix (T := TyChan) hs752 hx1015 rfl rfl rfl rfl rfl)<|Awqw 15 rfl (by kernel_rfl) rfl rfl rfl rfl rfl rfl (Qt_fieldAddr (m := 2) rfl rfl rfl rfl rfl)<|Awqw 16 rfl (by kernel_rfl) rfl rfl rfl rfl rfl rfl (Qt_load1 (v := (.bool x1014.closed)) rfl rfl rfl (Rdc.k hk1042 rfl))<|Awqw 17 rfl (by kernel_rfl) rfl rfl rfl rfl rfl rfl (Qt_move rfl)<|Awqw 18 rfl (by kernel_rfl) rfl rfl rfl rfl rfl rfl (Qt_move rfl)<|?_
       obtain ⟨r1045, hr1046, hk1047⟩ := Slr.at hs1034 hx1022
       obtain ⟨v1048, rfl, hs1049⟩ := hr1046
       refine Awqw 19 rfl (by kernel_rfl) rfl rfl rfl rfl rfl rfl (Q_ix (T := TyChan) hs1034 hx1022 rfl rfl rfl rfl rfl)<|Awqw 20 rfl (by kernel_rfl) rfl rfl rfl rfl rfl rfl (Qt_fieldAddr (m := 2) rfl rfl rfl rfl rfl)<|Awqw 21 rfl (by kernel_rfl) rfl rfl rfl rfl rfl rfl (Qt_load1 (v := (.bool x1021.closed)) rfl rfl rfl (Rdc.k hk1047 rfl))<|Awqw 22 rfl (by kernel_rfl) rfl rfl rfl rfl rfl rfl (Qt_neB rfl rfl rfl)<|Awq 23 rfl (by kernel_rfl) rfl rfl rfl (Qt_pick_f rfl rfl)<|Awq 24 rfl (by kernel_rfl) rfl rfl rfl (Qt_move rfl)<|Aw.known (d := 41) rfl (nt_mt (h1028))<|Awps 25 rfl (by kernel_rfl) rfl rfl rfl rfl rfl rfl rfl<|Awps 26 rfl (by kernel_rfl) rfl rfl rfl rfl rfl rfl rfl<|Awps 27 rfl (by kernel_rfl) rfl rfl rfl rfl rfl rfl rfl<|?_
       refine Awps 28 rfl (by kernel_rfl) rfl rfl rfl rfl rfl rfl rfl<|Awps 29 rfl (by kernel_rfl) rfl rfl rfl rfl rfl rfl rfl<|Awps 30 rfl (by kernel_rfl) rfl rfl rfl rfl rfl rfl rfl<|Awps 31 rfl (by kernel_rfl) rfl rfl rfl rfl rfl rfl rfl<|Awps 32 rfl (by kernel_rfl) rfl rfl rfl rfl rfl rfl rfl<|Awps 33 rfl (by kernel_rfl) rfl rfl rfl rfl rfl rfl rfl<|Awps 34 rfl (by kernel_rfl) rfl rfl rfl rfl rfl rfl rfl<|Awps 35 rfl (by kernel_rfl) rfl rfl rfl rfl rfl rfl rfl<|Awps 36 rfl (by kernel_rfl) rfl rfl rfl rfl rfl rfl rfl<|Awq 37 rfl (by kernel_rfl) rfl rfl rfl (Qt_pick_t rfl rfl)<|?_
       refine Aw_done (by kernel_rfl)<|Shift.done<|?_
       exact ⟨_, by exact ⟨rfl, rfl, rfl, rfl, trivial⟩, true, rfl, rfl, H⟩
      ·intro h1028
       have h1028 := nt_f (h1028)
       have H := ift h1028 H
       obtain ⟨x1050, hx1051, H⟩ := bnd H
       obtain ⟨x1057, hx1058, H⟩ := bnd H
       obtain ⟨x1064, hx1065, H⟩ := bnd H
       refine Cw_region_any [] rfl Inc.nil<|Awq 0 rfl (by kernel_rfl) rfl rfl rfl (Qt_move rfl)<|Awq 1 rfl (by kernel_rfl) rfl rfl rfl (Qt_move rfl)<|?_
       obtain ⟨r1068, hr1069, hk1070⟩ := Slr.at hs752 hx988
       obtain ⟨v1071, rfl, hs1072⟩ := hr1069
       refine Awq 2 rfl (by kernel_rfl) rfl rfl rfl (Q_ix (T := TyChan) hs752 hx988 rfl rfl rfl rfl rfl)<|Awq 3 rfl (by kernel_rfl) rfl rfl rfl (Qt_fieldAddr (m := 0) rfl rfl rfl rfl rfl)<|Awq 4 rfl (by kernel_rfl) rfl rfl rfl (Qt_load1 (v := (.int .i64 x987.capacity)) rfl rfl rfl (Rdc.k hk1070 rfl))<|Awq 5 rfl (by kernel_rfl) rfl rfl rfl (Qt_move rfl)<|Awq 6 rfl (by kernel_rfl) rfl rfl rfl (Qt_move rfl)<|?_
       have hs1073 := (hp1).mono hK746
       obtain ⟨r1074, hr1075, hk1076⟩ := Slr.at hs1073 hx995
       obtain ⟨v1077, rfl, hs1078⟩ := hr1075
       refine Awq 7 rfl (by kernel_rfl) rfl rfl rfl (Q_ix (T := TyChan) hs1073 hx995 rfl rfl rfl rfl rfl)<|Awq 8 rfl (by kernel_rfl) rfl rfl rfl (Qt_fieldAddr (m := 0) rfl rfl rfl rfl rfl)<|Awq 9 rfl (by kernel_rfl) rfl rfl rfl (Qt_load1 (v := (.int .i64 x994.capacity)) rfl rfl rfl (Rdc.k hk1076 rfl))<|Awq 10 rfl (by kernel_rfl) rfl rfl rfl (Qt_cmp rfl rfl rfl)<|Awq 11 rfl (by kernel_rfl) rfl rfl rfl (Qt_move rfl)<|Aw.known (d := 28) rfl (nt_mf (dcd_pos h1002))<|Awqw 12 rfl (by kernel_rfl) rfl rfl rfl rfl rfl rfl (Qt_move rfl)<|Awqw 13 rfl (by kernel_rfl) rfl rfl rfl rfl rfl rfl (Qt_move rfl)<|?_
       obtain ⟨r1079, hr1080, hk1081⟩ := Slr.at hs752 hx1015
       obtain ⟨v1082, rfl, hs1083⟩ := hr1080
       refine Awqw 14 rfl (by kernel_rfl) rfl rfl rfl rfl rfl rfl (Q_ix (T := TyChan) hs752 hx1015 rfl rfl rfl rfl rfl)<|Awqw 15 rfl (by kernel_rfl) rfl rfl rfl rfl rfl rfl (Qt_fieldAddr (m := 2) rfl rfl rfl rfl rfl)<|Awqw 16 rfl (by kernel_rfl) rfl rfl rfl rfl rfl rfl (Qt_load1 (v := (.bool x1014.closed)) rfl rfl rfl (Rdc.k hk1081 rfl))<|Awqw 17 rfl (by kernel_rfl) rfl rfl rfl rfl rfl rfl (Qt_move rfl)<|Awqw 18 rfl (by kernel_rfl) rfl rfl rfl rfl rfl rfl (Qt_move rfl)<|?_
       obtain ⟨r1084, hr1085, hk1086⟩ := Slr.at hs1073 hx1022
       obtain ⟨v1087, rfl, hs1088⟩ := hr1085
       refine Awqw 19 rfl (by kernel_rfl) rfl rfl rfl rfl rfl rfl (Q_ix (T := TyChan) hs1073 hx1022 rfl rfl rfl rfl rfl)<|Awqw 20 rfl (by kernel_rfl) rfl rfl rfl rfl rfl rfl (Qt_fieldAddr (m := 2) rfl rfl rfl rfl rfl)<|Awqw 21 rfl (by kernel_rfl) rfl rfl rfl rfl rfl rfl (Qt_load1 (v := (.bool x1021.closed)) rfl rfl rfl (Rdc.k hk1086 rfl))<|Awqw 22 rfl (by kernel_rfl) rfl rfl rfl rfl rfl rfl (Qt_neB rfl rfl rfl)<|Awq 23 rfl (by kernel_rfl) rfl rfl rfl (Qt_pick_f rfl rfl)<|Awq 24 rfl (by kernel_rfl) rfl rfl rfl (Qt_move rfl)<|Aw.known (d := 41) rfl (nt_mf (h1028))<|Awqw 25 rfl (by kernel_rfl) rfl rfl rfl rfl rfl rfl (Qt_move rfl)<|Awqw 26 rfl (by kernel_rfl) rfl rfl rfl rfl rfl rfl (Qt_move rfl)<|?_
       obtain ⟨r1089, hr1090, hk1091⟩ := Slr.at hs752 hx1051
       obtain ⟨v1092, rfl, hs1093⟩ := hr1090
       refine Awqw 27 rfl (by kernel_rfl) rfl rfl rfl rfl rfl rfl (Q_ix (T := TyChan) hs752 hx1051 rfl rfl rfl rfl rfl)<|Awqw 28 rfl (by kernel_rfl) rfl rfl rfl rfl rfl rfl (Qt_fieldAddr (m := 1) rfl rfl rfl rfl rfl)<|Awqw 29 rfl (by kernel_rfl) rfl rfl rfl rfl rfl rfl (Qt_load1 (v := (sv v1092)) rfl rfl rfl (Rdc.k hk1091 rfl))<|Awqw 30 rfl (by kernel_rfl) rfl rfl rfl rfl rfl rfl (Qt_move rfl)<|Awqw 31 rfl (by kernel_rfl) rfl rfl rfl rfl rfl rfl (Qt_move rfl)<|?_
       obtain ⟨r1094, hr1095, hk1096⟩ := Slr.at hs1073 hx1058
       obtain ⟨v1097, rfl, hs1098⟩ := hr1095
       refine Awqw 32 rfl (by kernel_rfl) rfl rfl rfl rfl rfl rfl (Q_ix (T := TyChan) hs1073 hx1058 rfl rfl rfl rfl rfl)<|Awqw 33 rfl (by kernel_rfl) rfl rfl rfl rfl rfl rfl (Qt_fieldAddr (m := 1) rfl rfl rfl rfl rfl)<|Awqw 34 rfl (by kernel_rfl) rfl rfl rfl rfl rfl rfl (Qt_load1 (v := (sv v1097)) rfl rfl rfl (Rdc.k hk1096 rfl))<|?_
       refine Aw_one 35 (by kernel_rfl) (Ax_mkw rfl rfl rfl rfl rfl ?_)
       refine OpW_call rfl Try.call52 rfl rfl (c_M_17z x1050.buffer v1092 x1057.buffer v1097 x1064 hx1065 _ _ hs1093 hs1098) ?_
       rintro _ K1099 _ hK1100 ⟨rfl, rfl⟩
       refine ⟨Inc.nil, ?_⟩
       refine Awqw 36 rfl (by kernel_rfl) rfl rfl rfl rfl rfl rfl (Qt_not rfl)<|Awq 37 rfl (by kernel_rfl) rfl rfl rfl (Qt_pick_f rfl rfl)<|Aw_done (by kernel_rfl)<|Shift.done<|?_
       exact ⟨_, by exact ⟨rfl, rfl, rfl, rfl, trivial⟩, (!(x1064)), rfl, rfl, H⟩
    rintro _ K1101 _ hK1102 ⟨t986, rfl, rfl, H⟩
    unfold M_18z at H
    refine Cw_cond rfl ?_ ?_
    ·intro h1103
     have H := ift h1103 H
     refine Cw_seq<|Cw_region<|Ow_q rfl rfl rfl (Qt_assign rfl)<|Ow_nil<|Cw_ret<|?_
     obtain ey0 := inj1 H
     subst y0
     refine ⟨(by first | exact .inl rfl | exact .inr rfl), [(.bool false)], ⟨(.bool false), _, rfl, rfl, rfl⟩, ?_⟩
     exact Shift.done ⟨rfl, rfl⟩
    ·intro h1103
     have H := iff_ (btf h1103) H
     refine Cw_skip<|Cw_region<|Ow_q rfl rfl rfl (Qt_move rfl)<|Ow_q rfl rfl rfl (Qt_arith (e := wI (i743 + 1)) rfl rfl rfl rfl)<|Ow_q rfl rfl rfl (Qt_assign rfl)<|Ow_nil<|Shift.done<|?_
     exact ⟨_, by exact ⟨rfl, rfl, rfl, trivial⟩, _, Nat.lt_succ_self _, (wI (i743 + 1)), rfl, rfl, (hkk749 ▸ H)⟩
   ·intro h753
    have h753 := dcd_f (h753)
    have H := iff_ h753 H
    refine Cw_exit<|Shift.done<|?_
    exact ⟨[], trivial, rfl, rfl, H⟩
  rintro _ K1104 _ hK1105 ⟨rfl, rfl, H⟩
  unfold M_161z at H
  refine Cw_seq<|Cw_region<|Ow_q rfl rfl rfl (Qt_assign rfl)<|Ow_nil<|Cw_ret<|?_
  obtain ey0 := inj1 H
  subst y0
  refine ⟨(by first | exact .inl rfl | exact .inr rfl), [(.bool true)], ⟨(.bool true), _, rfl, rfl, rfl⟩, ?_⟩
  exact Shift.done ⟨rfl, rfl⟩

set_option maxHeartbeats 1000000 in
theorem c_M_19z (p0 : Op) (vp0_cases : SV) (vp0_draws : SV) (p1 : Result) (y0 : Case) (y1 : Bool) (H : M_19z p0 p1 = some (y0, y1)) (K : Kp) (G : List Ent) (hp0_cases : Slr TyCase K (sv vp0_cases) p0.cases) (hp0_draws : Slr Ty.i64 K (sv vp0_draws) p0.draws) :
  Fc Try.prog 92 #[(.agg (Op.cells p0 vp0_cases vp0_draws).toArray), (.agg (Result.cells p1).toArray)] K (G) (fun v K' G' => v = (.tuple #[(.agg (Case.cells y0).toArray), (.bool y1)]) ∧ K = K' ∧ G = G') := by
 refine Fc_body Try.func92 rfl Try.ntmps92 Try.results92 rfl ?_
 unfold M_19z at H
 refine Cw_seq<|Cw_region<|?_
 refine Ow_cons rfl (OpW_box (cs := (Op.cells p0 vp0_cases vp0_draws)) rfl rfl rfl (fun b29 => ?_))
 refine Ow_cons rfl (OpW_box (cs := (Result.cells p1)) rfl rfl rfl (fun b30 => ?_))
 refine Ow_cons rfl (OpW_alloc (cs := (Case.cells (Case.mk false 0 0))) rfl rfl rfl rfl (fun b31 => ?_))
 refine Ow_q rfl rfl rfl (Qt_assign rfl)<|Ow_nil<|Cw_seq<|Cw_seq<|Cw_region<|Ow_q rfl rfl rfl (Qt_fieldAddr (m := 0) rfl rfl rfl rfl rfl)<|Ow_q rfl rfl rfl (Qt_load1 (v := (.int .i64 p0.kind)) rfl rfl rfl (Rdc.blk Mb2 rfl))<|Ow_q rfl rfl rfl (Qt_cmp rfl rfl rfl)<|Ow_nil<|?_
 refine Cw_cond rfl ?_ ?_
 ·intro h52
  have h52 := dcd_t (h52)
  have H := ift h52 H
  refine Cw_seq ?_
  refine Cw_join (fun env' K' G' => ∃ (t68 : Bool), [(2, (.pointer (some ((⟨b29, 0, none⟩ : Addr).add 0)))), (3, (.pointer (some ((⟨b30, 0, none⟩ : Addr).add 0)))), (4, (.pointer (some ((⟨b31, 0, none⟩ : Addr).add 0)))), (21, (.bool t68))] = env' ∧ K = K' ∧ (.blk b31 45 (Case.cells (Case.mk false 0 0))) :: (.blk b30 73 (Result.cells p1)) :: (.blk b29 41 (Op.cells p0 vp0_cases vp0_draws)) :: G = G' ∧ M_162z p1 p0 t68 = some (y0, y1)) ?_ ?_
  ·skip
   refine Cw_region<|Ow_q rfl rfl rfl (Qt_fieldAddr (m := 1) rfl rfl rfl rfl rfl)<|Ow_q rfl rfl rfl (Qt_load1 (v := (.int .i64 p1.case_)) rfl rfl rfl (Rdc.blk Mb1 rfl))<|Ow_q rfl rfl rfl (Qt_cmp rfl rfl rfl)<|Ow_q rfl rfl rfl (Qt_move rfl)<|?_
   refine Ow_caseG rfl rfl rfl ?_ ?_
   ·intro h69
    have h69 := dcd_t (h69)
    have H := ift h69 H
    refine Ow_pass rfl rfl rfl rfl rfl rfl rfl<|Ow_pass rfl rfl rfl rfl rfl rfl rfl<|Ow_pass rfl rfl rfl rfl rfl rfl rfl<|Ow_pass rfl rfl rfl rfl rfl rfl rfl<|Ow_pass rfl rfl rfl rfl rfl rfl rfl<|Ow_pass rfl rfl rfl rfl rfl rfl rfl<|Ow_q rfl rfl rfl (Qt_pick_t rfl rfl)<|Ow_nil<|Pu2<|Pu2<|?_
    refine Pu2<|Shift.done<|?_
    exact ⟨_, by exact ⟨rfl, rfl, rfl, rfl, trivial⟩, true, rfl, rfl, rfl, H⟩
   ·intro h69
    have h69 := dcd_f (h69)
    have H := iff_ h69 H
    refine Ow_qw rfl rfl rfl rfl rfl rfl (Qt_fieldAddr (m := 1) rfl rfl rfl rfl rfl)<|Ow_qw rfl rfl rfl rfl rfl rfl (Qt_load1 (v := (.int .i64 p1.case_)) rfl rfl rfl (Rdc.blk Mb1 rfl))<|Ow_qw rfl rfl rfl rfl rfl rfl (Qt_fieldAddr (m := 5) rfl rfl rfl rfl rfl)<|Ow_qw rfl rfl rfl rfl rfl rfl (Qt_load1 (v := (sv vp0_cases)) rfl rfl rfl (Rdc.blk Mb2 rfl))<|Ow_qw rfl rfl rfl rfl rfl rfl (Q_len (T := TyCase) hp0_cases rfl rfl)<|Ow_qw rfl rfl rfl rfl rfl rfl (Qt_cmp rfl rfl rfl)<|Ow_q rfl rfl rfl (Qt_pick_f rfl rfl)<|Ow_nil<|Pu2<|Pu2<|?_
    refine Pu2<|Shift.done<|?_
    exact ⟨_, by exact ⟨rfl, rfl, rfl, rfl, trivial⟩, (dcd (p1.case_ ≥ (p0.cases.length : Int))), rfl, rfl, rfl, H⟩
  rintro _ _ _ - ⟨t68, rfl, rfl, rfl, H⟩
  unfold M_162z at H
  refine Cw_cond rfl ?_ ?_
  ·intro h70
   have H := ift h70 H
   refine Cw_seq<|Cw_region<|Ow_q rfl rfl rfl (Qt_build (cs := (Case.cells (Case.mk false 0 0))) rfl rfl rfl rfl rfl rfl)<|?_
   refine Ow_cons rfl (OpW_store (vs := (Case.cells (Case.mk false 0 0))) (all' := (Case.cells (Case.mk false 0 0))) rfl rfl rfl rfl rfl .here rfl rfl rfl ?_)
   refine Ow_q rfl rfl rfl (Qt_assign rfl)<|Ow_nil<|Cw_ret<|?_
   obtain ⟨ey0, ey1⟩ := inj2 H
   subst y0 y1
   refine ⟨(by first | exact .inl rfl | exact .inr rfl), [(.agg (Case.cells (Case.mk false 0 0)).toArray), (.bool false)], ⟨(.agg (Case.cells (Case.mk false 0 0)).toArray), _, rfl, ⟨_, 3, (Case.cells (Case.mk false 0 0)), rfl, rfl, rfl, rfl, ⟨rfl, Rdc.blk Mb0 rfl⟩, rfl⟩, ⟨(.bool false), _, rfl, rfl, rfl⟩⟩, ?_⟩
   refine Re0<|Re0<|Re0<|Shift.done<|?_
   exact ⟨rfl, rfl, rfl⟩
  ·intro h70
   have H := iff_ (btf h70) H
   refine Cw_skip<|Cw_seq<|Cw_region<|Ow_q rfl rfl rfl (Qt_fieldAddr (m := 5) rfl rfl rfl rfl rfl)<|Ow_q rfl rfl rfl (Qt_load1 (v := (sv vp0_cases)) rfl rfl rfl (Rdc.blk Mb2 rfl))<|Ow_q rfl rfl rfl (Qt_fieldAddr (m := 1) rfl rfl rfl rfl rfl)<|Ow_q rfl rfl rfl (Qt_load1 (v := (.int .i64 p1.case_)) rfl rfl rfl (Rdc.blk Mb1 rfl))<|?_
   obtain ⟨x71, hx72, H⟩ := bnd H
   obtain ⟨r73, hr74, hk75⟩ := Slr.at hp0_cases hx72
   obtain rfl := hr74
   refine Ow_q rfl rfl rfl (Q_ix (T := TyCase) hp0_cases hx72 rfl rfl rfl rfl rfl)<|Ow_q rfl rfl rfl (Qt_loadA (m := 3) (cs := (Case.cells x71)) rfl rfl rfl rfl ⟨rfl, Rdc.k hk75 rfl⟩)<|?_
   refine Ow_cons rfl (OpW_store (vs := (Case.cells x71)) (all' := (Case.cells x71)) rfl rfl rfl rfl rfl .here rfl rfl rfl ?_)
   refine Ow_q rfl rfl rfl (Qt_assign rfl)<|Ow_nil<|Cw_ret<|?_
   obtain ⟨ey0, ey1⟩ := inj2 H
   subst y0 y1
   refine ⟨(by first | exact .inl rfl | exact .inr rfl), [(.agg (Case.cells x71).toArray), (.bool true)], ⟨(.agg (Case.cells x71).toArray), _, rfl, ⟨_, 3, (Case.cells x71), rfl, rfl, rfl, rfl, ⟨rfl, Rdc.blk Mb0 rfl⟩, rfl⟩, ⟨(.bool true), _, rfl, rfl, rfl⟩⟩, ?_⟩
   refine Re0<|Re0<|Re0<|Shift.done<|?_
   exact ⟨rfl, rfl, rfl⟩
 ·intro h52
  have h52 := dcd_f (h52)
  have H := iff_ h52 H
  refine Cw_skip<|Cw_seq<|Cw_region<|Ow_q rfl rfl rfl (Qt_loadA (m := 7) (cs := (Op.cells p0 vp0_cases vp0_draws)) rfl rfl rfl rfl ⟨rfl, Rdc.blk Mb2 rfl⟩)<|?_
  obtain ⟨x76, x77, hx78, H⟩ := bnd2 H
  refine Ow_cons rfl (OpW_call rfl Try.call86 rfl rfl (c_M_14z p0 vp0_cases vp0_draws x76 x77 hx78 _ _ hp0_cases hp0_draws) ?_)
  rintro _ _ _ - ⟨rfl, rfl, rfl⟩
  refine Ow_q rfl rfl rfl (Qt_move rfl)<|Ow_q rfl rfl rfl (Qt_extract rfl rfl)<|Ow_q rfl rfl rfl (Qt_extract rfl rfl)<|?_
  refine Ow_cons rfl (OpW_alloc (cs := (Case.cells (Case.mk false 0 0))) rfl rfl rfl rfl (fun b79 => ?_))
  refine Ow_cons rfl (OpW_store (vs := (Case.cells x76)) (all' := (Case.cells x76)) rfl rfl rfl rfl rfl .here rfl rfl rfl ?_)
  refine Ow_q rfl rfl rfl (Qt_assign rfl)<|Ow_nil<|Cw_seq<|?_
  rcases bool_ct x77 with hb_ | hb_ <;> revert hb_
  ·intro h81
   have H := ift h81 H
   refine Cw_region_any [.blk b79 45 (Case.cells x76), .blk b30 73 (Result.cells p1), .blk b29 41 (Op.cells p0 vp0_cases vp0_draws)] rfl (Inc.cons Mb0 (Inc.cons Mb2 (Inc.cons Mb3 Inc.nil)))<|Awq 0 rfl (by kernel_rfl) rfl rfl rfl (Qt_loadA (m := 3) (cs := (Case.cells x76)) rfl rfl rfl rfl ⟨rfl, Rdc.blk Mb0 rfl⟩)<|Awq 1 rfl (by kernel_rfl) rfl rfl rfl (Qt_move rfl)<|Awq 2 rfl (by kernel_rfl) rfl rfl rfl (Qt_move rfl)<|Aw.known (d := 36) rfl (h81)<|Awqw 3 rfl (by kernel_rfl) rfl rfl rfl rfl rfl rfl (Qt_fieldAddr (m := 1) rfl rfl rfl rfl rfl)<|Awqw 4 rfl (by kernel_rfl) rfl rfl rfl rfl rfl rfl (Qt_load1 (v := (.int .i64 p1.case_)) rfl rfl rfl (Rdc.blk Mb1 rfl))<|Awqw 5 rfl (by kernel_rfl) rfl rfl rfl rfl rfl rfl (Qt_cmp rfl rfl rfl)<|Awq 6 rfl (by kernel_rfl) rfl rfl rfl (Qt_pick_t rfl rfl)<|?_
   refine Aw_one 7 (by kernel_rfl) (Ax_mk rfl rfl ?_)
   refine OpW_store (vs := (Case.cells x76)) (all' := (Case.cells x76)) rfl rfl rfl rfl rfl (.there .here) rfl rfl rfl ⟨(Inc.cons Mb0 (Inc.cons Mb2 (Inc.cons Mb3 Inc.nil))), ?_⟩
   refine Awq 8 rfl (by kernel_rfl) rfl rfl rfl (Qt_assign rfl)<|Aw_done (by kernel_rfl)<|Cw_ret<|?_
   obtain ⟨ey0, ey1⟩ := inj2 H
   subst y0 y1
   refine ⟨(by first | exact .inl rfl | exact .inr rfl), [(.agg (Case.cells x76).toArray), (.bool (dcd (p1.case_ = (-1))))], ⟨(.agg (Case.cells x76).toArray), _, rfl, ⟨_, 3, (Case.cells x76), rfl, rfl, rfl, rfl, ⟨rfl, Rdc.blk Mb1 rfl⟩, rfl⟩, ⟨(.bool (dcd (p1.case_ = (-1)))), _, rfl, rfl, rfl⟩⟩, ?_⟩
   refine Re0<|Re0<|Re0<|Re0<|Shift.done<|?_
   exact ⟨rfl, rfl, rfl⟩
  ·intro h81
   have H := iff_ (btf h81) H
   refine Cw_region_any [.blk b79 45 (Case.cells x76), .blk b30 73 (Result.cells p1), .blk b29 41 (Op.cells p0 vp0_cases vp0_draws)] rfl (Inc.cons Mb0 (Inc.cons Mb2 (Inc.cons Mb3 Inc.nil)))<|Awq 0 rfl (by kernel_rfl) rfl rfl rfl (Qt_loadA (m := 3) (cs := (Case.cells x76)) rfl rfl rfl rfl ⟨rfl, Rdc.blk Mb0 rfl⟩)<|Awq 1 rfl (by kernel_rfl) rfl rfl rfl (Qt_move rfl)<|Awq 2 rfl (by kernel_rfl) rfl rfl rfl (Qt_move rfl)<|Aw.known (d := 36) rfl (h81)<|Awps 3 rfl (by kernel_rfl) rfl rfl rfl rfl rfl rfl rfl<|Awps 4 rfl (by kernel_rfl) rfl rfl rfl rfl rfl rfl rfl<|Awps 5 rfl (by kernel_rfl) rfl rfl rfl rfl rfl rfl rfl<|Awq 6 rfl (by kernel_rfl) rfl rfl rfl (Qt_pick_f rfl rfl)<|?_
   refine Aw_one 7 (by kernel_rfl) (Ax_mk rfl rfl ?_)
   refine OpW_store (vs := (Case.cells x76)) (all' := (Case.cells x76)) rfl rfl rfl rfl rfl (.there .here) rfl rfl rfl ⟨(Inc.cons Mb0 (Inc.cons Mb2 (Inc.cons Mb3 Inc.nil))), ?_⟩
   refine Awq 8 rfl (by kernel_rfl) rfl rfl rfl (Qt_assign rfl)<|Aw_done (by kernel_rfl)<|Cw_ret<|?_
   obtain ⟨ey0, ey1⟩ := inj2 H
   subst y0 y1
   refine ⟨(by first | exact .inl rfl | exact .inr rfl), [(.agg (Case.cells x76).toArray), (.bool false)], ⟨(.agg (Case.cells x76).toArray), _, rfl, ⟨_, 3, (Case.cells x76), rfl, rfl, rfl, rfl, ⟨rfl, Rdc.blk Mb1 rfl⟩, rfl⟩, ⟨(.bool false), _, rfl, rfl, rfl⟩⟩, ?_⟩
   refine Re0<|Re0<|Re0<|Re0<|Shift.done<|?_
   exact ⟨rfl, rfl, rfl⟩

set_option maxHeartbeats 1000000 in
theorem c_M_1z (p0 : Result) (p1 : Bool) (p2 : Bool) (y0 : Bool) (H : M_1z p0 p1 p2 = some y0) (K : Kp) (G : List Ent)  :
  Fc Try.prog 94 #[(.agg (Result.cells p0).toArray), (.bool p1), (.bool p2)] K (G) (fun v K' G' => v = (.bool y0) ∧ K = K' ∧ G = G') := by
 refine Fc_body Try.func94 rfl Try.ntmps94 Try.results94 rfl ?_
 unfold M_1z at H
 refine Cw_seq<|Cw_region<|?_
 refine Ow_cons rfl (OpW_box (cs := (Result.cells p0)) rfl rfl rfl (fun b8 => ?_))
 refine Ow_q rfl rfl rfl (Qt_assign rfl)<|Ow_nil<|?_
 refine Cw_join (fun env' K' G' => ∃ (t14 : Bool), [(6, (.bool t14))] = env' ∧ K = K' ∧ G = G' ∧ M_20z t14 = some y0) ?_ ?_
 ·skip
  refine Cw_region<|Ow_q rfl rfl rfl (Qt_move rfl)<|Ow_q rfl rfl rfl (Qt_move rfl)<|?_
  refine Ow_caseG rfl rfl rfl ?_ ?_
  ·intro h15
   have H := ift h15 H
   refine Ow_pass rfl rfl rfl rfl rfl rfl rfl<|Ow_pass rfl rfl rfl rfl rfl rfl rfl<|Ow_pass rfl rfl rfl rfl rfl rfl rfl<|Ow_pass rfl rfl rfl rfl rfl rfl rfl<|Ow_passU rfl rfl rfl rfl rfl<|Ow_passU rfl rfl rfl rfl rfl<|Ow_passU rfl rfl rfl rfl rfl<|Ow_pass rfl rfl rfl rfl rfl rfl rfl<|Ow_q rfl rfl rfl (Qt_pick_t rfl rfl)<|Ow_q rfl rfl rfl (Qt_move rfl)<|?_
   refine Ow_qw rfl rfl rfl rfl rfl rfl (Qt_move rfl)<|Ow_qw rfl rfl rfl rfl rfl rfl (Qt_move rfl)<|?_
   refine Ow_caseG rfl rfl rfl ?_ ?_
   ·intro h16
    have H := ift h16 H
    refine Ow_pass rfl rfl rfl rfl rfl rfl rfl<|Ow_pass rfl rfl rfl rfl rfl rfl rfl<|Ow_pass rfl rfl rfl rfl rfl rfl rfl<|Ow_qw rfl rfl rfl rfl rfl rfl (Qt_pick_t rfl rfl)<|Ow_q rfl rfl rfl (Qt_pick_t rfl rfl)<|Ow_q rfl rfl rfl (Qt_assign rfl)<|Ow_nil<|Re0<|Shift.done<|?_
    exact ⟨_, by exact ⟨rfl, trivial⟩, true, rfl, rfl, rfl, H⟩
   ·intro h16
    have H := iff_ (btf h16) H
    refine Ow_qw rfl rfl rfl rfl rfl rfl (Qt_fieldAddr (m := 4) rfl rfl rfl rfl rfl)<|Ow_qw rfl rfl rfl rfl rfl rfl (Qt_load1 (v := (.int .i64 p0.number)) rfl rfl rfl (Rdc.blk Mb0 rfl))<|Ow_qw rfl rfl rfl rfl rfl rfl (Qt_cmp rfl rfl rfl)<|Ow_qw rfl rfl rfl rfl rfl rfl (Qt_pick_f rfl rfl)<|Ow_q rfl rfl rfl (Qt_pick_t rfl rfl)<|Ow_q rfl rfl rfl (Qt_assign rfl)<|Ow_nil<|Re0<|Shift.done<|?_
    exact ⟨_, by exact ⟨rfl, trivial⟩, (dcd (p0.number = 0)), rfl, rfl, rfl, H⟩
  ·intro h15
   have H := iff_ (btf h15) H
   refine Ow_qw rfl rfl rfl rfl rfl rfl (Qt_fieldAddr (m := 2) rfl rfl rfl rfl rfl)<|Ow_qw rfl rfl rfl rfl rfl rfl (Qt_load1 (v := (.int .u64 p0.value)) rfl rfl rfl (Rdc.blk Mb0 rfl))<|Ow_qw rfl rfl rfl rfl rfl rfl (Qt_cmp rfl rfl rfl)<|Ow_qw rfl rfl rfl rfl rfl rfl (Qt_move rfl)<|?_
   refine Ow_caseG rfl rfl rfl ?_ ?_
   ·intro h17
    have h17 := dcd_t (h17)
    have H := ift h17 H
    refine Ow_qw rfl rfl rfl rfl rfl rfl (Qt_fieldAddr (m := 3) rfl rfl rfl rfl rfl)<|Ow_qw rfl rfl rfl rfl rfl rfl (Qt_load1 (v := (.bool p0.ok)) rfl rfl rfl (Rdc.blk Mb0 rfl))<|Ow_qw rfl rfl rfl rfl rfl rfl (Qt_not rfl)<|Ow_qw rfl rfl rfl rfl rfl rfl (Qt_pick_t rfl rfl)<|Ow_q rfl rfl rfl (Qt_pick_f rfl rfl)<|Ow_q rfl rfl rfl (Qt_move rfl)<|?_
    refine Ow_caseG rfl rfl rfl ?_ ?_
    ·intro h18
     have h18 := nt_t (h18)
     have H := iff_ (btf h18) H
     refine Ow_qw rfl rfl rfl rfl rfl rfl (Qt_move rfl)<|Ow_qw rfl rfl rfl rfl rfl rfl (Qt_move rfl)<|?_
     refine Ow_caseG rfl rfl rfl ?_ ?_
     ·intro h19
      have H := ift h19 H
      refine Ow_pass rfl rfl rfl rfl rfl rfl rfl<|Ow_pass rfl rfl rfl rfl rfl rfl rfl<|Ow_pass rfl rfl rfl rfl rfl rfl rfl<|Ow_qw rfl rfl rfl rfl rfl rfl (Qt_pick_t rfl rfl)<|Ow_q rfl rfl rfl (Qt_pick_t rfl rfl)<|Ow_q rfl rfl rfl (Qt_assign rfl)<|Ow_nil<|Re0<|Shift.done<|?_
      exact ⟨_, by exact ⟨rfl, trivial⟩, true, rfl, rfl, rfl, H⟩
     ·intro h19
      have H := iff_ (btf h19) H
      refine Ow_qw rfl rfl rfl rfl rfl rfl (Qt_fieldAddr (m := 4) rfl rfl rfl rfl rfl)<|Ow_qw rfl rfl rfl rfl rfl rfl (Qt_load1 (v := (.int .i64 p0.number)) rfl rfl rfl (Rdc.blk Mb0 rfl))<|Ow_qw rfl rfl rfl rfl rfl rfl (Qt_cmp rfl rfl rfl)<|Ow_qw rfl rfl rfl rfl rfl rfl (Qt_pick_f rfl rfl)<|Ow_q rfl rfl rfl (Qt_pick_t rfl rfl)<|Ow_q rfl rfl rfl (Qt_assign rfl)<|Ow_nil<|Re0<|Shift.done<|?_
      exact ⟨_, by exact ⟨rfl, trivial⟩, (dcd (p0.number = 0)), rfl, rfl, rfl, H⟩
    ·intro h18
     have h18 := nt_f (h18)
     have H := ift h18 H
     refine Ow_pass rfl rfl rfl rfl rfl rfl rfl<|Ow_pass rfl rfl rfl rfl rfl rfl rfl<|Ow_passU rfl rfl rfl rfl rfl<|Ow_passU rfl rfl rfl rfl rfl<|Ow_passU rfl rfl rfl rfl rfl<|Ow_pass rfl rfl rfl rfl rfl rfl rfl<|Ow_q rfl rfl rfl (Qt_pick_f rfl rfl)<|Ow_q rfl rfl rfl (Qt_assign rfl)<|Ow_nil<|Re0<|?_
     exact Shift.done ⟨_, by exact ⟨rfl, trivial⟩, false, rfl, rfl, rfl, H⟩
   ·intro h17
    have h17 := dcd_f (h17)
    have H := iff_ h17 H
    refine Ow_pass rfl rfl rfl rfl rfl rfl rfl<|Ow_pass rfl rfl rfl rfl rfl rfl rfl<|Ow_pass rfl rfl rfl rfl rfl rfl rfl<|Ow_qw rfl rfl rfl rfl rfl rfl (Qt_pick_f rfl rfl)<|Ow_q rfl rfl rfl (Qt_pick_f rfl rfl)<|Ow_q rfl rfl rfl (Qt_move rfl)<|Ow_pass rfl rfl rfl rfl rfl rfl rfl<|Ow_pass rfl rfl rfl rfl rfl rfl rfl<|Ow_passU rfl rfl rfl rfl rfl<|Ow_passU rfl rfl rfl rfl rfl<|?_
    refine Ow_passU rfl rfl rfl rfl rfl<|Ow_pass rfl rfl rfl rfl rfl rfl rfl<|Ow_q rfl rfl rfl (Qt_pick_f rfl rfl)<|Ow_q rfl rfl rfl (Qt_assign rfl)<|Ow_nil<|Re0<|Shift.done<|?_
    exact ⟨_, by exact ⟨rfl, trivial⟩, false, rfl, rfl, rfl, H⟩
 rintro _ _ _ - ⟨t14, rfl, rfl, rfl, H⟩
 unfold M_20z at H
 refine Cw_ret ?_
 obtain ey0 := inj1 H
 subst y0
 refine ⟨(by first | exact .inl rfl | exact .inr rfl), [(.bool t14)], ⟨(.bool t14), _, rfl, rfl, rfl⟩, ?_⟩
 exact Shift.done ⟨rfl, rfl, rfl⟩

set_option maxHeartbeats 1000000 in
theorem c_M_60z (p0 : List Chan) (vp0 : SV) (p1 : Int) (p2 : Chan) (vp2_buffer : SV) (y0 : List Chan) (H : M_60z p0 p1 p2 = some y0) (K : Kp) (G : List Ent) (hp0 : Slr TyChan K (sv vp0) p0) (hp2_buffer : Slr Ty.u64 K (sv vp2_buffer) p2.buffer) :
  Fc Try.prog 95 #[(sv vp0), (.int .i64 p1), (.agg (Chan.cells p2 vp2_buffer).toArray)] K (G) (fun v K' G' => ∃ (wy0 : SV) (rswy0 : List (List Value)), v = (sv wy0) ∧ K = K' ∧ (.row (sv wy0) 71 3 rswy0.flatten) :: G = G' ∧ RowR TyChan K' rswy0 y0) := by
 refine Fc_body Try.func95 rfl Try.ntmps95 Try.results95 rfl ?_
 unfold M_60z at H
 refine Cw_seq<|Cw_region<|?_
 refine Ow_cons rfl (OpW_box (cs := (Chan.cells p2 vp2_buffer)) rfl rfl rfl (fun b17 => ?_))
 refine Ow_q rfl rfl rfl (Qt_assign rfl)<|Ow_nil<|Cw_seq<|Cw_region<|Ow_q rfl rfl rfl (Qt_move rfl)<|?_
 have hR18 : RowR TyChan K [] [] := RowR.nil
 refine Ow.shift (Shift.nilRow 71 3 (Shift.done ?_))
 obtain ⟨x19, hx20, H⟩ := bnd H
 refine Ow_cons rfl (O_appRow (T := TyChan) (bytes := 40) rfl rfl rfl Mb0 hR18 (SrcT.sl hp0) hx20 rfl rfl rfl rfl rfl rfl rfl rfl (fun v21 rs22 hR23 => ⟨_, .here, ?_⟩))
 refine Ow_q rfl rfl rfl (Qt_assign rfl)<|Ow_nil<|Cw_seq<|Cw_region<|Ow_q rfl rfl rfl (Qt_move rfl)<|Ow_q rfl rfl rfl (Qt_move rfl)<|Ow_q rfl rfl rfl (Qt_loadA (m := 3) (cs := (Chan.cells p2 vp2_buffer)) rfl rfl rfl rfl ⟨rfl, Rdc.blk Mb1 rfl⟩)<|?_
 obtain ⟨x24, hx25, H⟩ := bnd H
 obtain ⟨r26, hq27, hr28⟩ := RowR.at hR23 hx25
 obtain ⟨v29, rfl, hs30⟩ := hr28
 refine Ow_q rfl rfl rfl (Q_ixR (T := TyChan) Mb0 hR23 hq27 (getI_ix hx25).1 rfl rfl rfl rfl rfl) ?_
 refine Ow_cons rfl (O_storeR (T := TyChan) (vs := (Chan.cells p2 vp2_buffer)) (r' := (Chan.cells p2 vp2_buffer)) (l' := (setI x19 p1 p2)) rfl rfl rfl rfl rfl .here hR23 hq27 rfl rfl rfl (RowR.set p1 hR23 ⟨vp2_buffer, rfl, hp2_buffer⟩) (fun hR31 => ?_))
 have hE32 := set_at hq27 (v := (Chan.cells p2 vp2_buffer))
 refine Ow_nil<|Cw_seq<|Cw_region<|Ow_q rfl rfl rfl (Qt_move rfl)<|Ow_q rfl rfl rfl (Qt_assign rfl)<|Ow_nil<|Cw_ret<|?_
 obtain ey0 := inj1 H
 subst y0
 refine ⟨(by first | exact .inl rfl | exact .inr rfl), [(sv v21)], ⟨(sv v21), _, rfl, rfl, rfl⟩, ?_⟩
 refine Re1<|Shift.done<|?_
 exact ⟨v21, (rs22.set p1.toNat (Chan.cells p2 vp2_buffer)), rfl, rfl, rfl, hR31⟩

set_option maxHeartbeats 1000000 in
theorem c_M_65z (p0 : List Chan) (vp0 : SV) (p1 : Case) (p2 : Result) (y0 : List Chan) (y1 : Bool) (H : M_65z p0 p1 p2 = some (y0, y1)) (K : Kp) (G : List Ent) (hp0 : Slr TyChan K (sv vp0) p0) :
  Fc Try.prog 93 #[(sv vp0), (.agg (Case.cells p1).toArray), (.agg (Result.cells p2).toArray)] K (G) (fun v K' G' => ∃ (wy0 : SV), v = (.tuple #[(sv wy0), (.bool y1)]) ∧ G = G' ∧ Slr TyChan K' (sv wy0) y0) := by
 refine Fc_body Try.func93 rfl Try.ntmps93 Try.results93 rfl ?_
 unfold M_65z at H
 refine Cw_seq<|Cw_region<|?_
 refine Ow_cons rfl (OpW_box (cs := (Case.cells p1)) rfl rfl rfl (fun b141 => ?_))
 refine Ow_cons rfl (OpW_box (cs := (Result.cells p2)) rfl rfl rfl (fun b142 => ?_))
 refine Ow_q rfl rfl rfl (Qt_assign rfl)<|Ow_q rfl rfl rfl (Qt_assign rfl)<|Ow_nil<|Cw_seq<|Cw_seq<|Cw_region<|Ow_q rfl rfl rfl (Qt_move rfl)<|Ow_q rfl rfl rfl (Qt_fieldAddr (m := 1) rfl rfl rfl rfl rfl)<|Ow_q rfl rfl rfl (Qt_load1 (v := (.int .i64 p1.channel)) rfl rfl rfl (Rdc.blk Mb1 rfl))<|?_
 obtain ⟨x146, hx147, H⟩ := bnd H
 refine Ow_cons rfl (OpW_call rfl Try.call71 rfl rfl (c_M_7z p0 vp0 p1.channel x146 hx147 _ _ hp0) ?_)
 rintro _ _ _ - ⟨rfl, rfl, rfl⟩
 refine Ow_q rfl rfl rfl (Qt_not rfl)<|Ow_nil<|?_
 refine Cw_cond rfl ?_ ?_
 ·intro h148
  have h148 := nt_t (h148)
  have H := iff_ (btf h148) H
  refine Cw_seq<|Cw_region<|Ow_q rfl rfl rfl (Qt_assign rfl)<|Ow_q rfl rfl rfl (Qt_assign rfl)<|Ow_nil<|Cw_ret<|?_
  obtain ⟨ey0, ey1⟩ := inj2 H
  subst y0 y1
  refine ⟨(by first | exact .inl rfl | exact .inr rfl), [(sv nilS), (.bool false)], ⟨(sv nilS), _, rfl, rfl, ⟨(.bool false), _, rfl, rfl, rfl⟩⟩, ?_⟩
  refine Re0<|Re0<|Shift.done<|?_
  exact ⟨nilS, rfl, rfl, (Slr.nil TyChan _)⟩
 ·intro h148
  have h148 := nt_f (h148)
  have H := ift h148 H
  refine Cw_skip<|Cw_seq<|Cw_region<|Ow_q rfl rfl rfl (Qt_move rfl)<|Ow_q rfl rfl rfl (Qt_fieldAddr (m := 1) rfl rfl rfl rfl rfl)<|Ow_q rfl rfl rfl (Qt_load1 (v := (.int .i64 p1.channel)) rfl rfl rfl (Rdc.blk Mb1 rfl))<|?_
  obtain ⟨x149, hx150, H⟩ := bnd H
  obtain ⟨r151, hr152, hk153⟩ := Slr.at hp0 hx150
  obtain ⟨v154, rfl, hs155⟩ := hr152
  refine Ow_q rfl rfl rfl (Q_ix (T := TyChan) hp0 hx150 rfl rfl rfl rfl rfl)<|Ow_q rfl rfl rfl (Qt_loadA (m := 3) (cs := (Chan.cells x149 v154)) rfl rfl rfl rfl ⟨rfl, Rdc.k hk153 rfl⟩)<|?_
  refine Ow_cons rfl (OpW_alloc (cs := (Chan.cells (Chan.mk 0 [] false) nilS)) rfl rfl rfl rfl (fun b156 => ?_))
  refine Ow_cons rfl (OpW_store (vs := (Chan.cells x149 v154)) (all' := (Chan.cells x149 v154)) rfl rfl rfl rfl rfl .here rfl rfl rfl ?_)
  refine Ow_nil<|Cw_seq<|Cw_block<|?_
  refine Cw_join (fun env' K' G' => ∃ (t265 : Bool), [(0, (sv vp0)), (4, (.pointer (some ((⟨b141, 0, none⟩ : Addr).add 0)))), (5, (.pointer (some ((⟨b142, 0, none⟩ : Addr).add 0)))), (8, (.pointer (some ((⟨b156, 0, none⟩ : Addr).add 0)))), (19, (.bool t265))] = env' ∧ K = K' ∧ (.blk b156 71 (Chan.cells x149 v154)) :: (.blk b142 73 (Result.cells p2)) :: (.blk b141 45 (Case.cells p1)) :: G = G' ∧ M_64z p0 x149 p2 p1 t265 = some (y0, y1)) ?_ ?_
  ·skip
   refine Cw_region<|Ow_q rfl rfl rfl (Qt_fieldAddr (m := 0) rfl rfl rfl rfl rfl)<|Ow_q rfl rfl rfl (Qt_load1 (v := (.int .i64 p2.kind)) rfl rfl rfl (Rdc.blk Mb1 rfl))<|Ow_q rfl rfl rfl (Qt_cmp rfl rfl rfl)<|Ow_q rfl rfl rfl (Qt_move rfl)<|?_
   refine Ow_caseG rfl rfl rfl ?_ ?_
   ·intro h266
    have h266 := dcd_t (h266)
    have H := ift h266 H
    refine Ow_qw rfl rfl rfl rfl rfl rfl (Qt_fieldAddr (m := 0) rfl rfl rfl rfl rfl)<|Ow_qw rfl rfl rfl rfl rfl rfl (Qt_load1 (v := (.bool p1.send)) rfl rfl rfl (Rdc.blk Mb2 rfl))<|Ow_q rfl rfl rfl (Qt_pick_t rfl rfl)<|Ow_q rfl rfl rfl (Qt_assign rfl)<|Ow_nil<|Pu2<|Pu2<|Pu2<|Shift.done<|?_
    exact ⟨_, by exact ⟨rfl, rfl, rfl, rfl, rfl, trivial⟩, p1.send, rfl, rfl, rfl, H⟩
   ·intro h266
    have h266 := dcd_f (h266)
    have H := iff_ h266 H
    refine Ow_pass rfl rfl rfl rfl rfl rfl rfl<|Ow_pass rfl rfl rfl rfl rfl rfl rfl<|Ow_q rfl rfl rfl (Qt_pick_f rfl rfl)<|Ow_q rfl rfl rfl (Qt_assign rfl)<|Ow_nil<|Pu2<|Pu2<|Pu2<|Shift.done<|?_
    exact ⟨_, by exact ⟨rfl, rfl, rfl, rfl, rfl, trivial⟩, false, rfl, rfl, rfl, H⟩
  rintro _ _ _ - ⟨t265, rfl, rfl, rfl, H⟩
  unfold M_64z at H
  refine Cw_cond rfl ?_ ?_
  ·intro h267
   have H := ift h267 H
   refine Cw_seq ?_
   refine Cw_join (fun env' K' G' => ∃ (t278 : Bool), [(0, (sv vp0)), (4, (.pointer (some ((⟨b141, 0, none⟩ : Addr).add 0)))), (8, (.pointer (some ((⟨b156, 0, none⟩ : Addr).add 0)))), (41, (.bool t278))] = env' ∧ K = K' ∧ (.blk b156 71 (Chan.cells x149 v154)) :: (.blk b141 45 (Case.cells p1)) :: G = G' ∧ M_102z p0 x149 p1 t278 = some (y0, y1)) ?_ ?_
   ·skip
    refine Cw_region<|Ow_q rfl rfl rfl (Qt_loadA (m := 5) (cs := (Result.cells p2)) rfl rfl rfl rfl ⟨rfl, Rdc.blk Mb1 rfl⟩)<|?_
    obtain ⟨x279, hx280, H⟩ := bnd H
    refine Ow_cons rfl (OpW_call rfl Try.call94 rfl rfl (c_M_1z p2 false false x279 hx280 _ _ ) ?_)
    rintro _ _ _ - ⟨rfl, rfl, rfl⟩
    refine Ow_q rfl rfl rfl (Qt_not rfl)<|Ow_q rfl rfl rfl (Qt_move rfl)<|?_
    refine Ow_caseG rfl rfl rfl ?_ ?_
    ·intro h281
     have h281 := nt_t (h281)
     have H := iff_ (btf h281) H
     refine Ow_pass rfl rfl rfl rfl rfl rfl rfl<|Ow_pass rfl rfl rfl rfl rfl rfl rfl<|Ow_q rfl rfl rfl (Qt_pick_t rfl rfl)<|Ow_q rfl rfl rfl (Qt_move rfl)<|Ow_pass rfl rfl rfl rfl rfl rfl rfl<|Ow_pass rfl rfl rfl rfl rfl rfl rfl<|Ow_pass rfl rfl rfl rfl rfl rfl rfl<|Ow_pass rfl rfl rfl rfl rfl rfl rfl<|Ow_pass rfl rfl rfl rfl rfl rfl rfl<|Ow_pass rfl rfl rfl rfl rfl rfl rfl<|?_
     refine Ow_q rfl rfl rfl (Qt_pick_t rfl rfl)<|Ow_nil<|Pu2<|Pu1<|Re2<|Shift.done<|?_
     exact ⟨_, by exact ⟨rfl, rfl, rfl, rfl, trivial⟩, true, rfl, rfl, rfl, H⟩
    ·intro h281
     have h281 := nt_f (h281)
     have H := ift h281 H
     refine Ow_qw rfl rfl rfl rfl rfl rfl (Qt_fieldAddr (m := 2) rfl rfl rfl rfl rfl)<|Ow_qw rfl rfl rfl rfl rfl rfl (Qt_load1 (v := (.bool x149.closed)) rfl rfl rfl (Rdc.blk Mb0 rfl))<|Ow_q rfl rfl rfl (Qt_pick_f rfl rfl)<|Ow_q rfl rfl rfl (Qt_move rfl)<|?_
     refine Ow_caseG rfl rfl rfl ?_ ?_
     ·intro h282
      have H := ift h282 H
      refine Ow_pass rfl rfl rfl rfl rfl rfl rfl<|Ow_pass rfl rfl rfl rfl rfl rfl rfl<|Ow_pass rfl rfl rfl rfl rfl rfl rfl<|Ow_pass rfl rfl rfl rfl rfl rfl rfl<|Ow_pass rfl rfl rfl rfl rfl rfl rfl<|Ow_pass rfl rfl rfl rfl rfl rfl rfl<|Ow_q rfl rfl rfl (Qt_pick_t rfl rfl)<|Ow_nil<|Pu2<|Pu1<|?_
      refine Re2<|Shift.done<|?_
      exact ⟨_, by exact ⟨rfl, rfl, rfl, rfl, trivial⟩, true, rfl, rfl, rfl, H⟩
     ·intro h282
      have H := iff_ (btf h282) H
      refine Ow_qw rfl rfl rfl rfl rfl rfl (Qt_fieldAddr (m := 1) rfl rfl rfl rfl rfl)<|Ow_qw rfl rfl rfl rfl rfl rfl (Qt_load1 (v := (sv v154)) rfl rfl rfl (Rdc.blk Mb0 rfl))<|Ow_qw rfl rfl rfl rfl rfl rfl (Q_len (T := Ty.u64) hs155 rfl rfl)<|Ow_qw rfl rfl rfl rfl rfl rfl (Qt_fieldAddr (m := 0) rfl rfl rfl rfl rfl)<|Ow_qw rfl rfl rfl rfl rfl rfl (Qt_load1 (v := (.int .i64 x149.capacity)) rfl rfl rfl (Rdc.blk Mb0 rfl))<|Ow_qw rfl rfl rfl rfl rfl rfl (Qt_cmp rfl rfl rfl)<|Ow_q rfl rfl rfl (Qt_pick_f rfl rfl)<|Ow_nil<|Pu2<|Pu1<|?_
      refine Re2<|Shift.done<|?_
      exact ⟨_, by exact ⟨rfl, rfl, rfl, rfl, trivial⟩, (dcd ((x149.buffer.length : Int) ≥ x149.capacity)), rfl, rfl, rfl, H⟩
   rintro _ _ _ - ⟨t278, rfl, rfl, rfl, H⟩
   unfold M_102z at H
   refine Cw_cond rfl ?_ ?_
   ·intro h283
    have H := ift h283 H
    refine Cw_seq<|Cw_region<|Ow_q rfl rfl rfl (Qt_assign rfl)<|Ow_q rfl rfl rfl (Qt_assign rfl)<|Ow_nil<|Cw_ret<|?_
    obtain ⟨ey0, ey1⟩ := inj2 H
    subst y0 y1
    refine ⟨(by first | exact .inl rfl | exact .inr rfl), [(sv nilS), (.bool false)], ⟨(sv nilS), _, rfl, rfl, ⟨(.bool false), _, rfl, rfl, rfl⟩⟩, ?_⟩
    refine Re0<|Re0<|Shift.done<|?_
    exact ⟨nilS, rfl, rfl, (Slr.nil TyChan _)⟩
   ·intro h283
    have H := iff_ (btf h283) H
    refine Cw_skip ?_
    refine Cw_join (fun env' K' G' => ∃ (v330 : SV) (l331 : List Int), [(0, (sv vp0)), (4, (.pointer (some ((⟨b141, 0, none⟩ : Addr).add 0)))), (8, (.pointer (some ((⟨b156, 0, none⟩ : Addr).add 0))))] = env' ∧ (.blk b156 71 (Chan.cells (Chan.mk x149.capacity l331 x149.closed) v330)) :: (.blk b141 45 (Case.cells p1)) :: (.tok 38 1 [(sv v330)]) :: G = G' ∧ M_197z p0 x149 p1 l331 = some (y0, y1) ∧ Slr Ty.u64 K' (sv v330) l331) ?_ ?_
    ·skip
     obtain ⟨x333, hx334, H⟩ := bnd H
     obtain ⟨x341, hx342, H⟩ := bnd H
     refine Cw_region_any [.blk b141 45 (Case.cells p1)] rfl (Inc.cons Mb1 Inc.nil)<|Awq 0 rfl (by kernel_rfl) rfl rfl rfl (Qt_fieldAddr (m := 1) rfl rfl rfl rfl rfl)<|Awq 3 rfl (by kernel_rfl) rfl rfl rfl (Qt_fieldAddr (m := 2) rfl rfl rfl rfl rfl)<|Awq 4 rfl (by kernel_rfl) rfl rfl rfl (Qt_load1 (v := (.int .u64 p1.value)) rfl rfl rfl (Rdc.blk Mb0 rfl))<|?_
     refine Aw_two 1 5 (by kernel_rfl) ?_ ?_
     ·skip
      refine id (Ax_mk rfl rfl (OpW_of_Qt rfl rfl (Qt_load1 (v := (sv v154)) rfl rfl rfl (Rdc.blk Mb0 rfl)) ⟨(Inc.cons Mb1 Inc.nil), ?_⟩))
      refine Aw_two 2 5 (by kernel_rfl) ?_ ?_
      ·skip
       refine id (Ax_mk rfl rfl ?_)
       refine OpW.shift (Shift.nilTok1 38 1 (Shift.done ?_))
       refine O_appTok (T := Ty.u64) (bytes := 8) (q := 0) rfl rfl rfl (Slr.nil Ty.u64 _) Mb0 rfl (SrcT.sl hs155) hx334 rfl rfl rfl rfl rfl rfl rfl rfl (fun v347 K348 hK349 hs350 => ⟨_, .here, ⟨(Inc.cons Mb2 Inc.nil), ?_⟩⟩)
       refine Aw_one 5 (by kernel_rfl) (Ax_mk rfl rfl ?_)
       have hR352 : RowR Ty.u64 K348 [[(.int .u64 p1.value)]] [p1.value] := RowR.cons rfl (RowR.nil)
       refine O_lit (T := Ty.u64) (rows := [[(.int .u64 p1.value)]]) (l := [p1.value]) rfl rfl rfl hR352 rfl rfl rfl rfl rfl rfl rfl rfl (fun v351 => ⟨(Inc.cons Mb3 Inc.nil), ?_⟩)
       refine Aw_one 6 (by kernel_rfl) (Ax_mk rfl rfl ?_)
       refine O_appTok (T := Ty.u64) (bytes := 8) (q := 0) rfl rfl rfl hs350 Mb1 rfl (SrcT.row Mb0 hR352 rfl) hx342 rfl rfl rfl rfl rfl rfl rfl rfl (fun v353 K354 hK355 hs356 => ⟨_, (.there .here), ⟨(Inc.cons Mb3 Inc.nil), ?_⟩⟩)
       refine Aw.shift (Re0 (Shift.done ⟨(Inc.cons Mb2 Inc.nil), ?_⟩))
       refine Awq 7 rfl (by kernel_rfl) rfl rfl rfl (Qt_fieldAddr (m := 1) rfl rfl rfl rfl rfl) ?_
       refine Aw_one 8 (by kernel_rfl) (Ax_mk rfl rfl ?_)
       refine OpW_store (vs := [(sv v353)]) (all' := (Chan.cells (Chan.mk x149.capacity x341 x149.closed) v353)) rfl rfl rfl rfl rfl (.there .here) rfl rfl rfl ⟨(Inc.cons Mb2 Inc.nil), ?_⟩
       refine Aw_done (by kernel_rfl)<|Pu2<|Pu2<|Shift.done<|?_
       exact ⟨_, by exact ⟨rfl, rfl, rfl, trivial⟩, v353, x341, rfl, rfl, H, hs356⟩
      ·skip
       refine id (Ax_mk rfl rfl ?_)
       have hR358 : RowR Ty.u64 K [[(.int .u64 p1.value)]] [p1.value] := RowR.cons rfl (RowR.nil)
       refine O_lit (T := Ty.u64) (rows := [[(.int .u64 p1.value)]]) (l := [p1.value]) rfl rfl rfl hR358 rfl rfl rfl rfl rfl rfl rfl rfl (fun v357 => ⟨(Inc.cons Mb2 Inc.nil), ?_⟩)
       refine Aw_one 2 (by kernel_rfl) (Ax_mk rfl rfl ?_)
       refine OpW.shift (Shift.nilTok1 38 1 (Shift.done ?_))
       refine O_appTok (T := Ty.u64) (bytes := 8) (q := 0) rfl rfl rfl (Slr.nil Ty.u64 _) Mb0 rfl (SrcT.sl hs155) hx334 rfl rfl rfl rfl rfl rfl rfl rfl (fun v359 K360 hK361 hs362 => ⟨_, .here, ⟨(Inc.cons Mb3 Inc.nil), ?_⟩⟩)
       refine Aw_one 6 (by kernel_rfl) (Ax_mk rfl rfl ?_)
       have hs363 := (hR358).mono hK361
       refine O_appTok (T := Ty.u64) (bytes := 8) (q := 0) rfl rfl rfl hs362 Mb0 rfl (SrcT.row Mb1 hs363 rfl) hx342 rfl rfl rfl rfl rfl rfl rfl rfl (fun v364 K365 hK366 hs367 => ⟨_, .here, ⟨(Inc.cons Mb3 Inc.nil), ?_⟩⟩)
       refine Aw.shift (Re1 (Shift.done ⟨(Inc.cons Mb2 Inc.nil), ?_⟩))
       refine Awq 7 rfl (by kernel_rfl) rfl rfl rfl (Qt_fieldAddr (m := 1) rfl rfl rfl rfl rfl) ?_
       refine Aw_one 8 (by kernel_rfl) (Ax_mk rfl rfl ?_)
       refine OpW_store (vs := [(sv v364)]) (all' := (Chan.cells (Chan.mk x149.capacity x341 x149.closed) v364)) rfl rfl rfl rfl rfl (.there .here) rfl rfl rfl ⟨(Inc.cons Mb2 Inc.nil), ?_⟩
       refine Aw_done (by kernel_rfl)<|Pu2<|Pu2<|Shift.done<|?_
       exact ⟨_, by exact ⟨rfl, rfl, rfl, trivial⟩, v364, x341, rfl, rfl, H, hs367⟩
     ·skip
      refine id (Ax_mk rfl rfl ?_)
      have hR369 : RowR Ty.u64 K [[(.int .u64 p1.value)]] [p1.value] := RowR.cons rfl (RowR.nil)
      refine O_lit (T := Ty.u64) (rows := [[(.int .u64 p1.value)]]) (l := [p1.value]) rfl rfl rfl hR369 rfl rfl rfl rfl rfl rfl rfl rfl (fun v368 => ⟨(Inc.cons Mb2 Inc.nil), ?_⟩)
      refine Aw_one 1 (by kernel_rfl) (Ax_mk rfl rfl (OpW_of_Qt rfl rfl (Qt_load1 (v := (sv v154)) rfl rfl rfl (Rdc.blk Mb1 rfl)) ⟨(Inc.cons Mb2 Inc.nil), ?_⟩))
      refine Aw_one 2 (by kernel_rfl) (Ax_mk rfl rfl ?_)
      refine OpW.shift (Shift.nilTok1 38 1 (Shift.done ?_))
      refine O_appTok (T := Ty.u64) (bytes := 8) (q := 0) rfl rfl rfl (Slr.nil Ty.u64 _) Mb0 rfl (SrcT.sl hs155) hx334 rfl rfl rfl rfl rfl rfl rfl rfl (fun v370 K371 hK372 hs373 => ⟨_, .here, ⟨(Inc.cons Mb3 Inc.nil), ?_⟩⟩)
      refine Aw_one 6 (by kernel_rfl) (Ax_mk rfl rfl ?_)
      have hs374 := (hR369).mono hK372
      refine O_appTok (T := Ty.u64) (bytes := 8) (q := 0) rfl rfl rfl hs373 Mb0 rfl (SrcT.row Mb1 hs374 rfl) hx342 rfl rfl rfl rfl rfl rfl rfl rfl (fun v375 K376 hK377 hs378 => ⟨_, .here, ⟨(Inc.cons Mb3 Inc.nil), ?_⟩⟩)
      refine Aw.shift (Re1 (Shift.done ⟨(Inc.cons Mb2 Inc.nil), ?_⟩))
      refine Awq 7 rfl (by kernel_rfl) rfl rfl rfl (Qt_fieldAddr (m := 1) rfl rfl rfl rfl rfl) ?_
      refine Aw_one 8 (by kernel_rfl) (Ax_mk rfl rfl ?_)
      refine OpW_store (vs := [(sv v375)]) (all' := (Chan.cells (Chan.mk x149.capacity x341 x149.closed) v375)) rfl rfl rfl rfl rfl (.there .here) rfl rfl rfl ⟨(Inc.cons Mb2 Inc.nil), ?_⟩
      refine Aw_done (by kernel_rfl)<|Pu2<|Pu2<|Shift.done<|?_
      exact ⟨_, by exact ⟨rfl, rfl, rfl, trivial⟩, v375, x341, rfl, rfl, H, hs378⟩
    rintro _ K379 _ hK380 ⟨v330, l331, rfl, rfl, H, hs332⟩
    unfold M_197z at H
    refine Cw_seq<|Cw_region<|Ow_q rfl rfl rfl (Qt_move rfl)<|Ow_q rfl rfl rfl (Qt_fieldAddr (m := 1) rfl rfl rfl rfl rfl)<|Ow_q rfl rfl rfl (Qt_load1 (v := (.int .i64 p1.channel)) rfl rfl rfl (Rdc.blk Mb1 rfl))<|Ow_q rfl rfl rfl (Qt_loadA (m := 3) (cs := (Chan.cells (Chan.mk x149.capacity l331 x149.closed) v330)) rfl rfl rfl rfl ⟨rfl, Rdc.blk Mb0 rfl⟩)<|?_
    obtain ⟨x381, hx382, H⟩ := bnd H
    have hs383 := (hp0).mono hK380
    refine Ow_cons rfl (OpW_call rfl Try.call95 rfl rfl (c_M_60z p0 vp0 p1.channel (Chan.mk x149.capacity l331 x149.closed) v330 x381 hx382 _ _ hs383 hs332) ?_)
    rintro _ _ _ - ⟨v384, rs385, rfl, rfl, rfl, hs386⟩
    refine Ow_q rfl rfl rfl (Qt_assign rfl)<|Ow_q rfl rfl rfl (Qt_assign rfl)<|Ow_nil<|Cw_ret<|?_
    obtain ⟨ey0, ey1⟩ := inj2 H
    subst y0 y1
    refine ⟨(by first | exact .inl rfl | exact .inr rfl), [(sv v384), (.bool true)], ⟨(sv v384), _, rfl, rfl, ⟨(.bool true), _, rfl, rfl, rfl⟩⟩, ?_⟩
    refine Shift.settle (T := TyChan) .here hs386 rfl ?_
    intro K387 hK388 hs389
    refine Re0<|Re0<|Re0<|Re0<|Shift.done<|?_
    exact ⟨v384, rfl, rfl, hs389⟩
  ·intro h267
   have H := iff_ (btf h267) H
   refine Cw_join (fun env' K' G' => ∃ (t391 : Bool), [(0, (sv vp0)), (4, (.pointer (some ((⟨b141, 0, none⟩ : Addr).add 0)))), (5, (.pointer (some ((⟨b142, 0, none⟩ : Addr).add 0)))), (8, (.pointer (some ((⟨b156, 0, none⟩ : Addr).add 0)))), (55, (.bool t391))] = env' ∧ K = K' ∧ (.blk b156 71 (Chan.cells x149 v154)) :: (.blk b142 73 (Result.cells p2)) :: (.blk b141 45 (Case.cells p1)) :: G = G' ∧ M_63z p0 x149 p2 p1 t391 = some (y0, y1)) ?_ ?_
   ·skip
    refine Cw_region<|Ow_q rfl rfl rfl (Qt_fieldAddr (m := 0) rfl rfl rfl rfl rfl)<|Ow_q rfl rfl rfl (Qt_load1 (v := (.int .i64 p2.kind)) rfl rfl rfl (Rdc.blk Mb1 rfl))<|Ow_q rfl rfl rfl (Qt_cmp rfl rfl rfl)<|Ow_q rfl rfl rfl (Qt_move rfl)<|?_
    refine Ow_caseG rfl rfl rfl ?_ ?_
    ·intro h392
     have h392 := dcd_t (h392)
     have H := ift h392 H
     refine Ow_qw rfl rfl rfl rfl rfl rfl (Qt_fieldAddr (m := 0) rfl rfl rfl rfl rfl)<|Ow_qw rfl rfl rfl rfl rfl rfl (Qt_load1 (v := (.bool p1.send)) rfl rfl rfl (Rdc.blk Mb2 rfl))<|Ow_q rfl rfl rfl (Qt_pick_t rfl rfl)<|Ow_q rfl rfl rfl (Qt_assign rfl)<|Ow_nil<|Pu2<|Pu2<|Pu2<|Shift.done<|?_
     exact ⟨_, by exact ⟨rfl, rfl, rfl, rfl, rfl, trivial⟩, p1.send, rfl, rfl, rfl, H⟩
    ·intro h392
     have h392 := dcd_f (h392)
     have H := iff_ h392 H
     refine Ow_pass rfl rfl rfl rfl rfl rfl rfl<|Ow_pass rfl rfl rfl rfl rfl rfl rfl<|Ow_q rfl rfl rfl (Qt_pick_f rfl rfl)<|Ow_q rfl rfl rfl (Qt_assign rfl)<|Ow_nil<|Pu2<|Pu2<|Pu2<|Shift.done<|?_
     exact ⟨_, by exact ⟨rfl, rfl, rfl, rfl, rfl, trivial⟩, false, rfl, rfl, rfl, H⟩
   rintro _ _ _ - ⟨t391, rfl, rfl, rfl, H⟩
   unfold M_63z at H
   refine Cw_cond rfl ?_ ?_
   ·intro h393
    have H := ift h393 H
    refine Cw_seq ?_
    obtain ⟨x397, hx398, H⟩ := bnd H
    rcases bool_ct x397 with hb_ | hb_ <;> revert hb_
    ·intro h399
     have H := ift h399 H
     refine Cw_region_any [.blk b156 71 (Chan.cells x149 v154), .blk b142 73 (Result.cells p2), .blk b141 45 (Case.cells p1)] rfl (Inc.cons Mb0 (Inc.cons Mb1 (Inc.cons Mb2 Inc.nil)))<|Awq 0 rfl (by kernel_rfl) rfl rfl rfl (Qt_move rfl)<|Awq 1 rfl (by kernel_rfl) rfl rfl rfl (Qt_loadA (m := 5) (cs := (Result.cells p2)) rfl rfl rfl rfl ⟨rfl, Rdc.blk Mb1 rfl⟩)<|?_
     refine Aw_one 2 (by kernel_rfl) (Ax_mk rfl rfl ?_)
     refine OpW_call rfl Try.call94 rfl rfl (c_M_1z p2 false false x397 hx398 _ _ ) ?_
     rintro _ _ _ - ⟨rfl, rfl, rfl⟩
     refine ⟨(Inc.cons Mb0 (Inc.cons Mb1 (Inc.cons Mb2 Inc.nil))), ?_⟩
     refine Awq 3 rfl (by kernel_rfl) rfl rfl rfl (Qt_move rfl)<|Aw.known (d := 66) rfl (h399)<|Awqw 4 rfl (by kernel_rfl) rfl rfl rfl rfl rfl rfl (Qt_fieldAddr (m := 2) rfl rfl rfl rfl rfl)<|Awqw 5 rfl (by kernel_rfl) rfl rfl rfl rfl rfl rfl (Qt_load1 (v := (.bool x149.closed)) rfl rfl rfl (Rdc.blk Mb0 rfl))<|Awq 6 rfl (by kernel_rfl) rfl rfl rfl (Qt_pick_t rfl rfl)<|Awq 7 rfl (by kernel_rfl) rfl rfl rfl (Qt_assign rfl)<|Awq 8 rfl (by kernel_rfl) rfl rfl rfl (Qt_assign rfl)<|Aw_done (by kernel_rfl)<|Cw_ret<|?_
     obtain ⟨ey0, ey1⟩ := inj2 H
     subst y0 y1
     refine ⟨(by first | exact .inl rfl | exact .inr rfl), [(sv vp0), (.bool x149.closed)], ⟨(sv vp0), _, rfl, rfl, ⟨(.bool x149.closed), _, rfl, rfl, rfl⟩⟩, ?_⟩
     refine Re0<|Re0<|Re0<|Shift.done<|?_
     exact ⟨vp0, rfl, rfl, hp0⟩
    ·intro h399
     have H := iff_ (btf h399) H
     refine Cw_region_any [.blk b156 71 (Chan.cells x149 v154), .blk b142 73 (Result.cells p2), .blk b141 45 (Case.cells p1)] rfl (Inc.cons Mb0 (Inc.cons Mb1 (Inc.cons Mb2 Inc.nil)))<|Awq 0 rfl (by kernel_rfl) rfl rfl rfl (Qt_move rfl)<|Awq 1 rfl (by kernel_rfl) rfl rfl rfl (Qt_loadA (m := 5) (cs := (Result.cells p2)) rfl rfl rfl rfl ⟨rfl, Rdc.blk Mb1 rfl⟩)<|?_
     refine Aw_one 2 (by kernel_rfl) (Ax_mk rfl rfl ?_)
     refine OpW_call rfl Try.call94 rfl rfl (c_M_1z p2 false false x397 hx398 _ _ ) ?_
     rintro _ _ _ - ⟨rfl, rfl, rfl⟩
     refine ⟨(Inc.cons Mb0 (Inc.cons Mb1 (Inc.cons Mb2 Inc.nil))), ?_⟩
     refine Awq 3 rfl (by kernel_rfl) rfl rfl rfl (Qt_move rfl)<|Aw.known (d := 66) rfl (h399)<|Awps 4 rfl (by kernel_rfl) rfl rfl rfl rfl rfl rfl rfl<|Awps 5 rfl (by kernel_rfl) rfl rfl rfl rfl rfl rfl rfl<|Awq 6 rfl (by kernel_rfl) rfl rfl rfl (Qt_pick_f rfl rfl)<|Awq 7 rfl (by kernel_rfl) rfl rfl rfl (Qt_assign rfl)<|Awq 8 rfl (by kernel_rfl) rfl rfl rfl (Qt_assign rfl)<|Aw_done (by kernel_rfl)<|Cw_ret<|?_
     obtain ⟨ey0, ey1⟩ := inj2 H
     subst y0 y1
     refine ⟨(by first | exact .inl rfl | exact .inr rfl), [(sv vp0), (.bool false)], ⟨(sv vp0), _, rfl, rfl, ⟨(.bool false), _, rfl, rfl, rfl⟩⟩, ?_⟩
     refine Re0<|Re0<|Re0<|Shift.done<|?_
     exact ⟨vp0, rfl, rfl, hp0⟩
   ·intro h393
    have H := iff_ (btf h393) H
    refine Cw_join (fun env' K' G' => ∃ (t402 : Bool), [(0, (sv vp0)), (4, (.pointer (some ((⟨b141, 0, none⟩ : Addr).add 0)))), (5, (.pointer (some ((⟨b142, 0, none⟩ : Addr).add 0)))), (8, (.pointer (some ((⟨b156, 0, none⟩ : Addr).add 0)))), (70, (.bool t402))] = env' ∧ K = K' ∧ (.blk b156 71 (Chan.cells x149 v154)) :: (.blk b142 73 (Result.cells p2)) :: (.blk b141 45 (Case.cells p1)) :: G = G' ∧ M_38z p0 x149 p2 p1 t402 = some (y0, y1)) ?_ ?_
    ·skip
     refine Cw_region<|Ow_q rfl rfl rfl (Qt_fieldAddr (m := 0) rfl rfl rfl rfl rfl)<|Ow_q rfl rfl rfl (Qt_load1 (v := (.int .i64 p2.kind)) rfl rfl rfl (Rdc.blk Mb1 rfl))<|Ow_q rfl rfl rfl (Qt_cmp rfl rfl rfl)<|Ow_q rfl rfl rfl (Qt_move rfl)<|?_
     refine Ow_caseG rfl rfl rfl ?_ ?_
     ·intro h403
      have h403 := dcd_t (h403)
      have H := ift h403 H
      refine Ow_qw rfl rfl rfl rfl rfl rfl (Qt_fieldAddr (m := 0) rfl rfl rfl rfl rfl)<|Ow_qw rfl rfl rfl rfl rfl rfl (Qt_load1 (v := (.bool p1.send)) rfl rfl rfl (Rdc.blk Mb2 rfl))<|Ow_qw rfl rfl rfl rfl rfl rfl (Qt_not rfl)<|Ow_q rfl rfl rfl (Qt_pick_t rfl rfl)<|Ow_q rfl rfl rfl (Qt_move rfl)<|?_
      refine Ow_caseG rfl rfl rfl ?_ ?_
      ·intro h404
       have h404 := nt_t (h404)
       have H := iff_ (btf h404) H
       refine Ow_qw rfl rfl rfl rfl rfl rfl (Qt_fieldAddr (m := 3) rfl rfl rfl rfl rfl)<|Ow_qw rfl rfl rfl rfl rfl rfl (Qt_load1 (v := (.bool p2.ok)) rfl rfl rfl (Rdc.blk Mb1 rfl))<|Ow_q rfl rfl rfl (Qt_pick_t rfl rfl)<|Ow_q rfl rfl rfl (Qt_assign rfl)<|Ow_nil<|Pu2<|Pu2<|Pu2<|Shift.done<|?_
       exact ⟨_, by exact ⟨rfl, rfl, rfl, rfl, rfl, trivial⟩, p2.ok, rfl, rfl, rfl, H⟩
      ·intro h404
       have h404 := nt_f (h404)
       have H := ift h404 H
       refine Ow_pass rfl rfl rfl rfl rfl rfl rfl<|Ow_pass rfl rfl rfl rfl rfl rfl rfl<|Ow_q rfl rfl rfl (Qt_pick_f rfl rfl)<|Ow_q rfl rfl rfl (Qt_assign rfl)<|Ow_nil<|Pu2<|Pu2<|Pu2<|Shift.done<|?_
       exact ⟨_, by exact ⟨rfl, rfl, rfl, rfl, rfl, trivial⟩, false, rfl, rfl, rfl, H⟩
     ·intro h403
      have h403 := dcd_f (h403)
      have H := iff_ h403 H
      refine Ow_pass rfl rfl rfl rfl rfl rfl rfl<|Ow_pass rfl rfl rfl rfl rfl rfl rfl<|Ow_pass rfl rfl rfl rfl rfl rfl rfl<|Ow_q rfl rfl rfl (Qt_pick_f rfl rfl)<|Ow_q rfl rfl rfl (Qt_move rfl)<|Ow_pass rfl rfl rfl rfl rfl rfl rfl<|Ow_pass rfl rfl rfl rfl rfl rfl rfl<|Ow_q rfl rfl rfl (Qt_pick_f rfl rfl)<|Ow_q rfl rfl rfl (Qt_assign rfl)<|Ow_nil<|?_
      refine Pu2<|Pu2<|Pu2<|Shift.done<|?_
      exact ⟨_, by exact ⟨rfl, rfl, rfl, rfl, rfl, trivial⟩, false, rfl, rfl, rfl, H⟩
    rintro _ _ _ - ⟨t402, rfl, rfl, rfl, H⟩
    unfold M_38z at H
    refine Cw_cond rfl ?_ ?_
    ·intro h405
     have H := ift h405 H
     refine Cw_seq ?_
     refine Cw_join (fun env' K' G' => ∃ (t432 : Bool), [(0, (sv vp0)), (4, (.pointer (some ((⟨b141, 0, none⟩ : Addr).add 0)))), (8, (.pointer (some ((⟨b156, 0, none⟩ : Addr).add 0)))), (100, (.bool t432))] = env' ∧ K = K' ∧ (.blk b156 71 (Chan.cells x149 v154)) :: (.blk b141 45 (Case.cells p1)) :: G = G' ∧ M_103z p0 x149 p1 t432 = some (y0, y1)) ?_ ?_
     ·skip
      obtain ⟨x433, hx434, H⟩ := bnd H
      rcases bool_ct (!(x433)) with hb_ | hb_ <;> revert hb_
      ·intro h435
       have h435 := nt_t (h435)
       have H := iff_ (btf h435) H
       refine Cw_region_any [.blk b156 71 (Chan.cells x149 v154), .blk b142 73 (Result.cells p2), .blk b141 45 (Case.cells p1)] rfl (Inc.cons Mb0 (Inc.cons Mb1 (Inc.cons Mb2 Inc.nil)))<|Awq 0 rfl (by kernel_rfl) rfl rfl rfl (Qt_loadA (m := 5) (cs := (Result.cells p2)) rfl rfl rfl rfl ⟨rfl, Rdc.blk Mb1 rfl⟩)<|?_
       refine Aw_one 1 (by kernel_rfl) (Ax_mk rfl rfl ?_)
       refine OpW_call rfl Try.call94 rfl rfl (c_M_1z p2 true false x433 hx434 _ _ ) ?_
       rintro _ _ _ - ⟨rfl, rfl, rfl⟩
       refine ⟨(Inc.cons Mb0 (Inc.cons Mb1 (Inc.cons Mb2 Inc.nil))), ?_⟩
       refine Awq 2 rfl (by kernel_rfl) rfl rfl rfl (Qt_not rfl)<|Awq 3 rfl (by kernel_rfl) rfl rfl rfl (Qt_move rfl)<|Aw.known (d := 86) rfl (nt_mt (h435))<|Awps 4 rfl (by kernel_rfl) rfl rfl rfl rfl rfl rfl rfl<|Awps 5 rfl (by kernel_rfl) rfl rfl rfl rfl rfl rfl rfl<|Awps 6 rfl (by kernel_rfl) rfl rfl rfl rfl rfl rfl rfl<|Awps 7 rfl (by kernel_rfl) rfl rfl rfl rfl rfl rfl rfl<|Awq 8 rfl (by kernel_rfl) rfl rfl rfl (Qt_pick_t rfl rfl)<|Awq 9 rfl (by kernel_rfl) rfl rfl rfl (Qt_move rfl)<|Awps 10 rfl (by kernel_rfl) rfl rfl rfl rfl rfl rfl rfl<|?_
       refine Awps 11 rfl (by kernel_rfl) rfl rfl rfl rfl rfl rfl rfl<|Awps 12 rfl (by kernel_rfl) rfl rfl rfl rfl rfl rfl rfl<|Awps 13 rfl (by kernel_rfl) rfl rfl rfl rfl rfl rfl rfl<|Awps 14 rfl (by kernel_rfl) rfl rfl rfl rfl rfl rfl rfl<|Awps 15 rfl (by kernel_rfl) rfl rfl rfl rfl rfl rfl rfl<|Awps 16 rfl (by kernel_rfl) rfl rfl rfl rfl rfl rfl rfl<|Awq 17 rfl (by kernel_rfl) rfl rfl rfl (Qt_pick_t rfl rfl)<|Aw_done (by kernel_rfl)<|Pu2<|Pu1<|?_
       refine Re2<|Shift.done<|?_
       exact ⟨_, by exact ⟨rfl, rfl, rfl, rfl, trivial⟩, true, rfl, rfl, rfl, H⟩
      ·intro h435
       have h435 := nt_f (h435)
       have H := ift h435 H
       rcases bool_ct (dcd ((x149.buffer.length : Int) = 0)) with hb_ | hb_ <;> revert hb_
       ·intro h436
        have h436 := dcd_t (h436)
        have H := ift h436 H
        refine Cw_region_any [.blk b156 71 (Chan.cells x149 v154), .blk b142 73 (Result.cells p2), .blk b141 45 (Case.cells p1)] rfl (Inc.cons Mb0 (Inc.cons Mb1 (Inc.cons Mb2 Inc.nil)))<|Awq 0 rfl (by kernel_rfl) rfl rfl rfl (Qt_loadA (m := 5) (cs := (Result.cells p2)) rfl rfl rfl rfl ⟨rfl, Rdc.blk Mb1 rfl⟩)<|?_
        refine Aw_one 1 (by kernel_rfl) (Ax_mk rfl rfl ?_)
        refine OpW_call rfl Try.call94 rfl rfl (c_M_1z p2 true false x433 hx434 _ _ ) ?_
        rintro _ _ _ - ⟨rfl, rfl, rfl⟩
        refine ⟨(Inc.cons Mb0 (Inc.cons Mb1 (Inc.cons Mb2 Inc.nil))), ?_⟩
        refine Awq 2 rfl (by kernel_rfl) rfl rfl rfl (Qt_not rfl)<|Awq 3 rfl (by kernel_rfl) rfl rfl rfl (Qt_move rfl)<|Aw.known (d := 86) rfl (nt_mf (h435))<|Awqw 4 rfl (by kernel_rfl) rfl rfl rfl rfl rfl rfl (Qt_fieldAddr (m := 1) rfl rfl rfl rfl rfl)<|Awqw 5 rfl (by kernel_rfl) rfl rfl rfl rfl rfl rfl (Qt_load1 (v := (sv v154)) rfl rfl rfl (Rdc.blk Mb0 rfl))<|Awqw 6 rfl (by kernel_rfl) rfl rfl rfl rfl rfl rfl (Q_len (T := Ty.u64) hs155 rfl rfl)<|Awqw 7 rfl (by kernel_rfl) rfl rfl rfl rfl rfl rfl (Qt_cmp rfl rfl rfl)<|Awq 8 rfl (by kernel_rfl) rfl rfl rfl (Qt_pick_f rfl rfl)<|Awq 9 rfl (by kernel_rfl) rfl rfl rfl (Qt_move rfl)<|Aw.known (d := 92) rfl (dcd_pos h436)<|?_
        refine Awps 10 rfl (by kernel_rfl) rfl rfl rfl rfl rfl rfl rfl<|Awps 11 rfl (by kernel_rfl) rfl rfl rfl rfl rfl rfl rfl<|Awps 12 rfl (by kernel_rfl) rfl rfl rfl rfl rfl rfl rfl<|Awps 13 rfl (by kernel_rfl) rfl rfl rfl rfl rfl rfl rfl<|Awps 14 rfl (by kernel_rfl) rfl rfl rfl rfl rfl rfl rfl<|Awps 15 rfl (by kernel_rfl) rfl rfl rfl rfl rfl rfl rfl<|Awps 16 rfl (by kernel_rfl) rfl rfl rfl rfl rfl rfl rfl<|Awq 17 rfl (by kernel_rfl) rfl rfl rfl (Qt_pick_t rfl rfl)<|Aw_done (by kernel_rfl)<|Pu2<|?_
        refine Pu1<|Re2<|Shift.done<|?_
        exact ⟨_, by exact ⟨rfl, rfl, rfl, rfl, trivial⟩, true, rfl, rfl, rfl, H⟩
       ·intro h436
        have h436 := dcd_f (h436)
        have H := iff_ h436 H
        obtain ⟨x437, hx438, H⟩ := bnd H
        refine Cw_region_any [.blk b156 71 (Chan.cells x149 v154), .blk b142 73 (Result.cells p2), .blk b141 45 (Case.cells p1)] rfl (Inc.cons Mb0 (Inc.cons Mb1 (Inc.cons Mb2 Inc.nil)))<|Awq 0 rfl (by kernel_rfl) rfl rfl rfl (Qt_loadA (m := 5) (cs := (Result.cells p2)) rfl rfl rfl rfl ⟨rfl, Rdc.blk Mb1 rfl⟩)<|?_
        refine Aw_one 1 (by kernel_rfl) (Ax_mk rfl rfl ?_)
        refine OpW_call rfl Try.call94 rfl rfl (c_M_1z p2 true false x433 hx434 _ _ ) ?_
        rintro _ _ _ - ⟨rfl, rfl, rfl⟩
        refine ⟨(Inc.cons Mb0 (Inc.cons Mb1 (Inc.cons Mb2 Inc.nil))), ?_⟩
        refine Awq 2 rfl (by kernel_rfl) rfl rfl rfl (Qt_not rfl)<|Awq 3 rfl (by kernel_rfl) rfl rfl rfl (Qt_move rfl)<|Aw.known (d := 86) rfl (nt_mf (h435))<|Awqw 4 rfl (by kernel_rfl) rfl rfl rfl rfl rfl rfl (Qt_fieldAddr (m := 1) rfl rfl rfl rfl rfl)<|Awqw 5 rfl (by kernel_rfl) rfl rfl rfl rfl rfl rfl (Qt_load1 (v := (sv v154)) rfl rfl rfl (Rdc.blk Mb0 rfl))<|Awqw 6 rfl (by kernel_rfl) rfl rfl rfl rfl rfl rfl (Q_len (T := Ty.u64) hs155 rfl rfl)<|Awqw 7 rfl (by kernel_rfl) rfl rfl rfl rfl rfl rfl (Qt_cmp rfl rfl rfl)<|Awq 8 rfl (by kernel_rfl) rfl rfl rfl (Qt_pick_f rfl rfl)<|Awq 9 rfl (by kernel_rfl) rfl rfl rfl (Qt_move rfl)<|Aw.known (d := 92) rfl (dcd_neg h436)<|?_
        refine Awqw 10 rfl (by kernel_rfl) rfl rfl rfl rfl rfl rfl (Qt_fieldAddr (m := 1) rfl rfl rfl rfl rfl)<|Awqw 11 rfl (by kernel_rfl) rfl rfl rfl rfl rfl rfl (Qt_load1 (v := (sv v154)) rfl rfl rfl (Rdc.blk Mb0 rfl))<|?_
        obtain ⟨r442, hr443, hk444⟩ := Slr.at hs155 hx438
        obtain rfl := hr443
        refine Awqw 12 rfl (by kernel_rfl) rfl rfl rfl rfl rfl rfl (Q_ix (T := Ty.u64) hs155 hx438 rfl rfl rfl rfl rfl)<|Awqw 13 rfl (by kernel_rfl) rfl rfl rfl rfl rfl rfl (Qt_load1 (v := (.int .u64 x437)) rfl rfl rfl (Rdc.k hk444 rfl))<|Awqw 14 rfl (by kernel_rfl) rfl rfl rfl rfl rfl rfl (Qt_fieldAddr (m := 2) rfl rfl rfl rfl rfl)<|Awqw 15 rfl (by kernel_rfl) rfl rfl rfl rfl rfl rfl (Qt_load1 (v := (.int .u64 p2.value)) rfl rfl rfl (Rdc.blk Mb1 rfl))<|Awqw 16 rfl (by kernel_rfl) rfl rfl rfl rfl rfl rfl (Qt_cmp rfl rfl rfl)<|Awq 17 rfl (by kernel_rfl) rfl rfl rfl (Qt_pick_f rfl rfl)<|Aw_done (by kernel_rfl)<|Pu2<|Pu1<|Re2<|?_
        exact Shift.done ⟨_, by exact ⟨rfl, rfl, rfl, rfl, trivial⟩, (!(dcd (x437 = p2.value))), rfl, rfl, rfl, H⟩
     rintro _ _ _ - ⟨t432, rfl, rfl, rfl, H⟩
     unfold M_103z at H
     refine Cw_cond rfl ?_ ?_
     ·intro h445
      have H := ift h445 H
      refine Cw_seq<|Cw_region<|Ow_q rfl rfl rfl (Qt_assign rfl)<|Ow_q rfl rfl rfl (Qt_assign rfl)<|Ow_nil<|Cw_ret<|?_
      obtain ⟨ey0, ey1⟩ := inj2 H
      subst y0 y1
      refine ⟨(by first | exact .inl rfl | exact .inr rfl), [(sv nilS), (.bool false)], ⟨(sv nilS), _, rfl, rfl, ⟨(.bool false), _, rfl, rfl, rfl⟩⟩, ?_⟩
      refine Re0<|Re0<|Shift.done<|?_
      exact ⟨nilS, rfl, rfl, (Slr.nil TyChan _)⟩
     ·intro h445
      have H := iff_ (btf h445) H
      refine Cw_skip<|Cw_seq<|Cw_region<|Ow_q rfl rfl rfl (Qt_fieldAddr (m := 1) rfl rfl rfl rfl rfl)<|Ow_q rfl rfl rfl (Qt_load1 (v := (sv v154)) rfl rfl rfl (Rdc.blk Mb0 rfl))<|?_
      obtain ⟨x446, hx447, H⟩ := bnd H
      have hs448 := Slr.cutL hs155 hx447
      refine Ow_q rfl rfl rfl (Q_cutL (T := Ty.u64) hs155 hx447 rfl rfl rfl rfl rfl)<|Ow_q rfl rfl rfl (Qt_fieldAddr (m := 1) rfl rfl rfl rfl rfl)<|?_
      refine Ow_cons rfl (OpW_store (vs := [(sv (cutS v154 1 ((1 : Int).toNat) x149.buffer.length))]) (all' := (Chan.cells (Chan.mk x149.capacity x446 x149.closed) (cutS v154 1 ((1 : Int).toNat) x149.buffer.length))) rfl rfl rfl rfl rfl .here rfl rfl rfl ?_)
      refine Ow_nil<|Cw_seq<|Cw_region<|Ow_q rfl rfl rfl (Qt_move rfl)<|Ow_q rfl rfl rfl (Qt_fieldAddr (m := 1) rfl rfl rfl rfl rfl)<|Ow_q rfl rfl rfl (Qt_load1 (v := (.int .i64 p1.channel)) rfl rfl rfl (Rdc.blk Mb1 rfl))<|Ow_q rfl rfl rfl (Qt_loadA (m := 3) (cs := (Chan.cells (Chan.mk x149.capacity x446 x149.closed) (cutS v154 1 ((1 : Int).toNat) x149.buffer.length))) rfl rfl rfl rfl ⟨rfl, Rdc.blk Mb0 rfl⟩)<|?_
      obtain ⟨x449, hx450, H⟩ := bnd H
      refine Ow_cons rfl (OpW_call rfl Try.call95 rfl rfl (c_M_60z p0 vp0 p1.channel (Chan.mk x149.capacity x446 x149.closed) (cutS v154 1 ((1 : Int).toNat) x149.buffer.length) x449 hx450 _ _ hp0 hs448) ?_)
      rintro _ _ _ - ⟨v451, rs452, rfl, rfl, rfl, hs453⟩
      refine Ow_q rfl rfl rfl (Qt_assign rfl)<|Ow_q rfl rfl rfl (Qt_assign rfl)<|Ow_nil<|Cw_ret<|?_
      obtain ⟨ey0, ey1⟩ := inj2 H
      subst y0 y1
      refine ⟨(by first | exact .inl rfl | exact .inr rfl), [(sv v451), (.bool true)], ⟨(sv v451), _, rfl, rfl, ⟨(.bool true), _, rfl, rfl, rfl⟩⟩, ?_⟩
      refine Shift.settle (T := TyChan) .here hs453 rfl ?_
      intro K454 hK455 hs456
      refine Re0<|Re0<|Re0<|Shift.done<|?_
      exact ⟨v451, rfl, rfl, hs456⟩
    ·intro h405
     have H := iff_ (btf h405) H
     refine Cw_join (fun env' K' G' => ∃ (t458 : Bool), [(0, (sv vp0)), (5, (.pointer (some ((⟨b142, 0, none⟩ : Addr).add 0)))), (8, (.pointer (some ((⟨b156, 0, none⟩ : Addr).add 0)))), (110, (.bool t458))] = env' ∧ K = K' ∧ (.blk b156 71 (Chan.cells x149 v154)) :: (.blk b142 73 (Result.cells p2)) :: G = G' ∧ M_62z p0 x149 p2 t458 = some (y0, y1)) ?_ ?_
     ·skip
      refine Cw_region<|Ow_q rfl rfl rfl (Qt_fieldAddr (m := 0) rfl rfl rfl rfl rfl)<|Ow_q rfl rfl rfl (Qt_load1 (v := (.int .i64 p2.kind)) rfl rfl rfl (Rdc.blk Mb1 rfl))<|Ow_q rfl rfl rfl (Qt_cmp rfl rfl rfl)<|Ow_q rfl rfl rfl (Qt_move rfl)<|?_
      refine Ow_caseG rfl rfl rfl ?_ ?_
      ·intro h459
       have h459 := dcd_t (h459)
       have H := ift h459 H
       refine Ow_qw rfl rfl rfl rfl rfl rfl (Qt_fieldAddr (m := 0) rfl rfl rfl rfl rfl)<|Ow_qw rfl rfl rfl rfl rfl rfl (Qt_load1 (v := (.bool p1.send)) rfl rfl rfl (Rdc.blk Mb2 rfl))<|Ow_qw rfl rfl rfl rfl rfl rfl (Qt_not rfl)<|Ow_q rfl rfl rfl (Qt_pick_t rfl rfl)<|Ow_q rfl rfl rfl (Qt_assign rfl)<|Ow_nil<|Pu1<|Pu1<|Re2<|Shift.done<|?_
       exact ⟨_, by exact ⟨rfl, rfl, rfl, rfl, trivial⟩, (!(p1.send)), rfl, rfl, rfl, H⟩
      ·intro h459
       have h459 := dcd_f (h459)
       have H := iff_ h459 H
       refine Ow_pass rfl rfl rfl rfl rfl rfl rfl<|Ow_pass rfl rfl rfl rfl rfl rfl rfl<|Ow_pass rfl rfl rfl rfl rfl rfl rfl<|Ow_q rfl rfl rfl (Qt_pick_f rfl rfl)<|Ow_q rfl rfl rfl (Qt_assign rfl)<|Ow_nil<|Pu1<|Pu1<|Re2<|Shift.done<|?_
       exact ⟨_, by exact ⟨rfl, rfl, rfl, rfl, trivial⟩, false, rfl, rfl, rfl, H⟩
     rintro _ _ _ - ⟨t458, rfl, rfl, rfl, H⟩
     unfold M_62z at H
     refine Cw_cond rfl ?_ ?_
     ·intro h460
      have H := ift h460 H
      refine Cw_join (fun env' K' G' => ∃ (t466 : Bool), [(6, (sv vp0)), (7, (.bool t466))] = env' ∧ K = K' ∧ G = G' ∧ M_61z p0 t466 = some (y0, y1)) ?_ ?_
      ·skip
       obtain ⟨x467, hx468, H⟩ := bnd H
       rcases bool_ct x467 with hb_ | hb_ <;> revert hb_
       ·intro h469
        have H := ift h469 H
        rcases bool_ct (dcd (p2.value = 0)) with hb_ | hb_ <;> revert hb_
        ·intro h470
         have h470 := dcd_t (h470)
         have H := ift h470 H
         rcases bool_ct x149.closed with hb_ | hb_ <;> revert hb_
         ·intro h471
          have H := ift h471 H
          refine Cw_region_any [.blk b156 71 (Chan.cells x149 v154), .blk b142 73 (Result.cells p2)] rfl (Inc.cons Mb0 (Inc.cons Mb1 Inc.nil))<|Awq 0 rfl (by kernel_rfl) rfl rfl rfl (Qt_move rfl)<|Awq 1 rfl (by kernel_rfl) rfl rfl rfl (Qt_loadA (m := 5) (cs := (Result.cells p2)) rfl rfl rfl rfl ⟨rfl, Rdc.blk Mb1 rfl⟩)<|?_
          refine Aw_one 2 (by kernel_rfl) (Ax_mk rfl rfl ?_)
          refine OpW_call rfl Try.call94 rfl rfl (c_M_1z p2 true false x467 hx468 _ _ ) ?_
          rintro _ _ _ - ⟨rfl, rfl, rfl⟩
          refine ⟨(Inc.cons Mb0 (Inc.cons Mb1 Inc.nil)), ?_⟩
          refine Awq 3 rfl (by kernel_rfl) rfl rfl rfl (Qt_move rfl)<|Aw.known (d := 122) rfl (h469)<|Awqw 4 rfl (by kernel_rfl) rfl rfl rfl rfl rfl rfl (Qt_fieldAddr (m := 2) rfl rfl rfl rfl rfl)<|Awqw 5 rfl (by kernel_rfl) rfl rfl rfl rfl rfl rfl (Qt_load1 (v := (.int .u64 p2.value)) rfl rfl rfl (Rdc.blk Mb1 rfl))<|Awqw 6 rfl (by kernel_rfl) rfl rfl rfl rfl rfl rfl (Qt_cmp rfl rfl rfl)<|Awq 7 rfl (by kernel_rfl) rfl rfl rfl (Qt_pick_t rfl rfl)<|Awq 8 rfl (by kernel_rfl) rfl rfl rfl (Qt_move rfl)<|Aw.known (d := 127) rfl (dcd_pos h470)<|Awqw 9 rfl (by kernel_rfl) rfl rfl rfl rfl rfl rfl (Qt_fieldAddr (m := 2) rfl rfl rfl rfl rfl)<|Awqw 10 rfl (by kernel_rfl) rfl rfl rfl rfl rfl rfl (Qt_load1 (v := (.bool x149.closed)) rfl rfl rfl (Rdc.blk Mb0 rfl))<|?_
          refine Awq 11 rfl (by kernel_rfl) rfl rfl rfl (Qt_pick_t rfl rfl)<|Awq 12 rfl (by kernel_rfl) rfl rfl rfl (Qt_move rfl)<|Aw.known (d := 131) rfl (h471)<|Awqw 13 rfl (by kernel_rfl) rfl rfl rfl rfl rfl rfl (Qt_fieldAddr (m := 1) rfl rfl rfl rfl rfl)<|Awqw 14 rfl (by kernel_rfl) rfl rfl rfl rfl rfl rfl (Qt_load1 (v := (sv v154)) rfl rfl rfl (Rdc.blk Mb0 rfl))<|Awqw 15 rfl (by kernel_rfl) rfl rfl rfl rfl rfl rfl (Q_len (T := Ty.u64) hs155 rfl rfl)<|Awqw 16 rfl (by kernel_rfl) rfl rfl rfl rfl rfl rfl (Qt_cmp rfl rfl rfl)<|Awq 17 rfl (by kernel_rfl) rfl rfl rfl (Qt_pick_t rfl rfl)<|Awq 18 rfl (by kernel_rfl) rfl rfl rfl (Qt_assign rfl)<|Awq 19 rfl (by kernel_rfl) rfl rfl rfl (Qt_assign rfl)<|?_
          refine Aw_done (by kernel_rfl)<|Re0<|Re0<|Shift.done<|?_
          exact ⟨_, by exact ⟨rfl, rfl, trivial⟩, (dcd ((x149.buffer.length : Int) = 0)), rfl, rfl, rfl, H⟩
         ·intro h471
          have H := iff_ (btf h471) H
          refine Cw_region_any [.blk b156 71 (Chan.cells x149 v154), .blk b142 73 (Result.cells p2)] rfl (Inc.cons Mb0 (Inc.cons Mb1 Inc.nil))<|Awq 0 rfl (by kernel_rfl) rfl rfl rfl (Qt_move rfl)<|Awq 1 rfl (by kernel_rfl) rfl rfl rfl (Qt_loadA (m := 5) (cs := (Result.cells p2)) rfl rfl rfl rfl ⟨rfl, Rdc.blk Mb1 rfl⟩)<|?_
          refine Aw_one 2 (by kernel_rfl) (Ax_mk rfl rfl ?_)
          refine OpW_call rfl Try.call94 rfl rfl (c_M_1z p2 true false x467 hx468 _ _ ) ?_
          rintro _ _ _ - ⟨rfl, rfl, rfl⟩
          refine ⟨(Inc.cons Mb0 (Inc.cons Mb1 Inc.nil)), ?_⟩
          refine Awq 3 rfl (by kernel_rfl) rfl rfl rfl (Qt_move rfl)<|Aw.known (d := 122) rfl (h469)<|Awqw 4 rfl (by kernel_rfl) rfl rfl rfl rfl rfl rfl (Qt_fieldAddr (m := 2) rfl rfl rfl rfl rfl)<|Awqw 5 rfl (by kernel_rfl) rfl rfl rfl rfl rfl rfl (Qt_load1 (v := (.int .u64 p2.value)) rfl rfl rfl (Rdc.blk Mb1 rfl))<|Awqw 6 rfl (by kernel_rfl) rfl rfl rfl rfl rfl rfl (Qt_cmp rfl rfl rfl)<|Awq 7 rfl (by kernel_rfl) rfl rfl rfl (Qt_pick_t rfl rfl)<|Awq 8 rfl (by kernel_rfl) rfl rfl rfl (Qt_move rfl)<|Aw.known (d := 127) rfl (dcd_pos h470)<|Awqw 9 rfl (by kernel_rfl) rfl rfl rfl rfl rfl rfl (Qt_fieldAddr (m := 2) rfl rfl rfl rfl rfl)<|Awqw 10 rfl (by kernel_rfl) rfl rfl rfl rfl rfl rfl (Qt_load1 (v := (.bool x149.closed)) rfl rfl rfl (Rdc.blk Mb0 rfl))<|?_
          refine Awq 11 rfl (by kernel_rfl) rfl rfl rfl (Qt_pick_t rfl rfl)<|Awq 12 rfl (by kernel_rfl) rfl rfl rfl (Qt_move rfl)<|Aw.known (d := 131) rfl (h471)<|Awps 13 rfl (by kernel_rfl) rfl rfl rfl rfl rfl rfl rfl<|Awps 14 rfl (by kernel_rfl) rfl rfl rfl rfl rfl rfl rfl<|Awps 15 rfl (by kernel_rfl) rfl rfl rfl rfl rfl rfl rfl<|Awps 16 rfl (by kernel_rfl) rfl rfl rfl rfl rfl rfl rfl<|Awq 17 rfl (by kernel_rfl) rfl rfl rfl (Qt_pick_f rfl rfl)<|Awq 18 rfl (by kernel_rfl) rfl rfl rfl (Qt_assign rfl)<|Awq 19 rfl (by kernel_rfl) rfl rfl rfl (Qt_assign rfl)<|?_
          refine Aw_done (by kernel_rfl)<|Re0<|Re0<|Shift.done<|?_
          exact ⟨_, by exact ⟨rfl, rfl, trivial⟩, false, rfl, rfl, rfl, H⟩
        ·intro h470
         have h470 := dcd_f (h470)
         have H := iff_ h470 H
         refine Cw_region_any [.blk b156 71 (Chan.cells x149 v154), .blk b142 73 (Result.cells p2)] rfl (Inc.cons Mb0 (Inc.cons Mb1 Inc.nil))<|Awq 0 rfl (by kernel_rfl) rfl rfl rfl (Qt_move rfl)<|Awq 1 rfl (by kernel_rfl) rfl rfl rfl (Qt_loadA (m := 5) (cs := (Result.cells p2)) rfl rfl rfl rfl ⟨rfl, Rdc.blk Mb1 rfl⟩)<|?_
         refine Aw_one 2 (by kernel_rfl) (Ax_mk rfl rfl ?_)
         refine OpW_call rfl Try.call94 rfl rfl (c_M_1z p2 true false x467 hx468 _ _ ) ?_
         rintro _ _ _ - ⟨rfl, rfl, rfl⟩
         refine ⟨(Inc.cons Mb0 (Inc.cons Mb1 Inc.nil)), ?_⟩
         refine Awq 3 rfl (by kernel_rfl) rfl rfl rfl (Qt_move rfl)<|Aw.known (d := 122) rfl (h469)<|Awqw 4 rfl (by kernel_rfl) rfl rfl rfl rfl rfl rfl (Qt_fieldAddr (m := 2) rfl rfl rfl rfl rfl)<|Awqw 5 rfl (by kernel_rfl) rfl rfl rfl rfl rfl rfl (Qt_load1 (v := (.int .u64 p2.value)) rfl rfl rfl (Rdc.blk Mb1 rfl))<|Awqw 6 rfl (by kernel_rfl) rfl rfl rfl rfl rfl rfl (Qt_cmp rfl rfl rfl)<|Awq 7 rfl (by kernel_rfl) rfl rfl rfl (Qt_pick_t rfl rfl)<|Awq 8 rfl (by kernel_rfl) rfl rfl rfl (Qt_move rfl)<|Aw.known (d := 127) rfl (dcd_neg h470)<|Awps 9 rfl (by kernel_rfl) rfl rfl rfl rfl rfl rfl rfl<|Awps 10 rfl (by kernel_rfl) rfl rfl rfl rfl rfl rfl rfl<|?_
         refine Awq 11 rfl (by kernel_rfl) rfl rfl rfl (Qt_pick_f rfl rfl)<|Awq 12 rfl (by kernel_rfl) rfl rfl rfl (Qt_move rfl)<|Awps 13 rfl (by kernel_rfl) rfl rfl rfl rfl rfl rfl rfl<|Awps 14 rfl (by kernel_rfl) rfl rfl rfl rfl rfl rfl rfl<|Awps 15 rfl (by kernel_rfl) rfl rfl rfl rfl rfl rfl rfl<|Awps 16 rfl (by kernel_rfl) rfl rfl rfl rfl rfl rfl rfl<|Awq 17 rfl (by kernel_rfl) rfl rfl rfl (Qt_pick_f rfl rfl)<|Awq 18 rfl (by kernel_rfl) rfl rfl rfl (Qt_assign rfl)<|Awq 19 rfl (by kernel_rfl) rfl rfl rfl (Qt_assign rfl)<|Aw_done (by kernel_rfl)<|?_
         refine Re0<|Re0<|Shift.done<|?_
         exact ⟨_, by exact ⟨rfl, rfl, trivial⟩, false, rfl, rfl, rfl, H⟩
       ·intro h469
        have H := iff_ (btf h469) H
        refine Cw_region_any [.blk b156 71 (Chan.cells x149 v154), .blk b142 73 (Result.cells p2)] rfl (Inc.cons Mb0 (Inc.cons Mb1 Inc.nil))<|Awq 0 rfl (by kernel_rfl) rfl rfl rfl (Qt_move rfl)<|Awq 1 rfl (by kernel_rfl) rfl rfl rfl (Qt_loadA (m := 5) (cs := (Result.cells p2)) rfl rfl rfl rfl ⟨rfl, Rdc.blk Mb1 rfl⟩)<|?_
        refine Aw_one 2 (by kernel_rfl) (Ax_mk rfl rfl ?_)
        refine OpW_call rfl Try.call94 rfl rfl (c_M_1z p2 true false x467 hx468 _ _ ) ?_
        rintro _ _ _ - ⟨rfl, rfl, rfl⟩
        refine ⟨(Inc.cons Mb0 (Inc.cons Mb1 Inc.nil)), ?_⟩
        refine Awq 3 rfl (by kernel_rfl) rfl rfl rfl (Qt_move rfl)<|Aw.known (d := 122) rfl (h469)<|Awps 4 rfl (by kernel_rfl) rfl rfl rfl rfl rfl rfl rfl<|Awps 5 rfl (by kernel_rfl) rfl rfl rfl rfl rfl rfl rfl<|Awps 6 rfl (by kernel_rfl) rfl rfl rfl rfl rfl rfl rfl<|Awq 7 rfl (by kernel_rfl) rfl rfl rfl (Qt_pick_f rfl rfl)<|Awq 8 rfl (by kernel_rfl) rfl rfl rfl (Qt_move rfl)<|Awps 9 rfl (by kernel_rfl) rfl rfl rfl rfl rfl rfl rfl<|Awps 10 rfl (by kernel_rfl) rfl rfl rfl rfl rfl rfl rfl<|Awq 11 rfl (by kernel_rfl) rfl rfl rfl (Qt_pick_f rfl rfl)<|?_
        refine Awq 12 rfl (by kernel_rfl) rfl rfl rfl (Qt_move rfl)<|Awps 13 rfl (by kernel_rfl) rfl rfl rfl rfl rfl rfl rfl<|Awps 14 rfl (by kernel_rfl) rfl rfl rfl rfl rfl rfl rfl<|Awps 15 rfl (by kernel_rfl) rfl rfl rfl rfl rfl rfl rfl<|Awps 16 rfl (by kernel_rfl) rfl rfl rfl rfl rfl rfl rfl<|Awq 17 rfl (by kernel_rfl) rfl rfl rfl (Qt_pick_f rfl rfl)<|Awq 18 rfl (by kernel_rfl) rfl rfl rfl (Qt_assign rfl)<|Awq 19 rfl (by kernel_rfl) rfl rfl rfl (Qt_assign rfl)<|Aw_done (by kernel_rfl)<|Re0<|?_
        refine Re0<|Shift.done<|?_
        exact ⟨_, by exact ⟨rfl, rfl, trivial⟩, false, rfl, rfl, rfl, H⟩
      rintro _ _ _ - ⟨t466, rfl, rfl, rfl, H⟩
      unfold M_61z at H
      refine Cw_ret ?_
      obtain ⟨ey0, ey1⟩ := inj2 H
      subst y0 y1
      refine ⟨(by first | exact .inl rfl | exact .inr rfl), [(sv vp0), (.bool t466)], ⟨(sv vp0), _, rfl, rfl, ⟨(.bool t466), _, rfl, rfl, rfl⟩⟩, ?_⟩
      exact Shift.done ⟨vp0, rfl, rfl, hp0⟩
     ·intro h460
      have H := iff_ (btf h460) H
      refine Cw_skip<|Cw_seq<|Cw_region<|Ow_q rfl rfl rfl (Qt_assign rfl)<|Ow_q rfl rfl rfl (Qt_assign rfl)<|Ow_nil<|Cw_ret<|?_
      obtain ⟨ey0, ey1⟩ := inj2 H
      subst y0 y1
      refine ⟨(by first | exact .inl rfl | exact .inr rfl), [(sv nilS), (.bool false)], ⟨(sv nilS), _, rfl, rfl, ⟨(.bool false), _, rfl, rfl, rfl⟩⟩, ?_⟩
      refine Re0<|Re0<|Shift.done<|?_
      exact ⟨nilS, rfl, rfl, (Slr.nil TyChan _)⟩

set_option maxHeartbeats 1000000 in
theorem c_M_163z (p0 : List Chan) (vp0 : SV) (p1 : Op) (vp1_cases : SV) (vp1_draws : SV) (y0 : Bool) (H : M_163z p0 p1 = some y0) (K : Kp) (G : List Ent) (hp0 : Slr TyChan K (sv vp0) p0) (hp1_cases : Slr TyCase K (sv vp1_cases) p1.cases) (hp1_draws : Slr Ty.i64 K (sv vp1_draws) p1.draws) :
  Fc Try.prog 96 #[(sv vp0), (.agg (Op.cells p1 vp1_cases vp1_draws).toArray)] K (G) (fun v K' G' => v = (.bool y0) ∧ G = G') := by
 refine Fc_body Try.func96 rfl Try.ntmps96 Try.results96 rfl ?_
 unfold M_163z at H
 refine Cw_seq<|Cw_region<|?_
 refine Ow_cons rfl (OpW_box (cs := (Op.cells p1 vp1_cases vp1_draws)) rfl rfl rfl (fun b38 => ?_))
 refine Ow_q rfl rfl rfl (Qt_assign rfl)<|Ow_nil<|Cw_seq<|Cw_region<|Ow_q rfl rfl rfl (Qt_loadA (m := 7) (cs := (Op.cells p1 vp1_cases vp1_draws)) rfl rfl rfl rfl ⟨rfl, Rdc.blk Mb0 rfl⟩)<|?_
 obtain ⟨x39, hx40, H⟩ := bnd H
 refine Ow_cons rfl (OpW_call rfl Try.call63 rfl rfl (c_M_2z p1 vp1_cases vp1_draws x39 hx40 _ _ hp1_cases hp1_draws) ?_)
 rintro _ K42 _ hK43 ⟨v41, rfl, rfl, hs44⟩
 refine Ow_q rfl rfl rfl (Qt_assign rfl)<|Ow_nil<|?_
 refine Cw_join (fun env' K' G' => [] = env' ∧ G = G' ∧ M_198z = some y0) ?_ ?_
 ·skip
  refine Cw_seq<|Cw_region<|Ow_q rfl rfl rfl (Qt_assign rfl)<|Ow_nil<|Cw_block<|?_
  refine Cw_loopM (fun n101 env' K' G' => ∃ (i100 : Int), [(0, (sv vp0)), (5, (sv v41)), (6, (.int .i64 i100))] = env' ∧ K42 = K' ∧ G = G' ∧ lp1 (M_199z p0 x39) n101 i100 = some y0) BIG ?_ ?_
  ·skip
   refine Re0<|Shift.done<|?_
   exact ⟨_, by exact ⟨rfl, rfl, rfl, trivial⟩, 0, rfl, rfl, rfl, H⟩
  rintro n101 _ _ _ - ⟨i100, rfl, rfl, rfl, H⟩
  obtain ⟨m102, k103, rfl, hkk104, H⟩ := lps1 H
  unfold M_199z at H
  refine Cw_seq<|Cw_seq<|Cw_region<|Ow_q rfl rfl rfl (Qt_move rfl)<|Ow_q rfl rfl rfl (Qt_move rfl)<|Ow_q rfl rfl rfl (Q_len (T := TyCase) hs44 rfl rfl)<|Ow_q rfl rfl rfl (Qt_cmp rfl rfl rfl)<|Ow_nil<|?_
  refine Cw_cond rfl ?_ ?_
  ·intro h106
   have h106 := dcd_t (h106)
   have H := ift h106 H
   refine Cw_skip<|Cw_seq<|Cw_block<|Cw_seq<|Cw_region<|Ow_q rfl rfl rfl (Qt_move rfl)<|Ow_q rfl rfl rfl (Qt_move rfl)<|Ow_q rfl rfl rfl (Qt_move rfl)<|?_
   obtain ⟨x116, hx117, H⟩ := bnd H
   obtain ⟨r118, hr119, hk120⟩ := Slr.at hs44 hx117
   obtain rfl := hr119
   refine Ow_q rfl rfl rfl (Q_ix (T := TyCase) hs44 hx117 rfl rfl rfl rfl rfl)<|Ow_q rfl rfl rfl (Qt_loadA (m := 3) (cs := (Case.cells x116)) rfl rfl rfl rfl ⟨rfl, Rdc.k hk120 rfl⟩)<|?_
   obtain ⟨x121, hx122, H⟩ := bnd H
   have hs123 := (hp0).mono hK43
   refine Ow_cons rfl (OpW_call rfl Try.call41 rfl rfl (c_M_35z p0 vp0 x116 x121 hx122 _ _ hs123) ?_)
   rintro _ _ _ - ⟨rfl, rfl, rfl⟩
   refine Ow_nil ?_
   refine Cw_cond rfl ?_ ?_
   ·intro h124
    have H := ift h124 H
    refine Cw_seq<|Cw_region<|Ow_q rfl rfl rfl (Qt_assign rfl)<|Ow_nil<|Cw_ret<|?_
    obtain ey0 := inj1 H
    subst y0
    refine ⟨(by first | exact .inl rfl | exact .inr rfl), [(.bool false)], ⟨(.bool false), _, rfl, rfl, rfl⟩, ?_⟩
    exact Shift.done ⟨rfl, rfl⟩
   ·intro h124
    have H := iff_ (btf h124) H
    refine Cw_skip<|Cw_region<|Ow_q rfl rfl rfl (Qt_move rfl)<|Ow_q rfl rfl rfl (Qt_arith (e := wI (i100 + 1)) rfl rfl rfl rfl)<|Ow_q rfl rfl rfl (Qt_assign rfl)<|Ow_nil<|Shift.done<|?_
    exact ⟨_, by exact ⟨rfl, rfl, rfl, trivial⟩, _, Nat.lt_succ_self _, (wI (i100 + 1)), rfl, rfl, rfl, (hkk104 ▸ H)⟩
  ·intro h106
   have h106 := dcd_f (h106)
   have H := iff_ h106 H
   refine Cw_exit<|Shift.done<|?_
   exact ⟨[], trivial, rfl, rfl, H⟩
 rintro _ K125 _ hK126 ⟨rfl, rfl, H⟩
 unfold M_198z at H
 refine Cw_seq<|Cw_region<|Ow_q rfl rfl rfl (Qt_assign rfl)<|Ow_nil<|Cw_ret<|?_
 obtain ey0 := inj1 H
 subst y0
 refine ⟨(by first | exact .inl rfl | exact .inr rfl), [(.bool true)], ⟨(.bool true), _, rfl, rfl, rfl⟩, ?_⟩
 exact Shift.done ⟨rfl, rfl⟩



end Go.Hx
