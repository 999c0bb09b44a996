/- Printed by program. -/
import Derived.Test.YtgpoanmjkggijaaXCM
import Derived.Test.YtgpoanmjkggijaaXCWRef14
namespace Go.Hx
open Go Go.Proofs
set_option linter.unusedSimpArgs false
set_option linter.unusedVariables false
set_option maxRecDepth 10000
set_option maxHeartbeats 1000000 in
theorem c_M_81z (p0 : Config) (vp0_capacities : SV) (vp0_starts : SV) (y0 : Desk) (H : M_81z p0 = some y0) (K : Kp) (G : List Ent) (hp0_capacities : Slr Ty.i64 K (sv vp0_capacities) p0.capacities) (hp0_starts : Slr Ty.u64 K (sv vp0_starts) p0.starts) :
  Fc Try.prog 68 #[(.agg (Config.cells p0 vp0_capacities vp0_starts).toArray)] K (G) (fun v K' G' => ∃ (wy0_chans : SV) (wy0_waiting : SV), v = (.agg (Desk.cells y0 wy0_chans wy0_waiting).toArray) ∧ (.tok 83 3 [(sv wy0_chans)]) :: G = G' ∧ Slr TyChan K' (sv wy0_chans) y0.chans ∧ Slr TyWaiter K' (sv wy0_waiting) y0.waiting) := by
 refine Fc_body Try.func68 rfl Try.ntmps68 Try.results68 rfl ?_
 unfold M_81z at H
 refine Cw_seq ?_
 refine Cw_region ?_
 refine Ow_cons rfl (OpW_box (cs := (Config.cells p0 vp0_capacities vp0_starts)) rfl rfl rfl (fun b13 => ?_))
 refine Ow_cons rfl (OpW_alloc (cs := (Desk.cells (Desk.mk [] [] 0) nilS nilS)) rfl rfl rfl rfl (fun b14 => ?_))
 refine Ow_nil ?_
 refine Cw_seq ?_
 refine Cw_region ?_
 refine Ow_q rfl rfl rfl (Qt_loadA (m := 3) (cs := (Config.cells p0 vp0_capacities vp0_starts)) rfl rfl rfl rfl ⟨rfl, Rdc.blk (.tail _ (.head _)) rfl⟩) ?_
 obtain ⟨x15, hx16, H⟩ := bnd H
 refine Ow_cons rfl (OpW_call rfl Try.call41 rfl rfl (c_M_80z p0 vp0_capacities vp0_starts x15 hx16 _ _ hp0_capacities hp0_starts) ?_)
 rintro _ K19 _ hK20 ⟨v17, rs18, rfl, rfl, hs21⟩
 refine Ow.shift (Shift.settle (T := TyChan) .here hs21 rfl (fun K22 hK23 hs24 => Shift.done ?_))
 refine Ow_q rfl rfl rfl (Qt_build (cs := (Desk.cells (Desk.mk x15 [] 0) v17 nilS)) rfl rfl rfl rfl rfl rfl) ?_
 refine Ow_cons rfl (OpW_store (vs := (Desk.cells (Desk.mk x15 [] 0) v17 nilS)) (all' := (Desk.cells (Desk.mk x15 [] 0) v17 nilS)) rfl rfl rfl rfl rfl (.there (.there .here)) rfl rfl rfl ?_)
 refine Ow_nil ?_
 refine Cw_ret ?_
 obtain ey0 := inj1 H
 subst y0
 refine ⟨(by first | exact .inl rfl | exact .inr rfl), [(.agg (Desk.cells (Desk.mk x15 [] 0) v17 nilS).toArray)], ⟨(.agg (Desk.cells (Desk.mk x15 [] 0) v17 nilS).toArray), _, rfl, ⟨_, 3, (Desk.cells (Desk.mk x15 [] 0) v17 nilS), rfl, rfl, rfl, rfl, ⟨rfl, Rdc.blk (.tail _ (.tail _ (.head _))) rfl⟩, rfl⟩, rfl⟩, ?_⟩
 refine Shift.rem (.there .here) ?_
 refine Shift.rem (.there .here) ?_
 refine Shift.rem (.there .here) ?_
 refine Shift.done ?_
 exact ⟨v17, nilS, rfl, rfl, hs24, (Slr.nil TyWaiter _)⟩

set_option maxHeartbeats 1000000 in
theorem c_M_11z (p0 : Desk) (vp0_chans : SV) (vp0_waiting : SV) (p1 : Int) (p2 : Chan) (vp2_buffer : SV) (y0 : Desk) (H : M_11z p0 p1 p2 = some y0) (K : Kp) (G : List Ent) (hp0_chans : Slr TyChan K (sv vp0_chans) p0.chans) (hp0_waiting : Slr TyWaiter K (sv vp0_waiting) p0.waiting) (hp2_buffer : Slr Ty.u64 K (sv vp2_buffer) p2.buffer) :
  Fc Try.prog 114 #[(.agg (Desk.cells p0 vp0_chans vp0_waiting).toArray), (.int .i64 p1), (.agg (Chan.cells p2 vp2_buffer).toArray)] K (G) (fun v K' G' => ∃ (wy0_chans : SV) (rswy0_chans : List (List Value)) (wy0_waiting : SV), v = (.agg (Desk.cells y0 wy0_chans wy0_waiting).toArray) ∧ K = K' ∧ (.row (sv wy0_chans) 83 3 rswy0_chans.flatten) :: G = G' ∧ RowR TyChan K' rswy0_chans y0.chans ∧ Slr TyWaiter K' (sv wy0_waiting) y0.waiting) := by
 refine Fc_body Try.func114 rfl Try.ntmps114 Try.results114 rfl ?_
 unfold M_11z at H
 refine Cw_seq ?_
 refine Cw_region ?_
 refine Ow_cons rfl (OpW_box (cs := (Desk.cells p0 vp0_chans vp0_waiting)) rfl rfl rfl (fun b19 => ?_))
 refine Ow_cons rfl (OpW_box (cs := (Chan.cells p2 vp2_buffer)) rfl rfl rfl (fun b20 => ?_))
 refine Ow_cons rfl (OpW_alloc (cs := (Desk.cells (Desk.mk [] [] 0) nilS nilS)) rfl rfl rfl rfl (fun b21 => ?_))
 refine Ow_nil ?_
 refine Cw_seq ?_
 refine Cw_region ?_
 refine Ow_q rfl rfl rfl (Qt_fieldAddr (m := 0) rfl rfl rfl rfl rfl) ?_
 refine Ow_q rfl rfl rfl (Qt_load1 (v := (sv vp0_chans)) rfl rfl rfl (Rdc.blk (.tail _ (.tail _ (.head _))) rfl)) ?_
 have hR22 : RowR TyChan K [] [] := RowR.nil
 refine Ow.shift (Shift.nilRow 83 3 (Shift.done ?_))
 obtain ⟨x23, hx24, H⟩ := bnd H
 refine Ow_cons rfl (O_appRow (T := TyChan) (bytes := 40) rfl rfl rfl (.head _) hR22 (SrcT.sl hp0_chans) hx24 rfl rfl rfl rfl rfl rfl rfl rfl (fun v25 rs26 hR27 => ⟨_, .here, ?_⟩))
 refine Ow_q rfl rfl rfl (Qt_fieldAddr (m := 0) rfl rfl rfl rfl rfl) ?_
 refine Ow_cons rfl (OpW_store (vs := [(sv v25)]) (all' := (Desk.cells (Desk.mk x23 p0.waiting p0.tick) v25 vp0_waiting)) rfl rfl rfl rfl rfl (.there (.there (.there .here))) rfl rfl rfl ?_)
 refine Ow_nil ?_
 refine Cw_seq ?_
 refine Cw_region ?_
 refine Ow_q rfl rfl rfl (Qt_fieldAddr (m := 0) rfl rfl rfl rfl rfl) ?_
 refine Ow_q rfl rfl rfl (Qt_load1 (v := (sv v25)) rfl rfl rfl (Rdc.blk (.tail _ (.tail _ (.tail _ (.head _)))) rfl)) ?_
 refine Ow_q rfl rfl rfl (Qt_move rfl) ?_
 refine Ow_q rfl rfl rfl (Qt_loadA (m := 3) (cs := (Chan.cells p2 vp2_buffer)) rfl rfl rfl rfl ⟨rfl, Rdc.blk (.tail _ (.tail _ (.head _))) rfl⟩) ?_
 obtain ⟨x28, hx29, H⟩ := bnd H
 obtain ⟨r30, hq31, hr32⟩ := RowR.at hR27 hx29
 obtain ⟨v33, rfl, hs34⟩ := hr32
 refine Ow_q rfl rfl rfl (Q_ixR (T := TyChan) (.head _) hR27 hq31 (getI_ix hx29).1 rfl rfl rfl rfl rfl) ?_
 refine Ow_cons rfl (O_storeR (T := TyChan) (vs := (Chan.cells p2 vp2_buffer)) (r' := (Chan.cells p2 vp2_buffer)) (l' := (setI x23 p1 p2)) rfl rfl rfl rfl rfl .here hR27 hq31 rfl rfl rfl (RowR.set p1 hR27 ⟨vp2_buffer, rfl, hp2_buffer⟩) (fun hR35 => ?_))
 have hE36 := set_at hq31 (v := (Chan.cells p2 vp2_buffer))
 refine Ow_nil ?_
 refine Cw_seq ?_
 refine Cw_region ?_
 refine Ow_q rfl rfl rfl (Qt_loadA (m := 3) (cs := (Desk.cells (Desk.mk (setI x23 p1 p2) p0.waiting p0.tick) v25 vp0_waiting)) rfl rfl rfl rfl ⟨rfl, Rdc.blk (.tail _ (.tail _ (.tail _ (.head _)))) rfl⟩) ?_
 refine Ow_cons rfl (OpW_store (vs := (Desk.cells (Desk.mk (setI x23 p1 p2) p0.waiting p0.tick) v25 vp0_waiting)) (all' := (Desk.cells (Desk.mk (setI x23 p1 p2) p0.waiting p0.tick) v25 vp0_waiting)) rfl rfl rfl rfl rfl (.there .here) rfl rfl rfl ?_)
 refine Ow_nil ?_
 refine Cw_ret ?_
 obtain ey0 := inj1 H
 subst y0
 refine ⟨(by first | exact .inl rfl | exact .inr rfl), [(.agg (Desk.cells (Desk.mk (setI x23 p1 p2) p0.waiting p0.tick) v25 vp0_waiting).toArray)], ⟨(.agg (Desk.cells (Desk.mk (setI x23 p1 p2) p0.waiting p0.tick) v25 vp0_waiting).toArray), _, rfl, ⟨_, 3, (Desk.cells (Desk.mk (setI x23 p1 p2) p0.waiting p0.tick) v25 vp0_waiting), rfl, rfl, rfl, rfl, ⟨rfl, Rdc.blk (.tail _ (.head _)) rfl⟩, rfl⟩, rfl⟩, ?_⟩
 refine Shift.rem (.there .here) ?_
 refine Shift.rem (.there .here) ?_
 refine Shift.rem (.there .here) ?_
 refine Shift.done ?_
 exact ⟨v25, (rs26.set p1.toNat (Chan.cells p2 vp2_buffer)), vp0_waiting, rfl, rfl, rfl, hR35, hp0_waiting⟩



end Go.Hx
