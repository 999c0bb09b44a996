/- Printed by program. -/
import Derived.Test.YthokebmjjkjjfaaXDM
import Derived.Test.YthokebmjjkjjfaaXDWModel
namespace Go.Hx
open Go Go.Proofs
set_option linter.unusedSimpArgs false
set_option linter.unusedVariables false
set_option maxRecDepth 10000
set_option maxHeartbeats 1000000 in
theorem c_M_72z (p0 : Config) (vp0_capacities : SV) (vp0_starts : SV) (y0 : Desk) (H : M_72z p0 = some y0) (K : Kp) (G : List Ent) (hp0_capacities : Slr Ty.i64 K (sv vp0_capacities) p0.capacities) (hp0_starts : Slr Ty.u64 K (sv vp0_starts) p0.starts) :
  Fc Try.prog 27 #[(.agg (Config.cells p0 vp0_capacities vp0_starts).toArray)] K (G) (fun v K' G' => ∃ (wy0_chans : SV) (wy0_waiting : SV), v = (.agg (Desk.cells y0 wy0_chans wy0_waiting).toArray) ∧ (.tok 71 3 [(sv wy0_chans)]) :: G = G' ∧ Slr TyChan K' (sv wy0_chans) y0.chans ∧ Slr TyWaiter K' (sv wy0_waiting) y0.waiting) := by
 refine Fc_body Try.func27 rfl Try.ntmps27 Try.results27 rfl ?_
 unfold M_72z at H
 refine Cw_seq ?_
 refine Cw_region ?_
 refine Ow_cons rfl (OpW_box (cs := (Config.cells p0 vp0_capacities vp0_starts)) rfl rfl rfl (fun b9 => ?_))
 refine Ow_cons rfl (OpW_alloc (cs := (Desk.cells (Desk.mk [] [] 0) nilS nilS)) rfl rfl rfl rfl (fun b10 => ?_))
 refine Ow_nil ?_
 refine Cw_seq ?_
 refine Cw_region ?_
 refine Ow_q rfl rfl rfl (Qt_loadA (m := 3) (cs := (Config.cells p0 vp0_capacities vp0_starts)) rfl rfl rfl rfl ⟨rfl, Rdc.blk (.tail _ (.head _)) rfl⟩) ?_
 obtain ⟨x11, hx12, H⟩ := bnd H
 refine Ow_cons rfl (OpW_call rfl Try.call56 rfl rfl (c_M_71z p0 vp0_capacities vp0_starts x11 hx12 _ _ hp0_capacities hp0_starts) ?_)
 rintro _ K14 _ hK15 ⟨v13, rfl, rfl, hs16⟩
 refine Ow_q rfl rfl rfl (Qt_build (cs := (Desk.cells (Desk.mk x11 [] 0) v13 nilS)) rfl rfl rfl rfl rfl rfl) ?_
 refine Ow_cons rfl (OpW_store (vs := (Desk.cells (Desk.mk x11 [] 0) v13 nilS)) (all' := (Desk.cells (Desk.mk x11 [] 0) v13 nilS)) rfl rfl rfl rfl rfl (.there .here) rfl rfl rfl ?_)
 refine Ow_nil ?_
 refine Cw_ret ?_
 obtain ey0 := inj1 H
 subst y0
 refine ⟨(by first | exact .inl rfl | exact .inr rfl), [(.agg (Desk.cells (Desk.mk x11 [] 0) v13 nilS).toArray)], ⟨(.agg (Desk.cells (Desk.mk x11 [] 0) v13 nilS).toArray), _, rfl, ⟨_, 3, (Desk.cells (Desk.mk x11 [] 0) v13 nilS), rfl, rfl, rfl, rfl, ⟨rfl, Rdc.blk (.tail _ (.head _)) rfl⟩, rfl⟩, rfl⟩, ?_⟩
 refine Shift.rem (.there .here) ?_
 refine Shift.rem (.there .here) ?_
 refine Shift.done ?_
 exact ⟨v13, nilS, rfl, rfl, hs16, (Slr.nil TyWaiter _)⟩



end Go.Hx
