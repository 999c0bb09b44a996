/- Printed by program. -/
import Derived.Test.YtlegagccaeoidaaDoorXRM
import Derived.Test.YtlegagccaeoidaaDoorXRWDraw
namespace Go.Hx
open Go Go.Proofs
set_option linter.unusedSimpArgs false
set_option linter.unusedVariables false
set_option maxRecDepth 10000
set_option maxHeartbeats 1000000 in
theorem c_M_law26_clean (p0 : Result) (y0 : Result) (H : M_law26_clean p0 = some y0) (K : Kp) (G : List Ent)  :
    Fc Tryd.prog 9 #[(.agg (Result.cells p0).toArray)] K (G) (fun v K' G' => v = (.agg (Result.cells y0).toArray) ∧ K = K' ∧ G = G') := by
  refine Fc_body Tryd.func9 rfl Tryd.ntmps9 Tryd.results9 rfl ?_
  unfold M_law26_clean at H
  refine Cw_seq ?_
  refine Cw_region ?_
  refine Ow_cons rfl (OpW_box (cs := (Result.cells p0)) rfl rfl rfl (fun b12 => ?_))
  refine Ow_cons rfl (OpW_alloc (cs := (Result.cells (Result.mk 0 0 0 false 0))) rfl rfl rfl rfl (fun b13 => ?_))
  refine Ow_nil ?_
  refine Cw_seq ?_
  refine Cw_region ?_
  refine Ow_q rfl rfl rfl (Qt_fieldAddr (m := 0) rfl rfl rfl rfl rfl) ?_
  refine Ow_q rfl rfl rfl (Qt_load1 (v := (.int .i64 p0.kind)) rfl rfl rfl (Rdc.blk (.tail _ (.head _)) rfl)) ?_
  obtain ⟨x14, hx15, H⟩ := bnd H
  refine Ow_cons rfl (OpW_call rfl Tryd.call16 rfl rfl (c_M_draw_Mod p0.kind 7 x14 hx15 _ _ ) ?_)
  rintro _ _ _ - ⟨rfl, rfl, rfl⟩
  refine Ow_q rfl rfl rfl (Qt_arith (e := wI (1 + x14)) rfl rfl rfl rfl) ?_
  refine Ow_q rfl rfl rfl (Qt_build (cs := (Result.cells (Result.mk (wI (1 + x14)) (-1) 0 false 0))) rfl rfl rfl rfl rfl rfl) ?_
  refine Ow_cons rfl (OpW_alloc (cs := (Result.cells (Result.mk 0 0 0 false 0))) rfl rfl rfl rfl (fun b16 => ?_))
  refine Ow_cons rfl (OpW_store (vs := (Result.cells (Result.mk (wI (1 + x14)) (-1) 0 false 0))) (all' := (Result.cells (Result.mk (wI (1 + x14)) (-1) 0 false 0))) rfl rfl rfl rfl rfl .here rfl rfl rfl ?_)
  refine Ow_nil ?_
  refine Cw_join (fun env' K' G' => ∃ (i18 : Int), [(1, (.pointer (some ((⟨b12, 0, none⟩ : Addr).add 0)))), (2, (.pointer (some ((⟨b13, 0, none⟩ : Addr).add 0)))), (3, (.pointer (some ((⟨b16, 0, none⟩ : Addr).add 0))))] = env' ∧ K = K' ∧ (.blk b16 24 (Result.cells (Result.mk (wI (1 + x14)) i18 0 false 0))) :: (.blk b13 24 (Result.cells (Result.mk 0 0 0 false 0))) :: (.blk b12 24 (Result.cells p0)) :: G = G' ∧ M_law26_clean_J1 x14 p0 i18 = some y0) ?_ ?_
  · skip
    refine Cw_seq ?_
    refine Cw_region ?_
    refine Ow_q rfl rfl rfl (Qt_fieldAddr (m := 1) rfl rfl rfl rfl rfl) ?_
    refine Ow_q rfl rfl rfl (Qt_load1 (v := (.int .i64 p0.case_)) rfl rfl rfl (Rdc.blk (.tail _ (.tail _ (.head _))) rfl)) ?_
    refine Ow_q rfl rfl rfl (Qt_cmp rfl rfl rfl) ?_
    refine Ow_nil ?_
    refine Cw_cond rfl ?_ ?_
    · intro h19
      have h19 := dcd_t (h19)
      have H := ift h19 H
      refine Cw_region ?_
      refine Ow_q rfl rfl rfl (Qt_fieldAddr (m := 1) rfl rfl rfl rfl rfl) ?_
      refine Ow_q rfl rfl rfl (Qt_load1 (v := (.int .i64 p0.case_)) rfl rfl rfl (Rdc.blk (.tail _ (.tail _ (.head _))) rfl)) ?_
      refine Ow_q rfl rfl rfl (Qt_fieldAddr (m := 1) rfl rfl rfl rfl rfl) ?_
      refine Ow_cons rfl (OpW_store (vs := [(.int .i64 p0.case_)]) (all' := (Result.cells (Result.mk (wI (1 + x14)) p0.case_ 0 false 0))) rfl rfl rfl rfl rfl .here rfl rfl rfl ?_)
      refine Ow_nil ?_
      refine Shift.pull (.there (.there .here)) ?_
      refine Shift.pull (.there (.there .here)) ?_
      refine Shift.pull (.there (.there .here)) ?_
      refine Shift.done ?_
      exact ⟨[(1, (.pointer (some ((⟨b12, 0, none⟩ : Addr).add 0)))), (2, (.pointer (some ((⟨b13, 0, none⟩ : Addr).add 0)))), (3, (.pointer (some ((⟨b16, 0, none⟩ : Addr).add 0))))], ⟨rfl, rfl, rfl, trivial⟩, p0.case_, rfl, rfl, rfl, H⟩
    · intro h19
      have h19 := dcd_f (h19)
      have H := iff_ h19 H
      refine Cw_skip ?_
      refine Shift.pull (.there (.there .here)) ?_
      refine Shift.pull (.there (.there .here)) ?_
      refine Shift.pull (.there (.there .here)) ?_
      refine Shift.done ?_
      exact ⟨[(1, (.pointer (some ((⟨b12, 0, none⟩ : Addr).add 0)))), (2, (.pointer (some ((⟨b13, 0, none⟩ : Addr).add 0)))), (3, (.pointer (some ((⟨b16, 0, none⟩ : Addr).add 0))))], ⟨rfl, rfl, rfl, trivial⟩, (-1), rfl, rfl, rfl, H⟩
  rintro _ _ _ - ⟨i18, rfl, rfl, rfl, H⟩
  unfold M_law26_clean_J1 at H
  refine Cw_join (fun env' K' G' => ∃ (i21 : Int) (t22 : Bool), [(1, (.pointer (some ((⟨b12, 0, none⟩ : Addr).add 0)))), (2, (.pointer (some ((⟨b13, 0, none⟩ : Addr).add 0)))), (3, (.pointer (some ((⟨b16, 0, none⟩ : Addr).add 0))))] = env' ∧ K = K' ∧ (.blk b16 24 (Result.cells (Result.mk (wI (1 + x14)) i18 i21 t22 0))) :: (.blk b13 24 (Result.cells (Result.mk 0 0 0 false 0))) :: (.blk b12 24 (Result.cells p0)) :: G = G' ∧ M_law26_clean_J2 x14 i18 p0 i21 t22 = some y0) ?_ ?_
  · skip
    refine Cw_seq ?_
    refine Cw_region ?_
    refine Ow_q rfl rfl rfl (Qt_fieldAddr (m := 0) rfl rfl rfl rfl rfl) ?_
    refine Ow_q rfl rfl rfl (Qt_load1 (v := (.int .i64 (wI (1 + x14)))) rfl rfl rfl (Rdc.blk (.head _) rfl)) ?_
    refine Ow_q rfl rfl rfl (Qt_cmp rfl rfl rfl) ?_
    refine Ow_nil ?_
    refine Cw_cond rfl ?_ ?_
    · intro h23
      have h23 := dcd_t (h23)
      have H := ift h23 H
      refine Cw_region_any [.blk b13 24 (Result.cells (Result.mk 0 0 0 false 0)), .blk b12 24 (Result.cells p0)] rfl (Inc.cons (.tail _ (.head _)) (Inc.cons (.tail _ (.tail _ (.head _))) Inc.nil)) ?_
      refine Aw_q 0 rfl (by kernel_rfl) (by kernel_rfl) (by kernel_rfl) rfl rfl rfl (Qt_fieldAddr (m := 2) rfl rfl rfl rfl rfl) ?_
      refine Aw_q 1 rfl (by kernel_rfl) (by kernel_rfl) (by kernel_rfl) rfl rfl rfl (Qt_load1 (v := (.int .u64 p0.value)) rfl rfl rfl (Rdc.blk (.tail _ (.head _)) rfl)) ?_
      refine Aw_q 2 rfl (by kernel_rfl) (by kernel_rfl) (by kernel_rfl) rfl rfl rfl (Qt_fieldAddr (m := 3) rfl rfl rfl rfl rfl) ?_
      refine Aw_q 3 rfl (by kernel_rfl) (by kernel_rfl) (by kernel_rfl) rfl rfl rfl (Qt_load1 (v := (.bool p0.ok)) rfl rfl rfl (Rdc.blk (.tail _ (.head _)) rfl)) ?_
      refine Aw_q 4 rfl (by kernel_rfl) (by kernel_rfl) (by kernel_rfl) rfl rfl rfl (Qt_fieldAddr (m := 2) rfl rfl rfl rfl rfl) ?_
      refine Aw_one 5 (by kernel_rfl) (Ax_mk rfl rfl ?_)
      refine OpW_store (vs := [(.int .u64 p0.value)]) (all' := (Result.cells (Result.mk (wI (1 + x14)) i18 p0.value false 0))) rfl rfl rfl rfl rfl .here rfl rfl rfl ⟨(Inc.cons (.tail _ (.head _)) (Inc.cons (.tail _ (.tail _ (.head _))) Inc.nil)), ?_⟩
      refine Aw_q 6 rfl (by kernel_rfl) (by kernel_rfl) (by kernel_rfl) rfl rfl rfl (Qt_fieldAddr (m := 3) rfl rfl rfl rfl rfl) ?_
      refine Aw_one 7 (by kernel_rfl) (Ax_mk rfl rfl ?_)
      refine OpW_store (vs := [(.bool p0.ok)]) (all' := (Result.cells (Result.mk (wI (1 + x14)) i18 p0.value p0.ok 0))) rfl rfl rfl rfl rfl .here rfl rfl rfl ⟨(Inc.cons (.tail _ (.head _)) (Inc.cons (.tail _ (.tail _ (.head _))) Inc.nil)), ?_⟩
      refine Aw_done (by kernel_rfl) ?_
      refine Shift.pull (.there (.there .here)) ?_
      refine Shift.pull (.there (.there .here)) ?_
      refine Shift.pull (.there (.there .here)) ?_
      refine Shift.done ?_
      exact ⟨[(1, (.pointer (some ((⟨b12, 0, none⟩ : Addr).add 0)))), (2, (.pointer (some ((⟨b13, 0, none⟩ : Addr).add 0)))), (3, (.pointer (some ((⟨b16, 0, none⟩ : Addr).add 0))))], ⟨rfl, rfl, rfl, trivial⟩, p0.value, p0.ok, rfl, rfl, rfl, H⟩
    · intro h23
      have h23 := dcd_f (h23)
      have H := iff_ h23 H
      refine Cw_skip ?_
      refine Shift.pull (.there (.there .here)) ?_
      refine Shift.pull (.there (.there .here)) ?_
      refine Shift.pull (.there (.there .here)) ?_
      refine Shift.done ?_
      exact ⟨[(1, (.pointer (some ((⟨b12, 0, none⟩ : Addr).add 0)))), (2, (.pointer (some ((⟨b13, 0, none⟩ : Addr).add 0)))), (3, (.pointer (some ((⟨b16, 0, none⟩ : Addr).add 0))))], ⟨rfl, rfl, rfl, trivial⟩, 0, false, rfl, rfl, rfl, H⟩
  rintro _ _ _ - ⟨i21, t22, rfl, rfl, rfl, H⟩
  unfold M_law26_clean_J2 at H
  refine Cw_seq ?_
  refine Cw_seq ?_
  refine Cw_region ?_
  refine Ow_q rfl rfl rfl (Qt_fieldAddr (m := 0) rfl rfl rfl rfl rfl) ?_
  refine Ow_q rfl rfl rfl (Qt_load1 (v := (.int .i64 (wI (1 + x14)))) rfl rfl rfl (Rdc.blk (.head _) rfl)) ?_
  refine Ow_q rfl rfl rfl (Qt_cmp rfl rfl rfl) ?_
  refine Ow_nil ?_
  refine Cw_cond rfl ?_ ?_
  · intro h25
    have h25 := dcd_t (h25)
    have H := ift h25 H
    refine Cw_region ?_
    refine Ow_q rfl rfl rfl (Qt_fieldAddr (m := 4) rfl rfl rfl rfl rfl) ?_
    refine Ow_q rfl rfl rfl (Qt_load1 (v := (.int .i64 p0.number)) rfl rfl rfl (Rdc.blk (.tail _ (.tail _ (.head _))) rfl)) ?_
    refine Ow_q rfl rfl rfl (Qt_fieldAddr (m := 4) rfl rfl rfl rfl rfl) ?_
    refine Ow_cons rfl (OpW_store (vs := [(.int .i64 p0.number)]) (all' := (Result.cells (Result.mk (wI (1 + x14)) i18 i21 t22 p0.number))) rfl rfl rfl rfl rfl .here rfl rfl rfl ?_)
    refine Ow_nil ?_
    refine Cw_seq ?_
    refine Cw_region ?_
    refine Ow_q rfl rfl rfl (Qt_loadA (m := 5) (cs := (Result.cells (Result.mk (wI (1 + x14)) i18 i21 t22 p0.number))) rfl rfl rfl rfl ⟨rfl, Rdc.blk (.head _) rfl⟩) ?_
    refine Ow_cons rfl (OpW_store (vs := (Result.cells (Result.mk (wI (1 + x14)) i18 i21 t22 p0.number))) (all' := (Result.cells (Result.mk (wI (1 + x14)) i18 i21 t22 p0.number))) rfl rfl rfl rfl rfl (.there .here) rfl rfl rfl ?_)
    refine Ow_nil ?_
    refine Cw_ret ?_
    obtain ey0 := inj1 H
    subst y0
    refine ⟨(by first | exact .inl rfl | exact .inr rfl), [(.agg (Result.cells (Result.mk (wI (1 + x14)) i18 i21 t22 p0.number)).toArray)], ⟨(.agg (Result.cells (Result.mk (wI (1 + x14)) i18 i21 t22 p0.number)).toArray), _, rfl, ⟨_, 5, (Result.cells (Result.mk (wI (1 + x14)) i18 i21 t22 p0.number)), rfl, rfl, rfl, rfl, ⟨rfl, Rdc.blk (.tail _ (.head _)) rfl⟩, rfl⟩, rfl⟩, ?_⟩
    refine Shift.rem .here ?_
    refine Shift.rem .here ?_
    refine Shift.rem .here ?_
    refine Shift.done ?_
    exact ⟨rfl, rfl, rfl⟩
  · intro h25
    have h25 := dcd_f (h25)
    have H := iff_ h25 H
    refine Cw_skip ?_
    refine Cw_seq ?_
    refine Cw_region ?_
    refine Ow_q rfl rfl rfl (Qt_loadA (m := 5) (cs := (Result.cells (Result.mk (wI (1 + x14)) i18 i21 t22 0))) rfl rfl rfl rfl ⟨rfl, Rdc.blk (.head _) rfl⟩) ?_
    refine Ow_cons rfl (OpW_store (vs := (Result.cells (Result.mk (wI (1 + x14)) i18 i21 t22 0))) (all' := (Result.cells (Result.mk (wI (1 + x14)) i18 i21 t22 0))) rfl rfl rfl rfl rfl (.there .here) rfl rfl rfl ?_)
    refine Ow_nil ?_
    refine Cw_ret ?_
    obtain ey0 := inj1 H
    subst y0
    refine ⟨(by first | exact .inl rfl | exact .inr rfl), [(.agg (Result.cells (Result.mk (wI (1 + x14)) i18 i21 t22 0)).toArray)], ⟨(.agg (Result.cells (Result.mk (wI (1 + x14)) i18 i21 t22 0)).toArray), _, rfl, ⟨_, 5, (Result.cells (Result.mk (wI (1 + x14)) i18 i21 t22 0)), rfl, rfl, rfl, rfl, ⟨rfl, Rdc.blk (.tail _ (.head _)) rfl⟩, rfl⟩, rfl⟩, ?_⟩
    refine Shift.rem .here ?_
    refine Shift.rem .here ?_
    refine Shift.rem .here ?_
    refine Shift.done ?_
    exact ⟨rfl, rfl, rfl⟩


end Go.Hx
