/- Printed by program. -/
import Derived.Test.YtgkmiemclhaahaaXAM
import Derived.Test.YtgkmiemclhaahaaXAWTrace
namespace Go.Hx
open Go Go.Proofs
set_option linter.unusedSimpArgs false
set_option linter.unusedVariables false
set_option maxRecDepth 10000
set_option maxHeartbeats 1000000 in
theorem c_M_law6_awake  (y0 : Bool) (H : M_law6_awake = some y0) (K : Kp) (G : List Ent)  :
    Fc Try.prog 13 #[] K (G) (fun v K' G' => v = (.bool y0) ∧ K = K' ∧ G = G') := by
  refine Fc_body Try.func13 rfl Try.ntmps13 Try.results13 rfl ?_
  unfold M_law6_awake at H
  refine Cw_seq ?_
  refine Cw_region ?_
  refine Ow_q rfl rfl rfl (Qt_assign rfl) ?_
  refine Ow_nil ?_
  refine Cw_seq ?_
  refine Cw_region ?_
  refine Ow_q rfl rfl rfl (Qt_build (cs := (Access.cells (Access.mk 6 3 0 0 0))) rfl rfl rfl rfl rfl rfl) ?_
  refine Ow_q rfl rfl rfl (Qt_build (cs := (Item.cells (Item.mk 0 (Access.mk 6 3 0 0 0) 0 false))) rfl rfl rfl rfl rfl rfl) ?_
  refine Ow_cons rfl (OpW_alloc (cs := (Item.cells (Item.mk 0 (Access.mk 0 0 0 0 0) 0 false))) rfl rfl rfl rfl (fun b26 => ?_))
  refine Ow_cons rfl (OpW_store (vs := (Item.cells (Item.mk 0 (Access.mk 6 3 0 0 0) 0 false))) (all' := (Item.cells (Item.mk 0 (Access.mk 6 3 0 0 0) 0 false))) rfl rfl rfl rfl rfl .here rfl rfl rfl ?_)
  refine Ow_nil ?_
  refine Cw_seq ?_
  refine Cw_region ?_
  refine Ow_q rfl rfl rfl (Qt_build (cs := (Access.cells (Access.mk 5 3 0 0 0))) rfl rfl rfl rfl rfl rfl) ?_
  refine Ow_q rfl rfl rfl (Qt_build (cs := (Item.cells (Item.mk 1 (Access.mk 5 3 0 0 0) 0 false))) rfl rfl rfl rfl rfl rfl) ?_
  refine Ow_cons rfl (OpW_alloc (cs := (Item.cells (Item.mk 0 (Access.mk 0 0 0 0 0) 0 false))) rfl rfl rfl rfl (fun b27 => ?_))
  refine Ow_cons rfl (OpW_store (vs := (Item.cells (Item.mk 1 (Access.mk 5 3 0 0 0) 0 false))) (all' := (Item.cells (Item.mk 1 (Access.mk 5 3 0 0 0) 0 false))) rfl rfl rfl rfl rfl .here rfl rfl rfl ?_)
  refine Ow_nil ?_
  refine Cw_join (fun env' K' G' => ∃ (b34 : Nat) (b35 : Nat) (i36 : Int) (i37 : Int) (i38 : Int) (i39 : Int) (i40 : Int) (i41 : Int), [(1, (.pointer (some ((⟨b26, 0, none⟩ : Addr).add 0)))), (2, (.pointer (some ((⟨b27, 0, none⟩ : Addr).add 0)))), (3, (.pointer (some ((⟨b34, 0, none⟩ : Addr).add 0)))), (4, (.pointer (some ((⟨b35, 0, none⟩ : Addr).add 0))))] = env' ∧ K = K' ∧ (.blk b35 26 (Item.cells (Item.mk i36 (Access.mk i37 i38 i39 i39 i40) i39 false))) :: (.blk b34 26 (Item.cells (Item.mk i40 (Access.mk i41 i38 i39 i39 i40) i39 false))) :: (.blk b27 26 (Item.cells (Item.mk i36 (Access.mk i37 i38 i39 i39 i40) i39 false))) :: (.blk b26 26 (Item.cells (Item.mk i40 (Access.mk i41 i38 i39 i39 i40) i39 false))) :: G = G' ∧ M_law6_awake_J1 i36 i37 i38 i39 i40 i41 = some y0) ?_ ?_
  · skip
    refine Cw_region_any [.blk b27 26 (Item.cells (Item.mk 1 (Access.mk 5 3 0 0 0) 0 false)), .blk b26 26 (Item.cells (Item.mk 0 (Access.mk 6 3 0 0 0) 0 false))] rfl (Inc.cons (.head _) (Inc.cons (.tail _ (.head _)) Inc.nil)) ?_
    refine Aw_q 0 rfl (by kernel_rfl) (by kernel_rfl) (by kernel_rfl) rfl rfl rfl (Qt_loadA (m := 8) (cs := (Item.cells (Item.mk 0 (Access.mk 6 3 0 0 0) 0 false))) rfl rfl rfl rfl ⟨rfl, Rdc.blk (.tail _ (.head _)) rfl⟩) ?_
    refine Aw_q 1 rfl (by kernel_rfl) (by kernel_rfl) (by kernel_rfl) rfl rfl rfl (Qt_loadA (m := 8) (cs := (Item.cells (Item.mk 1 (Access.mk 5 3 0 0 0) 0 false))) rfl rfl rfl rfl ⟨rfl, Rdc.blk (.head _) rfl⟩) ?_
    refine Aw_two 2 3 (by kernel_rfl) ?_ ?_
    · skip
      refine id (Ax_mk rfl rfl ?_)
      refine OpW_alloc (cs := (Item.cells (Item.mk 0 (Access.mk 0 0 0 0 0) 0 false))) rfl rfl rfl rfl (fun b44 => ⟨(Inc.cons (.tail _ (.head _)) (Inc.cons (.tail _ (.tail _ (.head _))) Inc.nil)), ?_⟩)
      refine Aw_one 3 (by kernel_rfl) (Ax_mk rfl rfl ?_)
      refine OpW_alloc (cs := (Item.cells (Item.mk 0 (Access.mk 0 0 0 0 0) 0 false))) rfl rfl rfl rfl (fun b45 => ⟨(Inc.cons (.tail _ (.tail _ (.head _))) (Inc.cons (.tail _ (.tail _ (.tail _ (.head _)))) Inc.nil)), ?_⟩)
      refine Aw_one 4 (by kernel_rfl) (Ax_mk rfl rfl ?_)
      refine OpW_store (vs := (Item.cells (Item.mk 0 (Access.mk 6 3 0 0 0) 0 false))) (all' := (Item.cells (Item.mk 0 (Access.mk 6 3 0 0 0) 0 false))) rfl rfl rfl rfl rfl (.there .here) rfl rfl rfl ⟨(Inc.cons (.tail _ (.tail _ (.head _))) (Inc.cons (.tail _ (.tail _ (.tail _ (.head _)))) Inc.nil)), ?_⟩
      refine Aw_one 5 (by kernel_rfl) (Ax_mk rfl rfl ?_)
      refine OpW_store (vs := (Item.cells (Item.mk 1 (Access.mk 5 3 0 0 0) 0 false))) (all' := (Item.cells (Item.mk 1 (Access.mk 5 3 0 0 0) 0 false))) rfl rfl rfl rfl rfl .here rfl rfl rfl ⟨(Inc.cons (.tail _ (.tail _ (.head _))) (Inc.cons (.tail _ (.tail _ (.tail _ (.head _)))) Inc.nil)), ?_⟩
      refine Aw_done (by kernel_rfl) ?_
      refine Shift.pull (.there (.there (.there .here))) ?_
      refine Shift.pull (.there (.there (.there .here))) ?_
      refine Shift.pull (.there (.there (.there .here))) ?_
      refine Shift.pull (.there (.there (.there .here))) ?_
      refine Shift.done ?_
      exact ⟨[(1, (.pointer (some ((⟨b26, 0, none⟩ : Addr).add 0)))), (2, (.pointer (some ((⟨b27, 0, none⟩ : Addr).add 0)))), (3, (.pointer (some ((⟨b44, 0, none⟩ : Addr).add 0)))), (4, (.pointer (some ((⟨b45, 0, none⟩ : Addr).add 0))))], ⟨rfl, rfl, rfl, rfl, trivial⟩, b44, b45, 1, 5, 3, 0, 0, 6, rfl, rfl, rfl, H⟩
    · skip
      refine id (Ax_mk rfl rfl ?_)
      refine OpW_alloc (cs := (Item.cells (Item.mk 0 (Access.mk 0 0 0 0 0) 0 false))) rfl rfl rfl rfl (fun b46 => ⟨(Inc.cons (.tail _ (.head _)) (Inc.cons (.tail _ (.tail _ (.head _))) Inc.nil)), ?_⟩)
      refine Aw_one 2 (by kernel_rfl) (Ax_mk rfl rfl ?_)
      refine OpW_alloc (cs := (Item.cells (Item.mk 0 (Access.mk 0 0 0 0 0) 0 false))) rfl rfl rfl rfl (fun b47 => ⟨(Inc.cons (.tail _ (.tail _ (.head _))) (Inc.cons (.tail _ (.tail _ (.tail _ (.head _)))) Inc.nil)), ?_⟩)
      refine Aw_one 4 (by kernel_rfl) (Ax_mk rfl rfl ?_)
      refine OpW_store (vs := (Item.cells (Item.mk 0 (Access.mk 6 3 0 0 0) 0 false))) (all' := (Item.cells (Item.mk 0 (Access.mk 6 3 0 0 0) 0 false))) rfl rfl rfl rfl rfl .here rfl rfl rfl ⟨(Inc.cons (.tail _ (.tail _ (.head _))) (Inc.cons (.tail _ (.tail _ (.tail _ (.head _)))) Inc.nil)), ?_⟩
      refine Aw_one 5 (by kernel_rfl) (Ax_mk rfl rfl ?_)
      refine OpW_store (vs := (Item.cells (Item.mk 1 (Access.mk 5 3 0 0 0) 0 false))) (all' := (Item.cells (Item.mk 1 (Access.mk 5 3 0 0 0) 0 false))) rfl rfl rfl rfl rfl (.there .here) rfl rfl rfl ⟨(Inc.cons (.tail _ (.tail _ (.head _))) (Inc.cons (.tail _ (.tail _ (.tail _ (.head _)))) Inc.nil)), ?_⟩
      refine Aw_done (by kernel_rfl) ?_
      refine Shift.pull (.there (.there (.there .here))) ?_
      refine Shift.pull (.there (.there (.there .here))) ?_
      refine Shift.pull (.there (.there .here)) ?_
      refine Shift.pull (.there (.there (.there .here))) ?_
      refine Shift.done ?_
      exact ⟨[(1, (.pointer (some ((⟨b26, 0, none⟩ : Addr).add 0)))), (2, (.pointer (some ((⟨b27, 0, none⟩ : Addr).add 0)))), (3, (.pointer (some ((⟨b47, 0, none⟩ : Addr).add 0)))), (4, (.pointer (some ((⟨b46, 0, none⟩ : Addr).add 0))))], ⟨rfl, rfl, rfl, rfl, trivial⟩, b47, b46, 1, 5, 3, 0, 0, 6, rfl, rfl, rfl, H⟩
  rintro _ _ _ - ⟨b34, b35, i36, i37, i38, i39, i40, i41, rfl, rfl, rfl, H⟩
  unfold M_law6_awake_J1 at H
  refine Cw_seq ?_
  refine Cw_region ?_
  refine Ow_q rfl rfl rfl (Qt_fieldAddr (m := 1) rfl rfl rfl rfl rfl) ?_
  refine Ow_q rfl rfl rfl (Qt_fieldAddr (m := 1) rfl rfl rfl rfl rfl) ?_
  refine Ow_cons rfl (OpW_store (vs := [(.int .i64 2)]) (all' := (Item.cells (Item.mk i40 (Access.mk 2 i38 i39 i39 i40) i39 false))) rfl rfl rfl rfl rfl (.there .here) rfl rfl rfl ?_)
  refine Ow_q rfl rfl rfl (Qt_fieldAddr (m := 1) rfl rfl rfl rfl rfl) ?_
  refine Ow_q rfl rfl rfl (Qt_fieldAddr (m := 1) rfl rfl rfl rfl rfl) ?_
  refine Ow_cons rfl (OpW_store (vs := [(.int .i64 1)]) (all' := (Item.cells (Item.mk i36 (Access.mk 1 i38 i39 i39 i40) i39 false))) rfl rfl rfl rfl rfl .here rfl rfl rfl ?_)
  refine Ow_nil ?_
  refine Cw_join (fun env' K' G' => ∃ (t56 : Bool), [(0, (.bool t56))] = env' ∧ K = K' ∧ G = G' ∧ M_law6_awake_J2 t56 = some y0) ?_ ?_
  · skip
    refine Cw_region ?_
    refine Ow_q rfl rfl rfl (Qt_loadA (m := 8) (cs := (Item.cells (Item.mk i40 (Access.mk i41 i38 i39 i39 i40) i39 false))) rfl rfl rfl rfl ⟨rfl, Rdc.blk (.tail _ (.tail _ (.tail _ (.head _)))) rfl⟩) ?_
    refine Ow_q rfl rfl rfl (Qt_loadA (m := 8) (cs := (Item.cells (Item.mk i36 (Access.mk i37 i38 i39 i39 i40) i39 false))) rfl rfl rfl rfl ⟨rfl, Rdc.blk (.tail _ (.tail _ (.head _))) rfl⟩) ?_
    obtain ⟨x57, hx58, H⟩ := bnd H
    refine Ow_cons rfl (OpW_call rfl Try.call16 rfl rfl (c_M_trace_Conflict (Item.mk i40 (Access.mk i41 i38 i39 i39 i40) i39 false) (Item.mk i36 (Access.mk i37 i38 i39 i39 i40) i39 false) x57 hx58 _ _ ) ?_)
    rintro _ _ _ - ⟨rfl, rfl, rfl⟩
    refine Ow_q rfl rfl rfl (Qt_move rfl) ?_
    refine Ow_caseG rfl rfl rfl ?_ ?_
    · intro h59
      have H := ift h59 H
      refine Ow_qw rfl rfl rfl rfl rfl rfl (Qt_loadA (m := 8) (cs := (Item.cells (Item.mk i40 (Access.mk 2 i38 i39 i39 i40) i39 false))) rfl rfl rfl rfl ⟨rfl, Rdc.blk (.tail _ (.head _)) rfl⟩) ?_
      refine Ow_qw rfl rfl rfl rfl rfl rfl (Qt_loadA (m := 8) (cs := (Item.cells (Item.mk i36 (Access.mk 1 i38 i39 i39 i40) i39 false))) rfl rfl rfl rfl ⟨rfl, Rdc.blk (.head _) rfl⟩) ?_
      obtain ⟨x60, hx61, H⟩ := bnd H
      refine Ow_want rfl rfl rfl rfl (OpW_call rfl Try.call16 rfl rfl (c_M_trace_Conflict (Item.mk i40 (Access.mk 2 i38 i39 i39 i40) i39 false) (Item.mk i36 (Access.mk 1 i38 i39 i39 i40) i39 false) x60 hx61 _ _ ) ?_)
      rintro _ _ _ - ⟨rfl, rfl, rfl⟩
      refine Ow_qw rfl rfl rfl rfl rfl rfl (Qt_not rfl) ?_
      refine Ow_q rfl rfl rfl (Qt_pick_t rfl rfl) ?_
      refine Ow_q rfl rfl rfl (Qt_move rfl) ?_
      refine Ow_caseG rfl rfl rfl ?_ ?_
      · intro h62
        have h62 := nt_t (h62)
        have H := iff_ (btf h62) H
        refine Ow_qw rfl rfl rfl rfl rfl rfl (Qt_loadA (m := 8) (cs := (Item.cells (Item.mk i40 (Access.mk i41 i38 i39 i39 i40) i39 false))) rfl rfl rfl rfl ⟨rfl, Rdc.blk (.tail _ (.tail _ (.tail _ (.head _)))) rfl⟩) ?_
        obtain ⟨x63, hx64, H⟩ := bnd H
        refine Ow_want rfl rfl rfl rfl (OpW_call rfl Try.call24 rfl rfl (c_M_trace_Place (Item.mk i40 (Access.mk i41 i38 i39 i39 i40) i39 false) x63 hx64 _ _ ) ?_)
        rintro _ _ _ - ⟨rfl, rfl, rfl⟩
        refine Ow_qw rfl rfl rfl rfl rfl rfl (Qt_cmp rfl rfl rfl) ?_
        refine Ow_q rfl rfl rfl (Qt_pick_t rfl rfl) ?_
        refine Ow_q rfl rfl rfl (Qt_assign rfl) ?_
        refine Ow_nil ?_
        refine Shift.rem .here ?_
        refine Shift.rem .here ?_
        refine Shift.rem .here ?_
        refine Shift.rem .here ?_
        refine Shift.done ?_
        exact ⟨[(0, (.bool (dcd (x63 = 3))))], ⟨rfl, trivial⟩, (dcd (x63 = 3)), rfl, rfl, rfl, H⟩
      · intro h62
        have h62 := nt_f (h62)
        have H := ift h62 H
        refine Ow_pass rfl rfl rfl rfl rfl rfl rfl ?_
        refine Ow_pass rfl rfl rfl rfl rfl rfl rfl ?_
        refine Ow_pass rfl rfl rfl rfl rfl rfl rfl ?_
        refine Ow_q rfl rfl rfl (Qt_pick_f rfl rfl) ?_
        refine Ow_q rfl rfl rfl (Qt_assign rfl) ?_
        refine Ow_nil ?_
        refine Shift.rem .here ?_
        refine Shift.rem .here ?_
        refine Shift.rem .here ?_
        refine Shift.rem .here ?_
        refine Shift.done ?_
        exact ⟨[(0, (.bool false))], ⟨rfl, trivial⟩, false, rfl, rfl, rfl, H⟩
    · intro h59
      have H := iff_ (btf h59) H
      refine Ow_pass rfl rfl rfl rfl rfl rfl rfl ?_
      refine Ow_pass rfl rfl rfl rfl rfl rfl rfl ?_
      refine Ow_pass rfl rfl rfl rfl rfl rfl rfl ?_
      refine Ow_pass rfl rfl rfl rfl rfl rfl rfl ?_
      refine Ow_q rfl rfl rfl (Qt_pick_f rfl rfl) ?_
      refine Ow_q rfl rfl rfl (Qt_move rfl) ?_
      refine Ow_pass rfl rfl rfl rfl rfl rfl rfl ?_
      refine Ow_pass rfl rfl rfl rfl rfl rfl rfl ?_
      refine Ow_pass rfl rfl rfl rfl rfl rfl rfl ?_
      refine Ow_q rfl rfl rfl (Qt_pick_f rfl rfl) ?_
      refine Ow_q rfl rfl rfl (Qt_assign rfl) ?_
      refine Ow_nil ?_
      refine Shift.rem .here ?_
      refine Shift.rem .here ?_
      refine Shift.rem .here ?_
      refine Shift.rem .here ?_
      refine Shift.done ?_
      exact ⟨[(0, (.bool false))], ⟨rfl, trivial⟩, false, rfl, rfl, rfl, H⟩
  rintro _ _ _ - ⟨t56, rfl, rfl, rfl, H⟩
  unfold M_law6_awake_J2 at H
  refine Cw_ret ?_
  obtain ey0 := inj1 H
  subst y0
  refine ⟨(by first | exact .inl rfl | exact .inr rfl), [(.bool t56)], ⟨(.bool t56), _, rfl, rfl, rfl⟩, ?_⟩
  refine Shift.done ?_
  exact ⟨rfl, rfl, rfl⟩


end Go.Hx
