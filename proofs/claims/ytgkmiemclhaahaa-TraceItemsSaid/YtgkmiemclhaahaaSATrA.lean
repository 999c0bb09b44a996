/- Contracts of functions, walked: printed by program. -/
import Derived.Test.YtgkmiemclhaahaaProg
import Derived.Test.YtgkmiemclhaahaaGhlTyped
import Derived.Test.YtgkmiemclhaahaaSABase
namespace Go.Ghl
open Go.Proofs
set_option linter.unusedSimpArgs false
set_option linter.unusedVariables false

theorem c_awake6  (K : Kp) (G : List Ent)  :
    Fc Try.prog 13 #[] K G (fun v K' G' => v = .bool true ∧ K' = K ∧ G' = G) := by
  refine Fc_of Try.func13 rfl Try.ntmps13 Try.results13 rfl ?_
  refine Cw_seq ?_
  refine Cw_region ?_
  refine Ow_q rfl rfl rfl (Qt_assign rfl) ?_
  refine Ow_nil ?_
  refine Cw_seq ?_
  refine Cw_region ?_
  refine Ow_q rfl rfl rfl (Qt_build (cs := Access.cells (Access.mk 6 3 0 0 0)) rfl rfl rfl rfl rfl rfl) ?_
  refine Ow_q rfl rfl rfl (Qt_build (cs := Item.cells (Item.mk 0 (Access.mk 6 3 0 0 0) 0 false)) rfl rfl rfl rfl rfl rfl) ?_
  refine Ow_cons rfl (OpW_alloc (cs := [(.int .i64 0), (.int .i64 0), (.int .i64 0), (.int .u64 0), (.int .u64 0), (.int .i64 0), (.int .u64 0), (.bool false)]) rfl rfl rfl rfl (fun b1 => ?_))
  refine Ow_cons rfl (OpW_store (vs := [(.int .i64 0), (.int .i64 6), (.int .i64 3), (.int .u64 0), (.int .u64 0), (.int .i64 0), (.int .u64 0), (.bool false)]) (all' := [(.int .i64 0), (.int .i64 6), (.int .i64 3), (.int .u64 0), (.int .u64 0), (.int .i64 0), (.int .u64 0), (.bool false)]) rfl rfl rfl rfl rfl .here rfl rfl rfl ?_)
  refine Ow_nil ?_
  refine Cw_seq ?_
  refine Cw_region ?_
  refine Ow_q rfl rfl rfl (Qt_build (cs := Access.cells (Access.mk 5 3 0 0 0)) rfl rfl rfl rfl rfl rfl) ?_
  refine Ow_q rfl rfl rfl (Qt_build (cs := Item.cells (Item.mk 1 (Access.mk 5 3 0 0 0) 0 false)) rfl rfl rfl rfl rfl rfl) ?_
  refine Ow_cons rfl (OpW_alloc (cs := [(.int .i64 0), (.int .i64 0), (.int .i64 0), (.int .u64 0), (.int .u64 0), (.int .i64 0), (.int .u64 0), (.bool false)]) rfl rfl rfl rfl (fun b2 => ?_))
  refine Ow_cons rfl (OpW_store (vs := [(.int .i64 1), (.int .i64 5), (.int .i64 3), (.int .u64 0), (.int .u64 0), (.int .i64 0), (.int .u64 0), (.bool false)]) (all' := [(.int .i64 1), (.int .i64 5), (.int .i64 3), (.int .u64 0), (.int .u64 0), (.int .i64 0), (.int .u64 0), (.bool false)]) rfl rfl rfl rfl rfl .here rfl rfl rfl ?_)
  refine Ow_nil ?_
  refine Cw_seq ?_
  refine Cw_region_any [.blk b2 26 [(.int .i64 1), (.int .i64 5), (.int .i64 3), (.int .u64 0), (.int .u64 0), (.int .i64 0), (.int .u64 0), (.bool false)], .blk b1 26 [(.int .i64 0), (.int .i64 6), (.int .i64 3), (.int .u64 0), (.int .u64 0), (.int .i64 0), (.int .u64 0), (.bool false)]] rfl (Inc.cons (.head _) (Inc.cons (.tail _ (.head _)) Inc.nil)) ?_
  refine Aw_q 0 rfl (by kernel_rfl) (by kernel_rfl) (by kernel_rfl) rfl rfl rfl (Qt_loadA (m := 8) (cs := Item.cells (Item.mk 0 (Access.mk 6 3 0 0 0) 0 false)) rfl rfl rfl rfl ⟨rfl, Rdc.blk (.tail _ (.head _)) rfl⟩) ?_
  refine Aw_q 1 rfl (by kernel_rfl) (by kernel_rfl) (by kernel_rfl) rfl rfl rfl (Qt_loadA (m := 8) (cs := Item.cells (Item.mk 1 (Access.mk 5 3 0 0 0) 0 false)) rfl rfl rfl rfl ⟨rfl, Rdc.blk (.head _) rfl⟩) ?_
  refine Aw_two 2 3 (by kernel_rfl) ?_ ?_
  · skip
    refine id (Ax_mk rfl rfl (OpW_alloc (cs := [(.int .i64 0), (.int .i64 0), (.int .i64 0), (.int .u64 0), (.int .u64 0), (.int .i64 0), (.int .u64 0), (.bool false)]) rfl rfl rfl rfl (fun b3 => ⟨(Inc.cons (.tail _ (.head _)) (Inc.cons (.tail _ (.tail _ (.head _))) Inc.nil)), ?_⟩)))
    refine Aw_one 3 (by kernel_rfl) (Ax_mk rfl rfl (OpW_alloc (cs := [(.int .i64 0), (.int .i64 0), (.int .i64 0), (.int .u64 0), (.int .u64 0), (.int .i64 0), (.int .u64 0), (.bool false)]) rfl rfl rfl rfl (fun b4 => ⟨(Inc.cons (.tail _ (.tail _ (.head _))) (Inc.cons (.tail _ (.tail _ (.tail _ (.head _)))) Inc.nil)), ?_⟩)))
    refine Aw_one 4 (by kernel_rfl) (Ax_mk rfl rfl (OpW_store (vs := [(.int .i64 0), (.int .i64 6), (.int .i64 3), (.int .u64 0), (.int .u64 0), (.int .i64 0), (.int .u64 0), (.bool false)]) (all' := [(.int .i64 0), (.int .i64 6), (.int .i64 3), (.int .u64 0), (.int .u64 0), (.int .i64 0), (.int .u64 0), (.bool false)]) rfl rfl rfl rfl rfl (.there .here) rfl rfl rfl ⟨(Inc.cons (.tail _ (.tail _ (.head _))) (Inc.cons (.tail _ (.tail _ (.tail _ (.head _)))) Inc.nil)), ?_⟩))
    refine Aw_one 5 (by kernel_rfl) (Ax_mk rfl rfl (OpW_store (vs := [(.int .i64 1), (.int .i64 5), (.int .i64 3), (.int .u64 0), (.int .u64 0), (.int .i64 0), (.int .u64 0), (.bool false)]) (all' := [(.int .i64 1), (.int .i64 5), (.int .i64 3), (.int .u64 0), (.int .u64 0), (.int .i64 0), (.int .u64 0), (.bool false)]) rfl rfl rfl rfl rfl .here rfl rfl rfl ⟨(Inc.cons (.tail _ (.tail _ (.head _))) (Inc.cons (.tail _ (.tail _ (.tail _ (.head _)))) Inc.nil)), ?_⟩))
    refine Aw_done (by kernel_rfl) ?_
    refine Cw_seq ?_
    refine Cw_region ?_
    refine Ow_q rfl rfl rfl (Qt_fieldAddr (m := 1) rfl rfl rfl rfl rfl) ?_
    refine Ow_q rfl rfl rfl (Qt_fieldAddr (m := 1) rfl rfl rfl rfl rfl) ?_
    refine Ow_cons rfl (OpW_store (vs := [(.int .i64 2)]) (all' := [(.int .i64 0), (.int .i64 2), (.int .i64 3), (.int .u64 0), (.int .u64 0), (.int .i64 0), (.int .u64 0), (.bool false)]) rfl rfl rfl rfl rfl (.there .here) rfl rfl rfl ?_)
    refine Ow_q rfl rfl rfl (Qt_fieldAddr (m := 1) rfl rfl rfl rfl rfl) ?_
    refine Ow_q rfl rfl rfl (Qt_fieldAddr (m := 1) rfl rfl rfl rfl rfl) ?_
    refine Ow_cons rfl (OpW_store (vs := [(.int .i64 1)]) (all' := [(.int .i64 1), (.int .i64 1), (.int .i64 3), (.int .u64 0), (.int .u64 0), (.int .i64 0), (.int .u64 0), (.bool false)]) rfl rfl rfl rfl rfl .here rfl rfl rfl ?_)
    refine Ow_nil ?_
    refine Cw_seq ?_
    refine Cw_region ?_
    refine Ow_q rfl rfl rfl (Qt_loadA (m := 8) (cs := Item.cells (Item.mk 0 (Access.mk 6 3 0 0 0) 0 false)) rfl rfl rfl rfl ⟨rfl, Rdc.blk (.tail _ (.tail _ (.tail _ (.head _)))) rfl⟩) ?_
    refine Ow_q rfl rfl rfl (Qt_loadA (m := 8) (cs := Item.cells (Item.mk 1 (Access.mk 5 3 0 0 0) 0 false)) rfl rfl rfl rfl ⟨rfl, Rdc.blk (.tail _ (.tail _ (.head _))) rfl⟩) ?_
    refine Ow_cons rfl (OpW_callP (v0 := (.bool (conflict (Item.mk 0 (Access.mk 6 3 0 0 0) 0 false) (Item.mk 1 (Access.mk 5 3 0 0 0) 0 false)))) rfl Try.call16 rfl rfl (c_conflict (Item.mk 0 (Access.mk 6 3 0 0 0) 0 false) (Item.mk 1 (Access.mk 5 3 0 0 0) 0 false) _ _) ?_)
    refine Ow_q rfl rfl rfl (Qt_move rfl) ?_
    refine Ow_caseG rfl rfl rfl ?_ ?_
    · intro h5
      refine Ow_qw rfl rfl rfl rfl rfl rfl (Qt_loadA (m := 8) (cs := Item.cells (Item.mk 0 (Access.mk 2 3 0 0 0) 0 false)) rfl rfl rfl rfl ⟨rfl, Rdc.blk (.tail _ (.head _)) rfl⟩) ?_
      refine Ow_qw rfl rfl rfl rfl rfl rfl (Qt_loadA (m := 8) (cs := Item.cells (Item.mk 1 (Access.mk 1 3 0 0 0) 0 false)) rfl rfl rfl rfl ⟨rfl, Rdc.blk (.head _) rfl⟩) ?_
      refine Ow_want rfl rfl rfl rfl (OpW_callP (v0 := (.bool (conflict (Item.mk 0 (Access.mk 2 3 0 0 0) 0 false) (Item.mk 1 (Access.mk 1 3 0 0 0) 0 false)))) rfl Try.call16 rfl rfl (c_conflict (Item.mk 0 (Access.mk 2 3 0 0 0) 0 false) (Item.mk 1 (Access.mk 1 3 0 0 0) 0 false) _ _) ?_)
      refine Ow_qw rfl rfl rfl rfl rfl rfl (Qt_not rfl) ?_
      refine Ow_q rfl rfl rfl (Qt_pick_t rfl rfl) ?_
      refine Ow_q rfl rfl rfl (Qt_move rfl) ?_
      refine Ow_caseG rfl rfl rfl ?_ ?_
      · intro h6
        have h6 := nt_t (h6)
        refine Ow_qw rfl rfl rfl rfl rfl rfl (Qt_loadA (m := 8) (cs := Item.cells (Item.mk 0 (Access.mk 6 3 0 0 0) 0 false)) rfl rfl rfl rfl ⟨rfl, Rdc.blk (.tail _ (.tail _ (.tail _ (.head _)))) rfl⟩) ?_
        refine Ow_want rfl rfl rfl rfl (OpW_callP (v0 := (.int .i64 (place (Item.mk 0 (Access.mk 6 3 0 0 0) 0 false)))) rfl Try.call24 rfl rfl (c_place (Item.mk 0 (Access.mk 6 3 0 0 0) 0 false) _ _) ?_)
        refine Ow_qw rfl rfl rfl rfl rfl rfl (Qt_cmp rfl rfl rfl) ?_
        refine Ow_q rfl rfl rfl (Qt_pick_t rfl rfl) ?_
        refine Ow_q rfl rfl rfl (Qt_assign rfl) ?_
        refine Ow_nil ?_
        refine Cw_ret ?_
        refine ⟨(by first | exact .inl rfl | exact .inr rfl), [(.bool (dcd ((place (Item.mk 0 (Access.mk 6 3 0 0 0) 0 false)) = 3)))], G, ⟨(.bool (dcd ((place (Item.mk 0 (Access.mk 6 3 0 0 0) 0 false)) = 3))), _, rfl, rfl, rfl⟩, .cons _ (.cons _ (.cons _ (.cons _ (.refl _)))), ?_⟩
        exact ⟨by simp_all [mkRes, dcd_eq, conflict, plain, place, changes, writes], rfl, rfl⟩
      · intro h6
        have h6 := nt_f (h6)
        refine Ow_pass rfl rfl rfl rfl rfl rfl rfl ?_
        refine Ow_pass rfl rfl rfl rfl rfl rfl rfl ?_
        refine Ow_pass rfl rfl rfl rfl rfl rfl rfl ?_
        refine Ow_q rfl rfl rfl (Qt_pick_f rfl rfl) ?_
        refine Ow_q rfl rfl rfl (Qt_assign rfl) ?_
        refine Ow_nil ?_
        refine Cw_ret ?_
        refine ⟨(by first | exact .inl rfl | exact .inr rfl), [(.bool false)], G, ⟨(.bool false), _, rfl, rfl, rfl⟩, .cons _ (.cons _ (.cons _ (.cons _ (.refl _)))), ?_⟩
        exact ⟨by simp_all [mkRes, dcd_eq, conflict, plain, place, changes, writes], rfl, rfl⟩
    · intro h5
      refine Ow_pass rfl rfl rfl rfl rfl rfl rfl ?_
      refine Ow_pass rfl rfl rfl rfl rfl rfl rfl ?_
      refine Ow_pass rfl rfl rfl rfl rfl rfl rfl ?_
      refine Ow_pass rfl rfl rfl rfl rfl rfl rfl ?_
      refine Ow_q rfl rfl rfl (Qt_pick_f rfl rfl) ?_
      refine Ow_q rfl rfl rfl (Qt_move rfl) ?_
      refine Ow_pass rfl rfl rfl rfl rfl rfl rfl ?_
      refine Ow_pass rfl rfl rfl rfl rfl rfl rfl ?_
      refine Ow_pass rfl rfl rfl rfl rfl rfl rfl ?_
      refine Ow_q rfl rfl rfl (Qt_pick_f rfl rfl) ?_
      refine Ow_q rfl rfl rfl (Qt_assign rfl) ?_
      refine Ow_nil ?_
      refine Cw_ret ?_
      refine ⟨(by first | exact .inl rfl | exact .inr rfl), [(.bool false)], G, ⟨(.bool false), _, rfl, rfl, rfl⟩, .cons _ (.cons _ (.cons _ (.cons _ (.refl _)))), ?_⟩
      exact ⟨by simp_all [mkRes, dcd_eq, conflict, plain, place, changes, writes], rfl, rfl⟩
  · skip
    refine id (Ax_mk rfl rfl (OpW_alloc (cs := [(.int .i64 0), (.int .i64 0), (.int .i64 0), (.int .u64 0), (.int .u64 0), (.int .i64 0), (.int .u64 0), (.bool false)]) rfl rfl rfl rfl (fun b7 => ⟨(Inc.cons (.tail _ (.head _)) (Inc.cons (.tail _ (.tail _ (.head _))) Inc.nil)), ?_⟩)))
    refine Aw_one 2 (by kernel_rfl) (Ax_mk rfl rfl (OpW_alloc (cs := [(.int .i64 0), (.int .i64 0), (.int .i64 0), (.int .u64 0), (.int .u64 0), (.int .i64 0), (.int .u64 0), (.bool false)]) rfl rfl rfl rfl (fun b8 => ⟨(Inc.cons (.tail _ (.tail _ (.head _))) (Inc.cons (.tail _ (.tail _ (.tail _ (.head _)))) Inc.nil)), ?_⟩)))
    refine Aw_one 4 (by kernel_rfl) (Ax_mk rfl rfl (OpW_store (vs := [(.int .i64 0), (.int .i64 6), (.int .i64 3), (.int .u64 0), (.int .u64 0), (.int .i64 0), (.int .u64 0), (.bool false)]) (all' := [(.int .i64 0), (.int .i64 6), (.int .i64 3), (.int .u64 0), (.int .u64 0), (.int .i64 0), (.int .u64 0), (.bool false)]) rfl rfl rfl rfl rfl .here rfl rfl rfl ⟨(Inc.cons (.tail _ (.tail _ (.head _))) (Inc.cons (.tail _ (.tail _ (.tail _ (.head _)))) Inc.nil)), ?_⟩))
    refine Aw_one 5 (by kernel_rfl) (Ax_mk rfl rfl (OpW_store (vs := [(.int .i64 1), (.int .i64 5), (.int .i64 3), (.int .u64 0), (.int .u64 0), (.int .i64 0), (.int .u64 0), (.bool false)]) (all' := [(.int .i64 1), (.int .i64 5), (.int .i64 3), (.int .u64 0), (.int .u64 0), (.int .i64 0), (.int .u64 0), (.bool false)]) rfl rfl rfl rfl rfl (.there .here) rfl rfl rfl ⟨(Inc.cons (.tail _ (.tail _ (.head _))) (Inc.cons (.tail _ (.tail _ (.tail _ (.head _)))) Inc.nil)), ?_⟩))
    refine Aw_done (by kernel_rfl) ?_
    refine Cw_seq ?_
    refine Cw_region ?_
    refine Ow_q rfl rfl rfl (Qt_fieldAddr (m := 1) rfl rfl rfl rfl rfl) ?_
    refine Ow_q rfl rfl rfl (Qt_fieldAddr (m := 1) rfl rfl rfl rfl rfl) ?_
    refine Ow_cons rfl (OpW_store (vs := [(.int .i64 2)]) (all' := [(.int .i64 0), (.int .i64 2), (.int .i64 3), (.int .u64 0), (.int .u64 0), (.int .i64 0), (.int .u64 0), (.bool false)]) rfl rfl rfl rfl rfl .here rfl rfl rfl ?_)
    refine Ow_q rfl rfl rfl (Qt_fieldAddr (m := 1) rfl rfl rfl rfl rfl) ?_
    refine Ow_q rfl rfl rfl (Qt_fieldAddr (m := 1) rfl rfl rfl rfl rfl) ?_
    refine Ow_cons rfl (OpW_store (vs := [(.int .i64 1)]) (all' := [(.int .i64 1), (.int .i64 1), (.int .i64 3), (.int .u64 0), (.int .u64 0), (.int .i64 0), (.int .u64 0), (.bool false)]) rfl rfl rfl rfl rfl (.there .here) rfl rfl rfl ?_)
    refine Ow_nil ?_
    refine Cw_seq ?_
    refine Cw_region ?_
    refine Ow_q rfl rfl rfl (Qt_loadA (m := 8) (cs := Item.cells (Item.mk 0 (Access.mk 6 3 0 0 0) 0 false)) rfl rfl rfl rfl ⟨rfl, Rdc.blk (.tail _ (.tail _ (.tail _ (.head _)))) rfl⟩) ?_
    refine Ow_q rfl rfl rfl (Qt_loadA (m := 8) (cs := Item.cells (Item.mk 1 (Access.mk 5 3 0 0 0) 0 false)) rfl rfl rfl rfl ⟨rfl, Rdc.blk (.tail _ (.tail _ (.head _))) rfl⟩) ?_
    refine Ow_cons rfl (OpW_callP (v0 := (.bool (conflict (Item.mk 0 (Access.mk 6 3 0 0 0) 0 false) (Item.mk 1 (Access.mk 5 3 0 0 0) 0 false)))) rfl Try.call16 rfl rfl (c_conflict (Item.mk 0 (Access.mk 6 3 0 0 0) 0 false) (Item.mk 1 (Access.mk 5 3 0 0 0) 0 false) _ _) ?_)
    refine Ow_q rfl rfl rfl (Qt_move rfl) ?_
    refine Ow_caseG rfl rfl rfl ?_ ?_
    · intro h9
      refine Ow_qw rfl rfl rfl rfl rfl rfl (Qt_loadA (m := 8) (cs := Item.cells (Item.mk 0 (Access.mk 2 3 0 0 0) 0 false)) rfl rfl rfl rfl ⟨rfl, Rdc.blk (.head _) rfl⟩) ?_
      refine Ow_qw rfl rfl rfl rfl rfl rfl (Qt_loadA (m := 8) (cs := Item.cells (Item.mk 1 (Access.mk 1 3 0 0 0) 0 false)) rfl rfl rfl rfl ⟨rfl, Rdc.blk (.tail _ (.head _)) rfl⟩) ?_
      refine Ow_want rfl rfl rfl rfl (OpW_callP (v0 := (.bool (conflict (Item.mk 0 (Access.mk 2 3 0 0 0) 0 false) (Item.mk 1 (Access.mk 1 3 0 0 0) 0 false)))) rfl Try.call16 rfl rfl (c_conflict (Item.mk 0 (Access.mk 2 3 0 0 0) 0 false) (Item.mk 1 (Access.mk 1 3 0 0 0) 0 false) _ _) ?_)
      refine Ow_qw rfl rfl rfl rfl rfl rfl (Qt_not rfl) ?_
      refine Ow_q rfl rfl rfl (Qt_pick_t rfl rfl) ?_
      refine Ow_q rfl rfl rfl (Qt_move rfl) ?_
      refine Ow_caseG rfl rfl rfl ?_ ?_
      · intro h10
        have h10 := nt_t (h10)
        refine Ow_qw rfl rfl rfl rfl rfl rfl (Qt_loadA (m := 8) (cs := Item.cells (Item.mk 0 (Access.mk 6 3 0 0 0) 0 false)) rfl rfl rfl rfl ⟨rfl, Rdc.blk (.tail _ (.tail _ (.tail _ (.head _)))) rfl⟩) ?_
        refine Ow_want rfl rfl rfl rfl (OpW_callP (v0 := (.int .i64 (place (Item.mk 0 (Access.mk 6 3 0 0 0) 0 false)))) rfl Try.call24 rfl rfl (c_place (Item.mk 0 (Access.mk 6 3 0 0 0) 0 false) _ _) ?_)
        refine Ow_qw rfl rfl rfl rfl rfl rfl (Qt_cmp rfl rfl rfl) ?_
        refine Ow_q rfl rfl rfl (Qt_pick_t rfl rfl) ?_
        refine Ow_q rfl rfl rfl (Qt_assign rfl) ?_
        refine Ow_nil ?_
        refine Cw_ret ?_
        refine ⟨(by first | exact .inl rfl | exact .inr rfl), [(.bool (dcd ((place (Item.mk 0 (Access.mk 6 3 0 0 0) 0 false)) = 3)))], G, ⟨(.bool (dcd ((place (Item.mk 0 (Access.mk 6 3 0 0 0) 0 false)) = 3))), _, rfl, rfl, rfl⟩, .cons _ (.cons _ (.cons _ (.cons _ (.refl _)))), ?_⟩
        exact ⟨by simp_all [mkRes, dcd_eq, conflict, plain, place, changes, writes], rfl, rfl⟩
      · intro h10
        have h10 := nt_f (h10)
        refine Ow_pass rfl rfl rfl rfl rfl rfl rfl ?_
        refine Ow_pass rfl rfl rfl rfl rfl rfl rfl ?_
        refine Ow_pass rfl rfl rfl rfl rfl rfl rfl ?_
        refine Ow_q rfl rfl rfl (Qt_pick_f rfl rfl) ?_
        refine Ow_q rfl rfl rfl (Qt_assign rfl) ?_
        refine Ow_nil ?_
        refine Cw_ret ?_
        refine ⟨(by first | exact .inl rfl | exact .inr rfl), [(.bool false)], G, ⟨(.bool false), _, rfl, rfl, rfl⟩, .cons _ (.cons _ (.cons _ (.cons _ (.refl _)))), ?_⟩
        exact ⟨by simp_all [mkRes, dcd_eq, conflict, plain, place, changes, writes], rfl, rfl⟩
    · intro h9
      refine Ow_pass rfl rfl rfl rfl rfl rfl rfl ?_
      refine Ow_pass rfl rfl rfl rfl rfl rfl rfl ?_
      refine Ow_pass rfl rfl rfl rfl rfl rfl rfl ?_
      refine Ow_pass rfl rfl rfl rfl rfl rfl rfl ?_
      refine Ow_q rfl rfl rfl (Qt_pick_f rfl rfl) ?_
      refine Ow_q rfl rfl rfl (Qt_move rfl) ?_
      refine Ow_pass rfl rfl rfl rfl rfl rfl rfl ?_
      refine Ow_pass rfl rfl rfl rfl rfl rfl rfl ?_
      refine Ow_pass rfl rfl rfl rfl rfl rfl rfl ?_
      refine Ow_q rfl rfl rfl (Qt_pick_f rfl rfl) ?_
      refine Ow_q rfl rfl rfl (Qt_assign rfl) ?_
      refine Ow_nil ?_
      refine Cw_ret ?_
      refine ⟨(by first | exact .inl rfl | exact .inr rfl), [(.bool false)], G, ⟨(.bool false), _, rfl, rfl, rfl⟩, .cons _ (.cons _ (.cons _ (.cons _ (.refl _)))), ?_⟩
      exact ⟨by simp_all [mkRes, dcd_eq, conflict, plain, place, changes, writes], rfl, rfl⟩

set_option maxHeartbeats 1000000 in
theorem c_traceThreads (A : Option Addr) (cp : Nat) (cl : List UInt8) (th : Int) (K : Kp) (G : List Ent) (hcl : Sl K (.slice A cl.length cp) 1 (cl.map u8c)) :
    Fc Try.prog 4 #[(.slice A cl.length cp), (.int .i64 th)] K G (fun v K' G' => v = .bool true) := by
  refine Fc_of Try.func4 rfl Try.ntmps4 Try.results4 rfl ?_
  refine Cw_seq ?_
  refine Cw_region ?_
  refine Ow_q rfl rfl rfl (Qt_assign rfl) ?_
  refine Ow_nil ?_
  refine Cw_seq ?_
  refine Cw_seq ?_
  refine Cw_region ?_
  refine Ow_cons rfl (OpW_callP (v0 := (.bool true)) rfl Try.call13 rfl rfl (c_awake6  _ _) ?_)
  refine Ow_q rfl rfl rfl (Qt_not rfl) ?_
  refine Ow_nil ?_
  refine Cw_cond_f rfl ?_
  refine Cw_skip ?_
  refine Cw_seq ?_
  refine Cw_region ?_
  refine Ow_q rfl rfl rfl (Qt_move rfl) ?_
  have hs2 := Sl.takeN 200 hcl
  refine Ow_cons rfl (OpW_call rfl Try.call14 rfl rfl (c_new A cp cl 200 _ _ hcl) ?_)
  rintro _ _ _ - ⟨b1, rfl, rfl, rfl⟩
  refine Ow_cons rfl (OpW_call rfl Try.call15 rfl rfl (Fc.move [] (G) rfl fun G1 => c_items b1 A cp (Cd.mk (cl.take 200) 0 0) 3 40 (by omega) (by omega) _ G1 hs2) ?_)
  rintro _ _ _ - ⟨_, _, rfl, A3, cp4, L5, at6, rfl, rfl, rfl, rfl, hL7, hok8⟩
  refine Ow_q rfl rfl rfl (Qt_assign rfl) ?_
  refine Ow_nil ?_
  refine Cw_seq ?_
  refine Cw.settleT Enc.item rfl (.here) ?_
  intro K9 hK10 hs11
  have hs12 := hcl.mono hK10
  have hs13 := hs2.mono hK10
  have hl14 := Sl.le hs11
  refine Cw_region ?_
  refine Ow_q rfl rfl rfl (Qt_assign rfl) ?_
  refine Ow_nil ?_
  refine Cw_seq ?_
  refine Cw_seq ?_
  refine Cw_region ?_
  refine Ow_q rfl rfl rfl (Qt_assign rfl) ?_
  refine Ow_nil ?_
  refine Cw_block ?_
  refine Cw_loop (S := Nat) (fun s env' K' G' => ∃ (t : Nat) (n : Nat), 3 - t = s ∧ [(1, (.int .i64 th)), (5, (.slice A3 L5.length cp4)), (7, (.int .i64 ((t : Nat) : Int))), (6, (.int .i64 ((n : Nat) : Int)))] = env' ∧ G = G' ∧ t ≤ 3 ∧ n = (L5.filter fun i => decide (i.thread < ((t : Nat) : Int))).length) (fun s => s) (3 - 0) [(1, (.int .i64 th)), (5, (.slice A3 L5.length cp4)), (7, (.int .i64 ((0 : Nat) : Int))), (6, (.int .i64 ((0 : Nat) : Int)))] (G)
    ⟨0, 0, rfl, rfl, rfl, (by omega), (filter_lt_zero (fun x hx => (hok8 x hx).1)).symm⟩ ⟨rfl, rfl, rfl, rfl, trivial⟩ (.cons _ (.refl _)) ?_
  rintro s _ K15 _ hK16 ⟨t, n, rfl, rfl, rfl, ht, hn⟩
  have hs17 := hs12.mono hK16
  have hs18 := hs13.mono hK16
  have hs19 := hs11.mono hK16
  have hnl := List.length_filter_le (fun i => decide (i.thread < ((t : Nat) : Int))) L5
  refine Cw_seq ?_
  refine Cw_seq ?_
  refine Cw_region ?_
  refine Ow_q rfl rfl rfl (Qt_move rfl) ?_
  refine Ow_q rfl rfl rfl (Qt_cmp rfl rfl rfl) ?_
  refine Ow_nil ?_
  refine Cw_cond rfl ?_ ?_
  · intro h20
    have h20 := dcd_t (h20)
    refine Cw_skip ?_
    refine Cw_seq ?_
    refine Cw_block ?_
    refine Cw_seq ?_
    refine Cw_region ?_
    refine Ow_q rfl rfl rfl (Qt_move rfl) ?_
    refine Ow_q rfl rfl rfl (Qt_move rfl) ?_
    refine Ow_cons rfl (OpW_call rfl Try.call18 rfl rfl (c_of A3 cp4 L5 ((t : Nat) : Int) _ _ hs19 (by first | omega | (simp only [List.length_append, List.length_cons, List.length_nil, List.length_replicate, List.length_set]; omega) | (simp; omega))) ?_)
    rintro _ _ _ - ⟨A21, cp22, rfl, rfl, rfl⟩
    have hfl23 := List.length_filter_le (fun i => decide (i.thread = ((t : Nat) : Int))) L5
    refine Ow_q rfl rfl rfl (Qt_assign rfl) ?_
    refine Ow_nil ?_
    refine Cw_seq ?_
    refine Cw_seq ?_
    refine Cw_region ?_
    refine Ow_q rfl rfl rfl (Qt_move rfl) ?_
    refine Ow_q rfl rfl rfl (Qt_move rfl) ?_
    refine Ow_q rfl rfl rfl (Qt_move rfl) ?_
    refine Ow_cons rfl (OpW_call rfl Try.call20 rfl rfl (c_ofR A3 cp4 L5 ((t : Nat) : Int) _ _ hs19 (by first | omega | (simp only [List.length_append, List.length_cons, List.length_nil, List.length_replicate, List.length_set]; omega) | (simp; omega))) ?_)
    rintro _ _ _ - ⟨A24, cp25, rfl, rfl, rfl⟩
    have hfl26 := List.length_filter_le (fun i => decide (i.thread = ((t : Nat) : Int))) L5
    refine Ow.settleT Enc.item rfl (.there (.here)) ?_
    intro K27 hK28 hs29
    have hs30 := hs17.mono hK28
    have hs31 := hs18.mono hK28
    have hs32 := hs19.mono hK28
    have hl33 := Sl.le hs29
    refine Ow.settleT Enc.item rfl (.here) ?_
    intro K34 hK35 hs36
    have hs37 := hs30.mono hK35
    have hs38 := hs31.mono hK35
    have hs39 := hs32.mono hK35
    have hs40 := hs29.mono hK35
    have hl41 := Sl.le hs36
    refine Ow_cons rfl (OpW_callP (v0 := (.bool (decide ((L5.filter fun i => decide (i.thread = ((t : Nat) : Int))) = (L5.filter fun i => decide (i.thread = ((t : Nat) : Int))))))) rfl Try.call19 rfl rfl (c_sameItems A21 cp22 (L5.filter fun i => decide (i.thread = ((t : Nat) : Int))) A24 cp25 (L5.filter fun i => decide (i.thread = ((t : Nat) : Int))) _ _ hs40 hs36) ?_)
    refine Ow_q rfl rfl rfl (Qt_not rfl) ?_
    refine Ow_nil ?_
    refine Cw_cond rfl ?_ ?_
    · intro h42
      have h42 := nt_t (h42)
      refine Cw_seq ?_
      refine Cw_region ?_
      refine Ow_q rfl rfl rfl (Qt_assign rfl) ?_
      refine Ow_nil ?_
      refine Cw_ret ?_
      refine ⟨(by first | exact .inl rfl | exact .inr rfl), [(.bool false)], G, ⟨(.bool false), _, rfl, rfl, rfl⟩, .refl _, ?_⟩
      first | rfl | (exfalso; omega) | (exfalso; simp_all; done) | (simp_all [mkRes]; done)
    · intro h42
      have h42 := nt_f (h42)
      refine Cw_skip ?_
      refine Cw_region ?_
      refine Ow_q rfl rfl rfl (Qt_move rfl) ?_
      refine Ow_q rfl rfl rfl (Qt_move rfl) ?_
      refine Ow_q rfl rfl rfl (Qt_len rfl rfl) ?_
      refine Ow_q rfl rfl rfl (Qt_arith (e := (((n + (L5.filter fun i => decide (i.thread = ((t : Nat) : Int))).length) : Nat) : Int)) rfl rfl rfl (wrap_eq (by omega) (by omega))) ?_
      refine Ow_q rfl rfl rfl (Qt_assign rfl) ?_
      refine Ow_nil ?_
      refine Cw_region ?_
      refine Ow_q rfl rfl rfl (Qt_move rfl) ?_
      refine Ow_q rfl rfl rfl (Qt_arith (e := (((t : Nat) : Int) + 1)) rfl rfl rfl (wrap_eq (by omega) (by omega))) ?_
      refine Ow_q rfl rfl rfl (Qt_assign rfl) ?_
      refine Ow_nil ?_
      refine ⟨_, [(1, (.int .i64 th)), (5, (.slice A3 L5.length cp4)), (7, (.int .i64 (((t + 1) : Nat) : Int))), (6, (.int .i64 (((n + (L5.filter fun i => decide (i.thread = ((t : Nat) : Int))).length) : Nat) : Int)))], G, ⟨rfl, rfl, rfl, rfl, trivial⟩, (.refl _), (by first | omega | (simp only [List.length_append, List.length_cons, List.length_nil]; omega)), (t + 1), (n + (L5.filter fun i => decide (i.thread = ((t : Nat) : Int))).length), rfl, rfl, rfl, (by omega), (by rw [hn]; exact (filter_lt_succ (fun x hx => (hok8 x hx).1) t).symm)⟩
  · intro h20
    have h20 := dcd_f (h20)
    refine Cw_exit ?_
    refine Cw_seq ?_
    have hfin : n = L5.length := by rw [hn, show t = 3 by omega]; exact filter_lt_all (fun x hx => (hok8 x hx).2.1)
    refine Cw_region ?_
    refine Ow_q rfl rfl rfl (Qt_move rfl) ?_
    refine Ow_q rfl rfl rfl (Qt_move rfl) ?_
    refine Ow_q rfl rfl rfl (Qt_len rfl rfl) ?_
    refine Ow_q rfl rfl rfl (Qt_cmp rfl rfl rfl) ?_
    refine Ow_q rfl rfl rfl (Qt_move rfl) ?_
    refine Ow_caseG rfl rfl rfl ?_ ?_
    · intro h43
      have h43 := dcd_t (h43)
      refine Ow_qw rfl rfl rfl rfl rfl rfl (Qt_move rfl) ?_
      refine Ow_qw rfl rfl rfl rfl rfl rfl (Qt_move rfl) ?_
      refine Ow_want rfl rfl rfl rfl (OpW_call rfl Try.call18 rfl rfl (c_of A3 cp4 L5 th _ _ hs19 (by first | omega | (simp only [List.length_append, List.length_cons, List.length_nil, List.length_replicate, List.length_set]; omega) | (simp; omega))) ?_)
      rintro _ _ _ - ⟨A44, cp45, rfl, rfl, rfl⟩
      have hfl46 := List.length_filter_le (fun i => decide (i.thread = th)) L5
      refine Ow_qw rfl rfl rfl rfl rfl rfl (Qt_move rfl) ?_
      refine Ow_qw rfl rfl rfl rfl rfl rfl (Qt_move rfl) ?_
      refine Ow_want rfl rfl rfl rfl (OpW_call rfl Try.call20 rfl rfl (c_ofR A3 cp4 L5 th _ _ hs19 (by first | omega | (simp only [List.length_append, List.length_cons, List.length_nil, List.length_replicate, List.length_set]; omega) | (simp; omega))) ?_)
      rintro _ _ _ - ⟨A47, cp48, rfl, rfl, rfl⟩
      have hfl49 := List.length_filter_le (fun i => decide (i.thread = th)) L5
      refine Ow.settleT Enc.item rfl (.there (.here)) ?_
      intro K50 hK51 hs52
      have hs53 := hs17.mono hK51
      have hs54 := hs18.mono hK51
      have hs55 := hs19.mono hK51
      have hl56 := Sl.le hs52
      refine Ow.settleT Enc.item rfl (.here) ?_
      intro K57 hK58 hs59
      have hs60 := hs53.mono hK58
      have hs61 := hs54.mono hK58
      have hs62 := hs55.mono hK58
      have hs63 := hs52.mono hK58
      have hl64 := Sl.le hs59
      refine Ow_want rfl rfl rfl rfl (OpW_callP (v0 := (.bool (decide ((L5.filter fun i => decide (i.thread = th)) = (L5.filter fun i => decide (i.thread = th)))))) rfl Try.call19 rfl rfl (c_sameItems A44 cp45 (L5.filter fun i => decide (i.thread = th)) A47 cp48 (L5.filter fun i => decide (i.thread = th)) _ _ hs63 hs59) ?_)
      refine Ow_q rfl rfl rfl (Qt_pick_t rfl rfl) ?_
      refine Ow_q rfl rfl rfl (Qt_assign rfl) ?_
      refine Ow_nil ?_
      refine Cw_ret ?_
      refine ⟨(by first | exact .inl rfl | exact .inr rfl), [(.bool (decide ((L5.filter fun i => decide (i.thread = th)) = (L5.filter fun i => decide (i.thread = th)))))], G, ⟨(.bool (decide ((L5.filter fun i => decide (i.thread = th)) = (L5.filter fun i => decide (i.thread = th))))), _, rfl, rfl, rfl⟩, .refl _, ?_⟩
      first | rfl | (exfalso; omega) | (exfalso; simp_all; done) | (simp_all [mkRes]; done)
    · intro h43
      have h43 := dcd_f (h43)
      refine Ow_pass rfl rfl rfl rfl rfl rfl rfl ?_
      refine Ow_pass rfl rfl rfl rfl rfl rfl rfl ?_
      refine Ow_pass rfl rfl rfl rfl rfl rfl rfl ?_
      refine Ow_pass rfl rfl rfl rfl rfl rfl rfl ?_
      refine Ow_pass rfl rfl rfl rfl rfl rfl rfl ?_
      refine Ow_pass rfl rfl rfl rfl rfl rfl rfl ?_
      refine Ow_pass rfl rfl rfl rfl rfl rfl rfl ?_
      refine Ow_q rfl rfl rfl (Qt_pick_f rfl rfl) ?_
      refine Ow_q rfl rfl rfl (Qt_assign rfl) ?_
      refine Ow_nil ?_
      refine Cw_ret ?_
      refine ⟨(by first | exact .inl rfl | exact .inr rfl), [(.bool false)], G, ⟨(.bool false), _, rfl, rfl, rfl⟩, .refl _, ?_⟩
      first | rfl | (exfalso; omega) | (exfalso; simp_all; done) | (simp_all [mkRes]; done)

end Go.Ghl
