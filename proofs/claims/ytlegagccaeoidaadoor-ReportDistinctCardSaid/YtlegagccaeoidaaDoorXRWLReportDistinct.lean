/- Printed by program. -/
import Derived.Test.YtlegagccaeoidaaDoorXRM
import Derived.Test.YtlegagccaeoidaaDoorXRWLaw26
import Derived.Test.YtlegagccaeoidaaDoorXRWLaw261
import Derived.Test.YtlegagccaeoidaaDoorXRWReport
namespace Go.Hx
open Go Go.Proofs
set_option linter.unusedSimpArgs false
set_option linter.unusedVariables false
set_option maxRecDepth 10000
set_option maxHeartbeats 1000000 in
theorem c_M_law26_ReportDistinct (p0 : Result) (p1 : Result) (p2 : Bool) (y0 : Bool) (H : M_law26_ReportDistinct p0 p1 p2 = some y0) (K : Kp) (G : List Ent) (hT : TabK K) :
    Fc Tryd.prog 4 #[(.agg (Result.cells p0).toArray), (.agg (Result.cells p1).toArray), (.bool p2)] K (G) (fun v K' G' => v = (.bool y0) ∧ K = K' ∧ G = G') := by
  refine Fc_body Tryd.func4 rfl Tryd.ntmps4 Tryd.results4 rfl ?_
  unfold M_law26_ReportDistinct at H
  refine Cw_seq ?_
  refine Cw_region ?_
  refine Ow_cons rfl (OpW_box (cs := (Result.cells p0)) rfl rfl rfl (fun b54 => ?_))
  refine Ow_cons rfl (OpW_box (cs := (Result.cells p1)) rfl rfl rfl (fun b55 => ?_))
  refine Ow_q rfl rfl rfl (Qt_assign rfl) ?_
  refine Ow_nil ?_
  refine Cw_seq ?_
  refine Cw_seq ?_
  refine Cw_region ?_
  obtain ⟨x59, hx60, H⟩ := bnd H
  refine Ow_cons rfl (OpW_call rfl Tryd.call6 rfl rfl (c_M_law26_awake  x59 hx60 _ _ hT) ?_)
  rintro _ _ _ - ⟨rfl, rfl, rfl⟩
  refine Ow_q rfl rfl rfl (Qt_not rfl) ?_
  refine Ow_nil ?_
  refine Cw_cond rfl ?_ ?_
  · intro h61
    have h61 := nt_t (h61)
    have H := iff_ (btf h61) H
    refine Cw_seq ?_
    refine Cw_region ?_
    refine Ow_q rfl rfl rfl (Qt_assign rfl) ?_
    refine Ow_nil ?_
    refine Cw_ret ?_
    obtain ey0 := inj1 H
    subst y0
    refine ⟨(by first | exact .inl rfl | exact .inr rfl), [(.bool false)], ⟨(.bool false), _, rfl, rfl, rfl⟩, ?_⟩
    refine Shift.rem .here ?_
    refine Shift.rem .here ?_
    refine Shift.done ?_
    exact ⟨rfl, rfl, rfl⟩
  · intro h61
    have h61 := nt_f (h61)
    have H := ift h61 H
    refine Cw_skip ?_
    refine Cw_join (fun env' K' G' => ∃ (b86 : Nat) (b87 : Nat) (i88 : Int) (i89 : Int) (i90 : Int) (t91 : Bool) (i92 : Int) (i93 : Int) (i94 : Int) (i95 : Int) (t96 : Bool) (i97 : Int), [(2, (.bool p2)), (7, (.pointer (some ((⟨b86, 0, none⟩ : Addr).add 0)))), (8, (.pointer (some ((⟨b87, 0, none⟩ : Addr).add 0))))] = env' ∧ K = K' ∧ (.blk b87 24 (Result.cells (Result.mk i88 i89 i90 t91 i92))) :: (.blk b86 24 (Result.cells (Result.mk i93 i94 i95 t96 i97))) :: G = G' ∧ M_law26_ReportDistinct_J1 p2 i88 i89 i90 t91 i92 i93 i94 i95 t96 i97 = some y0) ?_ ?_
    · skip
      obtain ⟨x98, hx99, H⟩ := bnd H
      obtain ⟨x100, hx101, H⟩ := bnd H
      refine Cw_region_any [.blk b55 24 (Result.cells p1), .blk b54 24 (Result.cells p0)] rfl (Inc.cons (.head _) (Inc.cons (.tail _ (.head _)) Inc.nil)) ?_
      refine Aw_q 0 rfl (by kernel_rfl) (by kernel_rfl) (by kernel_rfl) rfl rfl rfl (Qt_loadA (m := 5) (cs := (Result.cells p0)) rfl rfl rfl rfl ⟨rfl, Rdc.blk (.tail _ (.head _)) rfl⟩) ?_
      refine Aw_q 2 rfl (by kernel_rfl) (by kernel_rfl) (by kernel_rfl) rfl rfl rfl (Qt_loadA (m := 5) (cs := (Result.cells p1)) rfl rfl rfl rfl ⟨rfl, Rdc.blk (.head _) rfl⟩) ?_
      refine Aw_three 1 4 5 (by kernel_rfl) ?_ ?_ ?_
      · skip
        refine id (Ax_mk rfl rfl ?_)
        refine OpW_call rfl Tryd.call9 rfl rfl (c_M_law26_clean p0 x98 hx99 _ _ ) ?_
        rintro _ _ _ - ⟨rfl, rfl, rfl⟩
        refine ⟨(Inc.cons (.head _) (Inc.cons (.tail _ (.head _)) Inc.nil)), ?_⟩
        refine Aw_three 3 4 5 (by kernel_rfl) ?_ ?_ ?_
        · skip
          refine id (Ax_mk rfl rfl ?_)
          refine OpW_call rfl Tryd.call9 rfl rfl (c_M_law26_clean p1 x100 hx101 _ _ ) ?_
          rintro _ _ _ - ⟨rfl, rfl, rfl⟩
          refine ⟨(Inc.cons (.head _) (Inc.cons (.tail _ (.head _)) Inc.nil)), ?_⟩
          refine Aw_two 4 5 (by kernel_rfl) ?_ ?_
          · skip
            refine id (Ax_mk rfl rfl ?_)
            refine OpW_alloc (cs := (Result.cells (Result.mk 0 0 0 false 0))) rfl rfl rfl rfl (fun b104 => ⟨(Inc.cons (.tail _ (.head _)) (Inc.cons (.tail _ (.tail _ (.head _))) Inc.nil)), ?_⟩)
            refine Aw_one 5 (by kernel_rfl) (Ax_mk rfl rfl ?_)
            refine OpW_alloc (cs := (Result.cells (Result.mk 0 0 0 false 0))) rfl rfl rfl rfl (fun b105 => ⟨(Inc.cons (.tail _ (.tail _ (.head _))) (Inc.cons (.tail _ (.tail _ (.tail _ (.head _)))) Inc.nil)), ?_⟩)
            refine Aw_one 6 (by kernel_rfl) (Ax_mk rfl rfl ?_)
            refine OpW_store (vs := (Result.cells x98)) (all' := (Result.cells x98)) rfl rfl rfl rfl rfl (.there .here) rfl rfl rfl ⟨(Inc.cons (.tail _ (.tail _ (.head _))) (Inc.cons (.tail _ (.tail _ (.tail _ (.head _)))) Inc.nil)), ?_⟩
            refine Aw_one 7 (by kernel_rfl) (Ax_mk rfl rfl ?_)
            refine OpW_store (vs := (Result.cells x100)) (all' := (Result.cells x100)) rfl rfl rfl rfl rfl .here rfl rfl rfl ⟨(Inc.cons (.tail _ (.tail _ (.head _))) (Inc.cons (.tail _ (.tail _ (.tail _ (.head _)))) Inc.nil)), ?_⟩
            refine Aw_done (by kernel_rfl) ?_
            refine Shift.pull (.there .here) ?_
            refine Shift.pull (.there .here) ?_
            refine Shift.rem (.there (.there .here)) ?_
            refine Shift.rem (.there (.there .here)) ?_
            refine Shift.done ?_
            exact ⟨[(2, (.bool p2)), (7, (.pointer (some ((⟨b104, 0, none⟩ : Addr).add 0)))), (8, (.pointer (some ((⟨b105, 0, none⟩ : Addr).add 0))))], ⟨rfl, rfl, rfl, trivial⟩, b104, b105, x100.kind, x100.case_, x100.value, x100.ok, x100.number, x98.kind, x98.case_, x98.value, x98.ok, x98.number, rfl, rfl, rfl, H⟩
          · skip
            refine id (Ax_mk rfl rfl ?_)
            refine OpW_alloc (cs := (Result.cells (Result.mk 0 0 0 false 0))) rfl rfl rfl rfl (fun b106 => ⟨(Inc.cons (.tail _ (.head _)) (Inc.cons (.tail _ (.tail _ (.head _))) Inc.nil)), ?_⟩)
            refine Aw_one 4 (by kernel_rfl) (Ax_mk rfl rfl ?_)
            refine OpW_alloc (cs := (Result.cells (Result.mk 0 0 0 false 0))) rfl rfl rfl rfl (fun b107 => ⟨(Inc.cons (.tail _ (.tail _ (.head _))) (Inc.cons (.tail _ (.tail _ (.tail _ (.head _)))) Inc.nil)), ?_⟩)
            refine Aw_one 6 (by kernel_rfl) (Ax_mk rfl rfl ?_)
            refine OpW_store (vs := (Result.cells x98)) (all' := (Result.cells x98)) rfl rfl rfl rfl rfl .here rfl rfl rfl ⟨(Inc.cons (.tail _ (.tail _ (.head _))) (Inc.cons (.tail _ (.tail _ (.tail _ (.head _)))) Inc.nil)), ?_⟩
            refine Aw_one 7 (by kernel_rfl) (Ax_mk rfl rfl ?_)
            refine OpW_store (vs := (Result.cells x100)) (all' := (Result.cells x100)) rfl rfl rfl rfl rfl (.there .here) rfl rfl rfl ⟨(Inc.cons (.tail _ (.tail _ (.head _))) (Inc.cons (.tail _ (.tail _ (.tail _ (.head _)))) Inc.nil)), ?_⟩
            refine Aw_done (by kernel_rfl) ?_
            refine Shift.pull (.there .here) ?_
            refine Shift.rem (.there (.there .here)) ?_
            refine Shift.rem (.there (.there .here)) ?_
            refine Shift.done ?_
            exact ⟨[(2, (.bool p2)), (7, (.pointer (some ((⟨b107, 0, none⟩ : Addr).add 0)))), (8, (.pointer (some ((⟨b106, 0, none⟩ : Addr).add 0))))], ⟨rfl, rfl, rfl, trivial⟩, b107, b106, x100.kind, x100.case_, x100.value, x100.ok, x100.number, x98.kind, x98.case_, x98.value, x98.ok, x98.number, rfl, rfl, rfl, H⟩
        · skip
          refine id (Ax_mk rfl rfl ?_)
          refine OpW_alloc (cs := (Result.cells (Result.mk 0 0 0 false 0))) rfl rfl rfl rfl (fun b108 => ⟨(Inc.cons (.tail _ (.head _)) (Inc.cons (.tail _ (.tail _ (.head _))) Inc.nil)), ?_⟩)
          refine Aw_two 3 5 (by kernel_rfl) ?_ ?_
          · skip
            refine id (Ax_mk rfl rfl ?_)
            refine OpW_call rfl Tryd.call9 rfl rfl (c_M_law26_clean p1 x100 hx101 _ _ ) ?_
            rintro _ _ _ - ⟨rfl, rfl, rfl⟩
            refine ⟨(Inc.cons (.tail _ (.head _)) (Inc.cons (.tail _ (.tail _ (.head _))) Inc.nil)), ?_⟩
            refine Aw_one 5 (by kernel_rfl) (Ax_mk rfl rfl ?_)
            refine OpW_alloc (cs := (Result.cells (Result.mk 0 0 0 false 0))) rfl rfl rfl rfl (fun b109 => ⟨(Inc.cons (.tail _ (.tail _ (.head _))) (Inc.cons (.tail _ (.tail _ (.tail _ (.head _)))) Inc.nil)), ?_⟩)
            refine Aw_one 6 (by kernel_rfl) (Ax_mk rfl rfl ?_)
            refine OpW_store (vs := (Result.cells x98)) (all' := (Result.cells x98)) rfl rfl rfl rfl rfl (.there .here) rfl rfl rfl ⟨(Inc.cons (.tail _ (.tail _ (.head _))) (Inc.cons (.tail _ (.tail _ (.tail _ (.head _)))) Inc.nil)), ?_⟩
            refine Aw_one 7 (by kernel_rfl) (Ax_mk rfl rfl ?_)
            refine OpW_store (vs := (Result.cells x100)) (all' := (Result.cells x100)) rfl rfl rfl rfl rfl .here rfl rfl rfl ⟨(Inc.cons (.tail _ (.tail _ (.head _))) (Inc.cons (.tail _ (.tail _ (.tail _ (.head _)))) Inc.nil)), ?_⟩
            refine Aw_done (by kernel_rfl) ?_
            refine Shift.pull (.there .here) ?_
            refine Shift.pull (.there .here) ?_
            refine Shift.rem (.there (.there .here)) ?_
            refine Shift.rem (.there (.there .here)) ?_
            refine Shift.done ?_
            exact ⟨[(2, (.bool p2)), (7, (.pointer (some ((⟨b108, 0, none⟩ : Addr).add 0)))), (8, (.pointer (some ((⟨b109, 0, none⟩ : Addr).add 0))))], ⟨rfl, rfl, rfl, trivial⟩, b108, b109, x100.kind, x100.case_, x100.value, x100.ok, x100.number, x98.kind, x98.case_, x98.value, x98.ok, x98.number, rfl, rfl, rfl, H⟩
          · skip
            refine id (Ax_mk rfl rfl ?_)
            refine OpW_alloc (cs := (Result.cells (Result.mk 0 0 0 false 0))) rfl rfl rfl rfl (fun b110 => ⟨(Inc.cons (.tail _ (.tail _ (.head _))) (Inc.cons (.tail _ (.tail _ (.tail _ (.head _)))) Inc.nil)), ?_⟩)
            refine Aw_one 3 (by kernel_rfl) (Ax_mk rfl rfl ?_)
            refine OpW_call rfl Tryd.call9 rfl rfl (c_M_law26_clean p1 x100 hx101 _ _ ) ?_
            rintro _ _ _ - ⟨rfl, rfl, rfl⟩
            refine ⟨(Inc.cons (.tail _ (.tail _ (.head _))) (Inc.cons (.tail _ (.tail _ (.tail _ (.head _)))) Inc.nil)), ?_⟩
            refine Aw_one 6 (by kernel_rfl) (Ax_mk rfl rfl ?_)
            refine OpW_store (vs := (Result.cells x98)) (all' := (Result.cells x98)) rfl rfl rfl rfl rfl (.there .here) rfl rfl rfl ⟨(Inc.cons (.tail _ (.tail _ (.head _))) (Inc.cons (.tail _ (.tail _ (.tail _ (.head _)))) Inc.nil)), ?_⟩
            refine Aw_one 7 (by kernel_rfl) (Ax_mk rfl rfl ?_)
            refine OpW_store (vs := (Result.cells x100)) (all' := (Result.cells x100)) rfl rfl rfl rfl rfl .here rfl rfl rfl ⟨(Inc.cons (.tail _ (.tail _ (.head _))) (Inc.cons (.tail _ (.tail _ (.tail _ (.head _)))) Inc.nil)), ?_⟩
            refine Aw_done (by kernel_rfl) ?_
            refine Shift.pull (.there .here) ?_
            refine Shift.pull (.there .here) ?_
            refine Shift.rem (.there (.there .here)) ?_
            refine Shift.rem (.there (.there .here)) ?_
            refine Shift.done ?_
            exact ⟨[(2, (.bool p2)), (7, (.pointer (some ((⟨b108, 0, none⟩ : Addr).add 0)))), (8, (.pointer (some ((⟨b110, 0, none⟩ : Addr).add 0))))], ⟨rfl, rfl, rfl, trivial⟩, b108, b110, x100.kind, x100.case_, x100.value, x100.ok, x100.number, x98.kind, x98.case_, x98.value, x98.ok, x98.number, rfl, rfl, rfl, H⟩
        · skip
          refine id (Ax_mk rfl rfl ?_)
          refine OpW_alloc (cs := (Result.cells (Result.mk 0 0 0 false 0))) rfl rfl rfl rfl (fun b111 => ⟨(Inc.cons (.tail _ (.head _)) (Inc.cons (.tail _ (.tail _ (.head _))) Inc.nil)), ?_⟩)
          refine Aw_two 3 4 (by kernel_rfl) ?_ ?_
          · skip
            refine id (Ax_mk rfl rfl ?_)
            refine OpW_call rfl Tryd.call9 rfl rfl (c_M_law26_clean p1 x100 hx101 _ _ ) ?_
            rintro _ _ _ - ⟨rfl, rfl, rfl⟩
            refine ⟨(Inc.cons (.tail _ (.head _)) (Inc.cons (.tail _ (.tail _ (.head _))) Inc.nil)), ?_⟩
            refine Aw_one 4 (by kernel_rfl) (Ax_mk rfl rfl ?_)
            refine OpW_alloc (cs := (Result.cells (Result.mk 0 0 0 false 0))) rfl rfl rfl rfl (fun b112 => ⟨(Inc.cons (.tail _ (.tail _ (.head _))) (Inc.cons (.tail _ (.tail _ (.tail _ (.head _)))) Inc.nil)), ?_⟩)
            refine Aw_one 6 (by kernel_rfl) (Ax_mk rfl rfl ?_)
            refine OpW_store (vs := (Result.cells x98)) (all' := (Result.cells x98)) rfl rfl rfl rfl rfl .here rfl rfl rfl ⟨(Inc.cons (.tail _ (.tail _ (.head _))) (Inc.cons (.tail _ (.tail _ (.tail _ (.head _)))) Inc.nil)), ?_⟩
            refine Aw_one 7 (by kernel_rfl) (Ax_mk rfl rfl ?_)
            refine OpW_store (vs := (Result.cells x100)) (all' := (Result.cells x100)) rfl rfl rfl rfl rfl (.there .here) rfl rfl rfl ⟨(Inc.cons (.tail _ (.tail _ (.head _))) (Inc.cons (.tail _ (.tail _ (.tail _ (.head _)))) Inc.nil)), ?_⟩
            refine Aw_done (by kernel_rfl) ?_
            refine Shift.pull (.there .here) ?_
            refine Shift.rem (.there (.there .here)) ?_
            refine Shift.rem (.there (.there .here)) ?_
            refine Shift.done ?_
            exact ⟨[(2, (.bool p2)), (7, (.pointer (some ((⟨b112, 0, none⟩ : Addr).add 0)))), (8, (.pointer (some ((⟨b111, 0, none⟩ : Addr).add 0))))], ⟨rfl, rfl, rfl, trivial⟩, b112, b111, x100.kind, x100.case_, x100.value, x100.ok, x100.number, x98.kind, x98.case_, x98.value, x98.ok, x98.number, rfl, rfl, rfl, H⟩
          · skip
            refine id (Ax_mk rfl rfl ?_)
            refine OpW_alloc (cs := (Result.cells (Result.mk 0 0 0 false 0))) rfl rfl rfl rfl (fun b113 => ⟨(Inc.cons (.tail _ (.tail _ (.head _))) (Inc.cons (.tail _ (.tail _ (.tail _ (.head _)))) Inc.nil)), ?_⟩)
            refine Aw_one 3 (by kernel_rfl) (Ax_mk rfl rfl ?_)
            refine OpW_call rfl Tryd.call9 rfl rfl (c_M_law26_clean p1 x100 hx101 _ _ ) ?_
            rintro _ _ _ - ⟨rfl, rfl, rfl⟩
            refine ⟨(Inc.cons (.tail _ (.tail _ (.head _))) (Inc.cons (.tail _ (.tail _ (.tail _ (.head _)))) Inc.nil)), ?_⟩
            refine Aw_one 6 (by kernel_rfl) (Ax_mk rfl rfl ?_)
            refine OpW_store (vs := (Result.cells x98)) (all' := (Result.cells x98)) rfl rfl rfl rfl rfl .here rfl rfl rfl ⟨(Inc.cons (.tail _ (.tail _ (.head _))) (Inc.cons (.tail _ (.tail _ (.tail _ (.head _)))) Inc.nil)), ?_⟩
            refine Aw_one 7 (by kernel_rfl) (Ax_mk rfl rfl ?_)
            refine OpW_store (vs := (Result.cells x100)) (all' := (Result.cells x100)) rfl rfl rfl rfl rfl (.there .here) rfl rfl rfl ⟨(Inc.cons (.tail _ (.tail _ (.head _))) (Inc.cons (.tail _ (.tail _ (.tail _ (.head _)))) Inc.nil)), ?_⟩
            refine Aw_done (by kernel_rfl) ?_
            refine Shift.pull (.there .here) ?_
            refine Shift.rem (.there (.there .here)) ?_
            refine Shift.rem (.there (.there .here)) ?_
            refine Shift.done ?_
            exact ⟨[(2, (.bool p2)), (7, (.pointer (some ((⟨b113, 0, none⟩ : Addr).add 0)))), (8, (.pointer (some ((⟨b111, 0, none⟩ : Addr).add 0))))], ⟨rfl, rfl, rfl, trivial⟩, b113, b111, x100.kind, x100.case_, x100.value, x100.ok, x100.number, x98.kind, x98.case_, x98.value, x98.ok, x98.number, rfl, rfl, rfl, H⟩
      · skip
        refine id (Ax_mk rfl rfl ?_)
        refine OpW_alloc (cs := (Result.cells (Result.mk 0 0 0 false 0))) rfl rfl rfl rfl (fun b114 => ⟨(Inc.cons (.tail _ (.head _)) (Inc.cons (.tail _ (.tail _ (.head _))) Inc.nil)), ?_⟩)
        refine Aw_two 1 5 (by kernel_rfl) ?_ ?_
        · skip
          refine id (Ax_mk rfl rfl ?_)
          refine OpW_call rfl Tryd.call9 rfl rfl (c_M_law26_clean p0 x98 hx99 _ _ ) ?_
          rintro _ _ _ - ⟨rfl, rfl, rfl⟩
          refine ⟨(Inc.cons (.tail _ (.head _)) (Inc.cons (.tail _ (.tail _ (.head _))) Inc.nil)), ?_⟩
          refine Aw_two 3 5 (by kernel_rfl) ?_ ?_
          · skip
            refine id (Ax_mk rfl rfl ?_)
            refine OpW_call rfl Tryd.call9 rfl rfl (c_M_law26_clean p1 x100 hx101 _ _ ) ?_
            rintro _ _ _ - ⟨rfl, rfl, rfl⟩
            refine ⟨(Inc.cons (.tail _ (.head _)) (Inc.cons (.tail _ (.tail _ (.head _))) Inc.nil)), ?_⟩
            refine Aw_one 5 (by kernel_rfl) (Ax_mk rfl rfl ?_)
            refine OpW_alloc (cs := (Result.cells (Result.mk 0 0 0 false 0))) rfl rfl rfl rfl (fun b115 => ⟨(Inc.cons (.tail _ (.tail _ (.head _))) (Inc.cons (.tail _ (.tail _ (.tail _ (.head _)))) Inc.nil)), ?_⟩)
            refine Aw_one 6 (by kernel_rfl) (Ax_mk rfl rfl ?_)
            refine OpW_store (vs := (Result.cells x98)) (all' := (Result.cells x98)) rfl rfl rfl rfl rfl (.there .here) rfl rfl rfl ⟨(Inc.cons (.tail _ (.tail _ (.head _))) (Inc.cons (.tail _ (.tail _ (.tail _ (.head _)))) Inc.nil)), ?_⟩
            refine Aw_one 7 (by kernel_rfl) (Ax_mk rfl rfl ?_)
            refine OpW_store (vs := (Result.cells x100)) (all' := (Result.cells x100)) rfl rfl rfl rfl rfl .here rfl rfl rfl ⟨(Inc.cons (.tail _ (.tail _ (.head _))) (Inc.cons (.tail _ (.tail _ (.tail _ (.head _)))) Inc.nil)), ?_⟩
            refine Aw_done (by kernel_rfl) ?_
            refine Shift.pull (.there .here) ?_
            refine Shift.pull (.there .here) ?_
            refine Shift.rem (.there (.there .here)) ?_
            refine Shift.rem (.there (.there .here)) ?_
            refine Shift.done ?_
            exact ⟨[(2, (.bool p2)), (7, (.pointer (some ((⟨b114, 0, none⟩ : Addr).add 0)))), (8, (.pointer (some ((⟨b115, 0, none⟩ : Addr).add 0))))], ⟨rfl, rfl, rfl, trivial⟩, b114, b115, x100.kind, x100.case_, x100.value, x100.ok, x100.number, x98.kind, x98.case_, x98.value, x98.ok, x98.number, rfl, rfl, rfl, H⟩
          · skip
            refine id (Ax_mk rfl rfl ?_)
            refine OpW_alloc (cs := (Result.cells (Result.mk 0 0 0 false 0))) rfl rfl rfl rfl (fun b116 => ⟨(Inc.cons (.tail _ (.tail _ (.head _))) (Inc.cons (.tail _ (.tail _ (.tail _ (.head _)))) Inc.nil)), ?_⟩)
            refine Aw_one 3 (by kernel_rfl) (Ax_mk rfl rfl ?_)
            refine OpW_call rfl Tryd.call9 rfl rfl (c_M_law26_clean p1 x100 hx101 _ _ ) ?_
            rintro _ _ _ - ⟨rfl, rfl, rfl⟩
            refine ⟨(Inc.cons (.tail _ (.tail _ (.head _))) (Inc.cons (.tail _ (.tail _ (.tail _ (.head _)))) Inc.nil)), ?_⟩
            refine Aw_one 6 (by kernel_rfl) (Ax_mk rfl rfl ?_)
            refine OpW_store (vs := (Result.cells x98)) (all' := (Result.cells x98)) rfl rfl rfl rfl rfl (.there .here) rfl rfl rfl ⟨(Inc.cons (.tail _ (.tail _ (.head _))) (Inc.cons (.tail _ (.tail _ (.tail _ (.head _)))) Inc.nil)), ?_⟩
            refine Aw_one 7 (by kernel_rfl) (Ax_mk rfl rfl ?_)
            refine OpW_store (vs := (Result.cells x100)) (all' := (Result.cells x100)) rfl rfl rfl rfl rfl .here rfl rfl rfl ⟨(Inc.cons (.tail _ (.tail _ (.head _))) (Inc.cons (.tail _ (.tail _ (.tail _ (.head _)))) Inc.nil)), ?_⟩
            refine Aw_done (by kernel_rfl) ?_
            refine Shift.pull (.there .here) ?_
            refine Shift.pull (.there .here) ?_
            refine Shift.rem (.there (.there .here)) ?_
            refine Shift.rem (.there (.there .here)) ?_
            refine Shift.done ?_
            exact ⟨[(2, (.bool p2)), (7, (.pointer (some ((⟨b114, 0, none⟩ : Addr).add 0)))), (8, (.pointer (some ((⟨b116, 0, none⟩ : Addr).add 0))))], ⟨rfl, rfl, rfl, trivial⟩, b114, b116, x100.kind, x100.case_, x100.value, x100.ok, x100.number, x98.kind, x98.case_, x98.value, x98.ok, x98.number, rfl, rfl, rfl, H⟩
        · skip
          refine id (Ax_mk rfl rfl ?_)
          refine OpW_alloc (cs := (Result.cells (Result.mk 0 0 0 false 0))) rfl rfl rfl rfl (fun b117 => ⟨(Inc.cons (.tail _ (.tail _ (.head _))) (Inc.cons (.tail _ (.tail _ (.tail _ (.head _)))) Inc.nil)), ?_⟩)
          refine Aw_one 1 (by kernel_rfl) (Ax_mk rfl rfl ?_)
          refine OpW_call rfl Tryd.call9 rfl rfl (c_M_law26_clean p0 x98 hx99 _ _ ) ?_
          rintro _ _ _ - ⟨rfl, rfl, rfl⟩
          refine ⟨(Inc.cons (.tail _ (.tail _ (.head _))) (Inc.cons (.tail _ (.tail _ (.tail _ (.head _)))) Inc.nil)), ?_⟩
          refine Aw_one 3 (by kernel_rfl) (Ax_mk rfl rfl ?_)
          refine OpW_call rfl Tryd.call9 rfl rfl (c_M_law26_clean p1 x100 hx101 _ _ ) ?_
          rintro _ _ _ - ⟨rfl, rfl, rfl⟩
          refine ⟨(Inc.cons (.tail _ (.tail _ (.head _))) (Inc.cons (.tail _ (.tail _ (.tail _ (.head _)))) Inc.nil)), ?_⟩
          refine Aw_one 6 (by kernel_rfl) (Ax_mk rfl rfl ?_)
          refine OpW_store (vs := (Result.cells x98)) (all' := (Result.cells x98)) rfl rfl rfl rfl rfl (.there .here) rfl rfl rfl ⟨(Inc.cons (.tail _ (.tail _ (.head _))) (Inc.cons (.tail _ (.tail _ (.tail _ (.head _)))) Inc.nil)), ?_⟩
          refine Aw_one 7 (by kernel_rfl) (Ax_mk rfl rfl ?_)
          refine OpW_store (vs := (Result.cells x100)) (all' := (Result.cells x100)) rfl rfl rfl rfl rfl .here rfl rfl rfl ⟨(Inc.cons (.tail _ (.tail _ (.head _))) (Inc.cons (.tail _ (.tail _ (.tail _ (.head _)))) Inc.nil)), ?_⟩
          refine Aw_done (by kernel_rfl) ?_
          refine Shift.pull (.there .here) ?_
          refine Shift.pull (.there .here) ?_
          refine Shift.rem (.there (.there .here)) ?_
          refine Shift.rem (.there (.there .here)) ?_
          refine Shift.done ?_
          exact ⟨[(2, (.bool p2)), (7, (.pointer (some ((⟨b114, 0, none⟩ : Addr).add 0)))), (8, (.pointer (some ((⟨b117, 0, none⟩ : Addr).add 0))))], ⟨rfl, rfl, rfl, trivial⟩, b114, b117, x100.kind, x100.case_, x100.value, x100.ok, x100.number, x98.kind, x98.case_, x98.value, x98.ok, x98.number, rfl, rfl, rfl, H⟩
      · skip
        refine id (Ax_mk rfl rfl ?_)
        refine OpW_alloc (cs := (Result.cells (Result.mk 0 0 0 false 0))) rfl rfl rfl rfl (fun b118 => ⟨(Inc.cons (.tail _ (.head _)) (Inc.cons (.tail _ (.tail _ (.head _))) Inc.nil)), ?_⟩)
        refine Aw_two 1 4 (by kernel_rfl) ?_ ?_
        · skip
          refine id (Ax_mk rfl rfl ?_)
          refine OpW_call rfl Tryd.call9 rfl rfl (c_M_law26_clean p0 x98 hx99 _ _ ) ?_
          rintro _ _ _ - ⟨rfl, rfl, rfl⟩
          refine ⟨(Inc.cons (.tail _ (.head _)) (Inc.cons (.tail _ (.tail _ (.head _))) Inc.nil)), ?_⟩
          refine Aw_two 3 4 (by kernel_rfl) ?_ ?_
          · skip
            refine id (Ax_mk rfl rfl ?_)
            refine OpW_call rfl Tryd.call9 rfl rfl (c_M_law26_clean p1 x100 hx101 _ _ ) ?_
            rintro _ _ _ - ⟨rfl, rfl, rfl⟩
            refine ⟨(Inc.cons (.tail _ (.head _)) (Inc.cons (.tail _ (.tail _ (.head _))) Inc.nil)), ?_⟩
            refine Aw_one 4 (by kernel_rfl) (Ax_mk rfl rfl ?_)
            refine OpW_alloc (cs := (Result.cells (Result.mk 0 0 0 false 0))) rfl rfl rfl rfl (fun b119 => ⟨(Inc.cons (.tail _ (.tail _ (.head _))) (Inc.cons (.tail _ (.tail _ (.tail _ (.head _)))) Inc.nil)), ?_⟩)
            refine Aw_one 6 (by kernel_rfl) (Ax_mk rfl rfl ?_)
            refine OpW_store (vs := (Result.cells x98)) (all' := (Result.cells x98)) rfl rfl rfl rfl rfl .here rfl rfl rfl ⟨(Inc.cons (.tail _ (.tail _ (.head _))) (Inc.cons (.tail _ (.tail _ (.tail _ (.head _)))) Inc.nil)), ?_⟩
            refine Aw_one 7 (by kernel_rfl) (Ax_mk rfl rfl ?_)
            refine OpW_store (vs := (Result.cells x100)) (all' := (Result.cells x100)) rfl rfl rfl rfl rfl (.there .here) rfl rfl rfl ⟨(Inc.cons (.tail _ (.tail _ (.head _))) (Inc.cons (.tail _ (.tail _ (.tail _ (.head _)))) Inc.nil)), ?_⟩
            refine Aw_done (by kernel_rfl) ?_
            refine Shift.pull (.there .here) ?_
            refine Shift.rem (.there (.there .here)) ?_
            refine Shift.rem (.there (.there .here)) ?_
            refine Shift.done ?_
            exact ⟨[(2, (.bool p2)), (7, (.pointer (some ((⟨b119, 0, none⟩ : Addr).add 0)))), (8, (.pointer (some ((⟨b118, 0, none⟩ : Addr).add 0))))], ⟨rfl, rfl, rfl, trivial⟩, b119, b118, x100.kind, x100.case_, x100.value, x100.ok, x100.number, x98.kind, x98.case_, x98.value, x98.ok, x98.number, rfl, rfl, rfl, H⟩
          · skip
            refine id (Ax_mk rfl rfl ?_)
            refine OpW_alloc (cs := (Result.cells (Result.mk 0 0 0 false 0))) rfl rfl rfl rfl (fun b120 => ⟨(Inc.cons (.tail _ (.tail _ (.head _))) (Inc.cons (.tail _ (.tail _ (.tail _ (.head _)))) Inc.nil)), ?_⟩)
            refine Aw_one 3 (by kernel_rfl) (Ax_mk rfl rfl ?_)
            refine OpW_call rfl Tryd.call9 rfl rfl (c_M_law26_clean p1 x100 hx101 _ _ ) ?_
            rintro _ _ _ - ⟨rfl, rfl, rfl⟩
            refine ⟨(Inc.cons (.tail _ (.tail _ (.head _))) (Inc.cons (.tail _ (.tail _ (.tail _ (.head _)))) Inc.nil)), ?_⟩
            refine Aw_one 6 (by kernel_rfl) (Ax_mk rfl rfl ?_)
            refine OpW_store (vs := (Result.cells x98)) (all' := (Result.cells x98)) rfl rfl rfl rfl rfl .here rfl rfl rfl ⟨(Inc.cons (.tail _ (.tail _ (.head _))) (Inc.cons (.tail _ (.tail _ (.tail _ (.head _)))) Inc.nil)), ?_⟩
            refine Aw_one 7 (by kernel_rfl) (Ax_mk rfl rfl ?_)
            refine OpW_store (vs := (Result.cells x100)) (all' := (Result.cells x100)) rfl rfl rfl rfl rfl (.there .here) rfl rfl rfl ⟨(Inc.cons (.tail _ (.tail _ (.head _))) (Inc.cons (.tail _ (.tail _ (.tail _ (.head _)))) Inc.nil)), ?_⟩
            refine Aw_done (by kernel_rfl) ?_
            refine Shift.pull (.there .here) ?_
            refine Shift.rem (.there (.there .here)) ?_
            refine Shift.rem (.there (.there .here)) ?_
            refine Shift.done ?_
            exact ⟨[(2, (.bool p2)), (7, (.pointer (some ((⟨b120, 0, none⟩ : Addr).add 0)))), (8, (.pointer (some ((⟨b118, 0, none⟩ : Addr).add 0))))], ⟨rfl, rfl, rfl, trivial⟩, b120, b118, x100.kind, x100.case_, x100.value, x100.ok, x100.number, x98.kind, x98.case_, x98.value, x98.ok, x98.number, rfl, rfl, rfl, H⟩
        · skip
          refine id (Ax_mk rfl rfl ?_)
          refine OpW_alloc (cs := (Result.cells (Result.mk 0 0 0 false 0))) rfl rfl rfl rfl (fun b121 => ⟨(Inc.cons (.tail _ (.tail _ (.head _))) (Inc.cons (.tail _ (.tail _ (.tail _ (.head _)))) Inc.nil)), ?_⟩)
          refine Aw_one 1 (by kernel_rfl) (Ax_mk rfl rfl ?_)
          refine OpW_call rfl Tryd.call9 rfl rfl (c_M_law26_clean p0 x98 hx99 _ _ ) ?_
          rintro _ _ _ - ⟨rfl, rfl, rfl⟩
          refine ⟨(Inc.cons (.tail _ (.tail _ (.head _))) (Inc.cons (.tail _ (.tail _ (.tail _ (.head _)))) Inc.nil)), ?_⟩
          refine Aw_one 3 (by kernel_rfl) (Ax_mk rfl rfl ?_)
          refine OpW_call rfl Tryd.call9 rfl rfl (c_M_law26_clean p1 x100 hx101 _ _ ) ?_
          rintro _ _ _ - ⟨rfl, rfl, rfl⟩
          refine ⟨(Inc.cons (.tail _ (.tail _ (.head _))) (Inc.cons (.tail _ (.tail _ (.tail _ (.head _)))) Inc.nil)), ?_⟩
          refine Aw_one 6 (by kernel_rfl) (Ax_mk rfl rfl ?_)
          refine OpW_store (vs := (Result.cells x98)) (all' := (Result.cells x98)) rfl rfl rfl rfl rfl .here rfl rfl rfl ⟨(Inc.cons (.tail _ (.tail _ (.head _))) (Inc.cons (.tail _ (.tail _ (.tail _ (.head _)))) Inc.nil)), ?_⟩
          refine Aw_one 7 (by kernel_rfl) (Ax_mk rfl rfl ?_)
          refine OpW_store (vs := (Result.cells x100)) (all' := (Result.cells x100)) rfl rfl rfl rfl rfl (.there .here) rfl rfl rfl ⟨(Inc.cons (.tail _ (.tail _ (.head _))) (Inc.cons (.tail _ (.tail _ (.tail _ (.head _)))) Inc.nil)), ?_⟩
          refine Aw_done (by kernel_rfl) ?_
          refine Shift.pull (.there .here) ?_
          refine Shift.rem (.there (.there .here)) ?_
          refine Shift.rem (.there (.there .here)) ?_
          refine Shift.done ?_
          exact ⟨[(2, (.bool p2)), (7, (.pointer (some ((⟨b121, 0, none⟩ : Addr).add 0)))), (8, (.pointer (some ((⟨b118, 0, none⟩ : Addr).add 0))))], ⟨rfl, rfl, rfl, trivial⟩, b121, b118, x100.kind, x100.case_, x100.value, x100.ok, x100.number, x98.kind, x98.case_, x98.value, x98.ok, x98.number, rfl, rfl, rfl, H⟩
    rintro _ _ _ - ⟨b86, b87, i88, i89, i90, t91, i92, i93, i94, i95, t96, i97, rfl, rfl, rfl, H⟩
    unfold M_law26_ReportDistinct_J1 at H
    refine Cw_join (fun env' K' G' => ∃ (i125 : Int) (i126 : Int) (i127 : Int) (t128 : Bool) (i129 : Int), [(7, (.pointer (some ((⟨b86, 0, none⟩ : Addr).add 0)))), (8, (.pointer (some ((⟨b87, 0, none⟩ : Addr).add 0))))] = env' ∧ K = K' ∧ (.blk b87 24 (Result.cells (Result.mk i125 i126 i127 t128 i129))) :: (.blk b86 24 (Result.cells (Result.mk i93 i94 i95 t96 i97))) :: G = G' ∧ M_law26_ReportDistinct_J2 i93 i94 i95 t96 i97 i125 i126 i127 t128 i129 = some y0) ?_ ?_
    · skip
      refine Cw_seq ?_
      refine Cw_region ?_
      refine Ow_q rfl rfl rfl (Qt_move rfl) ?_
      refine Ow_nil ?_
      refine Cw_cond rfl ?_ ?_
      · intro h130
        have H := ift h130 H
        refine Cw_seq ?_
        refine Cw_region ?_
        refine Ow_q rfl rfl rfl (Qt_fieldAddr (m := 0) rfl rfl rfl rfl rfl) ?_
        refine Ow_q rfl rfl rfl (Qt_load1 (v := (.int .i64 i93)) rfl rfl rfl (Rdc.blk (.tail _ (.head _)) rfl)) ?_
        refine Ow_q rfl rfl rfl (Qt_fieldAddr (m := 0) rfl rfl rfl rfl rfl) ?_
        refine Ow_cons rfl (OpW_store (vs := [(.int .i64 i93)]) (all' := (Result.cells (Result.mk i93 i89 i90 t91 i92))) rfl rfl rfl rfl rfl .here rfl rfl rfl ?_)
        refine Ow_nil ?_
        refine Cw_region ?_
        refine Ow_q rfl rfl rfl (Qt_loadA (m := 5) (cs := (Result.cells (Result.mk i93 i89 i90 t91 i92))) rfl rfl rfl rfl ⟨rfl, Rdc.blk (.head _) rfl⟩) ?_
        obtain ⟨x131, hx132, H⟩ := bnd H
        refine Ow_cons rfl (OpW_call rfl Tryd.call9 rfl rfl (c_M_law26_clean (Result.mk i93 i89 i90 t91 i92) x131 hx132 _ _ ) ?_)
        rintro _ _ _ - ⟨rfl, rfl, rfl⟩
        refine Ow_cons rfl (OpW_store (vs := (Result.cells x131)) (all' := (Result.cells x131)) rfl rfl rfl rfl rfl .here rfl rfl rfl ?_)
        refine Ow_nil ?_
        refine Shift.pull (.there .here) ?_
        refine Shift.pull (.there .here) ?_
        refine Shift.done ?_
        exact ⟨[(7, (.pointer (some ((⟨b86, 0, none⟩ : Addr).add 0)))), (8, (.pointer (some ((⟨b87, 0, none⟩ : Addr).add 0))))], ⟨rfl, rfl, trivial⟩, x131.kind, x131.case_, x131.value, x131.ok, x131.number, rfl, rfl, rfl, H⟩
      · intro h130
        have H := iff_ (btf h130) H
        refine Cw_skip ?_
        refine Shift.pull (.there .here) ?_
        refine Shift.pull (.there .here) ?_
        refine Shift.done ?_
        exact ⟨[(7, (.pointer (some ((⟨b86, 0, none⟩ : Addr).add 0)))), (8, (.pointer (some ((⟨b87, 0, none⟩ : Addr).add 0))))], ⟨rfl, rfl, trivial⟩, i88, i89, i90, t91, i92, rfl, rfl, rfl, H⟩
    rintro _ _ _ - ⟨i125, i126, i127, t128, i129, rfl, rfl, rfl, H⟩
    unfold M_law26_ReportDistinct_J2 at H
    refine Cw_seq ?_
    obtain ⟨x137, hx138, H⟩ := bnd H
    obtain ⟨x139, hx140, H⟩ := bnd H
    refine Cw_region_any [.blk b87 24 (Result.cells (Result.mk i125 i126 i127 t128 i129)), .blk b86 24 (Result.cells (Result.mk i93 i94 i95 t96 i97))] rfl (Inc.cons (.head _) (Inc.cons (.tail _ (.head _)) Inc.nil)) ?_
    refine Aw_q 0 rfl (by kernel_rfl) (by kernel_rfl) (by kernel_rfl) rfl rfl rfl (Qt_loadA (m := 5) (cs := (Result.cells (Result.mk i93 i94 i95 t96 i97))) rfl rfl rfl rfl ⟨rfl, Rdc.blk (.tail _ (.head _)) rfl⟩) ?_
    refine Aw_q 2 rfl (by kernel_rfl) (by kernel_rfl) (by kernel_rfl) rfl rfl rfl (Qt_loadA (m := 5) (cs := (Result.cells (Result.mk i125 i126 i127 t128 i129))) rfl rfl rfl rfl ⟨rfl, Rdc.blk (.head _) rfl⟩) ?_
    refine Aw_q 5 rfl (by kernel_rfl) (by kernel_rfl) (by kernel_rfl) rfl rfl rfl (Qt_loadA (m := 5) (cs := (Result.cells (Result.mk i93 i94 i95 t96 i97))) rfl rfl rfl rfl ⟨rfl, Rdc.blk (.tail _ (.head _)) rfl⟩) ?_
    refine Aw_q 6 rfl (by kernel_rfl) (by kernel_rfl) (by kernel_rfl) rfl rfl rfl (Qt_loadA (m := 5) (cs := (Result.cells (Result.mk i125 i126 i127 t128 i129))) rfl rfl rfl rfl ⟨rfl, Rdc.blk (.head _) rfl⟩) ?_
    refine Aw_q 7 rfl (by kernel_rfl) (by kernel_rfl) (by kernel_rfl) rfl rfl rfl (Qt_eqS rfl rfl (fun w => Result.eqrun (Result.mk i93 i94 i95 t96 i97) (Result.mk i125 i126 i127 t128 i129) w) (by kernel_rfl)) ?_
    refine Aw_one 1 (by kernel_rfl) (Ax_mk rfl rfl ?_)
    refine OpW_call rfl Tryd.call7 rfl rfl (c_M_report_Result (Result.mk i93 i94 i95 t96 i97) x137 hx138 _ _ hT) ?_
    rintro _ _ _ - ⟨rfl, rfl, rfl⟩
    refine ⟨(Inc.cons (.head _) (Inc.cons (.tail _ (.head _)) Inc.nil)), ?_⟩
    refine Aw_one 3 (by kernel_rfl) (Ax_mk rfl rfl ?_)
    refine OpW_call rfl Tryd.call7 rfl rfl (c_M_report_Result (Result.mk i125 i126 i127 t128 i129) x139 hx140 _ _ hT) ?_
    rintro _ _ _ - ⟨rfl, rfl, rfl⟩
    refine ⟨(Inc.cons (.head _) (Inc.cons (.tail _ (.head _)) Inc.nil)), ?_⟩
    refine Aw_q 4 rfl (by kernel_rfl) (by kernel_rfl) (by kernel_rfl) rfl rfl rfl (Qt_eqStr rfl rfl) ?_
    refine Aw_q 8 rfl (by kernel_rfl) (by kernel_rfl) (by kernel_rfl) rfl rfl rfl (Qt_eqB rfl rfl rfl) ?_
    refine Aw_q 9 rfl (by kernel_rfl) (by kernel_rfl) (by kernel_rfl) rfl rfl rfl (Qt_assign rfl) ?_
    refine Aw_done (by kernel_rfl) ?_
    refine Cw_ret ?_
    obtain ey0 := inj1 H
    subst y0
    refine ⟨(by first | exact .inl rfl | exact .inr rfl), [(.bool ((dcd (x137 = x139)) == (dcd ((Result.mk i93 i94 i95 t96 i97) = (Result.mk i125 i126 i127 t128 i129)))))], ⟨(.bool ((dcd (x137 = x139)) == (dcd ((Result.mk i93 i94 i95 t96 i97) = (Result.mk i125 i126 i127 t128 i129))))), _, rfl, rfl, rfl⟩, ?_⟩
    refine Shift.rem .here ?_
    refine Shift.rem .here ?_
    refine Shift.done ?_
    exact ⟨rfl, rfl, rfl⟩


end Go.Hx
