/- Printed by program. -/
import Derived.Test.YtgpoanmjkggijaaXCM
namespace Go.Hx
open Go Go.Proofs
set_option linter.unusedSimpArgs false
set_option linter.unusedVariables false
set_option maxRecDepth 10000
set_option maxHeartbeats 1000000 in
theorem c_M_1z (p0 : List (List Op)) (vp0 : SV) (p1 : Event) (y0 : Op) (y1 : Bool) (H : M_1z p0 p1 = some (y0, y1)) (K : Kp) (G : List Ent) (hp0 : Slr (Ty.sl TyOp) K (sv vp0) p0) :
  Fc Try.prog 111 #[(sv vp0), (.agg (Event.cells p1).toArray)] K (G) (fun v K' G' => ∃ (wy0_cases : SV) (wy0_draws : SV), v = (.tuple #[(.agg (Op.cells y0 wy0_cases wy0_draws).toArray), (.bool y1)]) ∧ K = K' ∧ G = G' ∧ Slr TyCase K' (sv wy0_cases) y0.cases ∧ Slr Ty.i64 K' (sv wy0_draws) y0.draws) := by
 refine Fc_body Try.func111 rfl Try.ntmps111 Try.results111 rfl ?_
 unfold M_1z at H
 refine Cw_seq ?_
 refine Cw_region ?_
 refine Ow_cons rfl (OpW_box (cs := (Event.cells p1)) rfl rfl rfl (fun b56 => ?_))
 refine Ow_cons rfl (OpW_alloc (cs := (Op.cells (Op.mk 0 0 0 0 0 [] []) nilS nilS)) rfl rfl rfl rfl (fun b57 => ?_))
 refine Ow_q rfl rfl rfl (Qt_assign rfl) ?_
 refine Ow_nil ?_
 refine Cw_seq ?_
 refine Cw_join (fun env' K' G' => ∃ (t98 : Bool) (i99 : Int) (i100 : Int) (i101 : Int) (i102 : Int) (i103 : Int) (i104 : Int) (i105 : Int) (i106 : Int), [(0, (sv vp0)), (3, (.pointer (some ((⟨b56, 0, none⟩ : Addr).add 0)))), (4, (.pointer (some ((⟨b57, 0, none⟩ : Addr).add 0)))), (31, (.bool t98))] = env' ∧ K = K' ∧ (.blk b57 38 (Op.cells (Op.mk i99 i99 i99 i100 i99 [] []) nilS nilS)) :: (.blk b56 65 (Event.cells (Event.mk i101 i102 p1.ret (Result.mk i103 i104 i105 p1.result.ok i106)))) :: G = G' ∧ M_19z p0 p1 t98 i99 i100 i101 i102 i103 i104 i105 i106 = some (y0, y1)) ?_ ?_
 ·skip
  rcases bool_ct (dcd (p1.thread < 0)) with hb_ | hb_ <;> revert hb_
  ·intro h107
   have h107 := dcd_t (h107)
   have H := ift h107 H
   refine Cw_region_any [.blk b57 38 (Op.cells (Op.mk 0 0 0 0 0 [] []) nilS nilS), .blk b56 65 (Event.cells p1)] rfl (Inc.cons (.head _) (Inc.cons (.tail _ (.head _)) Inc.nil)) ?_
   refine Aw_q 0 rfl (by kernel_rfl) (by kernel_rfl) (by kernel_rfl) rfl rfl rfl (Qt_fieldAddr (m := 0) rfl rfl rfl rfl rfl) ?_
   refine Aw_q 1 rfl (by kernel_rfl) (by kernel_rfl) (by kernel_rfl) rfl rfl rfl (Qt_load1 (v := (.int .i64 p1.thread)) rfl rfl rfl (Rdc.blk (.tail _ (.head _)) rfl)) ?_
   refine Aw_q 2 rfl (by kernel_rfl) (by kernel_rfl) (by kernel_rfl) rfl rfl rfl (Qt_cmp rfl rfl rfl) ?_
   refine Aw_q 3 rfl (by kernel_rfl) (by kernel_rfl) (by kernel_rfl) rfl rfl rfl (Qt_move rfl) ?_
   refine Aw.known (d := 9) rfl (dcd_pos h107) ?_
   refine Aw_pass 4 rfl (by kernel_rfl) (by kernel_rfl) (by kernel_rfl) rfl rfl rfl rfl rfl rfl rfl ?_
   refine Aw_pass 5 rfl (by kernel_rfl) (by kernel_rfl) (by kernel_rfl) rfl rfl rfl rfl rfl rfl rfl ?_
   refine Aw_pass 6 rfl (by kernel_rfl) (by kernel_rfl) (by kernel_rfl) rfl rfl rfl rfl rfl rfl rfl ?_
   refine Aw_pass 7 rfl (by kernel_rfl) (by kernel_rfl) (by kernel_rfl) rfl rfl rfl rfl rfl rfl rfl ?_
   refine Aw_pass 8 rfl (by kernel_rfl) (by kernel_rfl) (by kernel_rfl) rfl rfl rfl rfl rfl rfl rfl ?_
   refine Aw_q 9 rfl (by kernel_rfl) (by kernel_rfl) (by kernel_rfl) rfl rfl rfl (Qt_pick_t rfl rfl) ?_
   refine Aw_q 10 rfl (by kernel_rfl) (by kernel_rfl) (by kernel_rfl) rfl rfl rfl (Qt_move rfl) ?_
   refine Aw_pass 11 rfl (by kernel_rfl) (by kernel_rfl) (by kernel_rfl) rfl rfl rfl rfl rfl rfl rfl ?_
   refine Aw_pass 12 rfl (by kernel_rfl) (by kernel_rfl) (by kernel_rfl) rfl rfl rfl rfl rfl rfl rfl ?_
   refine Aw_pass 13 rfl (by kernel_rfl) (by kernel_rfl) (by kernel_rfl) rfl rfl rfl rfl rfl rfl rfl ?_
   refine Aw_q 14 rfl (by kernel_rfl) (by kernel_rfl) (by kernel_rfl) rfl rfl rfl (Qt_pick_t rfl rfl) ?_
   refine Aw_q 15 rfl (by kernel_rfl) (by kernel_rfl) (by kernel_rfl) rfl rfl rfl (Qt_move rfl) ?_
   refine Aw_pass 16 rfl (by kernel_rfl) (by kernel_rfl) (by kernel_rfl) rfl rfl rfl rfl rfl rfl rfl ?_
   refine Aw_pass 17 rfl (by kernel_rfl) (by kernel_rfl) (by kernel_rfl) rfl rfl rfl rfl rfl rfl rfl ?_
   refine Aw_pass 18 rfl (by kernel_rfl) (by kernel_rfl) (by kernel_rfl) rfl rfl rfl rfl rfl rfl rfl ?_
   refine Aw_pass 19 rfl (by kernel_rfl) (by kernel_rfl) (by kernel_rfl) rfl rfl rfl rfl rfl rfl rfl ?_
   refine Aw_pass 20 rfl (by kernel_rfl) (by kernel_rfl) (by kernel_rfl) rfl rfl rfl rfl rfl rfl rfl ?_
   refine Aw_pass 21 rfl (by kernel_rfl) (by kernel_rfl) (by kernel_rfl) rfl rfl rfl rfl rfl rfl rfl ?_
   refine Aw_pass 22 rfl (by kernel_rfl) (by kernel_rfl) (by kernel_rfl) rfl rfl rfl rfl rfl rfl rfl ?_
   refine Aw_pass 23 rfl (by kernel_rfl) (by kernel_rfl) (by kernel_rfl) rfl rfl rfl rfl rfl rfl rfl ?_
   refine Aw_pass 24 rfl (by kernel_rfl) (by kernel_rfl) (by kernel_rfl) rfl rfl rfl rfl rfl rfl rfl ?_
   refine Aw_q 25 rfl (by kernel_rfl) (by kernel_rfl) (by kernel_rfl) rfl rfl rfl (Qt_pick_t rfl rfl) ?_
   refine Aw_done (by kernel_rfl) ?_
   refine Shift.pull (.there .here) ?_
   refine Shift.pull (.there .here) ?_
   refine Shift.done ?_
   exact ⟨[(0, (sv vp0)), (3, (.pointer (some ((⟨b56, 0, none⟩ : Addr).add 0)))), (4, (.pointer (some ((⟨b57, 0, none⟩ : Addr).add 0)))), (31, (.bool true))], ⟨rfl, rfl, rfl, rfl, trivial⟩, true, 0, 0, p1.thread, p1.op, p1.result.kind, p1.result.case_, p1.result.value, p1.result.number, rfl, rfl, rfl, H⟩
  ·intro h107
   have h107 := dcd_f (h107)
   have H := iff_ h107 H
   rcases bool_ct (dcd (p1.thread ≥ (p0.length : Int))) with hb_ | hb_ <;> revert hb_
   ·intro h108
    have h108 := dcd_t (h108)
    have H := ift h108 H
    refine Cw_region_any [.blk b57 38 (Op.cells (Op.mk 0 0 0 0 0 [] []) nilS nilS), .blk b56 65 (Event.cells p1)] rfl (Inc.cons (.head _) (Inc.cons (.tail _ (.head _)) Inc.nil)) ?_
    refine Aw_q 0 rfl (by kernel_rfl) (by kernel_rfl) (by kernel_rfl) rfl rfl rfl (Qt_fieldAddr (m := 0) rfl rfl rfl rfl rfl) ?_
    refine Aw_q 1 rfl (by kernel_rfl) (by kernel_rfl) (by kernel_rfl) rfl rfl rfl (Qt_load1 (v := (.int .i64 p1.thread)) rfl rfl rfl (Rdc.blk (.tail _ (.head _)) rfl)) ?_
    refine Aw_q 2 rfl (by kernel_rfl) (by kernel_rfl) (by kernel_rfl) rfl rfl rfl (Qt_cmp rfl rfl rfl) ?_
    refine Aw_q 3 rfl (by kernel_rfl) (by kernel_rfl) (by kernel_rfl) rfl rfl rfl (Qt_move rfl) ?_
    refine Aw.known (d := 9) rfl (dcd_neg h107) ?_
    refine Aw_qw 4 rfl (by kernel_rfl) (by kernel_rfl) (by kernel_rfl) rfl rfl rfl rfl rfl rfl (Qt_fieldAddr (m := 0) rfl rfl rfl rfl rfl) ?_
    refine Aw_qw 5 rfl (by kernel_rfl) (by kernel_rfl) (by kernel_rfl) rfl rfl rfl rfl rfl rfl (Qt_load1 (v := (.int .i64 p1.thread)) rfl rfl rfl (Rdc.blk (.tail _ (.head _)) rfl)) ?_
    refine Aw_qw 6 rfl (by kernel_rfl) (by kernel_rfl) (by kernel_rfl) rfl rfl rfl rfl rfl rfl (Qt_move rfl) ?_
    refine Aw_qw 7 rfl (by kernel_rfl) (by kernel_rfl) (by kernel_rfl) rfl rfl rfl rfl rfl rfl (Q_len (T := (Ty.sl TyOp)) hp0 rfl rfl) ?_
    refine Aw_qw 8 rfl (by kernel_rfl) (by kernel_rfl) (by kernel_rfl) rfl rfl rfl rfl rfl rfl (Qt_cmp rfl rfl rfl) ?_
    refine Aw_q 9 rfl (by kernel_rfl) (by kernel_rfl) (by kernel_rfl) rfl rfl rfl (Qt_pick_f rfl rfl) ?_
    refine Aw_q 10 rfl (by kernel_rfl) (by kernel_rfl) (by kernel_rfl) rfl rfl rfl (Qt_move rfl) ?_
    refine Aw.known (d := 16) rfl (dcd_pos h108) ?_
    refine Aw_pass 11 rfl (by kernel_rfl) (by kernel_rfl) (by kernel_rfl) rfl rfl rfl rfl rfl rfl rfl ?_
    refine Aw_pass 12 rfl (by kernel_rfl) (by kernel_rfl) (by kernel_rfl) rfl rfl rfl rfl rfl rfl rfl ?_
    refine Aw_pass 13 rfl (by kernel_rfl) (by kernel_rfl) (by kernel_rfl) rfl rfl rfl rfl rfl rfl rfl ?_
    refine Aw_q 14 rfl (by kernel_rfl) (by kernel_rfl) (by kernel_rfl) rfl rfl rfl (Qt_pick_t rfl rfl) ?_
    refine Aw_q 15 rfl (by kernel_rfl) (by kernel_rfl) (by kernel_rfl) rfl rfl rfl (Qt_move rfl) ?_
    refine Aw_pass 16 rfl (by kernel_rfl) (by kernel_rfl) (by kernel_rfl) rfl rfl rfl rfl rfl rfl rfl ?_
    refine Aw_pass 17 rfl (by kernel_rfl) (by kernel_rfl) (by kernel_rfl) rfl rfl rfl rfl rfl rfl rfl ?_
    refine Aw_pass 18 rfl (by kernel_rfl) (by kernel_rfl) (by kernel_rfl) rfl rfl rfl rfl rfl rfl rfl ?_
    refine Aw_pass 19 rfl (by kernel_rfl) (by kernel_rfl) (by kernel_rfl) rfl rfl rfl rfl rfl rfl rfl ?_
    refine Aw_pass 20 rfl (by kernel_rfl) (by kernel_rfl) (by kernel_rfl) rfl rfl rfl rfl rfl rfl rfl ?_
    refine Aw_pass 21 rfl (by kernel_rfl) (by kernel_rfl) (by kernel_rfl) rfl rfl rfl rfl rfl rfl rfl ?_
    refine Aw_pass 22 rfl (by kernel_rfl) (by kernel_rfl) (by kernel_rfl) rfl rfl rfl rfl rfl rfl rfl ?_
    refine Aw_pass 23 rfl (by kernel_rfl) (by kernel_rfl) (by kernel_rfl) rfl rfl rfl rfl rfl rfl rfl ?_
    refine Aw_pass 24 rfl (by kernel_rfl) (by kernel_rfl) (by kernel_rfl) rfl rfl rfl rfl rfl rfl rfl ?_
    refine Aw_q 25 rfl (by kernel_rfl) (by kernel_rfl) (by kernel_rfl) rfl rfl rfl (Qt_pick_t rfl rfl) ?_
    refine Aw_done (by kernel_rfl) ?_
    refine Shift.pull (.there .here) ?_
    refine Shift.pull (.there .here) ?_
    refine Shift.done ?_
    exact ⟨[(0, (sv vp0)), (3, (.pointer (some ((⟨b56, 0, none⟩ : Addr).add 0)))), (4, (.pointer (some ((⟨b57, 0, none⟩ : Addr).add 0)))), (31, (.bool true))], ⟨rfl, rfl, rfl, rfl, trivial⟩, true, 0, 0, p1.thread, p1.op, p1.result.kind, p1.result.case_, p1.result.value, p1.result.number, rfl, rfl, rfl, H⟩
   ·intro h108
    have h108 := dcd_f (h108)
    have H := iff_ h108 H
    rcases bool_ct (dcd (p1.op < 0)) with hb_ | hb_ <;> revert hb_
    ·intro h109
     have h109 := dcd_t (h109)
     have H := ift h109 H
     refine Cw_region_any [.blk b57 38 (Op.cells (Op.mk 0 0 0 0 0 [] []) nilS nilS), .blk b56 65 (Event.cells p1)] rfl (Inc.cons (.head _) (Inc.cons (.tail _ (.head _)) Inc.nil)) ?_
     refine Aw_q 0 rfl (by kernel_rfl) (by kernel_rfl) (by kernel_rfl) rfl rfl rfl (Qt_fieldAddr (m := 0) rfl rfl rfl rfl rfl) ?_
     refine Aw_q 1 rfl (by kernel_rfl) (by kernel_rfl) (by kernel_rfl) rfl rfl rfl (Qt_load1 (v := (.int .i64 p1.thread)) rfl rfl rfl (Rdc.blk (.tail _ (.head _)) rfl)) ?_
     refine Aw_q 2 rfl (by kernel_rfl) (by kernel_rfl) (by kernel_rfl) rfl rfl rfl (Qt_cmp rfl rfl rfl) ?_
     refine Aw_q 3 rfl (by kernel_rfl) (by kernel_rfl) (by kernel_rfl) rfl rfl rfl (Qt_move rfl) ?_
     refine Aw.known (d := 9) rfl (dcd_neg h107) ?_
     refine Aw_qw 4 rfl (by kernel_rfl) (by kernel_rfl) (by kernel_rfl) rfl rfl rfl rfl rfl rfl (Qt_fieldAddr (m := 0) rfl rfl rfl rfl rfl) ?_
     refine Aw_qw 5 rfl (by kernel_rfl) (by kernel_rfl) (by kernel_rfl) rfl rfl rfl rfl rfl rfl (Qt_load1 (v := (.int .i64 p1.thread)) rfl rfl rfl (Rdc.blk (.tail _ (.head _)) rfl)) ?_
     refine Aw_qw 6 rfl (by kernel_rfl) (by kernel_rfl) (by kernel_rfl) rfl rfl rfl rfl rfl rfl (Qt_move rfl) ?_
     refine Aw_qw 7 rfl (by kernel_rfl) (by kernel_rfl) (by kernel_rfl) rfl rfl rfl rfl rfl rfl (Q_len (T := (Ty.sl TyOp)) hp0 rfl rfl) ?_
     refine Aw_qw 8 rfl (by kernel_rfl) (by kernel_rfl) (by kernel_rfl) rfl rfl rfl rfl rfl rfl (Qt_cmp rfl rfl rfl) ?_
     refine Aw_q 9 rfl (by kernel_rfl) (by kernel_rfl) (by kernel_rfl) rfl rfl rfl (Qt_pick_f rfl rfl) ?_
     refine Aw_q 10 rfl (by kernel_rfl) (by kernel_rfl) (by kernel_rfl) rfl rfl rfl (Qt_move rfl) ?_
     refine Aw.known (d := 16) rfl (dcd_neg h108) ?_
     refine Aw_qw 11 rfl (by kernel_rfl) (by kernel_rfl) (by kernel_rfl) rfl rfl rfl rfl rfl rfl (Qt_fieldAddr (m := 1) rfl rfl rfl rfl rfl) ?_
     refine Aw_qw 12 rfl (by kernel_rfl) (by kernel_rfl) (by kernel_rfl) rfl rfl rfl rfl rfl rfl (Qt_load1 (v := (.int .i64 p1.op)) rfl rfl rfl (Rdc.blk (.tail _ (.head _)) rfl)) ?_
     refine Aw_qw 13 rfl (by kernel_rfl) (by kernel_rfl) (by kernel_rfl) rfl rfl rfl rfl rfl rfl (Qt_cmp rfl rfl rfl) ?_
     refine Aw_q 14 rfl (by kernel_rfl) (by kernel_rfl) (by kernel_rfl) rfl rfl rfl (Qt_pick_f rfl rfl) ?_
     refine Aw_q 15 rfl (by kernel_rfl) (by kernel_rfl) (by kernel_rfl) rfl rfl rfl (Qt_move rfl) ?_
     refine Aw.known (d := 21) rfl (dcd_pos h109) ?_
     refine Aw_pass 16 rfl (by kernel_rfl) (by kernel_rfl) (by kernel_rfl) rfl rfl rfl rfl rfl rfl rfl ?_
     refine Aw_pass 17 rfl (by kernel_rfl) (by kernel_rfl) (by kernel_rfl) rfl rfl rfl rfl rfl rfl rfl ?_
     refine Aw_pass 18 rfl (by kernel_rfl) (by kernel_rfl) (by kernel_rfl) rfl rfl rfl rfl rfl rfl rfl ?_
     refine Aw_pass 19 rfl (by kernel_rfl) (by kernel_rfl) (by kernel_rfl) rfl rfl rfl rfl rfl rfl rfl ?_
     refine Aw_pass 20 rfl (by kernel_rfl) (by kernel_rfl) (by kernel_rfl) rfl rfl rfl rfl rfl rfl rfl ?_
     refine Aw_pass 21 rfl (by kernel_rfl) (by kernel_rfl) (by kernel_rfl) rfl rfl rfl rfl rfl rfl rfl ?_
     refine Aw_pass 22 rfl (by kernel_rfl) (by kernel_rfl) (by kernel_rfl) rfl rfl rfl rfl rfl rfl rfl ?_
     refine Aw_pass 23 rfl (by kernel_rfl) (by kernel_rfl) (by kernel_rfl) rfl rfl rfl rfl rfl rfl rfl ?_
     refine Aw_pass 24 rfl (by kernel_rfl) (by kernel_rfl) (by kernel_rfl) rfl rfl rfl rfl rfl rfl rfl ?_
     refine Aw_q 25 rfl (by kernel_rfl) (by kernel_rfl) (by kernel_rfl) rfl rfl rfl (Qt_pick_t rfl rfl) ?_
     refine Aw_done (by kernel_rfl) ?_
     refine Shift.pull (.there .here) ?_
     refine Shift.pull (.there .here) ?_
     refine Shift.done ?_
     exact ⟨[(0, (sv vp0)), (3, (.pointer (some ((⟨b56, 0, none⟩ : Addr).add 0)))), (4, (.pointer (some ((⟨b57, 0, none⟩ : Addr).add 0)))), (31, (.bool true))], ⟨rfl, rfl, rfl, rfl, trivial⟩, true, 0, 0, p1.thread, p1.op, p1.result.kind, p1.result.case_, p1.result.value, p1.result.number, rfl, rfl, rfl, H⟩
    ·intro h109
     have h109 := dcd_f (h109)
     have H := iff_ h109 H
     obtain ⟨x110, hx111, H⟩ := bnd H
     refine Cw_region_any [.blk b57 38 (Op.cells (Op.mk 0 0 0 0 0 [] []) nilS nilS), .blk b56 65 (Event.cells p1)] rfl (Inc.cons (.head _) (Inc.cons (.tail _ (.head _)) Inc.nil)) ?_
     refine Aw_q 0 rfl (by kernel_rfl) (by kernel_rfl) (by kernel_rfl) rfl rfl rfl (Qt_fieldAddr (m := 0) rfl rfl rfl rfl rfl) ?_
     refine Aw_q 1 rfl (by kernel_rfl) (by kernel_rfl) (by kernel_rfl) rfl rfl rfl (Qt_load1 (v := (.int .i64 p1.thread)) rfl rfl rfl (Rdc.blk (.tail _ (.head _)) rfl)) ?_
     refine Aw_q 2 rfl (by kernel_rfl) (by kernel_rfl) (by kernel_rfl) rfl rfl rfl (Qt_cmp rfl rfl rfl) ?_
     refine Aw_q 3 rfl (by kernel_rfl) (by kernel_rfl) (by kernel_rfl) rfl rfl rfl (Qt_move rfl) ?_
     refine Aw.known (d := 9) rfl (dcd_neg h107) ?_
     refine Aw_qw 4 rfl (by kernel_rfl) (by kernel_rfl) (by kernel_rfl) rfl rfl rfl rfl rfl rfl (Qt_fieldAddr (m := 0) rfl rfl rfl rfl rfl) ?_
     refine Aw_qw 5 rfl (by kernel_rfl) (by kernel_rfl) (by kernel_rfl) rfl rfl rfl rfl rfl rfl (Qt_load1 (v := (.int .i64 p1.thread)) rfl rfl rfl (Rdc.blk (.tail _ (.head _)) rfl)) ?_
     refine Aw_qw 6 rfl (by kernel_rfl) (by kernel_rfl) (by kernel_rfl) rfl rfl rfl rfl rfl rfl (Qt_move rfl) ?_
     refine Aw_qw 7 rfl (by kernel_rfl) (by kernel_rfl) (by kernel_rfl) rfl rfl rfl rfl rfl rfl (Q_len (T := (Ty.sl TyOp)) hp0 rfl rfl) ?_
     refine Aw_qw 8 rfl (by kernel_rfl) (by kernel_rfl) (by kernel_rfl) rfl rfl rfl rfl rfl rfl (Qt_cmp rfl rfl rfl) ?_
     refine Aw_q 9 rfl (by kernel_rfl) (by kernel_rfl) (by kernel_rfl) rfl rfl rfl (Qt_pick_f rfl rfl) ?_
     refine Aw_q 10 rfl (by kernel_rfl) (by kernel_rfl) (by kernel_rfl) rfl rfl rfl (Qt_move rfl) ?_
     refine Aw.known (d := 16) rfl (dcd_neg h108) ?_
     refine Aw_qw 11 rfl (by kernel_rfl) (by kernel_rfl) (by kernel_rfl) rfl rfl rfl rfl rfl rfl (Qt_fieldAddr (m := 1) rfl rfl rfl rfl rfl) ?_
     refine Aw_qw 12 rfl (by kernel_rfl) (by kernel_rfl) (by kernel_rfl) rfl rfl rfl rfl rfl rfl (Qt_load1 (v := (.int .i64 p1.op)) rfl rfl rfl (Rdc.blk (.tail _ (.head _)) rfl)) ?_
     refine Aw_qw 13 rfl (by kernel_rfl) (by kernel_rfl) (by kernel_rfl) rfl rfl rfl rfl rfl rfl (Qt_cmp rfl rfl rfl) ?_
     refine Aw_q 14 rfl (by kernel_rfl) (by kernel_rfl) (by kernel_rfl) rfl rfl rfl (Qt_pick_f rfl rfl) ?_
     refine Aw_q 15 rfl (by kernel_rfl) (by kernel_rfl) (by kernel_rfl) rfl rfl rfl (Qt_move rfl) ?_
     refine Aw.known (d := 21) rfl (dcd_neg h109) ?_
     refine Aw_qw 16 rfl (by kernel_rfl) (by kernel_rfl) (by kernel_rfl) rfl rfl rfl rfl rfl rfl (Qt_fieldAddr (m := 1) rfl rfl rfl rfl rfl) ?_
     refine Aw_qw 17 rfl (by kernel_rfl) (by kernel_rfl) (by kernel_rfl) rfl rfl rfl rfl rfl rfl (Qt_load1 (v := (.int .i64 p1.op)) rfl rfl rfl (Rdc.blk (.tail _ (.head _)) rfl)) ?_
     refine Aw_qw 18 rfl (by kernel_rfl) (by kernel_rfl) (by kernel_rfl) rfl rfl rfl rfl rfl rfl (Qt_move rfl) ?_
     refine Aw_qw 19 rfl (by kernel_rfl) (by kernel_rfl) (by kernel_rfl) rfl rfl rfl rfl rfl rfl (Qt_fieldAddr (m := 0) rfl rfl rfl rfl rfl) ?_
     refine Aw_qw 20 rfl (by kernel_rfl) (by kernel_rfl) (by kernel_rfl) rfl rfl rfl rfl rfl rfl (Qt_load1 (v := (.int .i64 p1.thread)) rfl rfl rfl (Rdc.blk (.tail _ (.head _)) rfl)) ?_
     obtain ⟨r117, hr118, hk119⟩ := Slr.at hp0 hx111
     obtain ⟨v120, rfl, hs121⟩ := hr118
     refine Aw_qw 21 rfl (by kernel_rfl) (by kernel_rfl) (by kernel_rfl) rfl rfl rfl rfl rfl rfl (Q_ix (T := (Ty.sl TyOp)) hp0 hx111 rfl rfl rfl rfl rfl) ?_
     refine Aw_qw 22 rfl (by kernel_rfl) (by kernel_rfl) (by kernel_rfl) rfl rfl rfl rfl rfl rfl (Qt_load1 (v := (sv v120)) rfl rfl rfl (Rdc.k hk119 rfl)) ?_
     refine Aw_qw 23 rfl (by kernel_rfl) (by kernel_rfl) (by kernel_rfl) rfl rfl rfl rfl rfl rfl (Q_len (T := TyOp) hs121 rfl rfl) ?_
     refine Aw_qw 24 rfl (by kernel_rfl) (by kernel_rfl) (by kernel_rfl) rfl rfl rfl rfl rfl rfl (Qt_cmp rfl rfl rfl) ?_
     refine Aw_q 25 rfl (by kernel_rfl) (by kernel_rfl) (by kernel_rfl) rfl rfl rfl (Qt_pick_f rfl rfl) ?_
     refine Aw_done (by kernel_rfl) ?_
     refine Shift.pull (.there .here) ?_
     refine Shift.pull (.there .here) ?_
     refine Shift.done ?_
     exact ⟨[(0, (sv vp0)), (3, (.pointer (some ((⟨b56, 0, none⟩ : Addr).add 0)))), (4, (.pointer (some ((⟨b57, 0, none⟩ : Addr).add 0)))), (31, (.bool (dcd (p1.op ≥ (x110.length : Int)))))], ⟨rfl, rfl, rfl, rfl, trivial⟩, (dcd (p1.op ≥ (x110.length : Int))), 0, 0, p1.thread, p1.op, p1.result.kind, p1.result.case_, p1.result.value, p1.result.number, rfl, rfl, rfl, H⟩
 rintro _ _ _ - ⟨t98, i99, i100, i101, i102, i103, i104, i105, i106, rfl, rfl, rfl, H⟩
 unfold M_19z at H
 refine Cw_cond rfl ?_ ?_
 ·intro h122
  have H := ift h122 H
  refine Cw_seq ?_
  refine Cw_region ?_
  refine Ow_q rfl rfl rfl (Qt_build (cs := (Op.cells (Op.mk 0 0 0 0 0 [] []) nilS nilS)) rfl rfl rfl rfl rfl rfl) ?_
  refine Ow_cons rfl (OpW_store (vs := (Op.cells (Op.mk 0 0 0 0 0 [] []) nilS nilS)) (all' := (Op.cells (Op.mk 0 0 0 0 0 [] []) nilS nilS)) rfl rfl rfl rfl rfl .here rfl rfl rfl ?_)
  refine Ow_q rfl rfl rfl (Qt_assign rfl) ?_
  refine Ow_nil ?_
  refine Cw_ret ?_
  obtain ⟨ey0, ey1⟩ := inj2 H
  subst y0 y1
  refine ⟨(by first | exact .inl rfl | exact .inr rfl), [(.agg (Op.cells (Op.mk 0 0 0 0 0 [] []) nilS nilS).toArray), (.bool false)], ⟨(.agg (Op.cells (Op.mk 0 0 0 0 0 [] []) nilS nilS).toArray), _, rfl, ⟨_, 7, (Op.cells (Op.mk 0 0 0 0 0 [] []) nilS nilS), rfl, rfl, rfl, rfl, ⟨rfl, Rdc.blk (.head _) rfl⟩, rfl⟩, ⟨(.bool false), _, rfl, rfl, rfl⟩⟩, ?_⟩
  refine Shift.rem .here ?_
  refine Shift.rem .here ?_
  refine Shift.done ?_
  exact ⟨nilS, nilS, rfl, rfl, rfl, (Slr.nil TyCase _), (Slr.nil Ty.i64 _)⟩
 ·intro h122
  have H := iff_ (btf h122) H
  refine Cw_skip ?_
  refine Cw_seq ?_
  obtain ⟨x123, hx124, H⟩ := bnd H
  obtain ⟨x130, hx131, H⟩ := bnd H
  refine Cw_region_any [.blk b56 65 (Event.cells (Event.mk i101 i102 p1.ret (Result.mk i103 i104 i105 p1.result.ok i106)))] rfl (Inc.cons (.tail _ (.head _)) Inc.nil) ?_
  refine Aw_q 0 rfl (by kernel_rfl) (by kernel_rfl) (by kernel_rfl) rfl rfl rfl (Qt_move rfl) ?_
  refine Aw_q 1 rfl (by kernel_rfl) (by kernel_rfl) (by kernel_rfl) rfl rfl rfl (Qt_fieldAddr (m := 0) rfl rfl rfl rfl rfl) ?_
  refine Aw_q 2 rfl (by kernel_rfl) (by kernel_rfl) (by kernel_rfl) rfl rfl rfl (Qt_load1 (v := (.int .i64 i101)) rfl rfl rfl (Rdc.blk (.head _) rfl)) ?_
  obtain ⟨r139, hr140, hk141⟩ := Slr.at hp0 hx124
  obtain ⟨v142, rfl, hs143⟩ := hr140
  refine Aw_q 3 rfl (by kernel_rfl) (by kernel_rfl) (by kernel_rfl) rfl rfl rfl (Q_ix (T := (Ty.sl TyOp)) hp0 hx124 rfl rfl rfl rfl rfl) ?_
  refine Aw_q 4 rfl (by kernel_rfl) (by kernel_rfl) (by kernel_rfl) rfl rfl rfl (Qt_load1 (v := (sv v142)) rfl rfl rfl (Rdc.k hk141 rfl)) ?_
  refine Aw_q 5 rfl (by kernel_rfl) (by kernel_rfl) (by kernel_rfl) rfl rfl rfl (Qt_fieldAddr (m := 1) rfl rfl rfl rfl rfl) ?_
  refine Aw_q 6 rfl (by kernel_rfl) (by kernel_rfl) (by kernel_rfl) rfl rfl rfl (Qt_load1 (v := (.int .i64 i102)) rfl rfl rfl (Rdc.blk (.head _) rfl)) ?_
  obtain ⟨r144, hr145, hk146⟩ := Slr.at hs143 hx131
  obtain ⟨v147, v148, rfl, hs149, hs150⟩ := hr145
  refine Aw_q 7 rfl (by kernel_rfl) (by kernel_rfl) (by kernel_rfl) rfl rfl rfl (Q_ix (T := TyOp) hs143 hx131 rfl rfl rfl rfl rfl) ?_
  refine Aw_q 8 rfl (by kernel_rfl) (by kernel_rfl) (by kernel_rfl) rfl rfl rfl (Qt_loadA (m := 7) (cs := (Op.cells x130 v147 v148)) rfl rfl rfl rfl ⟨rfl, Rdc.k hk146 rfl⟩) ?_
  refine Aw_one 9 (by kernel_rfl) (Ax_mk rfl rfl ?_)
  refine OpW_store (vs := (Op.cells x130 v147 v148)) (all' := (Op.cells x130 v147 v148)) rfl rfl rfl rfl rfl .here rfl rfl rfl ⟨(Inc.cons (.tail _ (.head _)) Inc.nil), ?_⟩
  refine Aw_q 10 rfl (by kernel_rfl) (by kernel_rfl) (by kernel_rfl) rfl rfl rfl (Qt_assign rfl) ?_
  refine Aw_done (by kernel_rfl) ?_
  refine Cw_ret ?_
  obtain ⟨ey0, ey1⟩ := inj2 H
  subst y0 y1
  refine ⟨(by first | exact .inl rfl | exact .inr rfl), [(.agg (Op.cells x130 v147 v148).toArray), (.bool true)], ⟨(.agg (Op.cells x130 v147 v148).toArray), _, rfl, ⟨_, 7, (Op.cells x130 v147 v148), rfl, rfl, rfl, rfl, ⟨rfl, Rdc.blk (.head _) rfl⟩, rfl⟩, ⟨(.bool true), _, rfl, rfl, rfl⟩⟩, ?_⟩
  refine Shift.rem .here ?_
  refine Shift.rem .here ?_
  refine Shift.done ?_
  exact ⟨v147, v148, rfl, rfl, rfl, hs149, hs150⟩



end Go.Hx
