/- Printed by program. -/
import Derived.Test.YthokebmjjkjjfaaXDM
import Derived.Test.YthokebmjjkjjfaaXDWSlices
namespace Go.Hx
open Go Go.Proofs
set_option linter.unusedSimpArgs false
set_option linter.unusedVariables false
set_option maxRecDepth 10000
set_option maxHeartbeats 1000000 in
theorem c_M_39z (p0 : Desk) (vp0_chans : SV) (vp0_waiting : SV) (y0 : Desk_work) (H : M_39z p0 = some y0) (K : Kp) (G : List Ent) (hp0_chans : Slr TyChan K (sv vp0_chans) p0.chans) (hp0_waiting : Slr TyWaiter K (sv vp0_waiting) p0.waiting) :
  Fc Try.prog 44 #[(.agg (Desk.cells p0 vp0_chans vp0_waiting).toArray)] K (G) (fun v K' G' => ∃ (by0 : Nat) (wy0_desk_chans : SV) (rswy0_desk_chans : List (List Value)) (wy0_desk_waiting : SV) (rswy0_desk_waiting : List (List Value)) (wy0_done : SV) (rswy0_done : List (List Value)), v = (.pointer (some ((⟨by0, 0, none⟩ : Addr).add 0))) ∧ K = K' ∧ (.blk by0 92 (Desk_work.cells y0 wy0_desk_chans wy0_desk_waiting wy0_done)) :: (.row (sv wy0_desk_chans) 71 3 rswy0_desk_chans.flatten) :: (.row (sv wy0_desk_waiting) 52 8 rswy0_desk_waiting.flatten) :: (.row (sv wy0_done) 75 6 rswy0_done.flatten) :: G = G' ∧ RowR TyChan K' rswy0_desk_chans y0.desk.chans ∧ RowR TyWaiter K' rswy0_desk_waiting y0.desk.waiting ∧ RowR TyDone K' rswy0_done y0.done) := by
 refine Fc_body Try.func44 rfl Try.ntmps44 Try.results44 rfl ?_
 unfold M_39z at H
 refine Cw_seq ?_
 refine Cw_region ?_
 refine Ow_cons rfl (OpW_box (cs := (Desk.cells p0 vp0_chans vp0_waiting)) rfl rfl rfl (fun b39 => ?_))
 refine Ow_q rfl rfl rfl (Qt_assign rfl) ?_
 refine Ow_nil ?_
 refine Cw_join (fun env' K' G' => ∃ (v68 : SV) (l69 : List Chan) (rs71 : List (List Value)) (v72 : SV) (l73 : List Waiter) (rs75 : List (List Value)), [(1, (.pointer (some ((⟨b39, 0, none⟩ : Addr).add 0))))] = env' ∧ K = K' ∧ (.blk b39 34 (Desk.cells (Desk.mk l69 l73 p0.tick) v68 v72)) :: (.row (sv v68) 71 3 rs71.flatten) :: (.row (sv v72) 52 8 rs75.flatten) :: G = G' ∧ M_131z p0 l69 l73 = some y0 ∧ RowR TyChan K' rs71 l69 ∧ RowR TyWaiter K' rs75 l73) ?_ ?_
 ·skip
  obtain ⟨x76, hx77, H⟩ := bnd H
  obtain ⟨x81, hx82, H⟩ := bnd H
  refine Cw_region_any [] rfl Inc.nil ?_
  refine Aw_q 0 rfl (by kernel_rfl) (by kernel_rfl) (by kernel_rfl) rfl rfl rfl (Qt_fieldAddr (m := 0) rfl rfl rfl rfl rfl) ?_
  refine Aw_q 3 rfl (by kernel_rfl) (by kernel_rfl) (by kernel_rfl) rfl rfl rfl (Qt_fieldAddr (m := 1) rfl rfl rfl rfl rfl) ?_
  refine Aw_two 1 4 (by kernel_rfl) ?_ ?_
  ·skip
   refine id (Ax_mk rfl rfl (OpW_of_Qt rfl rfl (Qt_load1 (v := (sv vp0_chans)) rfl rfl rfl (Rdc.blk (.head _) rfl)) ⟨Inc.nil, ?_⟩))
   refine Aw_two 2 4 (by kernel_rfl) ?_ ?_
   ·skip
    refine id (Ax_mk rfl rfl ?_)
    refine OpW_call rfl Try.call74 rfl rfl (c_M_129z p0.chans vp0_chans x76 hx77 _ _ hp0_chans) ?_
    rintro _ _ _ - ⟨v86, rs87, rfl, rfl, rfl, hs88⟩
    refine ⟨Inc.nil, ?_⟩
    refine Aw_one 4 (by kernel_rfl) (Ax_mk rfl rfl (OpW_of_Qt rfl rfl (Qt_load1 (v := (sv vp0_waiting)) rfl rfl rfl (Rdc.blk (.tail _ (.head _)) rfl)) ⟨Inc.nil, ?_⟩))
    refine Aw_q 6 rfl (by kernel_rfl) (by kernel_rfl) (by kernel_rfl) rfl rfl rfl (Qt_fieldAddr (m := 0) rfl rfl rfl rfl rfl) ?_
    refine Aw_one 5 (by kernel_rfl) (Ax_mk rfl rfl ?_)
    refine OpW_call rfl Try.call75 rfl rfl (c_M_130z p0.waiting vp0_waiting x81 hx82 _ _ hp0_waiting) ?_
    rintro _ _ _ - ⟨v89, rs90, rfl, rfl, rfl, hs91⟩
    refine ⟨Inc.nil, ?_⟩
    refine Aw_one 7 (by kernel_rfl) (Ax_mk rfl rfl ?_)
    refine OpW_store (vs := [(sv v86)]) (all' := (Desk.cells (Desk.mk x76 p0.waiting p0.tick) v86 vp0_waiting)) rfl rfl rfl rfl rfl (.there (.there .here)) rfl rfl rfl ⟨Inc.nil, ?_⟩
    refine Aw_q 8 rfl (by kernel_rfl) (by kernel_rfl) (by kernel_rfl) rfl rfl rfl (Qt_fieldAddr (m := 1) rfl rfl rfl rfl rfl) ?_
    refine Aw_one 9 (by kernel_rfl) (Ax_mk rfl rfl ?_)
    refine OpW_store (vs := [(sv v89)]) (all' := (Desk.cells (Desk.mk x76 x81 p0.tick) v86 v89)) rfl rfl rfl rfl rfl (.there (.there .here)) rfl rfl rfl ⟨Inc.nil, ?_⟩
    refine Aw_done (by kernel_rfl) ?_
    refine Shift.pull (.there .here) ?_
    refine Shift.pull (.there (.there .here)) ?_
    refine Shift.done ?_
    exact ⟨[(1, (.pointer (some ((⟨b39, 0, none⟩ : Addr).add 0))))], ⟨rfl, trivial⟩, v86, x76, rs87, v89, x81, rs90, rfl, rfl, rfl, H, hs88, hs91⟩
   ·skip
    refine id (Ax_mk rfl rfl (OpW_of_Qt rfl rfl (Qt_load1 (v := (sv vp0_waiting)) rfl rfl rfl (Rdc.blk (.head _) rfl)) ⟨Inc.nil, ?_⟩))
    refine Aw_one 2 (by kernel_rfl) (Ax_mk rfl rfl ?_)
    refine OpW_call rfl Try.call74 rfl rfl (c_M_129z p0.chans vp0_chans x76 hx77 _ _ hp0_chans) ?_
    rintro _ _ _ - ⟨v92, rs93, rfl, rfl, rfl, hs94⟩
    refine ⟨Inc.nil, ?_⟩
    refine Aw_q 6 rfl (by kernel_rfl) (by kernel_rfl) (by kernel_rfl) rfl rfl rfl (Qt_fieldAddr (m := 0) rfl rfl rfl rfl rfl) ?_
    refine Aw_one 5 (by kernel_rfl) (Ax_mk rfl rfl ?_)
    refine OpW_call rfl Try.call75 rfl rfl (c_M_130z p0.waiting vp0_waiting x81 hx82 _ _ hp0_waiting) ?_
    rintro _ _ _ - ⟨v95, rs96, rfl, rfl, rfl, hs97⟩
    refine ⟨Inc.nil, ?_⟩
    refine Aw_one 7 (by kernel_rfl) (Ax_mk rfl rfl ?_)
    refine OpW_store (vs := [(sv v92)]) (all' := (Desk.cells (Desk.mk x76 p0.waiting p0.tick) v92 vp0_waiting)) rfl rfl rfl rfl rfl (.there (.there .here)) rfl rfl rfl ⟨Inc.nil, ?_⟩
    refine Aw_q 8 rfl (by kernel_rfl) (by kernel_rfl) (by kernel_rfl) rfl rfl rfl (Qt_fieldAddr (m := 1) rfl rfl rfl rfl rfl) ?_
    refine Aw_one 9 (by kernel_rfl) (Ax_mk rfl rfl ?_)
    refine OpW_store (vs := [(sv v95)]) (all' := (Desk.cells (Desk.mk x76 x81 p0.tick) v92 v95)) rfl rfl rfl rfl rfl (.there (.there .here)) rfl rfl rfl ⟨Inc.nil, ?_⟩
    refine Aw_done (by kernel_rfl) ?_
    refine Shift.pull (.there .here) ?_
    refine Shift.pull (.there (.there .here)) ?_
    refine Shift.done ?_
    exact ⟨[(1, (.pointer (some ((⟨b39, 0, none⟩ : Addr).add 0))))], ⟨rfl, trivial⟩, v92, x76, rs93, v95, x81, rs96, rfl, rfl, rfl, H, hs94, hs97⟩
  ·skip
   refine id (Ax_mk rfl rfl (OpW_of_Qt rfl rfl (Qt_load1 (v := (sv vp0_waiting)) rfl rfl rfl (Rdc.blk (.head _) rfl)) ⟨Inc.nil, ?_⟩))
   refine Aw_one 1 (by kernel_rfl) (Ax_mk rfl rfl (OpW_of_Qt rfl rfl (Qt_load1 (v := (sv vp0_chans)) rfl rfl rfl (Rdc.blk (.head _) rfl)) ⟨Inc.nil, ?_⟩))
   refine Aw_one 2 (by kernel_rfl) (Ax_mk rfl rfl ?_)
   refine OpW_call rfl Try.call74 rfl rfl (c_M_129z p0.chans vp0_chans x76 hx77 _ _ hp0_chans) ?_
   rintro _ _ _ - ⟨v98, rs99, rfl, rfl, rfl, hs100⟩
   refine ⟨Inc.nil, ?_⟩
   refine Aw_q 6 rfl (by kernel_rfl) (by kernel_rfl) (by kernel_rfl) rfl rfl rfl (Qt_fieldAddr (m := 0) rfl rfl rfl rfl rfl) ?_
   refine Aw_one 5 (by kernel_rfl) (Ax_mk rfl rfl ?_)
   refine OpW_call rfl Try.call75 rfl rfl (c_M_130z p0.waiting vp0_waiting x81 hx82 _ _ hp0_waiting) ?_
   rintro _ _ _ - ⟨v101, rs102, rfl, rfl, rfl, hs103⟩
   refine ⟨Inc.nil, ?_⟩
   refine Aw_one 7 (by kernel_rfl) (Ax_mk rfl rfl ?_)
   refine OpW_store (vs := [(sv v98)]) (all' := (Desk.cells (Desk.mk x76 p0.waiting p0.tick) v98 vp0_waiting)) rfl rfl rfl rfl rfl (.there (.there .here)) rfl rfl rfl ⟨Inc.nil, ?_⟩
   refine Aw_q 8 rfl (by kernel_rfl) (by kernel_rfl) (by kernel_rfl) rfl rfl rfl (Qt_fieldAddr (m := 1) rfl rfl rfl rfl rfl) ?_
   refine Aw_one 9 (by kernel_rfl) (Ax_mk rfl rfl ?_)
   refine OpW_store (vs := [(sv v101)]) (all' := (Desk.cells (Desk.mk x76 x81 p0.tick) v98 v101)) rfl rfl rfl rfl rfl (.there (.there .here)) rfl rfl rfl ⟨Inc.nil, ?_⟩
   refine Aw_done (by kernel_rfl) ?_
   refine Shift.pull (.there .here) ?_
   refine Shift.pull (.there (.there .here)) ?_
   refine Shift.done ?_
   exact ⟨[(1, (.pointer (some ((⟨b39, 0, none⟩ : Addr).add 0))))], ⟨rfl, trivial⟩, v98, x76, rs99, v101, x81, rs102, rfl, rfl, rfl, H, hs100, hs103⟩
 rintro _ _ _ - ⟨v68, l69, rs71, v72, l73, rs75, rfl, rfl, rfl, H, hR70, hR74⟩
 unfold M_131z at H
 refine Cw_seq ?_
 refine Cw_region ?_
 refine Ow_q rfl rfl rfl (Qt_loadA (m := 3) (cs := (Desk.cells (Desk.mk l69 l73 p0.tick) v68 v72)) rfl rfl rfl rfl ⟨rfl, Rdc.blk (.head _) rfl⟩) ?_
 refine Ow_q rfl rfl rfl (Qt_build (cs := (Desk_work.cells (Desk_work.mk (Desk.mk l69 l73 p0.tick) []) v68 v72 nilS)) rfl rfl rfl rfl rfl rfl) ?_
 refine Ow_cons rfl (OpW_box (cs := (Desk_work.cells (Desk_work.mk (Desk.mk l69 l73 p0.tick) []) v68 v72 nilS)) rfl rfl rfl (fun b104 => ?_))
 refine Ow_q rfl rfl rfl (Qt_assign rfl) ?_
 refine Ow_nil ?_
 refine Cw_ret ?_
 obtain ey0 := inj1 H
 subst y0
 refine ⟨(by first | exact .inl rfl | exact .inr rfl), [(.pointer (some ((⟨b104, 0, none⟩ : Addr).add 0)))], ⟨(.pointer (some ((⟨b104, 0, none⟩ : Addr).add 0))), _, rfl, rfl, rfl⟩, ?_⟩
 have hR105 : RowR TyDone K [] [] := RowR.nil
 refine Shift.nilRow 75 6 ?_
 refine Shift.pull (.there (.there (.there (.there .here)))) ?_
 refine Shift.pull (.there (.there (.there (.there .here)))) ?_
 refine Shift.pull (.there (.there (.there .here))) ?_
 refine Shift.rem (.there (.there (.there (.there .here)))) ?_
 refine Shift.done ?_
 exact ⟨b104, v68, rs71, v72, rs75, nilS, ([] : List (List Value)), rfl, rfl, rfl, hR70, hR74, hR105⟩

set_option maxHeartbeats 1000000 in
theorem c_M_21z (p0 : Desk) (vp0_chans : SV) (vp0_waiting : SV) (p1 : Int) (y0 : Bool) (H : M_21z p0 p1 = some y0) (K : Kp) (G : List Ent) (hp0_chans : Slr TyChan K (sv vp0_chans) p0.chans) (hp0_waiting : Slr TyWaiter K (sv vp0_waiting) p0.waiting) :
  Fc Try.prog 45 #[(.agg (Desk.cells p0 vp0_chans vp0_waiting).toArray), (.int .i64 p1)] K (G) (fun v K' G' => v = (.bool y0) ∧ K = K' ∧ G = G') := by
 refine Fc_body Try.func45 rfl Try.ntmps45 Try.results45 rfl ?_
 unfold M_21z at H
 refine Cw_seq ?_
 refine Cw_region ?_
 refine Ow_cons rfl (OpW_box (cs := (Desk.cells p0 vp0_chans vp0_waiting)) rfl rfl rfl (fun b3 => ?_))
 refine Ow_q rfl rfl rfl (Qt_assign rfl) ?_
 refine Ow_nil ?_
 refine Cw_seq ?_
 refine Cw_region ?_
 refine Ow_q rfl rfl rfl (Qt_move rfl) ?_
 refine Ow_q rfl rfl rfl (Qt_cmp rfl rfl rfl) ?_
 refine Ow_q rfl rfl rfl (Qt_move rfl) ?_
 refine Ow_caseG rfl rfl rfl ?_ ?_
 ·intro h5
  have h5 := dcd_t (h5)
  have H := ift h5 H
  refine Ow_qw rfl rfl rfl rfl rfl rfl (Qt_move rfl) ?_
  refine Ow_qw rfl rfl rfl rfl rfl rfl (Qt_fieldAddr (m := 0) rfl rfl rfl rfl rfl) ?_
  refine Ow_qw rfl rfl rfl rfl rfl rfl (Qt_load1 (v := (sv vp0_chans)) rfl rfl rfl (Rdc.blk (.head _) rfl)) ?_
  refine Ow_qw rfl rfl rfl rfl rfl rfl (Q_len (T := TyChan) hp0_chans rfl rfl) ?_
  refine Ow_qw rfl rfl rfl rfl rfl rfl (Qt_cmp rfl rfl rfl) ?_
  refine Ow_q rfl rfl rfl (Qt_pick_t rfl rfl) ?_
  refine Ow_q rfl rfl rfl (Qt_assign rfl) ?_
  refine Ow_nil ?_
  refine Cw_ret ?_
  obtain ey0 := inj1 H
  subst y0
  refine ⟨(by first | exact .inl rfl | exact .inr rfl), [(.bool (dcd (p1 < (p0.chans.length : Int))))], ⟨(.bool (dcd (p1 < (p0.chans.length : Int)))), _, rfl, rfl, rfl⟩, ?_⟩
  refine Shift.rem .here ?_
  refine Shift.done ?_
  exact ⟨rfl, rfl, rfl⟩
 ·intro h5
  have h5 := dcd_f (h5)
  have H := iff_ h5 H
  refine Ow_pass rfl rfl rfl rfl rfl rfl rfl ?_
  refine Ow_pass rfl rfl rfl rfl rfl rfl rfl ?_
  refine Ow_pass rfl rfl rfl rfl rfl rfl rfl ?_
  refine Ow_pass rfl rfl rfl rfl rfl rfl rfl ?_
  refine Ow_pass rfl rfl rfl rfl rfl rfl rfl ?_
  refine Ow_q rfl rfl rfl (Qt_pick_f rfl rfl) ?_
  refine Ow_q rfl rfl rfl (Qt_assign rfl) ?_
  refine Ow_nil ?_
  refine Cw_ret ?_
  obtain ey0 := inj1 H
  subst y0
  refine ⟨(by first | exact .inl rfl | exact .inr rfl), [(.bool false)], ⟨(.bool false), _, rfl, rfl, rfl⟩, ?_⟩
  refine Shift.rem .here ?_
  refine Shift.done ?_
  exact ⟨rfl, rfl, rfl⟩



end Go.Hx
