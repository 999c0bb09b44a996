/- Printed by program. -/
import Derived.Test.YthokebmjjkjjfaaXDM
import Derived.Test.YthokebmjjkjjfaaXDShelf
import Derived.Test.YthokebmjjkjjfaaXDWCases
namespace Go.Hx
open Go Go.Proofs
set_option linter.unusedSimpArgs false
set_option linter.unusedVariables false
set_option maxRecDepth 10000
set_option maxHeartbeats 1000000 in
theorem c_M_70z (p0 : List Chan) (vp0 : SV) (y0 : List Chan) (H : M_70z p0 = some y0) (K : Kp) (G : List Ent) (hp0 : Slr TyChan K (sv vp0) p0) :
  Fc Try.prog 74 #[(sv vp0)] K (G) (fun v K' G' => ∃ (wy0 : SV) (rswy0 : List (List Value)), v = (sv wy0) ∧ K = K' ∧ (.row (sv wy0) 71 3 rswy0.flatten) :: G = G' ∧ RowR TyChan K' rswy0 y0) := by
 refine Fc_body Try.func74 rfl Try.ntmps74 Try.results74 rfl ?_
 unfold M_70z at H
 refine Cw_seq<|Cw_region<|Ow_q rfl rfl rfl (Qt_assign rfl)<|Ow_nil<|Cw_seq<|Cw_seq<|Cw_region<|Ow_q rfl rfl rfl (Qt_move rfl)<|Ow_q rfl rfl rfl (Qt_eqNilS rfl rfl rfl)<|Ow_nil<|?_
 refine Cw_cond rfl ?_ ?_
 ·intro h15
  have hl16 := Slr.nil_of hp0 h15
  have H : some [] = some y0 := by rw [hl16] at H; simpa [app] using H
  refine Cw_seq<|Cw_region<|Ow_q rfl rfl rfl (Qt_assign rfl)<|Ow_nil<|Cw_ret<|?_
  obtain ey0 := inj1 H
  subst y0
  refine ⟨(by first | exact .inl rfl | exact .inr rfl), [(sv nilS)], ⟨(sv nilS), _, rfl, rfl, rfl⟩, ?_⟩
  have hR17 : RowR TyChan K [] [] := RowR.nil
  refine Shift.nilRow 71 3<|Shift.done<|?_
  exact ⟨nilS, ([] : List (List Value)), rfl, rfl, rfl, hR17⟩
 ·intro h15
  refine Cw_skip<|Cw_seq<|Cw_region<|?_
  have hR19 : RowR TyChan K [] [] := RowR.nil
  refine Ow_cons rfl (O_lit0 (T := TyChan) rfl rfl rfl rfl rfl (fun v18 => ?_))
  refine Ow_q rfl rfl rfl (Qt_move rfl) ?_
  obtain ⟨x20, hx21, H⟩ := bnd H
  refine Ow_cons rfl (O_appRow (T := TyChan) (bytes := 40) rfl rfl rfl Mb0 hR19 (SrcT.sl hp0) hx21 rfl rfl rfl rfl rfl rfl rfl rfl (fun v22 rs23 hR24 => ⟨_, .here, ?_⟩))
  refine Ow_q rfl rfl rfl (Qt_assign rfl)<|Ow_nil<|Cw_ret<|?_
  obtain ey0 := inj1 H
  subst y0
  refine ⟨(by first | exact .inl rfl | exact .inr rfl), [(sv v22)], ⟨(sv v22), _, rfl, rfl, rfl⟩, ?_⟩
  exact Shift.done ⟨v22, rs23, rfl, rfl, rfl, hR24⟩

set_option maxHeartbeats 1000000 in
theorem c_M_169z (p0 : List Waiter) (vp0 : SV) (y0 : List Waiter) (H : M_169z p0 = some y0) (K : Kp) (G : List Ent) (hp0 : Slr TyWaiter K (sv vp0) p0) :
  Fc Try.prog 75 #[(sv vp0)] K (G) (fun v K' G' => ∃ (wy0 : SV) (rswy0 : List (List Value)), v = (sv wy0) ∧ K = K' ∧ (.row (sv wy0) 52 8 rswy0.flatten) :: G = G' ∧ RowR TyWaiter K' rswy0 y0) := by
 refine Fc_body Try.func75 rfl Try.ntmps75 Try.results75 rfl ?_
 unfold M_169z at H
 refine Cw_seq<|Cw_region<|Ow_q rfl rfl rfl (Qt_assign rfl)<|Ow_nil<|Cw_seq<|Cw_seq<|Cw_region<|Ow_q rfl rfl rfl (Qt_move rfl)<|Ow_q rfl rfl rfl (Qt_eqNilS rfl rfl rfl)<|Ow_nil<|?_
 refine Cw_cond rfl ?_ ?_
 ·intro h15
  have hl16 := Slr.nil_of hp0 h15
  have H : some [] = some y0 := by rw [hl16] at H; simpa [app] using H
  refine Cw_seq<|Cw_region<|Ow_q rfl rfl rfl (Qt_assign rfl)<|Ow_nil<|Cw_ret<|?_
  obtain ey0 := inj1 H
  subst y0
  refine ⟨(by first | exact .inl rfl | exact .inr rfl), [(sv nilS)], ⟨(sv nilS), _, rfl, rfl, rfl⟩, ?_⟩
  have hR17 : RowR TyWaiter K [] [] := RowR.nil
  refine Shift.nilRow 52 8<|Shift.done<|?_
  exact ⟨nilS, ([] : List (List Value)), rfl, rfl, rfl, hR17⟩
 ·intro h15
  refine Cw_skip<|Cw_seq<|Cw_region<|?_
  have hR19 : RowR TyWaiter K [] [] := RowR.nil
  refine Ow_cons rfl (O_lit0 (T := TyWaiter) rfl rfl rfl rfl rfl (fun v18 => ?_))
  refine Ow_q rfl rfl rfl (Qt_move rfl) ?_
  obtain ⟨x20, hx21, H⟩ := bnd H
  refine Ow_cons rfl (O_appRow (T := TyWaiter) (bytes := 96) rfl rfl rfl Mb0 hR19 (SrcT.sl hp0) hx21 rfl rfl rfl rfl rfl rfl rfl rfl (fun v22 rs23 hR24 => ⟨_, .here, ?_⟩))
  refine Ow_q rfl rfl rfl (Qt_assign rfl)<|Ow_nil<|Cw_ret<|?_
  obtain ey0 := inj1 H
  subst y0
  refine ⟨(by first | exact .inl rfl | exact .inr rfl), [(sv v22)], ⟨(sv v22), _, rfl, rfl, rfl⟩, ?_⟩
  exact Shift.done ⟨v22, rs23, rfl, rfl, rfl, hR24⟩

set_option maxHeartbeats 1000000 in
theorem c_M_116z (p0 : List Waiter) (vp0 : SV) (rsp0 : List (List Value)) (p1 : Int) (p2 : Int) (y0 : List Waiter) (H : M_116z p0 p1 p2 = some y0) (K : Kp) (G : List Ent) (hp0 : RowR TyWaiter K rsp0 p0) :
  Fc Try.prog 89 #[(sv vp0), (.int .i64 p1), (.int .i64 p2)] K ((.row (sv vp0) 52 8 rsp0.flatten) :: G) (fun v K' G' => ∃ (wy0 : SV) (rswy0 : List (List Value)), v = (sv wy0) ∧ K = K' ∧ (.row (sv wy0) 52 8 rswy0.flatten) :: G = G' ∧ RowR TyWaiter K' rswy0 y0) := by
 refine Fc_body Try.func89 rfl Try.ntmps89 Try.results89 rfl ?_
 unfold M_116z at H
 refine Cw_seq<|Cw_region<|Ow_q rfl rfl rfl (Qt_assign rfl)<|Ow_nil<|Cw_seq<|Cw_region<|Ow_q rfl rfl rfl (Qt_move rfl)<|Ow_q rfl rfl rfl (Qt_move rfl)<|Ow_q rfl rfl rfl (Qt_move rfl)<|Ow_q rfl rfl rfl (Qt_move rfl)<|?_
 refine Ow_q rfl rfl rfl (Q_lenR (T := TyWaiter) Mb0 hp0 rfl rfl rfl) ?_
 obtain ⟨x22, hx23, H⟩ := bnd H
 refine Ow_q rfl rfl rfl (Q_cutR3 (T := TyWaiter) Mb0 hp0 rfl hx23 rfl rfl rfl rfl rfl rfl rfl)<|Ow_nil<|Cw_seq<|Cw_seq<|Cw_region<|Ow_q rfl rfl rfl (Qt_move rfl)<|Ow_q rfl rfl rfl (Qt_move rfl)<|Ow_q rfl rfl rfl (Qt_cmp rfl rfl rfl)<|Ow_nil<|?_
 refine Cw_cond rfl ?_ ?_
 ·intro h25
  have h25 := dcd_t (h25)
  have H := ift h25 H
  refine Cw_seq<|Cw_region<|Ow_q rfl rfl rfl (Qt_move rfl)<|Ow_q rfl rfl rfl (Qt_assign rfl)<|Ow_nil<|Cw_ret<|?_
  obtain ey0 := inj1 H
  subst y0
  refine ⟨(by first | exact .inl rfl | exact .inr rfl), [(sv vp0)], ⟨(sv vp0), _, rfl, rfl, rfl⟩, ?_⟩
  exact Shift.done ⟨vp0, rsp0, rfl, rfl, rfl, hp0⟩
 ·intro h25
  have h25 := dcd_f (h25)
  have H := iff_ h25 H
  refine Cw_skip<|Cw_seq<|Cw_region<|Ow_q rfl rfl rfl (Qt_move rfl)<|Ow_q rfl rfl rfl (Q_lenR (T := TyWaiter) Mb0 hp0 rfl rfl rfl)<|Ow_q rfl rfl rfl (Qt_assign rfl)<|Ow_nil<|Cw_seq<|?_
  obtain ⟨x26, hx27, H⟩ := bnd H
  obtain ⟨x28, hx29, H⟩ := bnd H
  obtain ⟨x30, hx31, H⟩ := bnd H
  refine Cw_region_any [] rfl Inc.nil<|Awq 0 rfl (by kernel_rfl) rfl rfl rfl (Qt_move rfl)<|Awq 1 rfl (by kernel_rfl) rfl rfl rfl (Qt_move rfl)<|Awq 3 rfl (by kernel_rfl) rfl rfl rfl (Qt_move rfl)<|Awq 4 rfl (by kernel_rfl) rfl rfl rfl (Qt_move rfl)<|?_
  refine Aw_two 2 5 (by kernel_rfl) ?_ ?_
  ·skip
   refine id (Ax_mk rfl rfl (OpW_of_Qt rfl rfl (Q_cutRH (T := TyWaiter) Mb0 hp0 rfl hx27 rfl rfl rfl rfl) ⟨Inc.nil, ?_⟩))
   refine Aw_one 5 (by kernel_rfl) (Ax_mk rfl rfl (OpW_of_Qt rfl rfl (Q_cutRL (T := TyWaiter) Mb0 hp0 rfl hx29 rfl rfl rfl rfl rfl) ⟨Inc.nil, ?_⟩))
   refine Aw_one 6 (by kernel_rfl) (Ax_mk rfl rfl ?_)
   refine O_appCut (T := TyWaiter) rfl rfl rfl Mb0 hp0 hx27 (SrcT.cutL Mb0 hp0 rfl hx29) ⟨_, _, _, rfl, cutS_some⟩ hx31 rfl rfl rfl rfl (fun hc36 hl37 rs38 hR39 => ⟨_, .here, ⟨Inc.nil, ?_⟩⟩)
   refine Awq 7 rfl (by kernel_rfl) rfl rfl rfl (Qt_assign rfl)<|Aw_done (by kernel_rfl)<|Cw_seq<|Cw_region<|Ow_q rfl rfl rfl (Qt_move rfl)<|Ow_q rfl rfl rfl (Qt_move rfl)<|Ow_q rfl rfl rfl (Q_lenR (T := TyWaiter) Mb0 hR39 rfl rfl rfl)<|Ow_q rfl rfl rfl (Qt_move rfl)<|Ow_q rfl rfl rfl (Q_tail (T := TyWaiter) hc36 hl37 rfl rfl rfl rfl rfl rfl)<|?_
   refine Ow_cons rfl (O_clearTail (T := TyWaiter) rfl rfl rfl rfl rfl rfl rfl (by first | rfl | kernel_rfl | decide) Mb0 hR39 hl37 hc36 ?_)
   refine Ow_nil<|Cw_seq<|Cw_region<|Ow_q rfl rfl rfl (Qt_move rfl)<|Ow_q rfl rfl rfl (Qt_assign rfl)<|Ow_nil<|Cw_ret<|?_
   obtain ey0 := inj1 H
   subst y0
   refine ⟨(by first | exact .inl rfl | exact .inr rfl), [(sv (cutA vp0 x30.length))], ⟨(sv (cutA vp0 x30.length)), _, rfl, rfl, rfl⟩, ?_⟩
   exact Shift.done ⟨(cutA vp0 x30.length), rs38, rfl, rfl, rfl, hR39⟩
  ·skip
   refine id (Ax_mk rfl rfl (OpW_of_Qt rfl rfl (Q_cutRL (T := TyWaiter) Mb0 hp0 rfl hx29 rfl rfl rfl rfl rfl) ⟨Inc.nil, ?_⟩))
   refine Aw_one 2 (by kernel_rfl) (Ax_mk rfl rfl (OpW_of_Qt rfl rfl (Q_cutRH (T := TyWaiter) Mb0 hp0 rfl hx27 rfl rfl rfl rfl) ⟨Inc.nil, ?_⟩))
   refine Aw_one 6 (by kernel_rfl) (Ax_mk rfl rfl ?_)
   refine O_appCut (T := TyWaiter) rfl rfl rfl Mb0 hp0 hx27 (SrcT.cutL Mb0 hp0 rfl hx29) ⟨_, _, _, rfl, cutS_some⟩ hx31 rfl rfl rfl rfl (fun hc40 hl41 rs42 hR43 => ⟨_, .here, ⟨Inc.nil, ?_⟩⟩)
   refine Awq 7 rfl (by kernel_rfl) rfl rfl rfl (Qt_assign rfl)<|Aw_done (by kernel_rfl)<|Cw_seq<|Cw_region<|Ow_q rfl rfl rfl (Qt_move rfl)<|Ow_q rfl rfl rfl (Qt_move rfl)<|Ow_q rfl rfl rfl (Q_lenR (T := TyWaiter) Mb0 hR43 rfl rfl rfl)<|Ow_q rfl rfl rfl (Qt_move rfl)<|Ow_q rfl rfl rfl (Q_tail (T := TyWaiter) hc40 hl41 rfl rfl rfl rfl rfl rfl)<|?_
   refine Ow_cons rfl (O_clearTail (T := TyWaiter) rfl rfl rfl rfl rfl rfl rfl (by first | rfl | kernel_rfl | decide) Mb0 hR43 hl41 hc40 ?_)
   refine Ow_nil<|Cw_seq<|Cw_region<|Ow_q rfl rfl rfl (Qt_move rfl)<|Ow_q rfl rfl rfl (Qt_assign rfl)<|Ow_nil<|Cw_ret<|?_
   obtain ey0 := inj1 H
   subst y0
   refine ⟨(by first | exact .inl rfl | exact .inr rfl), [(sv (cutA vp0 x30.length))], ⟨(sv (cutA vp0 x30.length)), _, rfl, rfl, rfl⟩, ?_⟩
   exact Shift.done ⟨(cutA vp0 x30.length), rs42, rfl, rfl, rfl, hR43⟩

set_option maxHeartbeats 1000000 in
theorem c_M_212z (p0 : List Done) (vp0 : SV) (rsp0 : List (List Value)) (p1 : Int) (p2 : List Done) (vp2 : SV) (rsp2 : List (List Value)) (y0 : List Done) (H : M_212z p0 p1 p2 = some y0) (K : Kp) (G : List Ent) (hp0 : RowR TyDone K rsp0 p0) (hp2 : RowR TyDone K rsp2 p2) :
  Fc Try.prog 79 #[(sv vp0), (.int .i64 p1), (sv vp2)] K ((.row (sv vp0) 75 6 rsp0.flatten) :: (.row (sv vp2) 75 6 rsp2.flatten) :: G) (fun v K' G' => ∃ (wy0 : SV) (rswy0 : List (List Value)), v = (sv wy0) ∧ K = K' ∧ (.row (sv wy0) 75 6 rswy0.flatten) :: G = G' ∧ RowR TyDone K' rswy0 y0) :=
 Fc_insert H hp0 hp2



end Go.Hx

namespace Go.Hx
open Go Go.Proofs
set_option linter.unusedSimpArgs false
set_option linter.unusedVariables false
set_option maxRecDepth 10000
set_option maxHeartbeats 1000000 in
theorem c_M_71z (p0 : Desk) (vp0_chans : SV) (vp0_waiting : SV) (y0 : Desk_work) (H : M_71z p0 = some y0) (K : Kp) (G : List Ent) (hp0_chans : Slr TyChan K (sv vp0_chans) p0.chans) (hp0_waiting : Slr TyWaiter K (sv vp0_waiting) p0.waiting) :
  Fc Try.prog 44 #[(.agg (Desk.cells p0 vp0_chans vp0_waiting).toArray)] K (G) (fun v K' G' => ∃ (by0 : Nat) (wy0_desk_chans : SV) (rswy0_desk_chans : List (List Value)) (wy0_desk_waiting : SV) (rswy0_desk_waiting : List (List Value)) (wy0_done : SV) (rswy0_done : List (List Value)), v = (.pointer (some ((⟨by0, 0, none⟩ : Addr).add 0))) ∧ K = K' ∧ (.blk by0 92 (Desk_work.cells y0 wy0_desk_chans wy0_desk_waiting wy0_done)) :: (.row (sv wy0_desk_chans) 71 3 rswy0_desk_chans.flatten) :: (.row (sv wy0_desk_waiting) 52 8 rswy0_desk_waiting.flatten) :: (.row (sv wy0_done) 75 6 rswy0_done.flatten) :: G = G' ∧ RowR TyChan K' rswy0_desk_chans y0.desk.chans ∧ RowR TyWaiter K' rswy0_desk_waiting y0.desk.waiting ∧ RowR TyDone K' rswy0_done y0.done) := by
 refine Fc_body Try.func44 rfl Try.ntmps44 Try.results44 rfl ?_
 unfold M_71z at H
 refine Cw_seq<|Cw_region<|?_
 refine Ow_cons rfl (OpW_box (cs := (Desk.cells p0 vp0_chans vp0_waiting)) rfl rfl rfl (fun b39 => ?_))
 refine Ow_q rfl rfl rfl (Qt_assign rfl)<|Ow_nil<|?_
 refine Cw_join (fun env' K' G' => ∃ (v68 : SV) (l69 : List Chan) (rs71 : List (List Value)) (v72 : SV) (l73 : List Waiter) (rs75 : List (List Value)), [(1, (.pointer (some ((⟨b39, 0, none⟩ : Addr).add 0))))] = env' ∧ K = K' ∧ (.blk b39 34 (Desk.cells (Desk.mk l69 l73 p0.tick) v68 v72)) :: (.row (sv v68) 71 3 rs71.flatten) :: (.row (sv v72) 52 8 rs75.flatten) :: G = G' ∧ M_170z p0 l69 l73 = some y0 ∧ RowR TyChan K' rs71 l69 ∧ RowR TyWaiter K' rs75 l73) ?_ ?_
 ·skip
  obtain ⟨x76, hx77, H⟩ := bnd H
  obtain ⟨x81, hx82, H⟩ := bnd H
  refine Cw_region_any [] rfl Inc.nil<|Awq 0 rfl (by kernel_rfl) rfl rfl rfl (Qt_fieldAddr (m := 0) rfl rfl rfl rfl rfl)<|Awq 3 rfl (by kernel_rfl) rfl rfl rfl (Qt_fieldAddr (m := 1) rfl rfl rfl rfl rfl)<|?_
  refine Aw_two 1 4 (by kernel_rfl) ?_ ?_
  ·skip
   refine id (Ax_mk rfl rfl (OpW_of_Qt rfl rfl (Qt_load1 (v := (sv vp0_chans)) rfl rfl rfl (Rdc.blk Mb0 rfl)) ⟨Inc.nil, ?_⟩))
   refine Aw_two 2 4 (by kernel_rfl) ?_ ?_
   ·skip
    refine id (Ax_mk rfl rfl ?_)
    refine OpW_call rfl Try.call74 rfl rfl (c_M_70z p0.chans vp0_chans x76 hx77 _ _ hp0_chans) ?_
    rintro _ _ _ - ⟨v86, rs87, rfl, rfl, rfl, hs88⟩
    refine ⟨Inc.nil, ?_⟩
    refine Aw_one 4 (by kernel_rfl) (Ax_mk rfl rfl (OpW_of_Qt rfl rfl (Qt_load1 (v := (sv vp0_waiting)) rfl rfl rfl (Rdc.blk Mb1 rfl)) ⟨Inc.nil, ?_⟩))
    refine Awq 6 rfl (by kernel_rfl) rfl rfl rfl (Qt_fieldAddr (m := 0) rfl rfl rfl rfl rfl) ?_
    refine Aw_one 5 (by kernel_rfl) (Ax_mk rfl rfl ?_)
    refine OpW_call rfl Try.call75 rfl rfl (c_M_169z p0.waiting vp0_waiting x81 hx82 _ _ hp0_waiting) ?_
    rintro _ _ _ - ⟨v89, rs90, rfl, rfl, rfl, hs91⟩
    refine ⟨Inc.nil, ?_⟩
    refine Aw_one 7 (by kernel_rfl) (Ax_mk rfl rfl ?_)
    refine OpW_store (vs := [(sv v86)]) (all' := (Desk.cells (Desk.mk x76 p0.waiting p0.tick) v86 vp0_waiting)) rfl rfl rfl rfl rfl (.there (.there .here)) rfl rfl rfl ⟨Inc.nil, ?_⟩
    refine Awq 8 rfl (by kernel_rfl) rfl rfl rfl (Qt_fieldAddr (m := 1) rfl rfl rfl rfl rfl) ?_
    refine Aw_one 9 (by kernel_rfl) (Ax_mk rfl rfl ?_)
    refine OpW_store (vs := [(sv v89)]) (all' := (Desk.cells (Desk.mk x76 x81 p0.tick) v86 v89)) rfl rfl rfl rfl rfl (.there (.there .here)) rfl rfl rfl ⟨Inc.nil, ?_⟩
    refine Aw_done (by kernel_rfl)<|Pu1<|Pu2<|Shift.done<|?_
    exact ⟨_, by exact ⟨rfl, trivial⟩, v86, x76, rs87, v89, x81, rs90, rfl, rfl, rfl, H, hs88, hs91⟩
   ·skip
    refine id (Ax_mk rfl rfl (OpW_of_Qt rfl rfl (Qt_load1 (v := (sv vp0_waiting)) rfl rfl rfl (Rdc.blk Mb0 rfl)) ⟨Inc.nil, ?_⟩))
    refine Aw_one 2 (by kernel_rfl) (Ax_mk rfl rfl ?_)
    refine OpW_call rfl Try.call74 rfl rfl (c_M_70z p0.chans vp0_chans x76 hx77 _ _ hp0_chans) ?_
    rintro _ _ _ - ⟨v92, rs93, rfl, rfl, rfl, hs94⟩
    refine ⟨Inc.nil, ?_⟩
    refine Awq 6 rfl (by kernel_rfl) rfl rfl rfl (Qt_fieldAddr (m := 0) rfl rfl rfl rfl rfl) ?_
    refine Aw_one 5 (by kernel_rfl) (Ax_mk rfl rfl ?_)
    refine OpW_call rfl Try.call75 rfl rfl (c_M_169z p0.waiting vp0_waiting x81 hx82 _ _ hp0_waiting) ?_
    rintro _ _ _ - ⟨v95, rs96, rfl, rfl, rfl, hs97⟩
    refine ⟨Inc.nil, ?_⟩
    refine Aw_one 7 (by kernel_rfl) (Ax_mk rfl rfl ?_)
    refine OpW_store (vs := [(sv v92)]) (all' := (Desk.cells (Desk.mk x76 p0.waiting p0.tick) v92 vp0_waiting)) rfl rfl rfl rfl rfl (.there (.there .here)) rfl rfl rfl ⟨Inc.nil, ?_⟩
    refine Awq 8 rfl (by kernel_rfl) rfl rfl rfl (Qt_fieldAddr (m := 1) rfl rfl rfl rfl rfl) ?_
    refine Aw_one 9 (by kernel_rfl) (Ax_mk rfl rfl ?_)
    refine OpW_store (vs := [(sv v95)]) (all' := (Desk.cells (Desk.mk x76 x81 p0.tick) v92 v95)) rfl rfl rfl rfl rfl (.there (.there .here)) rfl rfl rfl ⟨Inc.nil, ?_⟩
    refine Aw_done (by kernel_rfl)<|Pu1<|Pu2<|Shift.done<|?_
    exact ⟨_, by exact ⟨rfl, trivial⟩, v92, x76, rs93, v95, x81, rs96, rfl, rfl, rfl, H, hs94, hs97⟩
  ·skip
   refine id (Ax_mk rfl rfl (OpW_of_Qt rfl rfl (Qt_load1 (v := (sv vp0_waiting)) rfl rfl rfl (Rdc.blk Mb0 rfl)) ⟨Inc.nil, ?_⟩))
   refine Aw_one 1 (by kernel_rfl) (Ax_mk rfl rfl (OpW_of_Qt rfl rfl (Qt_load1 (v := (sv vp0_chans)) rfl rfl rfl (Rdc.blk Mb0 rfl)) ⟨Inc.nil, ?_⟩))
   refine Aw_one 2 (by kernel_rfl) (Ax_mk rfl rfl ?_)
   refine OpW_call rfl Try.call74 rfl rfl (c_M_70z p0.chans vp0_chans x76 hx77 _ _ hp0_chans) ?_
   rintro _ _ _ - ⟨v98, rs99, rfl, rfl, rfl, hs100⟩
   refine ⟨Inc.nil, ?_⟩
   refine Awq 6 rfl (by kernel_rfl) rfl rfl rfl (Qt_fieldAddr (m := 0) rfl rfl rfl rfl rfl) ?_
   refine Aw_one 5 (by kernel_rfl) (Ax_mk rfl rfl ?_)
   refine OpW_call rfl Try.call75 rfl rfl (c_M_169z p0.waiting vp0_waiting x81 hx82 _ _ hp0_waiting) ?_
   rintro _ _ _ - ⟨v101, rs102, rfl, rfl, rfl, hs103⟩
   refine ⟨Inc.nil, ?_⟩
   refine Aw_one 7 (by kernel_rfl) (Ax_mk rfl rfl ?_)
   refine OpW_store (vs := [(sv v98)]) (all' := (Desk.cells (Desk.mk x76 p0.waiting p0.tick) v98 vp0_waiting)) rfl rfl rfl rfl rfl (.there (.there .here)) rfl rfl rfl ⟨Inc.nil, ?_⟩
   refine Awq 8 rfl (by kernel_rfl) rfl rfl rfl (Qt_fieldAddr (m := 1) rfl rfl rfl rfl rfl) ?_
   refine Aw_one 9 (by kernel_rfl) (Ax_mk rfl rfl ?_)
   refine OpW_store (vs := [(sv v101)]) (all' := (Desk.cells (Desk.mk x76 x81 p0.tick) v98 v101)) rfl rfl rfl rfl rfl (.there (.there .here)) rfl rfl rfl ⟨Inc.nil, ?_⟩
   refine Aw_done (by kernel_rfl)<|Pu1<|Pu2<|Shift.done<|?_
   exact ⟨_, by exact ⟨rfl, trivial⟩, v98, x76, rs99, v101, x81, rs102, rfl, rfl, rfl, H, hs100, hs103⟩
 rintro _ _ _ - ⟨v68, l69, rs71, v72, l73, rs75, rfl, rfl, rfl, H, hR70, hR74⟩
 unfold M_170z at H
 refine Cw_seq<|Cw_region<|Ow_q rfl rfl rfl (Qt_loadA (m := 3) (cs := (Desk.cells (Desk.mk l69 l73 p0.tick) v68 v72)) rfl rfl rfl rfl ⟨rfl, Rdc.blk Mb0 rfl⟩)<|Ow_q rfl rfl rfl (Qt_build (cs := (Desk_work.cells (Desk_work.mk (Desk.mk l69 l73 p0.tick) []) v68 v72 nilS)) rfl rfl rfl rfl rfl rfl)<|?_
 refine Ow_cons rfl (OpW_box (cs := (Desk_work.cells (Desk_work.mk (Desk.mk l69 l73 p0.tick) []) v68 v72 nilS)) rfl rfl rfl (fun b104 => ?_))
 refine Ow_q rfl rfl rfl (Qt_assign rfl)<|Ow_nil<|Cw_ret<|?_
 obtain ey0 := inj1 H
 subst y0
 refine ⟨(by first | exact .inl rfl | exact .inr rfl), [(.pointer (some ((⟨b104, 0, none⟩ : Addr).add 0)))], ⟨(.pointer (some ((⟨b104, 0, none⟩ : Addr).add 0))), _, rfl, rfl, rfl⟩, ?_⟩
 have hR105 : RowR TyDone K [] [] := RowR.nil
 refine Shift.nilRow 75 6<|Pu4<|Pu4<|Pu3<|Re4<|Shift.done<|?_
 exact ⟨b104, v68, rs71, v72, rs75, nilS, ([] : List (List Value)), rfl, rfl, rfl, hR70, hR74, hR105⟩

set_option maxHeartbeats 1000000 in
theorem c_M_42z (p0 : Desk) (vp0_chans : SV) (vp0_waiting : SV) (p1 : Int) (y0 : Bool) (H : M_42z p0 p1 = some y0) (K : Kp) (G : List Ent) (hp0_chans : Slr TyChan K (sv vp0_chans) p0.chans) (hp0_waiting : Slr TyWaiter K (sv vp0_waiting) p0.waiting) :
  Fc Try.prog 45 #[(.agg (Desk.cells p0 vp0_chans vp0_waiting).toArray), (.int .i64 p1)] K (G) (fun v K' G' => v = (.bool y0) ∧ K = K' ∧ G = G') := by
 refine Fc_body Try.func45 rfl Try.ntmps45 Try.results45 rfl ?_
 unfold M_42z at H
 refine Cw_seq<|Cw_region<|?_
 refine Ow_cons rfl (OpW_box (cs := (Desk.cells p0 vp0_chans vp0_waiting)) rfl rfl rfl (fun b3 => ?_))
 refine Ow_q rfl rfl rfl (Qt_assign rfl)<|Ow_nil<|Cw_seq<|Cw_region<|Ow_q rfl rfl rfl (Qt_move rfl)<|Ow_q rfl rfl rfl (Qt_cmp rfl rfl rfl)<|Ow_q rfl rfl rfl (Qt_move rfl)<|?_
 refine Ow_caseG rfl rfl rfl ?_ ?_
 ·intro h5
  have h5 := dcd_t (h5)
  have H := ift h5 H
  refine Ow_qw rfl rfl rfl rfl rfl rfl (Qt_move rfl)<|Ow_qw rfl rfl rfl rfl rfl rfl (Qt_fieldAddr (m := 0) rfl rfl rfl rfl rfl)<|Ow_qw rfl rfl rfl rfl rfl rfl (Qt_load1 (v := (sv vp0_chans)) rfl rfl rfl (Rdc.blk Mb0 rfl))<|Ow_qw rfl rfl rfl rfl rfl rfl (Q_len (T := TyChan) hp0_chans rfl rfl)<|Ow_qw rfl rfl rfl rfl rfl rfl (Qt_cmp rfl rfl rfl)<|Ow_q rfl rfl rfl (Qt_pick_t rfl rfl)<|Ow_q rfl rfl rfl (Qt_assign rfl)<|Ow_nil<|Cw_ret<|?_
  obtain ey0 := inj1 H
  subst y0
  refine ⟨(by first | exact .inl rfl | exact .inr rfl), [(.bool (dcd (p1 < (p0.chans.length : Int))))], ⟨(.bool (dcd (p1 < (p0.chans.length : Int)))), _, rfl, rfl, rfl⟩, ?_⟩
  refine Re0<|Shift.done<|?_
  exact ⟨rfl, rfl, rfl⟩
 ·intro h5
  have h5 := dcd_f (h5)
  have H := iff_ h5 H
  refine Ow_pass rfl rfl rfl rfl rfl rfl rfl<|Ow_pass rfl rfl rfl rfl rfl rfl rfl<|Ow_pass rfl rfl rfl rfl rfl rfl rfl<|Ow_pass rfl rfl rfl rfl rfl rfl rfl<|Ow_pass rfl rfl rfl rfl rfl rfl rfl<|Ow_q rfl rfl rfl (Qt_pick_f rfl rfl)<|Ow_q rfl rfl rfl (Qt_assign rfl)<|Ow_nil<|Cw_ret<|?_
  obtain ey0 := inj1 H
  subst y0
  refine ⟨(by first | exact .inl rfl | exact .inr rfl), [(.bool false)], ⟨(.bool false), _, rfl, rfl, rfl⟩, ?_⟩
  refine Re0<|Shift.done<|?_
  exact ⟨rfl, rfl, rfl⟩



end Go.Hx

namespace Go.Hx
open Go Go.Proofs
set_option linter.unusedSimpArgs false
set_option linter.unusedVariables false
set_option maxRecDepth 10000
set_option maxHeartbeats 1000000 in
theorem c_M_43z (p0 : Op) (vp0_cases : SV) (vp0_draws : SV) (y0 : List Case) (H : M_43z p0 = some y0) (K : Kp) (G : List Ent) (hp0_cases : Slr TyCase K (sv vp0_cases) p0.cases) (hp0_draws : Slr Ty.i64 K (sv vp0_draws) p0.draws) :
  Fc Try.prog 49 #[(.agg (Op.cells p0 vp0_cases vp0_draws).toArray)] K (G) (fun v K' G' => ∃ (wy0 : SV), v = (sv wy0) ∧ G = G' ∧ Slr TyCase K' (sv wy0) y0) := by
 refine Fc_body Try.func49 rfl Try.ntmps49 Try.results49 rfl ?_
 unfold M_43z at H
 refine Cw_seq<|Cw_region<|?_
 refine Ow_cons rfl (OpW_box (cs := (Op.cells p0 vp0_cases vp0_draws)) rfl rfl rfl (fun b9 => ?_))
 refine Ow_q rfl rfl rfl (Qt_assign rfl)<|Ow_nil<|Cw_seq<|Cw_seq<|Cw_region<|Ow_q rfl rfl rfl (Qt_loadA (m := 7) (cs := (Op.cells p0 vp0_cases vp0_draws)) rfl rfl rfl rfl ⟨rfl, Rdc.blk Mb0 rfl⟩)<|?_
 obtain ⟨x17, x18, hx19, H⟩ := bnd2 H
 refine Ow_cons rfl (OpW_call rfl Try.call47 rfl rfl (c_M_8z p0 vp0_cases vp0_draws x17 x18 hx19 _ _ hp0_cases hp0_draws) ?_)
 rintro _ _ _ - ⟨rfl, rfl, rfl⟩
 refine Ow_q rfl rfl rfl (Qt_move rfl)<|Ow_q rfl rfl rfl (Qt_extract rfl rfl)<|Ow_q rfl rfl rfl (Qt_extract rfl rfl)<|?_
 refine Ow_cons rfl (OpW_alloc (cs := (Case.cells (Case.mk false 0 0))) rfl rfl rfl rfl (fun b20 => ?_))
 refine Ow_cons rfl (OpW_store (vs := (Case.cells x17)) (all' := (Case.cells x17)) rfl rfl rfl rfl rfl .here rfl rfl rfl ?_)
 refine Ow_q rfl rfl rfl (Qt_assign rfl)<|Ow_nil<|Cw_seq<|Cw_region<|Ow_q rfl rfl rfl (Qt_move rfl)<|Ow_nil<|?_
 refine Cw_cond rfl ?_ ?_
 ·intro h21
  have H := ift h21 H
  refine Cw_seq<|Cw_region<|Ow_q rfl rfl rfl (Qt_loadA (m := 3) (cs := (Case.cells x17)) rfl rfl rfl rfl ⟨rfl, Rdc.blk Mb0 rfl⟩)<|?_
  have hR23 : RowR TyCase K [(Case.cells x17)] [x17] := RowR.cons rfl (RowR.nil)
  refine Ow_cons rfl (O_lit (T := TyCase) (rows := [(Case.cells x17)]) (l := [x17]) rfl rfl rfl hR23 rfl rfl rfl rfl rfl rfl rfl rfl (fun v22 => ?_))
  refine Ow_q rfl rfl rfl (Qt_assign rfl)<|Ow_nil<|Cw_ret<|?_
  obtain ey0 := inj1 H
  subst y0
  refine ⟨(by first | exact .inl rfl | exact .inr rfl), [(sv v22)], ⟨(sv v22), _, rfl, rfl, rfl⟩, ?_⟩
  refine Shift.settle (T := TyCase) .here hR23 rfl ?_
  intro K24 hK25 hs26
  refine Re0<|Re0<|Re0<|Shift.done<|?_
  exact ⟨v22, rfl, rfl, hs26⟩
 ·intro h21
  have H := iff_ (btf h21) H
  refine Cw_skip<|Cw_seq<|Cw_region<|Ow_q rfl rfl rfl (Qt_fieldAddr (m := 5) rfl rfl rfl rfl rfl)<|Ow_q rfl rfl rfl (Qt_load1 (v := (sv vp0_cases)) rfl rfl rfl (Rdc.blk Mb1 rfl))<|Ow_q rfl rfl rfl (Qt_assign rfl)<|Ow_nil<|Cw_ret<|?_
  obtain ey0 := inj1 H
  subst y0
  refine ⟨(by first | exact .inl rfl | exact .inr rfl), [(sv vp0_cases)], ⟨(sv vp0_cases), _, rfl, rfl, rfl⟩, ?_⟩
  refine Re0<|Re0<|Shift.done<|?_
  exact ⟨vp0_cases, rfl, rfl, hp0_cases⟩

set_option maxHeartbeats 1000000 in
theorem c_M_24z (p0 : Op) (vp0_cases : SV) (vp0_draws : SV) (p1 : Int) (p2 : Bool) (y0 : Int) (y1 : Bool) (H : M_24z p0 p1 p2 = some (y0, y1)) (K : Kp) (G : List Ent) (hp0_cases : Slr TyCase K (sv vp0_cases) p0.cases) (hp0_draws : Slr Ty.i64 K (sv vp0_draws) p0.draws) :
  Fc Try.prog 70 #[(.agg (Op.cells p0 vp0_cases vp0_draws).toArray), (.int .i64 p1), (.bool p2)] K (G) (fun v K' G' => v = (.tuple #[(.int .i64 y0), (.bool y1)]) ∧ G = G') := by
 refine Fc_body Try.func70 rfl Try.ntmps70 Try.results70 rfl ?_
 unfold M_24z at H
 refine Cw_seq<|Cw_region<|?_
 refine Ow_cons rfl (OpW_box (cs := (Op.cells p0 vp0_cases vp0_draws)) rfl rfl rfl (fun b38 => ?_))
 refine Ow_q rfl rfl rfl (Qt_assign rfl)<|Ow_q rfl rfl rfl (Qt_assign rfl)<|Ow_nil<|?_
 refine Cw_join (fun env' K' G' => [] = env' ∧ G = G' ∧ M_171z = some (y0, y1)) ?_ ?_
 ·skip
  refine Cw_seq<|Cw_region<|Ow_q rfl rfl rfl (Qt_loadA (m := 7) (cs := (Op.cells p0 vp0_cases vp0_draws)) rfl rfl rfl rfl ⟨rfl, Rdc.blk Mb0 rfl⟩)<|?_
  obtain ⟨x73, hx74, H⟩ := bnd H
  refine Ow_cons rfl (OpW_call rfl Try.call49 rfl rfl (c_M_43z p0 vp0_cases vp0_draws x73 hx74 _ _ hp0_cases hp0_draws) ?_)
  rintro _ K76 _ hK77 ⟨v75, rfl, rfl, hs78⟩
  refine Ow_q rfl rfl rfl (Q_len (T := TyCase) hs78 rfl rfl)<|Ow_q rfl rfl rfl (Qt_move rfl)<|Ow_nil<|Cw_block<|?_
  refine Cw_loopM (fun n107 env' K' G' => ∃ (i106 : Int), [(1, (.int .i64 p1)), (2, (.bool p2)), (11, (sv v75)), (12, (.int .i64 (x73.length : Int))), (13, (.int .i64 i106))] = env' ∧ K76 = K' ∧ G = G' ∧ lp1 (M_115z p1 p2 x73) n107 i106 = some (y0, y1)) BIG ?_ ?_
  ·skip
   refine Re0<|Shift.done<|?_
   exact ⟨_, by exact ⟨rfl, rfl, rfl, rfl, rfl, trivial⟩, 0, rfl, rfl, rfl, H⟩
  rintro n107 _ _ _ - ⟨i106, rfl, rfl, rfl, H⟩
  obtain ⟨m108, k109, rfl, hkk110, H⟩ := lps1 H
  unfold M_115z at H
  refine Cw_seq<|Cw_region<|Ow_q rfl rfl rfl (Qt_cmp rfl rfl rfl)<|Ow_nil<|Cw_seq<|?_
  refine Cw_cond rfl ?_ ?_
  ·intro h112
   have h112 := dcd_t (h112)
   have H := ift h112 H
   refine Cw_skip<|Cw_seq<|Cw_block<|Cw_seq<|Cw_region<|Ow_q rfl rfl rfl (Qt_move rfl)<|?_
   obtain ⟨x122, hx123, H⟩ := bnd H
   obtain ⟨r124, hr125, hk126⟩ := Slr.at hs78 hx123
   obtain rfl := hr125
   refine Ow_q rfl rfl rfl (Q_ix (T := TyCase) hs78 hx123 rfl rfl rfl rfl rfl)<|Ow_q rfl rfl rfl (Qt_loadA (m := 3) (cs := (Case.cells x122)) rfl rfl rfl rfl ⟨rfl, Rdc.k hk126 rfl⟩)<|?_
   refine Ow_cons rfl (OpW_alloc (cs := (Case.cells (Case.mk false 0 0))) rfl rfl rfl rfl (fun b127 => ?_))
   refine Ow_q rfl rfl rfl (Qt_assign rfl) ?_
   refine Ow_cons rfl (OpW_store (vs := (Case.cells x122)) (all' := (Case.cells x122)) rfl rfl rfl rfl rfl .here rfl rfl rfl ?_)
   refine Ow_nil ?_
   refine Cw_join (fun env' K' G' => ∃ (t129 : Bool), [(1, (.int .i64 p1)), (2, (.bool p2)), (8, (.int .i64 i106)), (11, (sv v75)), (12, (.int .i64 (x73.length : Int))), (13, (.int .i64 i106)), (27, (.bool t129))] = env' ∧ K76 = K' ∧ G = G' ∧ M_114z p1 p2 i106 x73 k109 t129 = some (y0, y1)) ?_ ?_
   ·skip
    refine Cw_region<|Ow_q rfl rfl rfl (Qt_fieldAddr (m := 1) rfl rfl rfl rfl rfl)<|Ow_q rfl rfl rfl (Qt_load1 (v := (.int .i64 x122.channel)) rfl rfl rfl (Rdc.blk Mb0 rfl))<|Ow_q rfl rfl rfl (Qt_move rfl)<|Ow_q rfl rfl rfl (Qt_cmp rfl rfl rfl)<|Ow_q rfl rfl rfl (Qt_move rfl)<|?_
    refine Ow_caseG rfl rfl rfl ?_ ?_
    ·intro h130
     have h130 := dcd_t (h130)
     have H := ift h130 H
     refine Ow_qw rfl rfl rfl rfl rfl rfl (Qt_fieldAddr (m := 0) rfl rfl rfl rfl rfl)<|Ow_qw rfl rfl rfl rfl rfl rfl (Qt_load1 (v := (.bool x122.send)) rfl rfl rfl (Rdc.blk Mb0 rfl))<|Ow_qw rfl rfl rfl rfl rfl rfl (Qt_move rfl)<|Ow_qw rfl rfl rfl rfl rfl rfl (Qt_eqB rfl rfl rfl)<|Ow_q rfl rfl rfl (Qt_pick_t rfl rfl)<|Ow_nil<|Re0<|Shift.done<|?_
     exact ⟨_, by exact ⟨rfl, rfl, rfl, rfl, rfl, rfl, rfl, trivial⟩, (x122.send == p2), rfl, rfl, rfl, H⟩
    ·intro h130
     have h130 := dcd_f (h130)
     have H := iff_ h130 H
     refine Ow_pass rfl rfl rfl rfl rfl rfl rfl<|Ow_pass rfl rfl rfl rfl rfl rfl rfl<|Ow_pass rfl rfl rfl rfl rfl rfl rfl<|Ow_pass rfl rfl rfl rfl rfl rfl rfl<|Ow_q rfl rfl rfl (Qt_pick_f rfl rfl)<|Ow_nil<|Re0<|Shift.done<|?_
     exact ⟨_, by exact ⟨rfl, rfl, rfl, rfl, rfl, rfl, rfl, trivial⟩, false, rfl, rfl, rfl, H⟩
   rintro _ _ _ - ⟨t129, rfl, rfl, rfl, H⟩
   unfold M_114z at H
   refine Cw_cond rfl ?_ ?_
   ·intro h131
    have H := ift h131 H
    refine Cw_seq<|Cw_region<|Ow_q rfl rfl rfl (Qt_move rfl)<|Ow_q rfl rfl rfl (Qt_assign rfl)<|Ow_q rfl rfl rfl (Qt_assign rfl)<|Ow_nil<|Cw_ret<|?_
    obtain ⟨ey0, ey1⟩ := inj2 H
    subst y0 y1
    refine ⟨(by first | exact .inl rfl | exact .inr rfl), [(.int .i64 i106), (.bool true)], ⟨(.int .i64 i106), _, rfl, rfl, ⟨(.bool true), _, rfl, rfl, rfl⟩⟩, ?_⟩
    exact Shift.done ⟨rfl, rfl⟩
   ·intro h131
    have H := iff_ (btf h131) H
    refine Cw_skip<|Cw_region<|Ow_q rfl rfl rfl (Qt_arith (e := wI (i106 + 1)) rfl rfl rfl rfl)<|Ow_q rfl rfl rfl (Qt_move rfl)<|Ow_nil<|Shift.done<|?_
    exact ⟨_, by exact ⟨rfl, rfl, rfl, rfl, rfl, trivial⟩, _, Nat.lt_succ_self _, (wI (i106 + 1)), rfl, rfl, rfl, (hkk110 ▸ H)⟩
  ·intro h112
   have h112 := dcd_f (h112)
   have H := iff_ h112 H
   refine Cw_exit<|Shift.done<|?_
   exact ⟨[], trivial, rfl, rfl, H⟩
 rintro _ K132 _ hK133 ⟨rfl, rfl, H⟩
 unfold M_171z at H
 refine Cw_seq<|Cw_region<|Ow_q rfl rfl rfl (Qt_assign rfl)<|Ow_q rfl rfl rfl (Qt_assign rfl)<|Ow_nil<|Cw_ret<|?_
 obtain ⟨ey0, ey1⟩ := inj2 H
 subst y0 y1
 refine ⟨(by first | exact .inl rfl | exact .inr rfl), [(.int .i64 0), (.bool false)], ⟨(.int .i64 0), _, rfl, rfl, ⟨(.bool false), _, rfl, rfl, rfl⟩⟩, ?_⟩
 exact Shift.done ⟨rfl, rfl⟩

set_option maxHeartbeats 1000000 in
theorem c_M_72z (p0 : Op) (vp0_cases : SV) (vp0_draws : SV) (p1 : Int) (y0 : Int) (H : M_72z p0 p1 = some y0) (K : Kp) (G : List Ent) (hp0_cases : Slr TyCase K (sv vp0_cases) p0.cases) (hp0_draws : Slr Ty.i64 K (sv vp0_draws) p0.draws) :
  Fc Try.prog 50 #[(.agg (Op.cells p0 vp0_cases vp0_draws).toArray), (.int .i64 p1)] K (G) (fun v K' G' => v = (.int .i64 y0) ∧ K = K' ∧ G = G') := by
 refine Fc_body Try.func50 rfl Try.ntmps50 Try.results50 rfl ?_
 unfold M_72z at H
 refine Cw_seq<|Cw_region<|?_
 refine Ow_cons rfl (OpW_box (cs := (Op.cells p0 vp0_cases vp0_draws)) rfl rfl rfl (fun b3 => ?_))
 refine Ow_q rfl rfl rfl (Qt_assign rfl)<|Ow_nil<|Cw_seq<|Cw_seq<|Cw_region<|Ow_q rfl rfl rfl (Qt_fieldAddr (m := 0) rfl rfl rfl rfl rfl)<|Ow_q rfl rfl rfl (Qt_load1 (v := (.int .i64 p0.kind)) rfl rfl rfl (Rdc.blk Mb0 rfl))<|Ow_q rfl rfl rfl (Qt_cmp rfl rfl rfl)<|Ow_nil<|?_
 refine Cw_cond rfl ?_ ?_
 ·intro h5
  have h5 := dcd_t (h5)
  have H := ift h5 H
  refine Cw_seq<|Cw_region<|Ow_q rfl rfl rfl (Qt_move rfl)<|Ow_q rfl rfl rfl (Qt_assign rfl)<|Ow_nil<|Cw_ret<|?_
  obtain ey0 := inj1 H
  subst y0
  refine ⟨(by first | exact .inl rfl | exact .inr rfl), [(.int .i64 p1)], ⟨(.int .i64 p1), _, rfl, rfl, rfl⟩, ?_⟩
  refine Re0<|Shift.done<|?_
  exact ⟨rfl, rfl, rfl⟩
 ·intro h5
  have h5 := dcd_f (h5)
  have H := iff_ h5 H
  refine Cw_skip<|Cw_seq<|Cw_region<|Ow_q rfl rfl rfl (Qt_assign rfl)<|Ow_nil<|Cw_ret<|?_
  obtain ey0 := inj1 H
  subst y0
  refine ⟨(by first | exact .inl rfl | exact .inr rfl), [(.int .i64 (-1))], ⟨(.int .i64 (-1)), _, rfl, rfl, rfl⟩, ?_⟩
  refine Re0<|Shift.done<|?_
  exact ⟨rfl, rfl, rfl⟩

set_option maxHeartbeats 1000000 in
theorem c_M_44z (bp0 : Nat) (p0 : Desk_work) (vp0_desk_chans : SV) (rsp0_desk_chans : List (List Value)) (vp0_desk_waiting : SV) (rsp0_desk_waiting : List (List Value)) (vp0_done : SV) (rsp0_done : List (List Value)) (p1 : Int) (p2 : Result) (z0_done : List Done) (H : M_44z p0 p1 p2 = some z0_done) (K : Kp) (G : List Ent) (hp0_desk_chans : RowR TyChan K rsp0_desk_chans p0.desk.chans) (hp0_desk_waiting : RowR TyWaiter K rsp0_desk_waiting p0.desk.waiting) (hp0_done : RowR TyDone K rsp0_done p0.done) :
  Fc Try.prog 51 #[(.pointer (some ((⟨bp0, 0, none⟩ : Addr).add 0))), (.int .i64 p1), (.agg (Result.cells p2).toArray)] K ((.blk bp0 92 (Desk_work.cells p0 vp0_desk_chans vp0_desk_waiting vp0_done)) :: (.row (sv vp0_desk_chans) 71 3 rsp0_desk_chans.flatten) :: (.row (sv vp0_desk_waiting) 52 8 rsp0_desk_waiting.flatten) :: (.row (sv vp0_done) 75 6 rsp0_done.flatten) :: G) (fun v K' G' => ∃ (wz0_done : SV) (rswz0_done : List (List Value)), v = (.tuple #[]) ∧ (.blk bp0 92 (Desk_work.cells (Desk_work.mk p0.desk z0_done) vp0_desk_chans vp0_desk_waiting wz0_done)) :: (.row (sv wz0_done) 75 6 rswz0_done.flatten) :: (.row (sv vp0_desk_chans) 71 3 rsp0_desk_chans.flatten) :: (.row (sv vp0_desk_waiting) 52 8 rsp0_desk_waiting.flatten) :: G = G' ∧ RowR TyDone K' rswz0_done z0_done) := by
 refine Fc_body Try.func51 rfl Try.ntmps51 Try.results51 rfl ?_
 unfold M_44z at H
 refine Cw_seq<|Cw_region<|?_
 refine Ow_cons rfl (OpW_box (cs := (Result.cells p2)) rfl rfl rfl (fun b49 => ?_))
 refine Ow_nil<|Cw_seq<|Cw_region<|Ow_q rfl rfl rfl (Qt_move rfl)<|Ow_q rfl rfl rfl (Qt_nilCheck rfl)<|Ow_q rfl rfl rfl (Qt_fieldAddr (m := 3) rfl rfl rfl rfl rfl)<|Ow_q rfl rfl rfl (Qt_load1 (v := (sv vp0_done)) rfl rfl rfl (Rdc.blk Mb1 rfl))<|Ow_q rfl rfl rfl (Q_lenR (T := TyDone) Mb4 hp0_done rfl rfl rfl)<|Ow_q rfl rfl rfl (Qt_assign rfl)<|Ow_nil<|?_
 refine Cw_join (fun env' K' G' => ∃ (i74 : Int), [(0, (.pointer (some ((⟨bp0, 0, none⟩ : Addr).add 0)))), (1, (.int .i64 p1)), (5, (.pointer (some ((⟨b49, 0, none⟩ : Addr).add 0)))), (6, (.int .i64 i74))] = env' ∧ (.blk bp0 92 (Desk_work.cells p0 vp0_desk_chans vp0_desk_waiting vp0_done)) :: (.blk b49 73 (Result.cells p2)) :: (.row (sv vp0_desk_chans) 71 3 rsp0_desk_chans.flatten) :: (.row (sv vp0_desk_waiting) 52 8 rsp0_desk_waiting.flatten) :: (.row (sv vp0_done) 75 6 rsp0_done.flatten) :: G = G' ∧ M_117z p1 p0 p2 i74 = some z0_done) ?_ ?_
 ·skip
  refine Cw_block ?_
  refine Cw_loopM (fun n99 env' K' G' => ∃ (i98 : Int), [(0, (.pointer (some ((⟨bp0, 0, none⟩ : Addr).add 0)))), (1, (.int .i64 p1)), (5, (.pointer (some ((⟨b49, 0, none⟩ : Addr).add 0)))), (6, (.int .i64 i98))] = env' ∧ K = K' ∧ (.blk bp0 92 (Desk_work.cells p0 vp0_desk_chans vp0_desk_waiting vp0_done)) :: (.blk b49 73 (Result.cells p2)) :: (.row (sv vp0_desk_chans) 71 3 rsp0_desk_chans.flatten) :: (.row (sv vp0_desk_waiting) 52 8 rsp0_desk_waiting.flatten) :: (.row (sv vp0_done) 75 6 rsp0_done.flatten) :: G = G' ∧ lp1 (M_172z p1 p0 p2) n99 i98 = some z0_done) BIG ?_ ?_
  ·skip
   refine Pu4<|Pu4<|Pu4<|Pu3<|Pu4<|Shift.done<|?_
   exact ⟨_, by exact ⟨rfl, rfl, rfl, rfl, trivial⟩, (p0.done.length : Int), rfl, rfl, rfl, H⟩
  rintro n99 _ _ _ - ⟨i98, rfl, rfl, rfl, H⟩
  obtain ⟨m100, k101, rfl, hkk102, H⟩ := lps1 H
  unfold M_172z at H
  refine Cw_seq ?_
  refine Cw_join (fun env' K' G' => ∃ (t117 : Bool), [(0, (.pointer (some ((⟨bp0, 0, none⟩ : Addr).add 0)))), (1, (.int .i64 p1)), (5, (.pointer (some ((⟨b49, 0, none⟩ : Addr).add 0)))), (6, (.int .i64 i98)), (26, (.bool t117))] = env' ∧ K = K' ∧ (.blk bp0 92 (Desk_work.cells p0 vp0_desk_chans vp0_desk_waiting vp0_done)) :: (.blk b49 73 (Result.cells p2)) :: (.row (sv vp0_desk_chans) 71 3 rsp0_desk_chans.flatten) :: (.row (sv vp0_desk_waiting) 52 8 rsp0_desk_waiting.flatten) :: (.row (sv vp0_done) 75 6 rsp0_done.flatten) :: G = G' ∧ M_118z p1 i98 p0 p2 k101 t117 = some z0_done) ?_ ?_
  ·skip
   refine Cw_region<|Ow_q rfl rfl rfl (Qt_move rfl)<|Ow_q rfl rfl rfl (Qt_cmp rfl rfl rfl)<|Ow_q rfl rfl rfl (Qt_move rfl)<|?_
   refine Ow_caseG rfl rfl rfl ?_ ?_
   ·intro h118
    have h118 := dcd_t (h118)
    have H := ift h118 H
    refine Ow_qw rfl rfl rfl rfl rfl rfl (Qt_move rfl)<|Ow_qw rfl rfl rfl rfl rfl rfl (Qt_nilCheck rfl)<|Ow_qw rfl rfl rfl rfl rfl rfl (Qt_fieldAddr (m := 3) rfl rfl rfl rfl rfl)<|Ow_qw rfl rfl rfl rfl rfl rfl (Qt_load1 (v := (sv vp0_done)) rfl rfl rfl (Rdc.blk Mb0 rfl))<|Ow_qw rfl rfl rfl rfl rfl rfl (Qt_move rfl)<|Ow_qw rfl rfl rfl rfl rfl rfl (Qt_arith (e := wI (i98 - 1)) rfl rfl rfl rfl)<|?_
    obtain ⟨x119, hx120, H⟩ := bnd H
    obtain ⟨r121, hq122, hr123⟩ := RowR.at hp0_done hx120
    obtain rfl := hr123
    refine Ow_qw rfl rfl rfl rfl rfl rfl (Q_ixR (T := TyDone) Mb4 hp0_done hq122 (getI_ix hx120).1 rfl rfl rfl rfl rfl)<|Ow_qw rfl rfl rfl rfl rfl rfl (Qt_fieldAddr (m := 0) rfl rfl rfl rfl rfl)<|Ow_qw rfl rfl rfl rfl rfl rfl (Qt_load1 (v := (.int .i64 x119.thread)) rfl rfl rfl (Rd_row (T := TyDone) Mb4 hp0_done hq122 rfl rfl))<|Ow_qw rfl rfl rfl rfl rfl rfl (Qt_move rfl)<|Ow_qw rfl rfl rfl rfl rfl rfl (Qt_cmp rfl rfl rfl)<|Ow_q rfl rfl rfl (Qt_pick_t rfl rfl)<|Ow_nil<|Pu4<|Pu4<|Pu4<|?_
    refine Pu4<|Pu4<|Shift.done<|?_
    exact ⟨_, by exact ⟨rfl, rfl, rfl, rfl, rfl, trivial⟩, (dcd (x119.thread > p1)), rfl, rfl, rfl, H⟩
   ·intro h118
    have h118 := dcd_f (h118)
    have H := iff_ h118 H
    refine Ow_pass rfl rfl rfl rfl rfl rfl rfl<|Ow_pass rfl rfl rfl rfl rfl rfl rfl<|Ow_pass rfl rfl rfl rfl rfl rfl rfl<|Ow_pass rfl rfl rfl rfl rfl rfl rfl<|Ow_pass rfl rfl rfl rfl rfl rfl rfl<|Ow_pass rfl rfl rfl rfl rfl rfl rfl<|Ow_pass rfl rfl rfl rfl rfl rfl rfl<|Ow_pass rfl rfl rfl rfl rfl rfl rfl<|Ow_pass rfl rfl rfl rfl rfl rfl rfl<|Ow_pass rfl rfl rfl rfl rfl rfl rfl<|?_
    refine Ow_pass rfl rfl rfl rfl rfl rfl rfl<|Ow_q rfl rfl rfl (Qt_pick_f rfl rfl)<|Ow_nil<|Pu4<|Pu4<|Pu4<|Pu4<|Pu4<|Shift.done<|?_
    exact ⟨_, by exact ⟨rfl, rfl, rfl, rfl, rfl, trivial⟩, false, rfl, rfl, rfl, H⟩
  rintro _ _ _ - ⟨t117, rfl, rfl, rfl, H⟩
  unfold M_118z at H
  refine Cw_cond rfl ?_ ?_
  ·intro h124
   have H := ift h124 H
   refine Cw_skip<|Cw_block<|Cw_region<|Ow_q rfl rfl rfl (Qt_move rfl)<|Ow_q rfl rfl rfl (Qt_arith (e := wI (i98 - 1)) rfl rfl rfl rfl)<|Ow_q rfl rfl rfl (Qt_assign rfl)<|Ow_nil<|Pu4<|Pu4<|Pu4<|?_
   refine Pu4<|Pu4<|Shift.done<|?_
   exact ⟨_, by exact ⟨rfl, rfl, rfl, rfl, trivial⟩, _, Nat.lt_succ_self _, (wI (i98 - 1)), rfl, rfl, rfl, (hkk102 ▸ H)⟩
  ·intro h124
   have H := iff_ (btf h124) H
   refine Cw_exit<|Pu4<|Pu4<|Pu4<|Pu4<|Pu4<|Shift.done<|?_
   exact ⟨_, by exact ⟨rfl, rfl, rfl, rfl, trivial⟩, i98, rfl, rfl, H⟩
 rintro _ K125 _ hK126 ⟨i74, rfl, rfl, H⟩
 unfold M_117z at H
 obtain ⟨x129, hx130, H⟩ := bnd H
 refine Cw_region_any [.blk b49 73 (Result.cells p2), .row (sv vp0_desk_chans) 71 3 rsp0_desk_chans.flatten, .row (sv vp0_desk_waiting) 52 8 rsp0_desk_waiting.flatten] rfl (Inc.cons Mb1 (Inc.cons Mb2 (Inc.cons Mb3 Inc.nil)))<|Awq 0 rfl (by kernel_rfl) rfl rfl rfl (Qt_move rfl)<|Awq 1 rfl (by kernel_rfl) rfl rfl rfl (Qt_move rfl)<|Awq 2 rfl (by kernel_rfl) rfl rfl rfl (Qt_nilCheck rfl)<|Awq 3 rfl (by kernel_rfl) rfl rfl rfl (Qt_fieldAddr (m := 3) rfl rfl rfl rfl rfl)<|Awq 5 rfl (by kernel_rfl) rfl rfl rfl (Qt_move rfl)<|Awq 6 rfl (by kernel_rfl) rfl rfl rfl (Qt_move rfl)<|Awq 7 rfl (by kernel_rfl) rfl rfl rfl (Qt_loadA (m := 5) (cs := (Result.cells p2)) rfl rfl rfl rfl ⟨rfl, Rdc.blk Mb0 rfl⟩)<|Awq 8 rfl (by kernel_rfl) rfl rfl rfl (Qt_build (cs := (Done.cells (Done.mk p1 p2))) rfl rfl rfl rfl rfl rfl)<|?_
 refine Aw_two 4 9 (by kernel_rfl) ?_ ?_
 ·skip
  refine id (Ax_mk rfl rfl (OpW_of_Qt rfl rfl (Qt_load1 (v := (sv vp0_done)) rfl rfl rfl (Rdc.blk Mb0 rfl)) ⟨(Inc.cons Mb1 (Inc.cons Mb2 (Inc.cons Mb3 Inc.nil))), ?_⟩))
  refine Aw_one 9 (by kernel_rfl) (Ax_mk rfl rfl ?_)
  have hR136 : RowR TyDone K125 [(Done.cells (Done.mk p1 p2))] [(Done.mk p1 p2)] := RowR.cons rfl (RowR.nil)
  refine O_lit (T := TyDone) (rows := [(Done.cells (Done.mk p1 p2))]) (l := [(Done.mk p1 p2)]) rfl rfl rfl hR136 rfl rfl rfl rfl rfl rfl rfl rfl (fun v135 => ⟨(Inc.cons Mb2 (Inc.cons Mb3 (Inc.cons Mb4 Inc.nil))), ?_⟩)
  refine Aw_one 10 (by kernel_rfl) (Ax_mk rfl rfl ?_)
  refine OpW.shift (Pu5 (Shift.done ?_))
  have hs137 := (hp0_done).mono hK126
  refine OpW_call rfl Try.call79 rfl rfl (c_M_212z p0.done vp0_done rsp0_done i74 [(Done.mk p1 p2)] v135 [(Done.cells (Done.mk p1 p2))] x129 hx130 _ _ hs137 hR136) ?_
  rintro _ _ _ - ⟨v138, rs139, rfl, rfl, rfl, hs140⟩
  refine ⟨(Inc.cons Mb2 (Inc.cons Mb3 (Inc.cons Mb4 Inc.nil))), ?_⟩
  refine Awq 11 rfl (by kernel_rfl) rfl rfl rfl (Qt_nilCheck rfl)<|Awq 12 rfl (by kernel_rfl) rfl rfl rfl (Qt_fieldAddr (m := 3) rfl rfl rfl rfl rfl)<|?_
  refine Aw_one 13 (by kernel_rfl) (Ax_mk rfl rfl ?_)
  refine OpW_store (vs := [(sv v138)]) (all' := (Desk_work.cells (Desk_work.mk p0.desk x129) vp0_desk_chans vp0_desk_waiting v138)) rfl rfl rfl rfl rfl (.there .here) rfl rfl rfl ⟨(Inc.cons Mb2 (Inc.cons Mb3 (Inc.cons Mb4 Inc.nil))), ?_⟩
  refine Aw_done (by kernel_rfl) ?_
  obtain ez0_done := inj1 H
  subst z0_done
  refine ⟨(by first | exact .inl rfl | exact .inr rfl), [], rfl, ?_⟩
  refine Pu4<|Pu4<|Pu2<|Pu3<|Re4<|Shift.done<|?_
  exact ⟨v138, rs139, rfl, rfl, hs140⟩
 ·skip
  refine id (Ax_mk rfl rfl ?_)
  have hR142 : RowR TyDone K125 [(Done.cells (Done.mk p1 p2))] [(Done.mk p1 p2)] := RowR.cons rfl (RowR.nil)
  refine O_lit (T := TyDone) (rows := [(Done.cells (Done.mk p1 p2))]) (l := [(Done.mk p1 p2)]) rfl rfl rfl hR142 rfl rfl rfl rfl rfl rfl rfl rfl (fun v141 => ⟨(Inc.cons Mb2 (Inc.cons Mb3 (Inc.cons Mb4 Inc.nil))), ?_⟩)
  refine Aw_one 4 (by kernel_rfl) (Ax_mk rfl rfl (OpW_of_Qt rfl rfl (Qt_load1 (v := (sv vp0_done)) rfl rfl rfl (Rdc.blk Mb1 rfl)) ⟨(Inc.cons Mb2 (Inc.cons Mb3 (Inc.cons Mb4 Inc.nil))), ?_⟩))
  refine Aw_one 10 (by kernel_rfl) (Ax_mk rfl rfl ?_)
  refine OpW.shift (Pu5 (Shift.done ?_))
  have hs143 := (hp0_done).mono hK126
  refine OpW_call rfl Try.call79 rfl rfl (c_M_212z p0.done vp0_done rsp0_done i74 [(Done.mk p1 p2)] v141 [(Done.cells (Done.mk p1 p2))] x129 hx130 _ _ hs143 hR142) ?_
  rintro _ _ _ - ⟨v144, rs145, rfl, rfl, rfl, hs146⟩
  refine ⟨(Inc.cons Mb2 (Inc.cons Mb3 (Inc.cons Mb4 Inc.nil))), ?_⟩
  refine Awq 11 rfl (by kernel_rfl) rfl rfl rfl (Qt_nilCheck rfl)<|Awq 12 rfl (by kernel_rfl) rfl rfl rfl (Qt_fieldAddr (m := 3) rfl rfl rfl rfl rfl)<|?_
  refine Aw_one 13 (by kernel_rfl) (Ax_mk rfl rfl ?_)
  refine OpW_store (vs := [(sv v144)]) (all' := (Desk_work.cells (Desk_work.mk p0.desk x129) vp0_desk_chans vp0_desk_waiting v144)) rfl rfl rfl rfl rfl (.there .here) rfl rfl rfl ⟨(Inc.cons Mb2 (Inc.cons Mb3 (Inc.cons Mb4 Inc.nil))), ?_⟩
  refine Aw_done (by kernel_rfl) ?_
  obtain ez0_done := inj1 H
  subst z0_done
  refine ⟨(by first | exact .inl rfl | exact .inr rfl), [], rfl, ?_⟩
  refine Pu4<|Pu4<|Pu2<|Pu3<|Re4<|Shift.done<|?_
  exact ⟨v144, rs145, rfl, rfl, hs146⟩

set_option maxHeartbeats 1000000 in
theorem c_M_45z (bp0 : Nat) (p0 : Desk_work) (vp0_desk_chans : SV) (rsp0_desk_chans : List (List Value)) (vp0_desk_waiting : SV) (rsp0_desk_waiting : List (List Value)) (vp0_done : SV) (rsp0_done : List (List Value)) (p1 : Int) (p2 : Int) (p3 : Result) (z0_waiting : List Waiter) (z0_done : List Done) (H : M_45z p0 p1 p2 p3 = some (z0_waiting, z0_done)) (K : Kp) (G : List Ent) (hp0_desk_chans : RowR TyChan K rsp0_desk_chans p0.desk.chans) (hp0_desk_waiting : RowR TyWaiter K rsp0_desk_waiting p0.desk.waiting) (hp0_done : RowR TyDone K rsp0_done p0.done) :
  Fc Try.prog 76 #[(.pointer (some ((⟨bp0, 0, none⟩ : Addr).add 0))), (.int .i64 p1), (.int .i64 p2), (.agg (Result.cells p3).toArray)] K ((.blk bp0 92 (Desk_work.cells p0 vp0_desk_chans vp0_desk_waiting vp0_done)) :: (.row (sv vp0_desk_chans) 71 3 rsp0_desk_chans.flatten) :: (.row (sv vp0_desk_waiting) 52 8 rsp0_desk_waiting.flatten) :: (.row (sv vp0_done) 75 6 rsp0_done.flatten) :: G) (fun v K' G' => ∃ (wz0_waiting : SV) (rswz0_waiting : List (List Value)) (wz0_done : SV) (rswz0_done : List (List Value)), v = (.tuple #[]) ∧ (.blk bp0 92 (Desk_work.cells (Desk_work.mk (Desk.mk p0.desk.chans z0_waiting p0.desk.tick) z0_done) vp0_desk_chans wz0_waiting wz0_done)) :: (.row (sv wz0_waiting) 52 8 rswz0_waiting.flatten) :: (.row (sv wz0_done) 75 6 rswz0_done.flatten) :: (.row (sv vp0_desk_chans) 71 3 rsp0_desk_chans.flatten) :: G = G' ∧ RowR TyWaiter K' rswz0_waiting z0_waiting ∧ RowR TyDone K' rswz0_done z0_done) := by
 refine Fc_body Try.func76 rfl Try.ntmps76 Try.results76 rfl ?_
 unfold M_45z at H
 refine Cw_seq<|Cw_region<|?_
 refine Ow_cons rfl (OpW_box (cs := (Result.cells p3)) rfl rfl rfl (fun b26 => ?_))
 refine Ow_nil<|Cw_seq<|Cw_region<|Ow_q rfl rfl rfl (Qt_move rfl)<|Ow_q rfl rfl rfl (Qt_nilCheck rfl)<|Ow_q rfl rfl rfl (Qt_fieldAddr (m := 0) rfl rfl rfl rfl rfl)<|Ow_q rfl rfl rfl (Qt_fieldAddr (m := 1) rfl rfl rfl rfl rfl)<|Ow_q rfl rfl rfl (Qt_load1 (v := (sv vp0_desk_waiting)) rfl rfl rfl (Rdc.blk Mb1 rfl))<|Ow_q rfl rfl rfl (Qt_move rfl)<|?_
 obtain ⟨x27, hx28, H⟩ := bnd H
 obtain ⟨r29, hq30, hr31⟩ := RowR.at hp0_desk_waiting hx28
 obtain ⟨v32, v33, rfl, hs34, hs35⟩ := hr31
 refine Ow_q rfl rfl rfl (Q_ixR (T := TyWaiter) Mb3 hp0_desk_waiting hq30 (getI_ix hx28).1 rfl rfl rfl rfl rfl)<|Ow_q rfl rfl rfl (Qt_loadA (m := 8) (cs := (Waiter.cells x27 v32 v33)) rfl rfl rfl rfl ⟨rfl, Rd_row (T := TyWaiter) Mb3 hp0_desk_waiting hq30 rfl rfl⟩)<|?_
 refine Ow_cons rfl (OpW_alloc (cs := (Waiter.cells (Waiter.mk 0 (Op.mk 0 0 0 0 0 [] [])) nilS nilS)) rfl rfl rfl rfl (fun b36 => ?_))
 refine Ow_cons rfl (OpW_store (vs := (Waiter.cells x27 v32 v33)) (all' := (Waiter.cells x27 v32 v33)) rfl rfl rfl rfl rfl .here rfl rfl rfl ?_)
 refine Ow_nil<|Cw_seq<|Cw_region<|Ow_q rfl rfl rfl (Qt_fieldAddr (m := 1) rfl rfl rfl rfl rfl)<|Ow_q rfl rfl rfl (Qt_loadA (m := 7) (cs := (Op.cells x27.op v32 v33)) rfl rfl rfl rfl ⟨rfl, Rdc.blk Mb0 rfl⟩)<|Ow_q rfl rfl rfl (Qt_move rfl)<|?_
 obtain ⟨x37, hx38, H⟩ := bnd H
 refine Ow_cons rfl (OpW_call rfl Try.call50 rfl rfl (c_M_72z x27.op v32 v33 p2 x37 hx38 _ _ hs34 hs35) ?_)
 rintro _ _ _ - ⟨rfl, rfl, rfl⟩
 refine Ow_q rfl rfl rfl (Qt_fieldAddr (m := 1) rfl rfl rfl rfl rfl) ?_
 refine Ow_cons rfl (OpW_store (vs := [(.int .i64 x37)]) (all' := (Result.cells (Result.mk p3.kind x37 p3.value p3.ok p3.number))) rfl rfl rfl rfl rfl (.there .here) rfl rfl rfl ?_)
 refine Ow_nil<|Cw_seq<|Cw_region<|Ow_q rfl rfl rfl (Qt_move rfl)<|Ow_q rfl rfl rfl (Qt_move rfl)<|Ow_q rfl rfl rfl (Qt_nilCheck rfl)<|Ow_q rfl rfl rfl (Qt_fieldAddr (m := 0) rfl rfl rfl rfl rfl)<|Ow_q rfl rfl rfl (Qt_fieldAddr (m := 1) rfl rfl rfl rfl rfl)<|Ow_q rfl rfl rfl (Qt_load1 (v := (sv vp0_desk_waiting)) rfl rfl rfl (Rdc.blk Mb2 rfl))<|Ow_q rfl rfl rfl (Qt_move rfl)<|?_
 refine Ow_q rfl rfl rfl (Qt_move rfl)<|Ow_q rfl rfl rfl (Qt_arith (e := wI (p1 + 1)) rfl rfl rfl rfl)<|?_
 obtain ⟨x39, hx40, H⟩ := bnd H
 refine Ow.shift (Pu4 (Shift.done ?_))
 refine Ow_cons rfl (OpW_call rfl Try.call89 rfl rfl (c_M_116z p0.desk.waiting vp0_desk_waiting rsp0_desk_waiting p1 (wI (p1 + 1)) x39 hx40 _ _ hp0_desk_waiting) ?_)
 rintro _ _ _ - ⟨v41, rs42, rfl, rfl, rfl, hs43⟩
 refine Ow_q rfl rfl rfl (Qt_nilCheck rfl)<|Ow_q rfl rfl rfl (Qt_fieldAddr (m := 0) rfl rfl rfl rfl rfl)<|Ow_q rfl rfl rfl (Qt_fieldAddr (m := 1) rfl rfl rfl rfl rfl)<|?_
 refine Ow_cons rfl (OpW_store (vs := [(sv v41)]) (all' := (Desk_work.cells (Desk_work.mk (Desk.mk p0.desk.chans x39 p0.desk.tick) p0.done) vp0_desk_chans v41 vp0_done)) rfl rfl rfl rfl rfl (.there (.there (.there .here))) rfl rfl rfl ?_)
 refine Ow_nil<|Cw_region<|Ow_q rfl rfl rfl (Qt_move rfl)<|Ow_q rfl rfl rfl (Qt_fieldAddr (m := 0) rfl rfl rfl rfl rfl)<|Ow_q rfl rfl rfl (Qt_load1 (v := (.int .i64 x27.thread)) rfl rfl rfl (Rdc.blk Mb1 rfl))<|Ow_q rfl rfl rfl (Qt_loadA (m := 5) (cs := (Result.cells (Result.mk p3.kind x37 p3.value p3.ok p3.number))) rfl rfl rfl rfl ⟨rfl, Rdc.blk Mb2 rfl⟩)<|?_
 obtain ⟨x44, hx45, H⟩ := bnd H
 refine Ow.shift (Pu5 (Shift.done ?_))
 refine Ow.shift (Pu1 (Shift.done ?_))
 refine Ow.shift (Pu5 (Shift.done ?_))
 refine Ow.shift (Pu5 (Shift.done ?_))
 refine Ow_cons rfl (OpW_call rfl Try.call51 rfl rfl (c_M_44z bp0 (Desk_work.mk (Desk.mk p0.desk.chans x39 p0.desk.tick) p0.done) vp0_desk_chans rsp0_desk_chans v41 rs42 vp0_done rsp0_done x27.thread (Result.mk p3.kind x37 p3.value p3.ok p3.number) x44 hx45 _ _ hp0_desk_chans hs43 hp0_done) ?_)
 rintro _ K48 _ hK49 ⟨v46, rs47, rfl, rfl, hs50⟩
 refine Ow_nil ?_
 obtain ⟨ez0_waiting, ez0_done⟩ := inj2 H
 subst z0_waiting z0_done
 refine ⟨(by first | exact .inl rfl | exact .inr rfl), [], rfl, ?_⟩
 refine Pu2<|Pu2<|Pu3<|Pu3<|Re4<|Re4<|?_
 have hs51 := (hs43).mono hK49
 exact Shift.done ⟨v41, rs42, v46, rs47, rfl, rfl, hs51, hs50⟩

set_option maxHeartbeats 1000000 in
theorem c_M_120z (bp0 : Nat) (p0 : Desk_work) (vp0_desk_chans : SV) (rsp0_desk_chans : List (List Value)) (vp0_desk_waiting : SV) (rsp0_desk_waiting : List (List Value)) (vp0_done : SV) (rsp0_done : List (List Value)) (p1 : Int) (z0_chans : List Chan) (z0_waiting : List Waiter) (z0_done : List Done) (H : M_120z p0 p1 = some (z0_chans, z0_waiting, z0_done)) (K : Kp) (G : List Ent) (hp0_desk_chans : RowR TyChan K rsp0_desk_chans p0.desk.chans) (hp0_desk_waiting : RowR TyWaiter K rsp0_desk_waiting p0.desk.waiting) (hp0_done : RowR TyDone K rsp0_done p0.done) :
  Fc Try.prog 46 #[(.pointer (some ((⟨bp0, 0, none⟩ : Addr).add 0))), (.int .i64 p1)] K ((.blk bp0 92 (Desk_work.cells p0 vp0_desk_chans vp0_desk_waiting vp0_done)) :: (.row (sv vp0_desk_chans) 71 3 rsp0_desk_chans.flatten) :: (.row (sv vp0_desk_waiting) 52 8 rsp0_desk_waiting.flatten) :: (.row (sv vp0_done) 75 6 rsp0_done.flatten) :: G) (fun v K' G' => ∃ (wz0_chans : SV) (rswz0_chans : List (List Value)) (wz0_waiting : SV) (rswz0_waiting : List (List Value)) (wz0_done : SV) (rswz0_done : List (List Value)), v = (.tuple #[]) ∧ (.blk bp0 92 (Desk_work.cells (Desk_work.mk (Desk.mk z0_chans z0_waiting p0.desk.tick) z0_done) wz0_chans wz0_waiting wz0_done)) :: (.row (sv wz0_chans) 71 3 rswz0_chans.flatten) :: (.row (sv wz0_waiting) 52 8 rswz0_waiting.flatten) :: (.row (sv wz0_done) 75 6 rswz0_done.flatten) :: G = G' ∧ RowR TyChan K' rswz0_chans z0_chans ∧ RowR TyWaiter K' rswz0_waiting z0_waiting ∧ RowR TyDone K' rswz0_done z0_done) := by
 refine Fc_body Try.func46 rfl Try.ntmps46 Try.results46 rfl ?_
 unfold M_120z at H
 refine Cw_seq<|Cw_region<|Ow_q rfl rfl rfl (Qt_move rfl)<|Ow_q rfl rfl rfl (Qt_nilCheck rfl)<|Ow_q rfl rfl rfl (Qt_fieldAddr (m := 0) rfl rfl rfl rfl rfl)<|Ow_q rfl rfl rfl (Qt_fieldAddr (m := 0) rfl rfl rfl rfl rfl)<|Ow_q rfl rfl rfl (Qt_load1 (v := (sv vp0_desk_chans)) rfl rfl rfl (Rdc.blk Mb0 rfl))<|Ow_q rfl rfl rfl (Qt_move rfl)<|?_
 obtain ⟨x240, hx241, H⟩ := bnd H
 obtain ⟨r242, hq243, hr244⟩ := RowR.at hp0_desk_chans hx241
 obtain ⟨v245, rfl, hs246⟩ := hr244
 refine Ow_q rfl rfl rfl (Q_ixR (T := TyChan) Mb1 hp0_desk_chans hq243 (getI_ix hx241).1 rfl rfl rfl rfl rfl)<|Ow_q rfl rfl rfl (Qt_fieldAddr (m := 2) rfl rfl rfl rfl rfl)<|?_
 refine Ow_cons rfl (O_storeR (T := TyChan) (vs := [(.bool true)]) (r' := (Chan.cells (Chan.mk x240.capacity x240.buffer true) v245)) (l' := (setI p0.desk.chans p1 (Chan.mk x240.capacity x240.buffer true))) rfl rfl rfl rfl rfl (.there .here) hp0_desk_chans hq243 rfl rfl rfl (RowR.set p1 hp0_desk_chans ⟨v245, rfl, hs246⟩) (fun hR247 => ?_))
 have hE248 := set_at hq243 (v := (Chan.cells (Chan.mk x240.capacity x240.buffer true) v245))
 refine Ow_nil<|Cw_seq<|Cw_region<|?_
 have hR250 : RowR Ty.bool K [[(.bool false)], [(.bool true)]] [false, true] := RowR.cons rfl (RowR.cons rfl (RowR.nil))
 refine Ow_cons rfl (O_lit (T := Ty.bool) (rows := [[(.bool false)], [(.bool true)]]) (l := [false, true]) rfl rfl rfl hR250 rfl rfl rfl rfl rfl rfl rfl rfl (fun v249 => ?_))
 refine Ow_q rfl rfl rfl (Q_lenR (T := Ty.bool) Mb0 hR250 rfl rfl rfl)<|Ow_q rfl rfl rfl (Qt_move rfl)<|Ow_nil<|Cw_block<|?_
 refine Cw_loopM (fun n479 env' K' G' => ∃ (i470 : Int) (v471 : SV) (l472 : List Waiter) (rs474 : List (List Value)) (v475 : SV) (l476 : List Done) (rs478 : List (List Value)), [(0, (.pointer (some ((⟨bp0, 0, none⟩ : Addr).add 0)))), (1, (.int .i64 p1)), (18, (sv v249)), (19, (.int .i64 ([false, true].length : Int))), (20, (.int .i64 i470))] = env' ∧ (.blk bp0 92 (Desk_work.cells (Desk_work.mk (Desk.mk (setI p0.desk.chans p1 (Chan.mk x240.capacity x240.buffer true)) l472 p0.desk.tick) l476) vp0_desk_chans v471 v475)) :: (.row (sv v471) 52 8 rs474.flatten) :: (.row (sv v475) 75 6 rs478.flatten) :: (.row (sv v249) 4 1 [[(.bool false)], [(.bool true)]].flatten) :: (.row (sv vp0_desk_chans) 71 3 (rsp0_desk_chans.set p1.toNat (Chan.cells (Chan.mk x240.capacity x240.buffer true) v245)).flatten) :: G = G' ∧ lp3 (M_46z p1 p0 x240) n479 i470 l472 l476 = some (z0_chans, z0_waiting, z0_done) ∧ RowR TyWaiter K' rs474 l472 ∧ RowR TyDone K' rs478 l476) BIG ?_ ?_
 ·skip
  refine Pu2<|Pu1<|Pu4<|Pu4<|Pu4<|Shift.done<|?_
  exact ⟨_, by exact ⟨rfl, rfl, rfl, rfl, rfl, trivial⟩, 0, vp0_desk_waiting, p0.desk.waiting, rsp0_desk_waiting, vp0_done, p0.done, rsp0_done, rfl, rfl, H, hp0_desk_waiting, hp0_done⟩
 rintro n479 _ K480 _ hK481 ⟨i470, v471, l472, rs474, v475, l476, rs478, rfl, rfl, H, hR473, hR477⟩
 obtain ⟨m482, k483, rfl, hkk484, H⟩ := lps3 H
 unfold M_46z at H
 refine Cw_seq<|Cw_region<|Ow_q rfl rfl rfl (Qt_cmp rfl rfl rfl)<|Ow_nil<|Cw_seq<|?_
 refine Cw_cond rfl ?_ ?_
 ·intro h486
  have h486 := dcd_t (h486)
  have H := ift h486 H
  refine Cw_skip ?_
  refine Cw_join (fun env' K' G' => ∃ (v579 : SV) (l580 : List Waiter) (rs582 : List (List Value)) (v583 : SV) (l584 : List Done) (rs586 : List (List Value)), [(0, (.pointer (some ((⟨bp0, 0, none⟩ : Addr).add 0)))), (1, (.int .i64 p1)), (18, (sv v249)), (19, (.int .i64 ([false, true].length : Int))), (20, (.int .i64 i470))] = env' ∧ (.blk bp0 92 (Desk_work.cells (Desk_work.mk (Desk.mk (setI p0.desk.chans p1 (Chan.mk x240.capacity x240.buffer true)) l580 p0.desk.tick) l584) vp0_desk_chans v579 v583)) :: (.row (sv v579) 52 8 rs582.flatten) :: (.row (sv v583) 75 6 rs586.flatten) :: (.row (sv v249) 4 1 [[(.bool false)], [(.bool true)]].flatten) :: (.row (sv vp0_desk_chans) 71 3 (rsp0_desk_chans.set p1.toNat (Chan.cells (Chan.mk x240.capacity x240.buffer true) v245)).flatten) :: G = G' ∧ M_173z p1 i470 p0 x240 k483 l580 l584 = some (z0_chans, z0_waiting, z0_done) ∧ RowR TyWaiter K' rs582 l580 ∧ RowR TyDone K' rs586 l584) ?_ ?_
  ·skip
   refine Cw_block<|Cw_seq<|Cw_region<|?_
   obtain ⟨x587, hx588, H⟩ := bnd H
   have hs589 := (hR250).mono hK481
   obtain ⟨r590, hq591, hr592⟩ := RowR.at hs589 hx588
   obtain rfl := hr592
   refine Ow_q rfl rfl rfl (Q_ixR (T := Ty.bool) Mb3 hs589 hq591 (getI_ix hx588).1 rfl rfl rfl rfl rfl)<|Ow_q rfl rfl rfl (Qt_load1 (v := (.bool x587)) rfl rfl rfl (Rd_row (T := Ty.bool) Mb3 hs589 hq591 rfl rfl))<|Ow_q rfl rfl rfl (Qt_assign rfl)<|Ow_nil<|Cw_seq<|Cw_region<|Ow_q rfl rfl rfl (Qt_build (cs := (Result.cells (Result.mk 2 0 0 false 0))) rfl rfl rfl rfl rfl rfl)<|?_
   refine Ow_cons rfl (OpW_alloc (cs := (Result.cells (Result.mk 0 0 0 false 0))) rfl rfl rfl rfl (fun b593 => ?_))
   refine Ow_cons rfl (OpW_store (vs := (Result.cells (Result.mk 2 0 0 false 0))) (all' := (Result.cells (Result.mk 2 0 0 false 0))) rfl rfl rfl rfl rfl .here rfl rfl rfl ?_)
   refine Ow_nil ?_
   refine Cw_join (fun env' K' G' => ∃ (i595 : Int), [(0, (.pointer (some ((⟨bp0, 0, none⟩ : Addr).add 0)))), (1, (.int .i64 p1)), (5, (.bool x587)), (6, (.pointer (some ((⟨b593, 0, none⟩ : Addr).add 0)))), (18, (sv v249)), (19, (.int .i64 ([false, true].length : Int))), (20, (.int .i64 i470))] = env' ∧ K480 = K' ∧ (.blk bp0 92 (Desk_work.cells (Desk_work.mk (Desk.mk (setI p0.desk.chans p1 (Chan.mk x240.capacity x240.buffer true)) l472 p0.desk.tick) l476) vp0_desk_chans v471 v475)) :: (.blk b593 73 (Result.cells (Result.mk i595 0 0 false 0))) :: (.row (sv v471) 52 8 rs474.flatten) :: (.row (sv v475) 75 6 rs478.flatten) :: (.row (sv v249) 4 1 [[(.bool false)], [(.bool true)]].flatten) :: (.row (sv vp0_desk_chans) 71 3 (rsp0_desk_chans.set p1.toNat (Chan.cells (Chan.mk x240.capacity x240.buffer true) v245)).flatten) :: G = G' ∧ M_25z p1 x587 i470 p0 x240 l472 l476 k483 i595 = some (z0_chans, z0_waiting, z0_done)) ?_ ?_
   ·skip
    refine Cw_seq<|Cw_region<|Ow_q rfl rfl rfl (Qt_move rfl)<|Ow_nil<|?_
    refine Cw_cond rfl ?_ ?_
    ·intro h596
     have H := ift h596 H
     refine Cw_region<|Ow_q rfl rfl rfl (Qt_fieldAddr (m := 0) rfl rfl rfl rfl rfl)<|?_
     refine Ow_cons rfl (OpW_store (vs := [(.int .i64 5)]) (all' := (Result.cells (Result.mk 5 0 0 false 0))) rfl rfl rfl rfl rfl .here rfl rfl rfl ?_)
     refine Ow_nil<|Pu5<|Pu5<|Pu5<|Pu5<|Pu4<|Pu5<|Shift.done<|?_
     exact ⟨_, by exact ⟨rfl, rfl, rfl, rfl, rfl, rfl, rfl, trivial⟩, 5, rfl, rfl, rfl, H⟩
    ·intro h596
     have H := iff_ (btf h596) H
     refine Cw_skip<|Pu5<|Pu5<|Pu5<|Pu5<|Pu4<|Pu5<|Shift.done<|?_
     exact ⟨_, by exact ⟨rfl, rfl, rfl, rfl, rfl, rfl, rfl, trivial⟩, 2, rfl, rfl, rfl, H⟩
   rintro _ _ _ - ⟨i595, rfl, rfl, rfl, H⟩
   unfold M_25z at H
   refine Cw_seq<|Cw_region<|Ow_q rfl rfl rfl (Qt_assign rfl)<|Ow_nil<|Cw_block<|?_
   refine Cw_loopM (fun n680 env' K' G' => ∃ (i671 : Int) (v672 : SV) (l673 : List Waiter) (rs675 : List (List Value)) (v676 : SV) (l677 : List Done) (rs679 : List (List Value)), [(0, (.pointer (some ((⟨bp0, 0, none⟩ : Addr).add 0)))), (1, (.int .i64 p1)), (5, (.bool x587)), (6, (.pointer (some ((⟨b593, 0, none⟩ : Addr).add 0)))), (7, (.int .i64 i671)), (18, (sv v249)), (19, (.int .i64 ([false, true].length : Int))), (20, (.int .i64 i470))] = env' ∧ (.blk bp0 92 (Desk_work.cells (Desk_work.mk (Desk.mk (setI p0.desk.chans p1 (Chan.mk x240.capacity x240.buffer true)) l673 p0.desk.tick) l677) vp0_desk_chans v672 v676)) :: (.blk b593 73 (Result.cells (Result.mk i595 0 0 false 0))) :: (.row (sv v672) 52 8 rs675.flatten) :: (.row (sv v676) 75 6 rs679.flatten) :: (.row (sv v249) 4 1 [[(.bool false)], [(.bool true)]].flatten) :: (.row (sv vp0_desk_chans) 71 3 (rsp0_desk_chans.set p1.toNat (Chan.cells (Chan.mk x240.capacity x240.buffer true) v245)).flatten) :: G = G' ∧ lp3 (M_119z p1 x587 i470 p0 x240 i595 k483) n680 i671 l673 l677 = some (z0_chans, z0_waiting, z0_done) ∧ RowR TyWaiter K' rs675 l673 ∧ RowR TyDone K' rs679 l677) BIG ?_ ?_
   ·skip
    refine Pu5<|Pu5<|Pu5<|Pu5<|Pu5<|Pu5<|Shift.done<|?_
    exact ⟨_, by exact ⟨rfl, rfl, rfl, rfl, rfl, rfl, rfl, rfl, trivial⟩, 0, v471, l472, rs474, v475, l476, rs478, rfl, rfl, H, hR473, hR477⟩
   rintro n680 _ K681 _ hK682 ⟨i671, v672, l673, rs675, v676, l677, rs679, rfl, rfl, H, hR674, hR678⟩
   obtain ⟨m683, k684, rfl, hkk685, H⟩ := lps3 H
   unfold M_119z at H
   refine Cw_seq<|Cw_seq<|Cw_region<|Ow_q rfl rfl rfl (Qt_move rfl)<|Ow_q rfl rfl rfl (Qt_move rfl)<|Ow_q rfl rfl rfl (Qt_nilCheck rfl)<|Ow_q rfl rfl rfl (Qt_fieldAddr (m := 0) rfl rfl rfl rfl rfl)<|Ow_q rfl rfl rfl (Qt_fieldAddr (m := 1) rfl rfl rfl rfl rfl)<|Ow_q rfl rfl rfl (Qt_load1 (v := (sv v672)) rfl rfl rfl (Rdc.blk Mb0 rfl))<|Ow_q rfl rfl rfl (Q_lenR (T := TyWaiter) Mb2 hR674 rfl rfl rfl)<|?_
   refine Ow_q rfl rfl rfl (Qt_cmp rfl rfl rfl)<|Ow_nil<|?_
   refine Cw_cond rfl ?_ ?_
   ·intro h687
    have h687 := dcd_t (h687)
    have H := ift h687 H
    refine Cw_skip<|Cw_block<|Cw_seq<|Cw_region<|Ow_q rfl rfl rfl (Qt_move rfl)<|Ow_q rfl rfl rfl (Qt_nilCheck rfl)<|Ow_q rfl rfl rfl (Qt_fieldAddr (m := 0) rfl rfl rfl rfl rfl)<|Ow_q rfl rfl rfl (Qt_fieldAddr (m := 1) rfl rfl rfl rfl rfl)<|Ow_q rfl rfl rfl (Qt_load1 (v := (sv v672)) rfl rfl rfl (Rdc.blk Mb0 rfl))<|Ow_q rfl rfl rfl (Qt_move rfl)<|?_
    obtain ⟨x688, hx689, H⟩ := bnd H
    obtain ⟨r690, hq691, hr692⟩ := RowR.at hR674 hx689
    obtain ⟨v693, v694, rfl, hs695, hs696⟩ := hr692
    refine Ow_q rfl rfl rfl (Q_ixR (T := TyWaiter) Mb2 hR674 hq691 (getI_ix hx689).1 rfl rfl rfl rfl rfl)<|Ow_q rfl rfl rfl (Qt_fieldAddr (m := 1) rfl rfl rfl rfl rfl)<|Ow_q rfl rfl rfl (Qt_loadA (m := 7) (cs := (Op.cells x688.op v693 v694)) rfl rfl rfl rfl ⟨rfl, Rd_row (T := TyWaiter) Mb2 hR674 hq691 rfl rfl⟩)<|Ow_q rfl rfl rfl (Qt_move rfl)<|Ow_q rfl rfl rfl (Qt_move rfl)<|?_
    obtain ⟨x697, x698, hx699, H⟩ := bnd2 H
    refine Ow_cons rfl (OpW_call rfl Try.call70 rfl rfl (c_M_24z x688.op v693 v694 p1 x587 x697 x698 hx699 _ _ hs695 hs696) ?_)
    rintro _ K700 _ hK701 ⟨rfl, rfl⟩
    refine Ow_q rfl rfl rfl (Qt_move rfl)<|Ow_q rfl rfl rfl (Qt_extract rfl rfl)<|Ow_q rfl rfl rfl (Qt_extract rfl rfl)<|Ow_q rfl rfl rfl (Qt_assign rfl)<|Ow_q rfl rfl rfl (Qt_assign rfl)<|Ow_nil<|Cw_seq<|Cw_region<|Ow_q rfl rfl rfl (Qt_move rfl)<|Ow_nil<|?_
    refine Cw_cond rfl ?_ ?_
    ·intro h702
     have H := ift h702 H
     refine Cw_region<|Ow_q rfl rfl rfl (Qt_move rfl)<|Ow_q rfl rfl rfl (Qt_move rfl)<|Ow_q rfl rfl rfl (Qt_move rfl)<|Ow_q rfl rfl rfl (Qt_loadA (m := 5) (cs := (Result.cells (Result.mk i595 0 0 false 0))) rfl rfl rfl rfl ⟨rfl, Rdc.blk Mb1 rfl⟩)<|?_
     obtain ⟨x703, x704, hx705, H⟩ := bnd2 H
     refine Ow.shift (Pu3 (Shift.done ?_))
     refine Ow.shift (Pu3 (Shift.done ?_))
     refine Ow.shift (Pu5 (Shift.done ?_))
     refine Ow.shift (Pu3 (Shift.done ?_))
     have hs706 := (((hR247).mono hK481).mono hK682).mono hK701
     have hs707 := (hR674).mono hK701
     have hs708 := (hR678).mono hK701
     refine Ow_cons rfl (OpW_call rfl Try.call76 rfl rfl (c_M_45z bp0 (Desk_work.mk (Desk.mk (setI p0.desk.chans p1 (Chan.mk x240.capacity x240.buffer true)) l673 p0.desk.tick) l677) vp0_desk_chans (rsp0_desk_chans.set p1.toNat (Chan.cells (Chan.mk x240.capacity x240.buffer true) v245)) v672 rs675 v676 rs679 i671 x697 (Result.mk i595 0 0 false 0) x703 x704 hx705 _ _ hs706 hs707 hs708) ?_)
     rintro _ K713 _ hK714 ⟨v709, rs710, v711, rs712, rfl, rfl, hs715, hs716⟩
     refine Ow_nil<|Pu3<|Pu5<|Pu4<|Pu4<|Pu5<|Pu5<|Shift.done<|?_
     exact ⟨_, by exact ⟨rfl, rfl, rfl, rfl, rfl, rfl, rfl, rfl, trivial⟩, _, Nat.lt_succ_self _, i671, v709, x703, rs710, v711, x704, rs712, rfl, rfl, (hkk685 ▸ H), hs715, hs716⟩
    ·intro h702
     have H := iff_ (btf h702) H
     refine Cw_region<|Ow_q rfl rfl rfl (Qt_move rfl)<|Ow_q rfl rfl rfl (Qt_arith (e := wI (i671 + 1)) rfl rfl rfl rfl)<|Ow_q rfl rfl rfl (Qt_assign rfl)<|Ow_nil<|Pu5<|Pu5<|Pu5<|Pu5<|Pu5<|?_
     refine Pu5 ?_
     have hs717 := (hR674).mono hK701
     have hs718 := (hR678).mono hK701
     exact Shift.done ⟨_, by exact ⟨rfl, rfl, rfl, rfl, rfl, rfl, rfl, rfl, trivial⟩, _, Nat.lt_succ_self _, (wI (i671 + 1)), v672, l673, rs675, v676, l677, rs679, rfl, rfl, (hkk685 ▸ H), hs717, hs718⟩
   ·intro h687
    have h687 := dcd_f (h687)
    have H := iff_ h687 H
    refine Cw_exit<|Pu5<|Pu5<|Pu5<|Pu5<|Pu4<|Re5<|Shift.done<|?_
    exact ⟨_, by exact ⟨rfl, rfl, rfl, rfl, rfl, trivial⟩, v672, l673, rs675, v676, l677, rs679, rfl, rfl, H, hR674, hR678⟩
  rintro _ K719 _ hK720 ⟨v579, l580, rs582, v583, l584, rs586, rfl, rfl, H, hR581, hR585⟩
  unfold M_173z at H
  refine Cw_region<|Ow_q rfl rfl rfl (Qt_arith (e := wI (i470 + 1)) rfl rfl rfl rfl)<|Ow_q rfl rfl rfl (Qt_move rfl)<|Ow_nil<|Pu4<|Pu4<|Pu4<|Pu4<|Pu4<|Shift.done<|?_
  exact ⟨_, by exact ⟨rfl, rfl, rfl, rfl, rfl, trivial⟩, _, Nat.lt_succ_self _, (wI (i470 + 1)), v579, l580, rs582, v583, l584, rs586, rfl, rfl, (hkk484 ▸ H), hR581, hR585⟩
 ·intro h486
  have h486 := dcd_f (h486)
  have H := iff_ h486 H
  refine Cw_exit ?_
  obtain ⟨ez0_chans, ez0_waiting, ez0_done⟩ := inj3 H
  subst z0_chans z0_waiting z0_done
  refine ⟨(by first | exact .inl rfl | exact .inr rfl), [], rfl, ?_⟩
  refine Pu2<|Pu2<|Pu4<|Pu3<|Re4<|?_
  have hs721 := (hR247).mono hK481
  exact Shift.done ⟨vp0_desk_chans, (rsp0_desk_chans.set p1.toNat (Chan.cells (Chan.mk x240.capacity x240.buffer true) v245)), v471, rs474, v475, rs478, rfl, rfl, hs721, hR473, hR477⟩

set_option maxHeartbeats 1000000 in
theorem c_M_76z (p0 : Waiter) (vp0_op_cases : SV) (vp0_op_draws : SV) (bp1 : Nat) (p1 : Case) (bp2 : Nat) (p2 : Int) (y0 : Bool) (H : M_76z p0 p1 p2 = some y0) (K : Kp) (G : List Ent) (hp0_op_cases : Slr TyCase K (sv vp0_op_cases) p0.op.cases) (hp0_op_draws : Slr Ty.i64 K (sv vp0_op_draws) p0.op.draws) :
  Fc Try.prog 69 #[(.agg (Waiter.cells p0 vp0_op_cases vp0_op_draws).toArray), (.pointer (some ((⟨bp1, 0, none⟩ : Addr).add 0))), (.pointer (some ((⟨bp2, 0, none⟩ : Addr).add 0)))] K ((.blk bp1 45 (Case.cells p1)) :: (.blk bp2 3 [(.int .i64 p2)]) :: G) (fun v K' G' => v = (.bool y0) ∧ (.blk bp1 45 (Case.cells p1)) :: (.blk bp2 3 [(.int .i64 p2)]) :: G = G') := by
 refine Fc_body Try.func69 rfl Try.ntmps69 Try.results69 rfl ?_
 unfold M_76z at H
 refine Cw_seq<|Cw_region<|?_
 refine Ow_cons rfl (OpW_box (cs := (Waiter.cells p0 vp0_op_cases vp0_op_draws)) rfl rfl rfl (fun b8 => ?_))
 refine Ow_q rfl rfl rfl (Qt_assign rfl)<|Ow_nil<|Cw_seq<|Cw_region<|Ow_q rfl rfl rfl (Qt_fieldAddr (m := 1) rfl rfl rfl rfl rfl)<|Ow_q rfl rfl rfl (Qt_loadA (m := 7) (cs := (Op.cells p0.op vp0_op_cases vp0_op_draws)) rfl rfl rfl rfl ⟨rfl, Rdc.blk Mb0 rfl⟩)<|Ow_q rfl rfl rfl (Qt_fieldAddr (m := 1) rfl rfl rfl rfl rfl)<|Ow_q rfl rfl rfl (Qt_load1 (v := (.int .i64 p1.channel)) rfl rfl rfl (Rdc.blk Mb1 rfl))<|Ow_q rfl rfl rfl (Qt_fieldAddr (m := 0) rfl rfl rfl rfl rfl)<|Ow_q rfl rfl rfl (Qt_load1 (v := (.bool p1.send)) rfl rfl rfl (Rdc.blk Mb1 rfl))<|?_
 refine Ow_q rfl rfl rfl (Qt_not rfl) ?_
 obtain ⟨x9, x10, hx11, H⟩ := bnd2 H
 refine Ow_cons rfl (OpW_call rfl Try.call70 rfl rfl (c_M_24z p0.op vp0_op_cases vp0_op_draws p1.channel (!(p1.send)) x9 x10 hx11 _ _ hp0_op_cases hp0_op_draws) ?_)
 rintro _ K12 _ hK13 ⟨rfl, rfl⟩
 refine Ow_q rfl rfl rfl (Qt_move rfl)<|Ow_q rfl rfl rfl (Qt_extract rfl rfl)<|Ow_q rfl rfl rfl (Qt_extract rfl rfl)<|Ow_q rfl rfl rfl (Qt_assign rfl)<|Ow_q rfl rfl rfl (Qt_assign rfl)<|Ow_nil<|Cw_seq<|Cw_region<|Ow_q rfl rfl rfl (Qt_move rfl)<|Ow_q rfl rfl rfl (Qt_move rfl)<|?_
 refine Ow_caseG rfl rfl rfl ?_ ?_
 ·intro h15
  have H := ift h15 H
  refine Ow_qw rfl rfl rfl rfl rfl rfl (Qt_fieldAddr (m := 0) rfl rfl rfl rfl rfl)<|Ow_qw rfl rfl rfl rfl rfl rfl (Qt_load1 (v := (.int .i64 p0.thread)) rfl rfl rfl (Rdc.blk Mb0 rfl))<|Ow_qw rfl rfl rfl rfl rfl rfl (Qt_load1 (v := (.int .i64 p2)) rfl rfl rfl (Rdc.blk Mb2 rfl))<|Ow_qw rfl rfl rfl rfl rfl rfl (Qt_cmp rfl rfl rfl)<|Ow_q rfl rfl rfl (Qt_pick_t rfl rfl)<|Ow_q rfl rfl rfl (Qt_assign rfl)<|Ow_nil<|Cw_ret<|?_
  obtain ey0 := inj1 H
  subst y0
  refine ⟨(by first | exact .inl rfl | exact .inr rfl), [(.bool (!(dcd (p0.thread = p2))))], ⟨(.bool (!(dcd (p0.thread = p2)))), _, rfl, rfl, rfl⟩, ?_⟩
  refine Pu2<|Pu2<|Re2<|Shift.done<|?_
  exact ⟨rfl, rfl⟩
 ·intro h15
  have H := iff_ (btf h15) H
  refine Ow_pass rfl rfl rfl rfl rfl rfl rfl<|Ow_pass rfl rfl rfl rfl rfl rfl rfl<|Ow_pass rfl rfl rfl rfl rfl rfl rfl<|Ow_pass rfl rfl rfl rfl rfl rfl rfl<|Ow_q rfl rfl rfl (Qt_pick_f rfl rfl)<|Ow_q rfl rfl rfl (Qt_assign rfl)<|Ow_nil<|Cw_ret<|?_
  obtain ey0 := inj1 H
  subst y0
  refine ⟨(by first | exact .inl rfl | exact .inr rfl), [(.bool false)], ⟨(.bool false), _, rfl, rfl, rfl⟩, ?_⟩
  refine Pu2<|Pu2<|Re2<|Shift.done<|?_
  exact ⟨rfl, rfl⟩



end Go.Hx

namespace Go.Hx
open Go Go.Proofs
set_option linter.unusedSimpArgs false
set_option linter.unusedVariables false
set_option maxRecDepth 10000
set_option maxHeartbeats 1000000 in
theorem c_M_121z (p0 : Int) (p1 : Int) (y0 : Int) (H : M_121z p0 p1 = some y0) (K : Kp) (G : List Ent)  :
  Fc Try.prog 88 #[(.int .i64 p0), (.int .i64 p1)] K (G) (fun v K' G' => v = (.int .i64 y0) ∧ K = K' ∧ G = G') := by
 refine Fc_body Try.func88 rfl Try.ntmps88 Try.results88 rfl ?_
 unfold M_121z at H
 refine Cw_seq<|Cw_region<|Ow_q rfl rfl rfl (Qt_assign rfl)<|Ow_nil<|Cw_seq<|Cw_region<|Ow_q rfl rfl rfl (Qt_move rfl)<|Ow_q rfl rfl rfl (Qt_move rfl)<|?_
 obtain ⟨x5, hx6, H⟩ := bnd H
 refine Ow_q rfl rfl rfl (Q_rem hx6 rfl rfl)<|Ow_q rfl rfl rfl (Qt_move rfl)<|Ow_q rfl rfl rfl (Qt_arith (e := wI (x5 + p1)) rfl rfl rfl rfl)<|Ow_q rfl rfl rfl (Qt_move rfl)<|?_
 obtain ⟨x7, hx8, H⟩ := bnd H
 refine Ow_q rfl rfl rfl (Q_rem hx8 rfl rfl)<|Ow_q rfl rfl rfl (Qt_assign rfl)<|Ow_nil<|Cw_ret<|?_
 obtain ey0 := inj1 H
 subst y0
 refine ⟨(by first | exact .inl rfl | exact .inr rfl), [(.int .i64 x7)], ⟨(.int .i64 x7), _, rfl, rfl, rfl⟩, ?_⟩
 exact Shift.done ⟨rfl, rfl, rfl⟩

set_option maxHeartbeats 1000000 in
theorem c_M_123z (p0 : Int) (p1 : List Int) (vp1 : SV) (y0 : List Int) (H : M_123z p0 p1 = some y0) (K : Kp) (G : List Ent) (hp1 : Slr Ty.i64 K (sv vp1) p1) :
  Fc Try.prog 73 #[(.int .i64 p0), (sv vp1)] K (G) (fun v K' G' => ∃ (wy0 : SV) (rswy0 : List (List Value)), v = (sv wy0) ∧ (.row (sv wy0) 3 1 rswy0.flatten) :: G = G' ∧ RowR Ty.i64 K' rswy0 y0) := by
 refine Fc_body Try.func73 rfl Try.ntmps73 Try.results73 rfl ?_
 unfold M_123z at H
 refine Cw_seq<|Cw_region<|Ow_q rfl rfl rfl (Qt_assign rfl)<|Ow_nil<|Cw_seq<|?_
 refine Cw_join (fun env' K' G' => ∃ (t302 : Bool), [(0, (.int .i64 p0)), (1, (sv vp1)), (14, (.bool t302))] = env' ∧ K = K' ∧ G = G' ∧ M_122z p0 p1 t302 = some y0) ?_ ?_
 ·skip
  refine Cw_region<|Ow_q rfl rfl rfl (Qt_move rfl)<|Ow_q rfl rfl rfl (Qt_cmp rfl rfl rfl)<|Ow_q rfl rfl rfl (Qt_move rfl)<|?_
  refine Ow_caseG rfl rfl rfl ?_ ?_
  ·intro h303
   have h303 := dcd_t (h303)
   have H := ift h303 H
   refine Ow_pass rfl rfl rfl rfl rfl rfl rfl<|Ow_pass rfl rfl rfl rfl rfl rfl rfl<|Ow_q rfl rfl rfl (Qt_pick_t rfl rfl)<|Ow_nil<|Shift.done<|?_
   exact ⟨_, by exact ⟨rfl, rfl, rfl, trivial⟩, true, rfl, rfl, rfl, H⟩
  ·intro h303
   have h303 := dcd_f (h303)
   have H := iff_ h303 H
   refine Ow_qw rfl rfl rfl rfl rfl rfl (Qt_move rfl)<|Ow_qw rfl rfl rfl rfl rfl rfl (Qt_cmp rfl rfl rfl)<|Ow_q rfl rfl rfl (Qt_pick_f rfl rfl)<|Ow_nil<|Shift.done<|?_
   exact ⟨_, by exact ⟨rfl, rfl, rfl, trivial⟩, (dcd (p0 > 20)), rfl, rfl, rfl, H⟩
 rintro _ _ _ - ⟨t302, rfl, rfl, rfl, H⟩
 unfold M_122z at H
 refine Cw_cond rfl ?_ ?_
 ·intro h304
  have H := ift h304 H
  refine Cw_seq<|Cw_region<|Ow_q rfl rfl rfl (Qt_assign rfl)<|Ow_nil<|Cw_ret<|?_
  obtain ey0 := inj1 H
  subst y0
  refine ⟨(by first | exact .inl rfl | exact .inr rfl), [(sv nilS)], ⟨(sv nilS), _, rfl, rfl, rfl⟩, ?_⟩
  have hR305 : RowR Ty.i64 K [] [] := RowR.nil
  refine Shift.nilRow 3 1<|Shift.done<|?_
  exact ⟨nilS, ([] : List (List Value)), rfl, rfl, hR305⟩
 ·intro h304
  have H := iff_ (btf h304) H
  refine Cw_skip<|Cw_seq<|Cw_region<|Ow_q rfl rfl rfl (Qt_move rfl)<|?_
  obtain ⟨x306, hx307, H⟩ := bnd H
  refine Ow_cons rfl (O_make (T := Ty.i64) (r := [(.int .i64 0)]) rfl rfl rfl hx307 rfl rfl rfl rfl rfl rfl rfl rfl rfl rfl (fun v308 rs309 hR310 hz311 => ?_))
  refine Ow_q rfl rfl rfl (Qt_assign rfl)<|Ow_nil<|?_
  refine Cw_join (fun env' K' G' => ∃ (l341 : List Int) (rs343 : List (List Value)), [(0, (.int .i64 p0)), (1, (sv vp1)), (5, (sv v308))] = env' ∧ (.row (sv v308) 3 1 rs343.flatten) :: G = G' ∧ M_176z p0 p1 l341 = some y0 ∧ RowR Ty.i64 K' rs343 l341) ?_ ?_
  ·skip
   refine Cw_seq<|Cw_region<|Ow_q rfl rfl rfl (Qt_move rfl)<|Ow_q rfl rfl rfl (Q_lenR (T := Ty.i64) Mb0 hR310 rfl rfl rfl)<|Ow_q rfl rfl rfl (Qt_move rfl)<|Ow_nil<|Cw_block<|?_
   refine Cw_loopM (fun n373 env' K' G' => ∃ (l369 : List Int) (rs371 : List (List Value)) (i372 : Int), [(0, (.int .i64 p0)), (1, (sv vp1)), (5, (sv v308)), (18, (.int .i64 (x306.length : Int))), (19, (.int .i64 i372))] = env' ∧ K = K' ∧ (.row (sv v308) 3 1 rs371.flatten) :: G = G' ∧ lp2 (M_177z p0 p1 x306) n373 l369 i372 = some y0 ∧ RowR Ty.i64 K' rs371 l369) BIG ?_ ?_
   ·skip
    exact Shift.done ⟨_, by exact ⟨rfl, rfl, rfl, rfl, rfl, trivial⟩, x306, rs309, 0, rfl, rfl, rfl, H, hR310⟩
   rintro n373 _ _ _ - ⟨l369, rs371, i372, rfl, rfl, rfl, H, hR370⟩
   obtain ⟨m374, k375, rfl, hkk376, H⟩ := lps2 H
   unfold M_177z at H
   refine Cw_seq<|Cw_region<|Ow_q rfl rfl rfl (Qt_cmp rfl rfl rfl)<|Ow_nil<|Cw_seq<|?_
   refine Cw_cond rfl ?_ ?_
   ·intro h378
    have h378 := dcd_t (h378)
    have H := ift h378 H
    refine Cw_skip<|Cw_seq<|Cw_block<|Cw_seq<|Cw_region<|Ow_q rfl rfl rfl (Qt_move rfl)<|Ow_q rfl rfl rfl (Qt_assign rfl)<|Ow_nil<|Cw_region<|Ow_q rfl rfl rfl (Qt_move rfl)<|?_
    refine Ow_q rfl rfl rfl (Qt_move rfl)<|Ow_q rfl rfl rfl (Qt_move rfl)<|?_
    obtain ⟨x386, hx387, H⟩ := bnd H
    obtain ⟨r388, hq389, hr390⟩ := RowR.at hR370 hx387
    obtain rfl := hr390
    refine Ow_q rfl rfl rfl (Q_ixR (T := Ty.i64) Mb0 hR370 hq389 (getI_ix hx387).1 rfl rfl rfl rfl rfl) ?_
    refine Ow_cons rfl (O_storeR (T := Ty.i64) (vs := [(.int .i64 i372)]) (r' := [(.int .i64 i372)]) (l' := (setI l369 i372 i372)) rfl rfl rfl rfl rfl .here hR370 hq389 rfl rfl rfl (RowR.set i372 hR370 rfl) (fun hR391 => ?_))
    have hE392 := set_at hq389 (v := [(.int .i64 i372)])
    refine Ow_nil<|Cw_region<|Ow_q rfl rfl rfl (Qt_arith (e := wI (i372 + 1)) rfl rfl rfl rfl)<|Ow_q rfl rfl rfl (Qt_move rfl)<|Ow_nil<|Shift.done<|?_
    exact ⟨_, by exact ⟨rfl, rfl, rfl, rfl, rfl, trivial⟩, _, Nat.lt_succ_self _, (setI l369 i372 i372), (rs371.set i372.toNat [(.int .i64 i372)]), (wI (i372 + 1)), rfl, rfl, rfl, (hkk376 ▸ H), hR391⟩
   ·intro h378
    have h378 := dcd_f (h378)
    have H := iff_ h378 H
    refine Cw_exit<|Shift.done<|?_
    exact ⟨_, by exact ⟨rfl, rfl, rfl, trivial⟩, l369, rs371, rfl, rfl, H, hR370⟩
  rintro _ K393 _ hK394 ⟨l341, rs343, rfl, rfl, H, hR342⟩
  unfold M_176z at H
  refine Cw_join (fun env' K' G' => ∃ (l642 : List Int) (rs644 : List (List Value)), [(5, (sv v308))] = env' ∧ (.row (sv v308) 3 1 rs644.flatten) :: G = G' ∧ M_213z l642 = some y0 ∧ RowR Ty.i64 K' rs644 l642) ?_ ?_
  ·skip
   refine Cw_seq<|Cw_region<|Ow_q rfl rfl rfl (Qt_move rfl)<|Ow_q rfl rfl rfl (Qt_arith (e := wI (p0 - 1)) rfl rfl rfl rfl)<|Ow_q rfl rfl rfl (Qt_assign rfl)<|Ow_nil<|Cw_block<|?_
   refine Cw_loopM (fun n892 env' K' G' => ∃ (l888 : List Int) (rs890 : List (List Value)) (i891 : Int), [(1, (sv vp1)), (5, (sv v308)), (7, (.int .i64 i891))] = env' ∧ K393 = K' ∧ (.row (sv v308) 3 1 rs890.flatten) :: G = G' ∧ lp2 (M_175z p1) n892 l888 i891 = some y0 ∧ RowR Ty.i64 K' rs890 l888) BIG ?_ ?_
   ·skip
    exact Shift.done ⟨_, by exact ⟨rfl, rfl, rfl, trivial⟩, l341, rs343, (wI (p0 - 1)), rfl, rfl, rfl, H, hR342⟩
   rintro n892 _ _ _ - ⟨l888, rs890, i891, rfl, rfl, rfl, H, hR889⟩
   obtain ⟨m893, k894, rfl, hkk895, H⟩ := lps2 H
   unfold M_175z at H
   refine Cw_seq<|Cw_seq<|Cw_region<|Ow_q rfl rfl rfl (Qt_move rfl)<|Ow_q rfl rfl rfl (Qt_cmp rfl rfl rfl)<|Ow_nil<|?_
   refine Cw_cond rfl ?_ ?_
   ·intro h897
    have h897 := dcd_t (h897)
    have H := ift h897 H
    refine Cw_skip ?_
    refine Cw_join (fun env' K' G' => ∃ (l1010 : List Int) (rs1012 : List (List Value)), [(1, (sv vp1)), (5, (sv v308)), (7, (.int .i64 i891))] = env' ∧ K393 = K' ∧ (.row (sv v308) 3 1 rs1012.flatten) :: G = G' ∧ M_174z p1 i891 k894 l1010 = some y0 ∧ RowR Ty.i64 K' rs1012 l1010) ?_ ?_
    ·skip
     refine Cw_block<|Cw_seq<|Cw_region<|Ow_q rfl rfl rfl (Qt_assign rfl)<|Ow_nil<|?_
     refine Cw_join (fun env' K' G' => ∃ (i1022 : Int), [(1, (sv vp1)), (5, (sv v308)), (7, (.int .i64 i891)), (8, (.int .i64 i1022))] = env' ∧ K393 = K' ∧ (.row (sv v308) 3 1 rs890.flatten) :: G = G' ∧ M_73z p1 l888 i891 k894 i1022 = some y0) ?_ ?_
     ·skip
      refine Cw_seq<|Cw_region<|Ow_q rfl rfl rfl (Qt_move rfl)<|Ow_q rfl rfl rfl (Qt_move rfl)<|?_
      have hs1023 := (hp1).mono hK394
      refine Ow_q rfl rfl rfl (Q_len (T := Ty.i64) hs1023 rfl rfl)<|Ow_q rfl rfl rfl (Qt_cmp rfl rfl rfl)<|Ow_nil<|?_
      refine Cw_cond rfl ?_ ?_
      ·intro h1024
       have h1024 := dcd_t (h1024)
       have H := ift h1024 H
       refine Cw_region<|Ow_q rfl rfl rfl (Qt_move rfl)<|Ow_q rfl rfl rfl (Qt_move rfl)<|?_
       obtain ⟨x1025, hx1026, H⟩ := bnd H
       obtain ⟨r1027, hr1028, hk1029⟩ := Slr.at hs1023 hx1026
       obtain rfl := hr1028
       refine Ow_q rfl rfl rfl (Q_ix (T := Ty.i64) hs1023 hx1026 rfl rfl rfl rfl rfl)<|Ow_q rfl rfl rfl (Qt_load1 (v := (.int .i64 x1025)) rfl rfl rfl (Rdc.k hk1029 rfl))<|Ow_q rfl rfl rfl (Qt_move rfl)<|Ow_q rfl rfl rfl (Qt_arith (e := wI (i891 + 1)) rfl rfl rfl rfl)<|?_
       obtain ⟨x1030, hx1031, H⟩ := bnd H
       refine Ow_cons rfl (OpW_call rfl Try.call88 rfl rfl (c_M_121z x1025 (wI (i891 + 1)) x1030 hx1031 _ _ ) ?_)
       rintro _ _ _ - ⟨rfl, rfl, rfl⟩
       refine Ow_q rfl rfl rfl (Qt_assign rfl)<|Ow_nil<|Shift.done<|?_
       exact ⟨_, by exact ⟨rfl, rfl, rfl, rfl, trivial⟩, x1030, rfl, rfl, rfl, H⟩
      ·intro h1024
       have h1024 := dcd_f (h1024)
       have H := iff_ h1024 H
       refine Cw_skip<|Shift.done<|?_
       exact ⟨_, by exact ⟨rfl, rfl, rfl, rfl, trivial⟩, 0, rfl, rfl, rfl, H⟩
     rintro _ _ _ - ⟨i1022, rfl, rfl, rfl, H⟩
     unfold M_73z at H
     obtain ⟨x1032, hx1033, H⟩ := bnd H
     obtain ⟨x1037, hx1038, H⟩ := bnd H
     obtain ⟨x1042, hx1043, H⟩ := bnd H
     obtain ⟨x1049, hx1050, H⟩ := bnd H
     refine Cw_region_any [] rfl Inc.nil<|Awq 0 rfl (by kernel_rfl) rfl rfl rfl (Qt_move rfl)<|Awq 1 rfl (by kernel_rfl) rfl rfl rfl (Qt_move rfl)<|Awq 2 rfl (by kernel_rfl) rfl rfl rfl (Qt_move rfl)<|Awq 3 rfl (by kernel_rfl) rfl rfl rfl (Qt_move rfl)<|Awq 4 rfl (by kernel_rfl) rfl rfl rfl (Qt_move rfl)<|Awq 5 rfl (by kernel_rfl) rfl rfl rfl (Qt_move rfl)<|Awq 8 rfl (by kernel_rfl) rfl rfl rfl (Qt_move rfl)<|Awq 9 rfl (by kernel_rfl) rfl rfl rfl (Qt_move rfl)<|?_
     refine Aw_two 6 10 (by kernel_rfl) ?_ ?_
     ·skip
      obtain ⟨r1056, hq1057, hr1058⟩ := RowR.at hR889 hx1033
      obtain rfl := hr1058
      refine id (Ax_mk rfl rfl (OpW_of_Qt rfl rfl (Q_ixR (T := Ty.i64) Mb0 hR889 hq1057 (getI_ix hx1033).1 rfl rfl rfl rfl rfl) ⟨Inc.nil, ?_⟩))
      refine Aw_two 7 10 (by kernel_rfl) ?_ ?_
      ·skip
       refine id (Ax_mk rfl rfl (OpW_of_Qt rfl rfl (Qt_load1 (v := (.int .i64 x1032)) rfl rfl rfl (Rd_row (T := Ty.i64) Mb0 hR889 hq1057 rfl rfl)) ⟨Inc.nil, ?_⟩))
       obtain ⟨r1059, hq1060, hr1061⟩ := RowR.at hR889 hx1038
       obtain rfl := hr1061
       refine Aw_one 10 (by kernel_rfl) (Ax_mk rfl rfl (OpW_of_Qt rfl rfl (Q_ixR (T := Ty.i64) Mb0 hR889 hq1060 (getI_ix hx1038).1 rfl rfl rfl rfl rfl) ⟨Inc.nil, ?_⟩))
       refine Aw_one 11 (by kernel_rfl) (Ax_mk rfl rfl (OpW_of_Qt rfl rfl (Qt_load1 (v := (.int .i64 x1037)) rfl rfl rfl (Rd_row (T := Ty.i64) Mb0 hR889 hq1060 rfl rfl)) ⟨Inc.nil, ?_⟩))
       obtain ⟨r1062, hq1063, hr1064⟩ := RowR.at hR889 hx1043
       obtain rfl := hr1064
       refine Aw_one 12 (by kernel_rfl) (Ax_mk rfl rfl (OpW_of_Qt rfl rfl (Q_ixR (T := Ty.i64) Mb0 hR889 hq1063 (getI_ix hx1043).1 rfl rfl rfl rfl rfl) ⟨Inc.nil, ?_⟩))
       refine Aw_one 13 (by kernel_rfl) (Ax_mk rfl rfl ?_)
       refine O_storeR (T := Ty.i64) (vs := [(.int .i64 x1032)]) (r' := [(.int .i64 x1032)]) (l' := (setI l888 i891 x1032)) rfl rfl rfl rfl rfl .here hR889 hq1063 rfl rfl rfl (RowR.set i891 hR889 rfl) (fun hR1065 => ⟨Inc.nil, ?_⟩)
       have hE1066 := set_at hq1063 (v := [(.int .i64 x1032)])
       obtain ⟨r1067, hq1068, hr1069⟩ := RowR.at hR1065 hx1050
       obtain rfl := hr1069
       refine Aw_one 14 (by kernel_rfl) (Ax_mk rfl rfl (OpW_of_Qt rfl rfl (Q_ixR (T := Ty.i64) Mb0 hR1065 hq1068 (getI_ix hx1050).1 rfl rfl rfl rfl rfl) ⟨Inc.nil, ?_⟩))
       refine Aw_one 15 (by kernel_rfl) (Ax_mk rfl rfl ?_)
       refine O_storeR (T := Ty.i64) (vs := [(.int .i64 x1037)]) (r' := [(.int .i64 x1037)]) (l' := (setI (setI l888 i891 x1032) i1022 x1037)) rfl rfl rfl rfl rfl .here hR1065 hq1068 rfl rfl rfl (RowR.set i1022 hR1065 rfl) (fun hR1070 => ⟨Inc.nil, ?_⟩)
       have hE1071 := set_at hq1068 (v := [(.int .i64 x1037)])
       refine Aw_done (by kernel_rfl)<|Shift.done<|?_
       exact ⟨_, by exact ⟨rfl, rfl, rfl, trivial⟩, (setI (setI l888 i891 x1032) i1022 x1037), ((rs890.set i891.toNat [(.int .i64 x1032)]).set i1022.toNat [(.int .i64 x1037)]), rfl, rfl, rfl, H, hR1070⟩
      ·skip
       obtain ⟨r1072, hq1073, hr1074⟩ := RowR.at hR889 hx1038
       obtain rfl := hr1074
       refine id (Ax_mk rfl rfl (OpW_of_Qt rfl rfl (Q_ixR (T := Ty.i64) Mb0 hR889 hq1073 (getI_ix hx1038).1 rfl rfl rfl rfl rfl) ⟨Inc.nil, ?_⟩))
       refine Aw_two 7 11 (by kernel_rfl) ?_ ?_
       ·skip
        refine id (Ax_mk rfl rfl (OpW_of_Qt rfl rfl (Qt_load1 (v := (.int .i64 x1032)) rfl rfl rfl (Rd_row (T := Ty.i64) Mb0 hR889 hq1057 rfl rfl)) ⟨Inc.nil, ?_⟩))
        refine Aw_one 11 (by kernel_rfl) (Ax_mk rfl rfl (OpW_of_Qt rfl rfl (Qt_load1 (v := (.int .i64 x1037)) rfl rfl rfl (Rd_row (T := Ty.i64) Mb0 hR889 hq1073 rfl rfl)) ⟨Inc.nil, ?_⟩))
        obtain ⟨r1075, hq1076, hr1077⟩ := RowR.at hR889 hx1043
        obtain rfl := hr1077
        refine Aw_one 12 (by kernel_rfl) (Ax_mk rfl rfl (OpW_of_Qt rfl rfl (Q_ixR (T := Ty.i64) Mb0 hR889 hq1076 (getI_ix hx1043).1 rfl rfl rfl rfl rfl) ⟨Inc.nil, ?_⟩))
        refine Aw_one 13 (by kernel_rfl) (Ax_mk rfl rfl ?_)
        refine O_storeR (T := Ty.i64) (vs := [(.int .i64 x1032)]) (r' := [(.int .i64 x1032)]) (l' := (setI l888 i891 x1032)) rfl rfl rfl rfl rfl .here hR889 hq1076 rfl rfl rfl (RowR.set i891 hR889 rfl) (fun hR1078 => ⟨Inc.nil, ?_⟩)
        have hE1079 := set_at hq1076 (v := [(.int .i64 x1032)])
        obtain ⟨r1080, hq1081, hr1082⟩ := RowR.at hR1078 hx1050
        obtain rfl := hr1082
        refine Aw_one 14 (by kernel_rfl) (Ax_mk rfl rfl (OpW_of_Qt rfl rfl (Q_ixR (T := Ty.i64) Mb0 hR1078 hq1081 (getI_ix hx1050).1 rfl rfl rfl rfl rfl) ⟨Inc.nil, ?_⟩))
        refine Aw_one 15 (by kernel_rfl) (Ax_mk rfl rfl ?_)
        refine O_storeR (T := Ty.i64) (vs := [(.int .i64 x1037)]) (r' := [(.int .i64 x1037)]) (l' := (setI (setI l888 i891 x1032) i1022 x1037)) rfl rfl rfl rfl rfl .here hR1078 hq1081 rfl rfl rfl (RowR.set i1022 hR1078 rfl) (fun hR1083 => ⟨Inc.nil, ?_⟩)
        have hE1084 := set_at hq1081 (v := [(.int .i64 x1037)])
        refine Aw_done (by kernel_rfl)<|Shift.done<|?_
        exact ⟨_, by exact ⟨rfl, rfl, rfl, trivial⟩, (setI (setI l888 i891 x1032) i1022 x1037), ((rs890.set i891.toNat [(.int .i64 x1032)]).set i1022.toNat [(.int .i64 x1037)]), rfl, rfl, rfl, H, hR1083⟩
       ·skip
        refine id (Ax_mk rfl rfl (OpW_of_Qt rfl rfl (Qt_load1 (v := (.int .i64 x1037)) rfl rfl rfl (Rd_row (T := Ty.i64) Mb0 hR889 hq1073 rfl rfl)) ⟨Inc.nil, ?_⟩))
        refine Aw_one 7 (by kernel_rfl) (Ax_mk rfl rfl (OpW_of_Qt rfl rfl (Qt_load1 (v := (.int .i64 x1032)) rfl rfl rfl (Rd_row (T := Ty.i64) Mb0 hR889 hq1057 rfl rfl)) ⟨Inc.nil, ?_⟩))
        obtain ⟨r1085, hq1086, hr1087⟩ := RowR.at hR889 hx1043
        obtain rfl := hr1087
        refine Aw_one 12 (by kernel_rfl) (Ax_mk rfl rfl (OpW_of_Qt rfl rfl (Q_ixR (T := Ty.i64) Mb0 hR889 hq1086 (getI_ix hx1043).1 rfl rfl rfl rfl rfl) ⟨Inc.nil, ?_⟩))
        refine Aw_one 13 (by kernel_rfl) (Ax_mk rfl rfl ?_)
        refine O_storeR (T := Ty.i64) (vs := [(.int .i64 x1032)]) (r' := [(.int .i64 x1032)]) (l' := (setI l888 i891 x1032)) rfl rfl rfl rfl rfl .here hR889 hq1086 rfl rfl rfl (RowR.set i891 hR889 rfl) (fun hR1088 => ⟨Inc.nil, ?_⟩)
        have hE1089 := set_at hq1086 (v := [(.int .i64 x1032)])
        obtain ⟨r1090, hq1091, hr1092⟩ := RowR.at hR1088 hx1050
        obtain rfl := hr1092
        refine Aw_one 14 (by kernel_rfl) (Ax_mk rfl rfl (OpW_of_Qt rfl rfl (Q_ixR (T := Ty.i64) Mb0 hR1088 hq1091 (getI_ix hx1050).1 rfl rfl rfl rfl rfl) ⟨Inc.nil, ?_⟩))
        refine Aw_one 15 (by kernel_rfl) (Ax_mk rfl rfl ?_)
        refine O_storeR (T := Ty.i64) (vs := [(.int .i64 x1037)]) (r' := [(.int .i64 x1037)]) (l' := (setI (setI l888 i891 x1032) i1022 x1037)) rfl rfl rfl rfl rfl .here hR1088 hq1091 rfl rfl rfl (RowR.set i1022 hR1088 rfl) (fun hR1093 => ⟨Inc.nil, ?_⟩)
        have hE1094 := set_at hq1091 (v := [(.int .i64 x1037)])
        refine Aw_done (by kernel_rfl)<|Shift.done<|?_
        exact ⟨_, by exact ⟨rfl, rfl, rfl, trivial⟩, (setI (setI l888 i891 x1032) i1022 x1037), ((rs890.set i891.toNat [(.int .i64 x1032)]).set i1022.toNat [(.int .i64 x1037)]), rfl, rfl, rfl, H, hR1093⟩
     ·skip
      obtain ⟨r1095, hq1096, hr1097⟩ := RowR.at hR889 hx1038
      obtain rfl := hr1097
      refine id (Ax_mk rfl rfl (OpW_of_Qt rfl rfl (Q_ixR (T := Ty.i64) Mb0 hR889 hq1096 (getI_ix hx1038).1 rfl rfl rfl rfl rfl) ⟨Inc.nil, ?_⟩))
      refine Aw_two 6 11 (by kernel_rfl) ?_ ?_
      ·skip
       obtain ⟨r1098, hq1099, hr1100⟩ := RowR.at hR889 hx1033
       obtain rfl := hr1100
       refine id (Ax_mk rfl rfl (OpW_of_Qt rfl rfl (Q_ixR (T := Ty.i64) Mb0 hR889 hq1099 (getI_ix hx1033).1 rfl rfl rfl rfl rfl) ⟨Inc.nil, ?_⟩))
       refine Aw_two 7 11 (by kernel_rfl) ?_ ?_
       ·skip
        refine id (Ax_mk rfl rfl (OpW_of_Qt rfl rfl (Qt_load1 (v := (.int .i64 x1032)) rfl rfl rfl (Rd_row (T := Ty.i64) Mb0 hR889 hq1099 rfl rfl)) ⟨Inc.nil, ?_⟩))
        refine Aw_one 11 (by kernel_rfl) (Ax_mk rfl rfl (OpW_of_Qt rfl rfl (Qt_load1 (v := (.int .i64 x1037)) rfl rfl rfl (Rd_row (T := Ty.i64) Mb0 hR889 hq1096 rfl rfl)) ⟨Inc.nil, ?_⟩))
        obtain ⟨r1101, hq1102, hr1103⟩ := RowR.at hR889 hx1043
        obtain rfl := hr1103
        refine Aw_one 12 (by kernel_rfl) (Ax_mk rfl rfl (OpW_of_Qt rfl rfl (Q_ixR (T := Ty.i64) Mb0 hR889 hq1102 (getI_ix hx1043).1 rfl rfl rfl rfl rfl) ⟨Inc.nil, ?_⟩))
        refine Aw_one 13 (by kernel_rfl) (Ax_mk rfl rfl ?_)
        refine O_storeR (T := Ty.i64) (vs := [(.int .i64 x1032)]) (r' := [(.int .i64 x1032)]) (l' := (setI l888 i891 x1032)) rfl rfl rfl rfl rfl .here hR889 hq1102 rfl rfl rfl (RowR.set i891 hR889 rfl) (fun hR1104 => ⟨Inc.nil, ?_⟩)
        have hE1105 := set_at hq1102 (v := [(.int .i64 x1032)])
        obtain ⟨r1106, hq1107, hr1108⟩ := RowR.at hR1104 hx1050
        obtain rfl := hr1108
        refine Aw_one 14 (by kernel_rfl) (Ax_mk rfl rfl (OpW_of_Qt rfl rfl (Q_ixR (T := Ty.i64) Mb0 hR1104 hq1107 (getI_ix hx1050).1 rfl rfl rfl rfl rfl) ⟨Inc.nil, ?_⟩))
        refine Aw_one 15 (by kernel_rfl) (Ax_mk rfl rfl ?_)
        refine O_storeR (T := Ty.i64) (vs := [(.int .i64 x1037)]) (r' := [(.int .i64 x1037)]) (l' := (setI (setI l888 i891 x1032) i1022 x1037)) rfl rfl rfl rfl rfl .here hR1104 hq1107 rfl rfl rfl (RowR.set i1022 hR1104 rfl) (fun hR1109 => ⟨Inc.nil, ?_⟩)
        have hE1110 := set_at hq1107 (v := [(.int .i64 x1037)])
        refine Aw_done (by kernel_rfl)<|Shift.done<|?_
        exact ⟨_, by exact ⟨rfl, rfl, rfl, trivial⟩, (setI (setI l888 i891 x1032) i1022 x1037), ((rs890.set i891.toNat [(.int .i64 x1032)]).set i1022.toNat [(.int .i64 x1037)]), rfl, rfl, rfl, H, hR1109⟩
       ·skip
        refine id (Ax_mk rfl rfl (OpW_of_Qt rfl rfl (Qt_load1 (v := (.int .i64 x1037)) rfl rfl rfl (Rd_row (T := Ty.i64) Mb0 hR889 hq1096 rfl rfl)) ⟨Inc.nil, ?_⟩))
        refine Aw_one 7 (by kernel_rfl) (Ax_mk rfl rfl (OpW_of_Qt rfl rfl (Qt_load1 (v := (.int .i64 x1032)) rfl rfl rfl (Rd_row (T := Ty.i64) Mb0 hR889 hq1099 rfl rfl)) ⟨Inc.nil, ?_⟩))
        obtain ⟨r1111, hq1112, hr1113⟩ := RowR.at hR889 hx1043
        obtain rfl := hr1113
        refine Aw_one 12 (by kernel_rfl) (Ax_mk rfl rfl (OpW_of_Qt rfl rfl (Q_ixR (T := Ty.i64) Mb0 hR889 hq1112 (getI_ix hx1043).1 rfl rfl rfl rfl rfl) ⟨Inc.nil, ?_⟩))
        refine Aw_one 13 (by kernel_rfl) (Ax_mk rfl rfl ?_)
        refine O_storeR (T := Ty.i64) (vs := [(.int .i64 x1032)]) (r' := [(.int .i64 x1032)]) (l' := (setI l888 i891 x1032)) rfl rfl rfl rfl rfl .here hR889 hq1112 rfl rfl rfl (RowR.set i891 hR889 rfl) (fun hR1114 => ⟨Inc.nil, ?_⟩)
        have hE1115 := set_at hq1112 (v := [(.int .i64 x1032)])
        obtain ⟨r1116, hq1117, hr1118⟩ := RowR.at hR1114 hx1050
        obtain rfl := hr1118
        refine Aw_one 14 (by kernel_rfl) (Ax_mk rfl rfl (OpW_of_Qt rfl rfl (Q_ixR (T := Ty.i64) Mb0 hR1114 hq1117 (getI_ix hx1050).1 rfl rfl rfl rfl rfl) ⟨Inc.nil, ?_⟩))
        refine Aw_one 15 (by kernel_rfl) (Ax_mk rfl rfl ?_)
        refine O_storeR (T := Ty.i64) (vs := [(.int .i64 x1037)]) (r' := [(.int .i64 x1037)]) (l' := (setI (setI l888 i891 x1032) i1022 x1037)) rfl rfl rfl rfl rfl .here hR1114 hq1117 rfl rfl rfl (RowR.set i1022 hR1114 rfl) (fun hR1119 => ⟨Inc.nil, ?_⟩)
        have hE1120 := set_at hq1117 (v := [(.int .i64 x1037)])
        refine Aw_done (by kernel_rfl)<|Shift.done<|?_
        exact ⟨_, by exact ⟨rfl, rfl, rfl, trivial⟩, (setI (setI l888 i891 x1032) i1022 x1037), ((rs890.set i891.toNat [(.int .i64 x1032)]).set i1022.toNat [(.int .i64 x1037)]), rfl, rfl, rfl, H, hR1119⟩
      ·skip
       refine id (Ax_mk rfl rfl (OpW_of_Qt rfl rfl (Qt_load1 (v := (.int .i64 x1037)) rfl rfl rfl (Rd_row (T := Ty.i64) Mb0 hR889 hq1096 rfl rfl)) ⟨Inc.nil, ?_⟩))
       obtain ⟨r1121, hq1122, hr1123⟩ := RowR.at hR889 hx1033
       obtain rfl := hr1123
       refine Aw_one 6 (by kernel_rfl) (Ax_mk rfl rfl (OpW_of_Qt rfl rfl (Q_ixR (T := Ty.i64) Mb0 hR889 hq1122 (getI_ix hx1033).1 rfl rfl rfl rfl rfl) ⟨Inc.nil, ?_⟩))
       refine Aw_one 7 (by kernel_rfl) (Ax_mk rfl rfl (OpW_of_Qt rfl rfl (Qt_load1 (v := (.int .i64 x1032)) rfl rfl rfl (Rd_row (T := Ty.i64) Mb0 hR889 hq1122 rfl rfl)) ⟨Inc.nil, ?_⟩))
       obtain ⟨r1124, hq1125, hr1126⟩ := RowR.at hR889 hx1043
       obtain rfl := hr1126
       refine Aw_one 12 (by kernel_rfl) (Ax_mk rfl rfl (OpW_of_Qt rfl rfl (Q_ixR (T := Ty.i64) Mb0 hR889 hq1125 (getI_ix hx1043).1 rfl rfl rfl rfl rfl) ⟨Inc.nil, ?_⟩))
       refine Aw_one 13 (by kernel_rfl) (Ax_mk rfl rfl ?_)
       refine O_storeR (T := Ty.i64) (vs := [(.int .i64 x1032)]) (r' := [(.int .i64 x1032)]) (l' := (setI l888 i891 x1032)) rfl rfl rfl rfl rfl .here hR889 hq1125 rfl rfl rfl (RowR.set i891 hR889 rfl) (fun hR1127 => ⟨Inc.nil, ?_⟩)
       have hE1128 := set_at hq1125 (v := [(.int .i64 x1032)])
       obtain ⟨r1129, hq1130, hr1131⟩ := RowR.at hR1127 hx1050
       obtain rfl := hr1131
       refine Aw_one 14 (by kernel_rfl) (Ax_mk rfl rfl (OpW_of_Qt rfl rfl (Q_ixR (T := Ty.i64) Mb0 hR1127 hq1130 (getI_ix hx1050).1 rfl rfl rfl rfl rfl) ⟨Inc.nil, ?_⟩))
       refine Aw_one 15 (by kernel_rfl) (Ax_mk rfl rfl ?_)
       refine O_storeR (T := Ty.i64) (vs := [(.int .i64 x1037)]) (r' := [(.int .i64 x1037)]) (l' := (setI (setI l888 i891 x1032) i1022 x1037)) rfl rfl rfl rfl rfl .here hR1127 hq1130 rfl rfl rfl (RowR.set i1022 hR1127 rfl) (fun hR1132 => ⟨Inc.nil, ?_⟩)
       have hE1133 := set_at hq1130 (v := [(.int .i64 x1037)])
       refine Aw_done (by kernel_rfl)<|Shift.done<|?_
       exact ⟨_, by exact ⟨rfl, rfl, rfl, trivial⟩, (setI (setI l888 i891 x1032) i1022 x1037), ((rs890.set i891.toNat [(.int .i64 x1032)]).set i1022.toNat [(.int .i64 x1037)]), rfl, rfl, rfl, H, hR1132⟩
    rintro _ _ _ - ⟨l1010, rs1012, rfl, rfl, rfl, H, hR1011⟩
    unfold M_174z at H
    refine Cw_region<|Ow_q rfl rfl rfl (Qt_move rfl)<|Ow_q rfl rfl rfl (Qt_arith (e := wI (i891 - 1)) rfl rfl rfl rfl)<|Ow_q rfl rfl rfl (Qt_assign rfl)<|Ow_nil<|Shift.done<|?_
    exact ⟨_, by exact ⟨rfl, rfl, rfl, trivial⟩, _, Nat.lt_succ_self _, l1010, rs1012, (wI (i891 - 1)), rfl, rfl, rfl, (hkk895 ▸ H), hR1011⟩
   ·intro h897
    have h897 := dcd_f (h897)
    have H := iff_ h897 H
    refine Cw_exit<|Shift.done<|?_
    exact ⟨_, by exact ⟨rfl, trivial⟩, l888, rs890, rfl, rfl, H, hR889⟩
  rintro _ K1134 _ hK1135 ⟨l642, rs644, rfl, rfl, H, hR643⟩
  unfold M_213z at H
  refine Cw_seq<|Cw_region<|Ow_q rfl rfl rfl (Qt_move rfl)<|Ow_q rfl rfl rfl (Qt_assign rfl)<|Ow_nil<|Cw_ret<|?_
  obtain ey0 := inj1 H
  subst y0
  refine ⟨(by first | exact .inl rfl | exact .inr rfl), [(sv v308)], ⟨(sv v308), _, rfl, rfl, rfl⟩, ?_⟩
  exact Shift.done ⟨v308, rs644, rfl, rfl, hR643⟩

set_option maxHeartbeats 1000000 in
theorem c_M_135z (p0 : List Int) (vp0 : SV) (p1 : Int) (y0 : Draw_Codes) (H : M_135z p0 p1 = some y0) (K : Kp) (G : List Ent) (hp0 : Slr Ty.u8 K (sv vp0) p0) :
  Fc Try.prog 10 #[(sv vp0), (.int .i64 p1)] K (G) (fun v K' G' => ∃ (by0 : Nat) (wy0_list : SV), v = (.pointer (some ((⟨by0, 0, none⟩ : Addr).add 0))) ∧ K = K' ∧ (.blk by0 77 (Draw_Codes.cells y0 wy0_list)) :: G = G' ∧ Slr Ty.u8 K' (sv wy0_list) y0.list) := by
 refine Fc_body Try.func10 rfl Try.ntmps10 Try.results10 rfl ?_
 unfold M_135z at H
 refine Cw_seq<|Cw_region<|Ow_q rfl rfl rfl (Qt_assign rfl)<|Ow_nil<|?_
 refine Cw_join (fun env' K' G' => ∃ (v13 : SV) (l14 : List Int), [(0, (sv v13))] = env' ∧ K = K' ∧ G = G' ∧ M_181z l14 = some y0 ∧ Slr Ty.u8 K' (sv v13) l14) ?_ ?_
 ·skip
  refine Cw_seq<|Cw_region<|Ow_q rfl rfl rfl (Qt_move rfl)<|Ow_q rfl rfl rfl (Q_len (T := Ty.u8) hp0 rfl rfl)<|Ow_q rfl rfl rfl (Qt_move rfl)<|Ow_q rfl rfl rfl (Qt_cmp rfl rfl rfl)<|Ow_nil<|?_
  refine Cw_cond rfl ?_ ?_
  ·intro h16
   have h16 := dcd_t (h16)
   have H := ift h16 H
   refine Cw_region<|Ow_q rfl rfl rfl (Qt_move rfl)<|Ow_q rfl rfl rfl (Qt_move rfl)<|?_
   obtain ⟨x17, hx18, H⟩ := bnd H
   have hs19 := Slr.cut hp0 hx18
   refine Ow_q rfl rfl rfl (Q_cutH (T := Ty.u8) hp0 hx18 rfl rfl rfl rfl)<|Ow_q rfl rfl rfl (Qt_assign rfl)<|Ow_nil<|Shift.done<|?_
   exact ⟨_, by exact ⟨rfl, trivial⟩, (cutS vp0 1 0 p1.toNat), x17, rfl, rfl, rfl, H, hs19⟩
  ·intro h16
   have h16 := dcd_f (h16)
   have H := iff_ h16 H
   refine Cw_skip<|Shift.done<|?_
   exact ⟨_, by exact ⟨rfl, trivial⟩, vp0, p0, rfl, rfl, rfl, H, hp0⟩
 rintro _ _ _ - ⟨v13, l14, rfl, rfl, rfl, H, hs15⟩
 unfold M_181z at H
 refine Cw_seq<|Cw_region<|Ow_q rfl rfl rfl (Qt_move rfl)<|Ow_q rfl rfl rfl (Qt_build (cs := (Draw_Codes.cells (Draw_Codes.mk l14 0 0) v13)) rfl rfl rfl rfl rfl rfl)<|?_
 refine Ow_cons rfl (OpW_box (cs := (Draw_Codes.cells (Draw_Codes.mk l14 0 0) v13)) rfl rfl rfl (fun b20 => ?_))
 refine Ow_q rfl rfl rfl (Qt_assign rfl)<|Ow_nil<|Cw_ret<|?_
 obtain ey0 := inj1 H
 subst y0
 refine ⟨(by first | exact .inl rfl | exact .inr rfl), [(.pointer (some ((⟨b20, 0, none⟩ : Addr).add 0)))], ⟨(.pointer (some ((⟨b20, 0, none⟩ : Addr).add 0))), _, rfl, rfl, rfl⟩, ?_⟩
 exact Shift.done ⟨b20, v13, rfl, rfl, rfl, hs15⟩

set_option maxHeartbeats 1000000 in
theorem c_M_136z (bp0 : Nat) (p0 : Draw_Codes) (vp0_list : SV) (y0 : Bool) (H : M_136z p0 = some y0) (K : Kp) (G : List Ent) (hp0_list : Slr Ty.u8 K (sv vp0_list) p0.list) :
  Fc Try.prog 30 #[(.pointer (some ((⟨bp0, 0, none⟩ : Addr).add 0)))] K ((.blk bp0 77 (Draw_Codes.cells p0 vp0_list)) :: G) (fun v K' G' => v = (.bool y0) ∧ K = K' ∧ (.blk bp0 77 (Draw_Codes.cells p0 vp0_list)) :: G = G') := by
 refine Fc_body Try.func30 rfl Try.ntmps30 Try.results30 rfl ?_
 unfold M_136z at H
 refine Cw_seq<|Cw_region<|Ow_q rfl rfl rfl (Qt_assign rfl)<|Ow_nil<|Cw_seq<|Cw_region_any [.blk bp0 77 (Draw_Codes.cells p0 vp0_list)] rfl (Inc.cons Mb0 Inc.nil)<|Awq 0 rfl (by kernel_rfl) rfl rfl rfl (Qt_move rfl)<|Awq 1 rfl (by kernel_rfl) rfl rfl rfl (Qt_nilCheck rfl)<|Awq 2 rfl (by kernel_rfl) rfl rfl rfl (Qt_fieldAddr (m := 1) rfl rfl rfl rfl rfl)<|Awq 3 rfl (by kernel_rfl) rfl rfl rfl (Qt_load1 (v := (.int .i64 p0.at_)) rfl rfl rfl (Rdc.blk Mb0 rfl))<|?_
 refine Awq 4 rfl (by kernel_rfl) rfl rfl rfl (Qt_move rfl)<|Awq 5 rfl (by kernel_rfl) rfl rfl rfl (Qt_nilCheck rfl)<|Awq 6 rfl (by kernel_rfl) rfl rfl rfl (Qt_fieldAddr (m := 0) rfl rfl rfl rfl rfl)<|Awq 7 rfl (by kernel_rfl) rfl rfl rfl (Qt_load1 (v := (sv vp0_list)) rfl rfl rfl (Rdc.blk Mb0 rfl))<|Awq 8 rfl (by kernel_rfl) rfl rfl rfl (Q_len (T := Ty.u8) hp0_list rfl rfl)<|Awq 9 rfl (by kernel_rfl) rfl rfl rfl (Qt_cmp rfl rfl rfl)<|Awq 10 rfl (by kernel_rfl) rfl rfl rfl (Qt_assign rfl)<|Aw_done (by kernel_rfl)<|Cw_ret<|?_
 obtain ey0 := inj1 H
 subst y0
 refine ⟨(by first | exact .inl rfl | exact .inr rfl), [(.bool (dcd (p0.at_ < (p0.list.length : Int))))], ⟨(.bool (dcd (p0.at_ < (p0.list.length : Int)))), _, rfl, rfl, rfl⟩, ?_⟩
 exact Shift.done ⟨rfl, rfl, rfl⟩

set_option maxHeartbeats 1000000 in
theorem c_M_0z (bp0 : Nat) (p0 : Draw_Codes) (vp0_list : SV) (p1 : Int) (y0 : Int) (z0_at_ : Int) (H : M_0z p0 p1 = some (y0, z0_at_)) (K : Kp) (G : List Ent) (hp0_list : Slr Ty.u8 K (sv vp0_list) p0.list) :
  Fc Try.prog 20 #[(.pointer (some ((⟨bp0, 0, none⟩ : Addr).add 0))), (.int .i64 p1)] K ((.blk bp0 77 (Draw_Codes.cells p0 vp0_list)) :: G) (fun v K' G' => v = (.int .i64 y0) ∧ K = K' ∧ (.blk bp0 77 (Draw_Codes.cells (Draw_Codes.mk p0.list z0_at_ p0.value) vp0_list)) :: G = G') := by
 refine Fc_body Try.func20 rfl Try.ntmps20 Try.results20 rfl ?_
 unfold M_0z at H
 refine Cw_seq<|Cw_region<|Ow_q rfl rfl rfl (Qt_assign rfl)<|Ow_nil<|Cw_seq<|Cw_seq<|Cw_region<|Ow_q rfl rfl rfl (Qt_move rfl)<|?_
 obtain ⟨x17, hx18, H⟩ := bnd H
 refine Ow_cons rfl (OpW_call rfl Try.call30 rfl rfl (c_M_136z bp0 p0 vp0_list x17 hx18 _ _ hp0_list) ?_)
 rintro _ _ _ - ⟨rfl, rfl, rfl⟩
 refine Ow_q rfl rfl rfl (Qt_not rfl)<|Ow_nil<|?_
 refine Cw_cond rfl ?_ ?_
 ·intro h19
  have h19 := nt_t (h19)
  have H := iff_ (btf h19) H
  refine Cw_seq<|Cw_region<|Ow_q rfl rfl rfl (Qt_assign rfl)<|Ow_nil<|Cw_ret<|?_
  obtain ⟨ey0, ez0_at_⟩ := inj2 H
  subst y0 z0_at_
  refine ⟨(by first | exact .inl rfl | exact .inr rfl), [(.int .i64 0)], ⟨(.int .i64 0), _, rfl, rfl, rfl⟩, ?_⟩
  exact Shift.done ⟨rfl, rfl, rfl⟩
 ·intro h19
  have h19 := nt_f (h19)
  have H := ift h19 H
  refine Cw_skip<|Cw_seq<|Cw_region<|Ow_q rfl rfl rfl (Qt_move rfl)<|Ow_q rfl rfl rfl (Qt_nilCheck rfl)<|Ow_q rfl rfl rfl (Qt_fieldAddr (m := 1) rfl rfl rfl rfl rfl)<|Ow_q rfl rfl rfl (Qt_load1 (v := (.int .i64 p0.at_)) rfl rfl rfl (Rdc.blk Mb0 rfl))<|Ow_q rfl rfl rfl (Qt_arith (e := wI (p0.at_ + 1)) rfl rfl rfl rfl)<|Ow_q rfl rfl rfl (Qt_nilCheck rfl)<|Ow_q rfl rfl rfl (Qt_fieldAddr (m := 1) rfl rfl rfl rfl rfl)<|?_
  refine Ow_cons rfl (OpW_store (vs := [(.int .i64 (wI (p0.at_ + 1)))]) (all' := (Draw_Codes.cells (Draw_Codes.mk p0.list (wI (p0.at_ + 1)) p0.value) vp0_list)) rfl rfl rfl rfl rfl .here rfl rfl rfl ?_)
  refine Ow_nil<|Cw_seq<|?_
  obtain ⟨x20, hx21, H⟩ := bnd H
  obtain ⟨x25, hx26, H⟩ := bnd H
  refine Cw_region_any [.blk bp0 77 (Draw_Codes.cells (Draw_Codes.mk p0.list (wI (p0.at_ + 1)) p0.value) vp0_list)] rfl (Inc.cons Mb0 Inc.nil)<|Awq 0 rfl (by kernel_rfl) rfl rfl rfl (Qt_move rfl)<|Awq 1 rfl (by kernel_rfl) rfl rfl rfl (Qt_nilCheck rfl)<|Awq 2 rfl (by kernel_rfl) rfl rfl rfl (Qt_fieldAddr (m := 0) rfl rfl rfl rfl rfl)<|Awq 3 rfl (by kernel_rfl) rfl rfl rfl (Qt_load1 (v := (sv vp0_list)) rfl rfl rfl (Rdc.blk Mb0 rfl))<|Awq 4 rfl (by kernel_rfl) rfl rfl rfl (Qt_move rfl)<|Awq 5 rfl (by kernel_rfl) rfl rfl rfl (Qt_nilCheck rfl)<|Awq 6 rfl (by kernel_rfl) rfl rfl rfl (Qt_fieldAddr (m := 1) rfl rfl rfl rfl rfl)<|Awq 7 rfl (by kernel_rfl) rfl rfl rfl (Qt_load1 (v := (.int .i64 (wI (p0.at_ + 1)))) rfl rfl rfl (Rdc.blk Mb0 rfl))<|Awq 8 rfl (by kernel_rfl) rfl rfl rfl (Qt_arith (e := wI ((wI (p0.at_ + 1)) - 1)) rfl rfl rfl rfl)<|?_
  obtain ⟨r27, hr28, hk29⟩ := Slr.at hp0_list hx21
  obtain rfl := hr28
  refine Awq 9 rfl (by kernel_rfl) rfl rfl rfl (Q_ix (T := Ty.u8) hp0_list hx21 rfl rfl rfl rfl rfl)<|Awq 10 rfl (by kernel_rfl) rfl rfl rfl (Qt_load1 (v := (.int .u8 x20)) rfl rfl rfl (Rdc.k hk29 rfl))<|Awq 11 rfl (by kernel_rfl) rfl rfl rfl (Qt_conv (c := wI x20) rfl rfl rfl rfl)<|Awq 12 rfl (by kernel_rfl) rfl rfl rfl (Qt_move rfl)<|Awq 13 rfl (by kernel_rfl) rfl rfl rfl (Q_rem hx26 rfl rfl)<|Awq 14 rfl (by kernel_rfl) rfl rfl rfl (Qt_assign rfl)<|Aw_done (by kernel_rfl)<|Cw_ret<|?_
  obtain ⟨ey0, ez0_at_⟩ := inj2 H
  subst y0 z0_at_
  refine ⟨(by first | exact .inl rfl | exact .inr rfl), [(.int .i64 x25)], ⟨(.int .i64 x25), _, rfl, rfl, rfl⟩, ?_⟩
  exact Shift.done ⟨rfl, rfl, rfl⟩

set_option maxHeartbeats 1000000 in
theorem c_M_137z (bp0 : Nat) (p0 : Draw_Codes) (vp0_list : SV) (y0 : Config) (z0_at_ : Int) (z0_value : Int) (H : M_137z p0 = some (y0, z0_at_, z0_value)) (K : Kp) (G : List Ent) (hp0_list : Slr Ty.u8 K (sv vp0_list) p0.list) :
  Fc Try.prog 11 #[(.pointer (some ((⟨bp0, 0, none⟩ : Addr).add 0)))] K ((.blk bp0 77 (Draw_Codes.cells p0 vp0_list)) :: G) (fun v K' G' => ∃ (wy0_capacities : SV) (wy0_starts : SV), v = (.agg (Config.cells y0 wy0_capacities wy0_starts).toArray) ∧ (.blk bp0 77 (Draw_Codes.cells (Draw_Codes.mk p0.list z0_at_ z0_value) vp0_list)) :: (.tok 3 1 [(sv wy0_capacities)]) :: (.tok 38 1 [(sv wy0_starts)]) :: G = G' ∧ Slr Ty.i64 K' (sv wy0_capacities) y0.capacities ∧ Slr Ty.u64 K' (sv wy0_starts) y0.starts) := by
 refine Fc_body Try.func11 rfl Try.ntmps11 Try.results11 rfl ?_
 unfold M_137z at H
 refine Cw_seq<|Cw_region<|?_
 refine Ow_cons rfl (OpW_alloc (cs := (Config.cells (Config.mk [] [] 0) nilS nilS)) rfl rfl rfl rfl (fun b279 => ?_))
 refine Ow_nil<|Cw_seq<|Cw_region<|?_
 have hR281 : RowR Ty.i64 K [[(.int .i64 0)], [(.int .i64 1)], [(.int .i64 2)], [(.int .i64 0)], [(.int .i64 1)], [(.int .i64 3)]] [0, 1, 2, 0, 1, 3] := RowR.cons rfl (RowR.cons rfl (RowR.cons rfl (RowR.cons rfl (RowR.cons rfl (RowR.cons rfl (RowR.nil))))))
 refine Ow_cons rfl (O_lit (T := Ty.i64) (rows := [[(.int .i64 0)], [(.int .i64 1)], [(.int .i64 2)], [(.int .i64 0)], [(.int .i64 1)], [(.int .i64 3)]]) (l := [0, 1, 2, 0, 1, 3]) rfl rfl rfl hR281 rfl rfl rfl rfl rfl rfl rfl rfl (fun v280 => ?_))
 refine Ow_q rfl rfl rfl (Qt_assign rfl)<|Ow_nil<|Cw_seq<|Cw_region<|?_
 have hR283 : RowR Ty.u64 K [[(.int .u64 0)], [(.int .u64 1)], [(.int .u64 9223372036854775807)], [(.int .u64 9223372036854775806)], [(.int .u64 4611686018427387904)], [(.int .u64 5)]] [0, 1, 9223372036854775807, 9223372036854775806, 4611686018427387904, 5] := RowR.cons rfl (RowR.cons rfl (RowR.cons rfl (RowR.cons rfl (RowR.cons rfl (RowR.cons rfl (RowR.nil))))))
 refine Ow_cons rfl (O_lit (T := Ty.u64) (rows := [[(.int .u64 0)], [(.int .u64 1)], [(.int .u64 9223372036854775807)], [(.int .u64 9223372036854775806)], [(.int .u64 4611686018427387904)], [(.int .u64 5)]]) (l := [0, 1, 9223372036854775807, 9223372036854775806, 4611686018427387904, 5]) rfl rfl rfl hR283 rfl rfl rfl rfl rfl rfl rfl rfl (fun v282 => ?_))
 refine Ow_q rfl rfl rfl (Qt_assign rfl)<|Ow_nil<|Cw_seq<|Cw_region<|?_
 refine Ow_cons rfl (OpW_alloc (cs := (Config.cells (Config.mk [] [] 0) nilS nilS)) rfl rfl rfl rfl (fun b284 => ?_))
 refine Ow_nil ?_
 refine Cw_join (fun env' K' G' => ∃ (i531 : Int) (i532 : Int) (v533 : SV) (l534 : List Int) (v536 : SV) (l537 : List Int), [(0, (.pointer (some ((⟨bp0, 0, none⟩ : Addr).add 0)))), (2, (.pointer (some ((⟨b279, 0, none⟩ : Addr).add 0)))), (5, (.pointer (some ((⟨b284, 0, none⟩ : Addr).add 0))))] = env' ∧ (.blk bp0 77 (Draw_Codes.cells (Draw_Codes.mk p0.list i531 i532) vp0_list)) :: (.blk b284 29 (Config.cells (Config.mk l534 l537 0) v533 v536)) :: (.blk b279 29 (Config.cells (Config.mk [] [] 0) nilS nilS)) :: (.tok 3 1 [(sv v533)]) :: (.tok 38 1 [(sv v536)]) :: G = G' ∧ M_182z p0 i531 i532 l534 l537 = some (y0, z0_at_, z0_value) ∧ Slr Ty.i64 K' (sv v533) l534 ∧ Slr Ty.u64 K' (sv v536) l537) ?_ ?_
 ·skip
  refine Cw_seq<|Cw_region<|Ow_q rfl rfl rfl (Qt_assign rfl)<|Ow_nil<|Cw_block<|?_
  refine Cw_loopM (fun n785 env' K' G' => ∃ (i776 : Int) (i777 : Int) (i778 : Int) (v779 : SV) (l780 : List Int) (v782 : SV) (l783 : List Int), [(0, (.pointer (some ((⟨bp0, 0, none⟩ : Addr).add 0)))), (2, (.pointer (some ((⟨b279, 0, none⟩ : Addr).add 0)))), (3, (sv v280)), (4, (sv v282)), (5, (.pointer (some ((⟨b284, 0, none⟩ : Addr).add 0)))), (6, (.int .i64 i776))] = env' ∧ (.blk bp0 77 (Draw_Codes.cells (Draw_Codes.mk p0.list i777 i778) vp0_list)) :: (.blk b284 29 (Config.cells (Config.mk l780 l783 0) v779 v782)) :: (.blk b279 29 (Config.cells (Config.mk [] [] 0) nilS nilS)) :: (.tok 3 1 [(sv v779)]) :: (.tok 38 1 [(sv v782)]) :: (.row (sv v282) 38 1 [[(.int .u64 0)], [(.int .u64 1)], [(.int .u64 9223372036854775807)], [(.int .u64 9223372036854775806)], [(.int .u64 4611686018427387904)], [(.int .u64 5)]].flatten) :: (.row (sv v280) 3 1 [[(.int .i64 0)], [(.int .i64 1)], [(.int .i64 2)], [(.int .i64 0)], [(.int .i64 1)], [(.int .i64 3)]].flatten) :: G = G' ∧ lp5 (M_185z p0) n785 i776 i777 i778 l780 l783 = some (y0, z0_at_, z0_value) ∧ Slr Ty.i64 K' (sv v779) l780 ∧ Slr Ty.u64 K' (sv v782) l783) BIG ?_ ?_
  ·skip
   refine Shift.nilTok1 3 1<|Shift.nilTok1 38 1<|Pu4<|Pu4<|Pu2<|Pu3<|Pu5<|Pu5<|Pu6<|Shift.done<|?_
   exact ⟨_, by exact ⟨rfl, rfl, rfl, rfl, rfl, rfl, trivial⟩, 0, p0.at_, p0.value, nilS, ([] : List Int), nilS, ([] : List Int), rfl, rfl, H, (Slr.nil Ty.i64 _), (Slr.nil Ty.u64 _)⟩
  rintro n785 _ K786 _ hK787 ⟨i776, i777, i778, v779, l780, v782, l783, rfl, rfl, H, hs781, hs784⟩
  obtain ⟨m788, k789, rfl, hkk790, H⟩ := lps5 H
  unfold M_185z at H
  refine Cw_seq<|Cw_seq<|Cw_region<|Ow_q rfl rfl rfl (Qt_move rfl)<|Ow_q rfl rfl rfl (Qt_move rfl)<|?_
  obtain ⟨x796, x797, hx798, H⟩ := bnd2 H
  have hs799 := (hp0_list).mono hK787
  refine Ow_cons rfl (OpW_call rfl Try.call20 rfl rfl (c_M_0z bp0 (Draw_Codes.mk p0.list i777 i778) vp0_list 3 x796 x797 hx798 _ _ hs799) ?_)
  rintro _ _ _ - ⟨rfl, rfl, rfl⟩
  refine Ow_q rfl rfl rfl (Qt_cmp rfl rfl rfl)<|Ow_nil<|?_
  refine Cw_cond rfl ?_ ?_
  ·intro h800
   have h800 := dcd_t (h800)
   have H := ift h800 H
   refine Cw_skip ?_
   refine Cw_join (fun env' K' G' => ∃ (i900 : Int) (i901 : Int) (v902 : SV) (l903 : List Int) (v905 : SV) (l906 : List Int), [(0, (.pointer (some ((⟨bp0, 0, none⟩ : Addr).add 0)))), (2, (.pointer (some ((⟨b279, 0, none⟩ : Addr).add 0)))), (3, (sv v280)), (4, (sv v282)), (5, (.pointer (some ((⟨b284, 0, none⟩ : Addr).add 0)))), (6, (.int .i64 i776))] = env' ∧ (.blk bp0 77 (Draw_Codes.cells (Draw_Codes.mk p0.list i900 i901) vp0_list)) :: (.blk b284 29 (Config.cells (Config.mk l903 l906 0) v902 v905)) :: (.blk b279 29 (Config.cells (Config.mk [] [] 0) nilS nilS)) :: (.tok 3 1 [(sv v902)]) :: (.tok 38 1 [(sv v905)]) :: (.row (sv v282) 38 1 [[(.int .u64 0)], [(.int .u64 1)], [(.int .u64 9223372036854775807)], [(.int .u64 9223372036854775806)], [(.int .u64 4611686018427387904)], [(.int .u64 5)]].flatten) :: (.row (sv v280) 3 1 [[(.int .i64 0)], [(.int .i64 1)], [(.int .i64 2)], [(.int .i64 0)], [(.int .i64 1)], [(.int .i64 3)]].flatten) :: G = G' ∧ M_183z i776 p0 k789 i900 i901 l903 l906 = some (y0, z0_at_, z0_value) ∧ Slr Ty.i64 K' (sv v902) l903 ∧ Slr Ty.u64 K' (sv v905) l906) ?_ ?_
   ·skip
    refine Cw_block ?_
    refine Cw_join (fun env' K' G' => ∃ (i951 : Int) (v952 : SV) (l953 : List Int), [(0, (.pointer (some ((⟨bp0, 0, none⟩ : Addr).add 0)))), (2, (.pointer (some ((⟨b279, 0, none⟩ : Addr).add 0)))), (3, (sv v280)), (4, (sv v282)), (5, (.pointer (some ((⟨b284, 0, none⟩ : Addr).add 0)))), (6, (.int .i64 i776))] = env' ∧ (.blk bp0 77 (Draw_Codes.cells (Draw_Codes.mk p0.list i951 ((Draw_Codes.mk p0.list x797 ((Draw_Codes.mk p0.list i777 i778).value)).value)) vp0_list)) :: (.blk b284 29 (Config.cells (Config.mk l953 l783 0) v952 v782)) :: (.blk b279 29 (Config.cells (Config.mk [] [] 0) nilS nilS)) :: (.tok 3 1 [(sv v952)]) :: (.tok 38 1 [(sv v782)]) :: (.row (sv v282) 38 1 [[(.int .u64 0)], [(.int .u64 1)], [(.int .u64 9223372036854775807)], [(.int .u64 9223372036854775806)], [(.int .u64 4611686018427387904)], [(.int .u64 5)]].flatten) :: (.row (sv v280) 3 1 [[(.int .i64 0)], [(.int .i64 1)], [(.int .i64 2)], [(.int .i64 0)], [(.int .i64 1)], [(.int .i64 3)]].flatten) :: G = G' ∧ M_184z i776 p0 x797 i777 i778 l783 k789 i951 l953 = some (y0, z0_at_, z0_value) ∧ Slr Ty.i64 K' (sv v952) l953) ?_ ?_
    ·skip
     obtain ⟨x955, x956, hx957, H⟩ := bnd2 H
     obtain ⟨x958, hx959, H⟩ := bnd H
     obtain ⟨x966, hx967, H⟩ := bnd H
     refine Cw_region_any [.blk b279 29 (Config.cells (Config.mk [] [] 0) nilS nilS), .tok 38 1 [(sv v782)], .row (sv v282) 38 1 [[(.int .u64 0)], [(.int .u64 1)], [(.int .u64 9223372036854775807)], [(.int .u64 9223372036854775806)], [(.int .u64 4611686018427387904)], [(.int .u64 5)]].flatten, .row (sv v280) 3 1 [[(.int .i64 0)], [(.int .i64 1)], [(.int .i64 2)], [(.int .i64 0)], [(.int .i64 1)], [(.int .i64 3)]].flatten] rfl (Inc.cons Mb2 (Inc.cons Mb4 (Inc.cons Mb5 (Inc.cons Mb6 Inc.nil))))<|Awq 0 rfl (by kernel_rfl) rfl rfl rfl (Qt_fieldAddr (m := 0) rfl rfl rfl rfl rfl)<|Awq 2 rfl (by kernel_rfl) rfl rfl rfl (Qt_move rfl)<|Awq 3 rfl (by kernel_rfl) rfl rfl rfl (Qt_move rfl)<|?_
     refine Aw_two 1 4 (by kernel_rfl) ?_ ?_
     ·skip
      refine id (Ax_mk rfl rfl (OpW_of_Qt rfl rfl (Qt_load1 (v := (sv v779)) rfl rfl rfl (Rdc.blk Mb1 rfl)) ⟨(Inc.cons Mb2 (Inc.cons Mb4 (Inc.cons Mb5 (Inc.cons Mb6 Inc.nil)))), ?_⟩))
      refine Aw_one 4 (by kernel_rfl) (Ax_mk rfl rfl ?_)
      refine OpW_call rfl Try.call20 rfl rfl (c_M_0z bp0 (Draw_Codes.mk p0.list x797 ((Draw_Codes.mk p0.list i777 i778).value)) vp0_list 6 x955 x956 hx957 _ _ hs799) ?_
      rintro _ _ _ - ⟨rfl, rfl, rfl⟩
      refine ⟨(Inc.cons Mb2 (Inc.cons Mb4 (Inc.cons Mb5 (Inc.cons Mb6 Inc.nil)))), ?_⟩
      have hs972 := (hR281).mono hK787
      obtain ⟨r973, hq974, hr975⟩ := RowR.at hs972 hx959
      obtain rfl := hr975
      refine Awq 5 rfl (by kernel_rfl) rfl rfl rfl (Q_ixR (T := Ty.i64) Mb3 hs972 hq974 (getI_ix hx959).1 rfl rfl rfl rfl rfl)<|Awq 6 rfl (by kernel_rfl) rfl rfl rfl (Qt_load1 (v := (.int .i64 x958)) rfl rfl rfl (Rd_row (T := Ty.i64) Mb3 hs972 hq974 rfl rfl))<|?_
      refine Aw_one 7 (by kernel_rfl) (Ax_mk rfl rfl ?_)
      have hR977 : RowR Ty.i64 K786 [[(.int .i64 x958)]] [x958] := RowR.cons rfl (RowR.nil)
      refine O_lit (T := Ty.i64) (rows := [[(.int .i64 x958)]]) (l := [x958]) rfl rfl rfl hR977 rfl rfl rfl rfl rfl rfl rfl rfl (fun v976 => ⟨(Inc.cons Mb3 (Inc.cons Mb5 (Inc.cons Mb6 (Inc.cons Mb7 Inc.nil)))), ?_⟩)
      refine Aw_one 8 (by kernel_rfl) (Ax_mk rfl rfl ?_)
      refine O_appTok (T := Ty.i64) (bytes := 8) (q := 0) rfl rfl rfl hs781 Mb4 rfl (SrcT.row Mb0 hR977 rfl) hx967 rfl rfl rfl rfl rfl rfl rfl rfl (fun v978 K979 hK980 hs981 => ⟨_, (.there (.there (.there (.there .here)))), ⟨(Inc.cons Mb3 (Inc.cons Mb5 (Inc.cons Mb6 (Inc.cons Mb7 Inc.nil)))), ?_⟩⟩)
      refine Aw.shift (Re0 (Shift.done ⟨(Inc.cons Mb2 (Inc.cons Mb4 (Inc.cons Mb5 (Inc.cons Mb6 Inc.nil)))), ?_⟩))
      refine Awq 9 rfl (by kernel_rfl) rfl rfl rfl (Qt_fieldAddr (m := 0) rfl rfl rfl rfl rfl) ?_
      refine Aw_one 10 (by kernel_rfl) (Ax_mk rfl rfl ?_)
      refine OpW_store (vs := [(sv v978)]) (all' := (Config.cells (Config.mk x966 l783 0) v978 v782)) rfl rfl rfl rfl rfl (.there .here) rfl rfl rfl ⟨(Inc.cons Mb2 (Inc.cons Mb4 (Inc.cons Mb5 (Inc.cons Mb6 Inc.nil)))), ?_⟩
      refine Aw_done (by kernel_rfl)<|Pu6<|Pu6<|Pu6<|Pu6<|Pu6<|Pu6<|Pu6<|Shift.done<|?_
      exact ⟨_, by exact ⟨rfl, rfl, rfl, rfl, rfl, rfl, trivial⟩, x956, v978, x966, rfl, rfl, H, hs981⟩
     ·skip
      refine id (Ax_mk rfl rfl ?_)
      refine OpW_call rfl Try.call20 rfl rfl (c_M_0z bp0 (Draw_Codes.mk p0.list x797 ((Draw_Codes.mk p0.list i777 i778).value)) vp0_list 6 x955 x956 hx957 _ _ hs799) ?_
      rintro _ _ _ - ⟨rfl, rfl, rfl⟩
      refine ⟨(Inc.cons Mb2 (Inc.cons Mb4 (Inc.cons Mb5 (Inc.cons Mb6 Inc.nil)))), ?_⟩
      have hs982 := (hR281).mono hK787
      obtain ⟨r983, hq984, hr985⟩ := RowR.at hs982 hx959
      obtain rfl := hr985
      refine Awq 5 rfl (by kernel_rfl) rfl rfl rfl (Q_ixR (T := Ty.i64) Mb3 hs982 hq984 (getI_ix hx959).1 rfl rfl rfl rfl rfl)<|Awq 6 rfl (by kernel_rfl) rfl rfl rfl (Qt_load1 (v := (.int .i64 x958)) rfl rfl rfl (Rd_row (T := Ty.i64) Mb3 hs982 hq984 rfl rfl))<|?_
      refine Aw_two 1 7 (by kernel_rfl) ?_ ?_
      ·skip
       refine id (Ax_mk rfl rfl (OpW_of_Qt rfl rfl (Qt_load1 (v := (sv v779)) rfl rfl rfl (Rdc.blk Mb1 rfl)) ⟨(Inc.cons Mb2 (Inc.cons Mb4 (Inc.cons Mb5 (Inc.cons Mb6 Inc.nil)))), ?_⟩))
       refine Aw_one 7 (by kernel_rfl) (Ax_mk rfl rfl ?_)
       have hR987 : RowR Ty.i64 K786 [[(.int .i64 x958)]] [x958] := RowR.cons rfl (RowR.nil)
       refine O_lit (T := Ty.i64) (rows := [[(.int .i64 x958)]]) (l := [x958]) rfl rfl rfl hR987 rfl rfl rfl rfl rfl rfl rfl rfl (fun v986 => ⟨(Inc.cons Mb3 (Inc.cons Mb5 (Inc.cons Mb6 (Inc.cons Mb7 Inc.nil)))), ?_⟩)
       refine Aw_one 8 (by kernel_rfl) (Ax_mk rfl rfl ?_)
       refine O_appTok (T := Ty.i64) (bytes := 8) (q := 0) rfl rfl rfl hs781 Mb4 rfl (SrcT.row Mb0 hR987 rfl) hx967 rfl rfl rfl rfl rfl rfl rfl rfl (fun v988 K989 hK990 hs991 => ⟨_, (.there (.there (.there (.there .here)))), ⟨(Inc.cons Mb3 (Inc.cons Mb5 (Inc.cons Mb6 (Inc.cons Mb7 Inc.nil)))), ?_⟩⟩)
       refine Aw.shift (Re0 (Shift.done ⟨(Inc.cons Mb2 (Inc.cons Mb4 (Inc.cons Mb5 (Inc.cons Mb6 Inc.nil)))), ?_⟩))
       refine Awq 9 rfl (by kernel_rfl) rfl rfl rfl (Qt_fieldAddr (m := 0) rfl rfl rfl rfl rfl) ?_
       refine Aw_one 10 (by kernel_rfl) (Ax_mk rfl rfl ?_)
       refine OpW_store (vs := [(sv v988)]) (all' := (Config.cells (Config.mk x966 l783 0) v988 v782)) rfl rfl rfl rfl rfl (.there .here) rfl rfl rfl ⟨(Inc.cons Mb2 (Inc.cons Mb4 (Inc.cons Mb5 (Inc.cons Mb6 Inc.nil)))), ?_⟩
       refine Aw_done (by kernel_rfl)<|Pu6<|Pu6<|Pu6<|Pu6<|Pu6<|Pu6<|Pu6<|Shift.done<|?_
       exact ⟨_, by exact ⟨rfl, rfl, rfl, rfl, rfl, rfl, trivial⟩, x956, v988, x966, rfl, rfl, H, hs991⟩
      ·skip
       refine id (Ax_mk rfl rfl ?_)
       have hR993 : RowR Ty.i64 K786 [[(.int .i64 x958)]] [x958] := RowR.cons rfl (RowR.nil)
       refine O_lit (T := Ty.i64) (rows := [[(.int .i64 x958)]]) (l := [x958]) rfl rfl rfl hR993 rfl rfl rfl rfl rfl rfl rfl rfl (fun v992 => ⟨(Inc.cons Mb3 (Inc.cons Mb5 (Inc.cons Mb6 (Inc.cons Mb7 Inc.nil)))), ?_⟩)
       refine Aw_one 1 (by kernel_rfl) (Ax_mk rfl rfl (OpW_of_Qt rfl rfl (Qt_load1 (v := (sv v779)) rfl rfl rfl (Rdc.blk Mb2 rfl)) ⟨(Inc.cons Mb3 (Inc.cons Mb5 (Inc.cons Mb6 (Inc.cons Mb7 Inc.nil)))), ?_⟩))
       refine Aw_one 8 (by kernel_rfl) (Ax_mk rfl rfl ?_)
       refine O_appTok (T := Ty.i64) (bytes := 8) (q := 0) rfl rfl rfl hs781 Mb4 rfl (SrcT.row Mb0 hR993 rfl) hx967 rfl rfl rfl rfl rfl rfl rfl rfl (fun v994 K995 hK996 hs997 => ⟨_, (.there (.there (.there (.there .here)))), ⟨(Inc.cons Mb3 (Inc.cons Mb5 (Inc.cons Mb6 (Inc.cons Mb7 Inc.nil)))), ?_⟩⟩)
       refine Aw.shift (Re0 (Shift.done ⟨(Inc.cons Mb2 (Inc.cons Mb4 (Inc.cons Mb5 (Inc.cons Mb6 Inc.nil)))), ?_⟩))
       refine Awq 9 rfl (by kernel_rfl) rfl rfl rfl (Qt_fieldAddr (m := 0) rfl rfl rfl rfl rfl) ?_
       refine Aw_one 10 (by kernel_rfl) (Ax_mk rfl rfl ?_)
       refine OpW_store (vs := [(sv v994)]) (all' := (Config.cells (Config.mk x966 l783 0) v994 v782)) rfl rfl rfl rfl rfl (.there .here) rfl rfl rfl ⟨(Inc.cons Mb2 (Inc.cons Mb4 (Inc.cons Mb5 (Inc.cons Mb6 Inc.nil)))), ?_⟩
       refine Aw_done (by kernel_rfl)<|Pu6<|Pu6<|Pu6<|Pu6<|Pu6<|Pu6<|Pu6<|Shift.done<|?_
       exact ⟨_, by exact ⟨rfl, rfl, rfl, rfl, rfl, rfl, trivial⟩, x956, v994, x966, rfl, rfl, H, hs997⟩
    rintro _ K998 _ hK999 ⟨i951, v952, l953, rfl, rfl, H, hs954⟩
    unfold M_184z at H
    obtain ⟨x1000, x1001, hx1002, H⟩ := bnd2 H
    obtain ⟨x1004, hx1005, H⟩ := bnd H
    obtain ⟨x1012, hx1013, H⟩ := bnd H
    refine Cw_region_any [.blk b279 29 (Config.cells (Config.mk [] [] 0) nilS nilS), .tok 3 1 [(sv v952)], .row (sv v282) 38 1 [[(.int .u64 0)], [(.int .u64 1)], [(.int .u64 9223372036854775807)], [(.int .u64 9223372036854775806)], [(.int .u64 4611686018427387904)], [(.int .u64 5)]].flatten, .row (sv v280) 3 1 [[(.int .i64 0)], [(.int .i64 1)], [(.int .i64 2)], [(.int .i64 0)], [(.int .i64 1)], [(.int .i64 3)]].flatten] rfl (Inc.cons Mb2 (Inc.cons Mb3 (Inc.cons Mb5 (Inc.cons Mb6 Inc.nil))))<|Awq 0 rfl (by kernel_rfl) rfl rfl rfl (Qt_fieldAddr (m := 1) rfl rfl rfl rfl rfl)<|Awq 2 rfl (by kernel_rfl) rfl rfl rfl (Qt_move rfl)<|Awq 3 rfl (by kernel_rfl) rfl rfl rfl (Qt_move rfl)<|?_
    refine Aw_two 1 4 (by kernel_rfl) ?_ ?_
    ·skip
     refine id (Ax_mk rfl rfl (OpW_of_Qt rfl rfl (Qt_load1 (v := (sv v782)) rfl rfl rfl (Rdc.blk Mb1 rfl)) ⟨(Inc.cons Mb2 (Inc.cons Mb3 (Inc.cons Mb5 (Inc.cons Mb6 Inc.nil)))), ?_⟩))
     refine Aw_one 4 (by kernel_rfl) (Ax_mk rfl rfl ?_)
     have hs1019 := (hs799).mono hK999
     refine OpW_call rfl Try.call20 rfl rfl (c_M_0z bp0 (Draw_Codes.mk p0.list i951 ((Draw_Codes.mk p0.list x797 ((Draw_Codes.mk p0.list i777 i778).value)).value)) vp0_list 6 x1000 x1001 hx1002 _ _ hs1019) ?_
     rintro _ _ _ - ⟨rfl, rfl, rfl⟩
     refine ⟨(Inc.cons Mb2 (Inc.cons Mb3 (Inc.cons Mb5 (Inc.cons Mb6 Inc.nil)))), ?_⟩
     have hs1020 := ((hR283).mono hK787).mono hK999
     obtain ⟨r1021, hq1022, hr1023⟩ := RowR.at hs1020 hx1005
     obtain rfl := hr1023
     refine Awq 5 rfl (by kernel_rfl) rfl rfl rfl (Q_ixR (T := Ty.u64) Mb2 hs1020 hq1022 (getI_ix hx1005).1 rfl rfl rfl rfl rfl)<|Awq 6 rfl (by kernel_rfl) rfl rfl rfl (Qt_load1 (v := (.int .u64 x1004)) rfl rfl rfl (Rd_row (T := Ty.u64) Mb2 hs1020 hq1022 rfl rfl))<|?_
     refine Aw_one 7 (by kernel_rfl) (Ax_mk rfl rfl ?_)
     have hR1025 : RowR Ty.u64 K998 [[(.int .u64 x1004)]] [x1004] := RowR.cons rfl (RowR.nil)
     refine O_lit (T := Ty.u64) (rows := [[(.int .u64 x1004)]]) (l := [x1004]) rfl rfl rfl hR1025 rfl rfl rfl rfl rfl rfl rfl rfl (fun v1024 => ⟨(Inc.cons Mb3 (Inc.cons Mb4 (Inc.cons Mb6 (Inc.cons Mb7 Inc.nil)))), ?_⟩)
     refine Aw_one 8 (by kernel_rfl) (Ax_mk rfl rfl ?_)
     have hs1030 := (hs784).mono hK999
     refine O_appTok (T := Ty.u64) (bytes := 8) (q := 0) rfl rfl rfl hs1030 Mb5 rfl (SrcT.row Mb0 hR1025 rfl) hx1013 rfl rfl rfl rfl rfl rfl rfl rfl (fun v1026 K1027 hK1028 hs1029 => ⟨_, (.there (.there (.there (.there (.there .here))))), ⟨(Inc.cons Mb3 (Inc.cons Mb4 (Inc.cons Mb6 (Inc.cons Mb7 Inc.nil)))), ?_⟩⟩)
     refine Aw.shift (Re0 (Shift.done ⟨(Inc.cons Mb2 (Inc.cons Mb3 (Inc.cons Mb5 (Inc.cons Mb6 Inc.nil)))), ?_⟩))
     refine Awq 9 rfl (by kernel_rfl) rfl rfl rfl (Qt_fieldAddr (m := 1) rfl rfl rfl rfl rfl) ?_
     refine Aw_one 10 (by kernel_rfl) (Ax_mk rfl rfl ?_)
     refine OpW_store (vs := [(sv v1026)]) (all' := (Config.cells (Config.mk l953 x1012 0) v952 v1026)) rfl rfl rfl rfl rfl (.there .here) rfl rfl rfl ⟨(Inc.cons Mb2 (Inc.cons Mb3 (Inc.cons Mb5 (Inc.cons Mb6 Inc.nil)))), ?_⟩
     refine Aw_done (by kernel_rfl)<|Pu6<|Pu6<|Pu6<|Pu6<|Pu6<|Pu6<|Pu6<|?_
     have hs1031 := (hs954).mono hK1028
     exact Shift.done ⟨_, by exact ⟨rfl, rfl, rfl, rfl, rfl, rfl, trivial⟩, x1001, ((Draw_Codes.mk p0.list i951 ((Draw_Codes.mk p0.list x797 ((Draw_Codes.mk p0.list i777 i778).value)).value)).value), v952, l953, v1026, x1012, rfl, rfl, H, hs1031, hs1029⟩
    ·skip
     refine id (Ax_mk rfl rfl ?_)
     have hs1032 := (hs799).mono hK999
     refine OpW_call rfl Try.call20 rfl rfl (c_M_0z bp0 (Draw_Codes.mk p0.list i951 ((Draw_Codes.mk p0.list x797 ((Draw_Codes.mk p0.list i777 i778).value)).value)) vp0_list 6 x1000 x1001 hx1002 _ _ hs1032) ?_
     rintro _ _ _ - ⟨rfl, rfl, rfl⟩
     refine ⟨(Inc.cons Mb2 (Inc.cons Mb3 (Inc.cons Mb5 (Inc.cons Mb6 Inc.nil)))), ?_⟩
     have hs1033 := ((hR283).mono hK787).mono hK999
     obtain ⟨r1034, hq1035, hr1036⟩ := RowR.at hs1033 hx1005
     obtain rfl := hr1036
     refine Awq 5 rfl (by kernel_rfl) rfl rfl rfl (Q_ixR (T := Ty.u64) Mb2 hs1033 hq1035 (getI_ix hx1005).1 rfl rfl rfl rfl rfl)<|Awq 6 rfl (by kernel_rfl) rfl rfl rfl (Qt_load1 (v := (.int .u64 x1004)) rfl rfl rfl (Rd_row (T := Ty.u64) Mb2 hs1033 hq1035 rfl rfl))<|?_
     refine Aw_two 1 7 (by kernel_rfl) ?_ ?_
     ·skip
      refine id (Ax_mk rfl rfl (OpW_of_Qt rfl rfl (Qt_load1 (v := (sv v782)) rfl rfl rfl (Rdc.blk Mb1 rfl)) ⟨(Inc.cons Mb2 (Inc.cons Mb3 (Inc.cons Mb5 (Inc.cons Mb6 Inc.nil)))), ?_⟩))
      refine Aw_one 7 (by kernel_rfl) (Ax_mk rfl rfl ?_)
      have hR1038 : RowR Ty.u64 K998 [[(.int .u64 x1004)]] [x1004] := RowR.cons rfl (RowR.nil)
      refine O_lit (T := Ty.u64) (rows := [[(.int .u64 x1004)]]) (l := [x1004]) rfl rfl rfl hR1038 rfl rfl rfl rfl rfl rfl rfl rfl (fun v1037 => ⟨(Inc.cons Mb3 (Inc.cons Mb4 (Inc.cons Mb6 (Inc.cons Mb7 Inc.nil)))), ?_⟩)
      refine Aw_one 8 (by kernel_rfl) (Ax_mk rfl rfl ?_)
      have hs1043 := (hs784).mono hK999
      refine O_appTok (T := Ty.u64) (bytes := 8) (q := 0) rfl rfl rfl hs1043 Mb5 rfl (SrcT.row Mb0 hR1038 rfl) hx1013 rfl rfl rfl rfl rfl rfl rfl rfl (fun v1039 K1040 hK1041 hs1042 => ⟨_, (.there (.there (.there (.there (.there .here))))), ⟨(Inc.cons Mb3 (Inc.cons Mb4 (Inc.cons Mb6 (Inc.cons Mb7 Inc.nil)))), ?_⟩⟩)
      refine Aw.shift (Re0 (Shift.done ⟨(Inc.cons Mb2 (Inc.cons Mb3 (Inc.cons Mb5 (Inc.cons Mb6 Inc.nil)))), ?_⟩))
      refine Awq 9 rfl (by kernel_rfl) rfl rfl rfl (Qt_fieldAddr (m := 1) rfl rfl rfl rfl rfl) ?_
      refine Aw_one 10 (by kernel_rfl) (Ax_mk rfl rfl ?_)
      refine OpW_store (vs := [(sv v1039)]) (all' := (Config.cells (Config.mk l953 x1012 0) v952 v1039)) rfl rfl rfl rfl rfl (.there .here) rfl rfl rfl ⟨(Inc.cons Mb2 (Inc.cons Mb3 (Inc.cons Mb5 (Inc.cons Mb6 Inc.nil)))), ?_⟩
      refine Aw_done (by kernel_rfl)<|Pu6<|Pu6<|Pu6<|Pu6<|Pu6<|Pu6<|Pu6<|?_
      have hs1044 := (hs954).mono hK1041
      exact Shift.done ⟨_, by exact ⟨rfl, rfl, rfl, rfl, rfl, rfl, trivial⟩, x1001, ((Draw_Codes.mk p0.list i951 ((Draw_Codes.mk p0.list x797 ((Draw_Codes.mk p0.list i777 i778).value)).value)).value), v952, l953, v1039, x1012, rfl, rfl, H, hs1044, hs1042⟩
     ·skip
      refine id (Ax_mk rfl rfl ?_)
      have hR1046 : RowR Ty.u64 K998 [[(.int .u64 x1004)]] [x1004] := RowR.cons rfl (RowR.nil)
      refine O_lit (T := Ty.u64) (rows := [[(.int .u64 x1004)]]) (l := [x1004]) rfl rfl rfl hR1046 rfl rfl rfl rfl rfl rfl rfl rfl (fun v1045 => ⟨(Inc.cons Mb3 (Inc.cons Mb4 (Inc.cons Mb6 (Inc.cons Mb7 Inc.nil)))), ?_⟩)
      refine Aw_one 1 (by kernel_rfl) (Ax_mk rfl rfl (OpW_of_Qt rfl rfl (Qt_load1 (v := (sv v782)) rfl rfl rfl (Rdc.blk Mb2 rfl)) ⟨(Inc.cons Mb3 (Inc.cons Mb4 (Inc.cons Mb6 (Inc.cons Mb7 Inc.nil)))), ?_⟩))
      refine Aw_one 8 (by kernel_rfl) (Ax_mk rfl rfl ?_)
      have hs1051 := (hs784).mono hK999
      refine O_appTok (T := Ty.u64) (bytes := 8) (q := 0) rfl rfl rfl hs1051 Mb5 rfl (SrcT.row Mb0 hR1046 rfl) hx1013 rfl rfl rfl rfl rfl rfl rfl rfl (fun v1047 K1048 hK1049 hs1050 => ⟨_, (.there (.there (.there (.there (.there .here))))), ⟨(Inc.cons Mb3 (Inc.cons Mb4 (Inc.cons Mb6 (Inc.cons Mb7 Inc.nil)))), ?_⟩⟩)
      refine Aw.shift (Re0 (Shift.done ⟨(Inc.cons Mb2 (Inc.cons Mb3 (Inc.cons Mb5 (Inc.cons Mb6 Inc.nil)))), ?_⟩))
      refine Awq 9 rfl (by kernel_rfl) rfl rfl rfl (Qt_fieldAddr (m := 1) rfl rfl rfl rfl rfl) ?_
      refine Aw_one 10 (by kernel_rfl) (Ax_mk rfl rfl ?_)
      refine OpW_store (vs := [(sv v1047)]) (all' := (Config.cells (Config.mk l953 x1012 0) v952 v1047)) rfl rfl rfl rfl rfl (.there .here) rfl rfl rfl ⟨(Inc.cons Mb2 (Inc.cons Mb3 (Inc.cons Mb5 (Inc.cons Mb6 Inc.nil)))), ?_⟩
      refine Aw_done (by kernel_rfl)<|Pu6<|Pu6<|Pu6<|Pu6<|Pu6<|Pu6<|Pu6<|?_
      have hs1052 := (hs954).mono hK1049
      exact Shift.done ⟨_, by exact ⟨rfl, rfl, rfl, rfl, rfl, rfl, trivial⟩, x1001, ((Draw_Codes.mk p0.list i951 ((Draw_Codes.mk p0.list x797 ((Draw_Codes.mk p0.list i777 i778).value)).value)).value), v952, l953, v1047, x1012, rfl, rfl, H, hs1052, hs1050⟩
   rintro _ K1053 _ hK1054 ⟨i900, i901, v902, l903, v905, l906, rfl, rfl, H, hs904, hs907⟩
   unfold M_183z at H
   refine Cw_region<|Ow_q rfl rfl rfl (Qt_move rfl)<|Ow_q rfl rfl rfl (Qt_arith (e := wI (i776 + 1)) rfl rfl rfl rfl)<|Ow_q rfl rfl rfl (Qt_assign rfl)<|Ow_nil<|Pu6<|Pu6<|Pu6<|Pu6<|Pu6<|?_
   refine Pu6<|Pu6<|Shift.done<|?_
   exact ⟨_, by exact ⟨rfl, rfl, rfl, rfl, rfl, rfl, trivial⟩, _, Nat.lt_succ_self _, (wI (i776 + 1)), i900, i901, v902, l903, v905, l906, rfl, rfl, (hkk790 ▸ H), hs904, hs907⟩
  ·intro h800
   have h800 := dcd_f (h800)
   have H := iff_ h800 H
   refine Cw_exit<|Pu4<|Pu4<|Pu4<|Pu4<|Pu4<|Re5<|Re5<|Shift.done<|?_
   exact ⟨_, by exact ⟨rfl, rfl, rfl, trivial⟩, x797, ((Draw_Codes.mk p0.list i777 i778).value), v779, l780, v782, l783, rfl, rfl, H, hs781, hs784⟩
 rintro _ K1055 _ hK1056 ⟨i531, i532, v533, l534, v536, l537, rfl, rfl, H, hs535, hs538⟩
 unfold M_182z at H
 refine Cw_seq<|Cw_region<|Ow_q rfl rfl rfl (Qt_move rfl)<|?_
 obtain ⟨x1057, x1058, hx1059, H⟩ := bnd2 H
 have hs1060 := (hp0_list).mono hK1056
 refine Ow_cons rfl (OpW_call rfl Try.call20 rfl rfl (c_M_0z bp0 (Draw_Codes.mk p0.list i531 i532) vp0_list 3 x1057 x1058 hx1059 _ _ hs1060) ?_)
 rintro _ _ _ - ⟨rfl, rfl, rfl⟩
 refine Ow_q rfl rfl rfl (Qt_arith (e := wI (2 + x1057)) rfl rfl rfl rfl)<|Ow_q rfl rfl rfl (Qt_fieldAddr (m := 2) rfl rfl rfl rfl rfl)<|?_
 refine Ow_cons rfl (OpW_store (vs := [(.int .i64 (wI (2 + x1057)))]) (all' := (Config.cells (Config.mk l534 l537 (wI (2 + x1057))) v533 v536)) rfl rfl rfl rfl rfl (.there .here) rfl rfl rfl ?_)
 refine Ow_nil<|Cw_seq<|Cw_region<|Ow_q rfl rfl rfl (Qt_loadA (m := 3) (cs := (Config.cells (Config.mk l534 l537 (wI (2 + x1057))) v533 v536)) rfl rfl rfl rfl ⟨rfl, Rdc.blk Mb1 rfl⟩)<|?_
 refine Ow_cons rfl (OpW_store (vs := (Config.cells (Config.mk l534 l537 (wI (2 + x1057))) v533 v536)) (all' := (Config.cells (Config.mk l534 l537 (wI (2 + x1057))) v533 v536)) rfl rfl rfl rfl rfl (.there (.there .here)) rfl rfl rfl ?_)
 refine Ow_nil<|Cw_ret<|?_
 obtain ⟨ey0, ez0_at_, ez0_value⟩ := inj3 H
 subst y0 z0_at_ z0_value
 refine ⟨(by first | exact .inl rfl | exact .inr rfl), [(.agg (Config.cells (Config.mk l534 l537 (wI (2 + x1057))) v533 v536).toArray)], ⟨(.agg (Config.cells (Config.mk l534 l537 (wI (2 + x1057))) v533 v536).toArray), _, rfl, ⟨_, 3, (Config.cells (Config.mk l534 l537 (wI (2 + x1057))) v533 v536), rfl, rfl, rfl, rfl, ⟨rfl, Rdc.blk Mb2 rfl⟩, rfl⟩, rfl⟩, ?_⟩
 refine Pu4<|Pu4<|Pu2<|Re3<|Re3<|Shift.done<|?_
 exact ⟨v533, v536, rfl, rfl, hs535, hs538⟩

set_option maxHeartbeats 1000000 in
theorem c_M_9z (bp0 : Nat) (p0 : Draw_Codes) (vp0_list : SV) (p1 : Config) (vp1_capacities : SV) (vp1_starts : SV) (y0 : Int) (z0_at_ : Int) (z0_value : Int) (H : M_9z p0 p1 = some (y0, z0_at_, z0_value)) (K : Kp) (G : List Ent) (hp0_list : Slr Ty.u8 K (sv vp0_list) p0.list) (hp1_capacities : Slr Ty.i64 K (sv vp1_capacities) p1.capacities) (hp1_starts : Slr Ty.u64 K (sv vp1_starts) p1.starts) :
  Fc Try.prog 36 #[(.pointer (some ((⟨bp0, 0, none⟩ : Addr).add 0))), (.agg (Config.cells p1 vp1_capacities vp1_starts).toArray)] K ((.blk bp0 77 (Draw_Codes.cells p0 vp0_list)) :: G) (fun v K' G' => v = (.int .i64 y0) ∧ K = K' ∧ (.blk bp0 77 (Draw_Codes.cells (Draw_Codes.mk p0.list z0_at_ z0_value) vp0_list)) :: G = G') := by
 refine Fc_body Try.func36 rfl Try.ntmps36 Try.results36 rfl ?_
 unfold M_9z at H
 refine Cw_seq<|Cw_region<|?_
 refine Ow_cons rfl (OpW_box (cs := (Config.cells p1 vp1_capacities vp1_starts)) rfl rfl rfl (fun b13 => ?_))
 refine Ow_q rfl rfl rfl (Qt_assign rfl)<|Ow_nil<|Cw_seq<|Cw_seq<|Cw_region<|Ow_q rfl rfl rfl (Qt_move rfl)<|?_
 obtain ⟨x21, x22, hx23, H⟩ := bnd2 H
 refine Ow.shift (Pu1 (Shift.done ?_))
 refine Ow_cons rfl (OpW_call rfl Try.call20 rfl rfl (c_M_0z bp0 p0 vp0_list 16 x21 x22 hx23 _ _ hp0_list) ?_)
 rintro _ _ _ - ⟨rfl, rfl, rfl⟩
 refine Ow_q rfl rfl rfl (Qt_cmp rfl rfl rfl)<|Ow_nil<|?_
 refine Cw_cond rfl ?_ ?_
 ·intro h24
  have h24 := dcd_t (h24)
  have H := ift h24 H
  refine Cw_seq<|Cw_region<|Ow_q rfl rfl rfl (Qt_move rfl)<|?_
  obtain ⟨x25, x26, hx27, H⟩ := bnd2 H
  refine Ow_cons rfl (OpW_call rfl Try.call20 rfl rfl (c_M_0z bp0 (Draw_Codes.mk p0.list x22 p0.value) vp0_list 9 x25 x26 hx27 _ _ hp0_list) ?_)
  rintro _ _ _ - ⟨rfl, rfl, rfl⟩
  refine Ow_q rfl rfl rfl (Qt_arith (e := wI (x25 - 1)) rfl rfl rfl rfl)<|Ow_q rfl rfl rfl (Qt_assign rfl)<|Ow_nil<|Cw_ret<|?_
  obtain ⟨ey0, ez0_at_, ez0_value⟩ := inj3 H
  subst y0 z0_at_ z0_value
  refine ⟨(by first | exact .inl rfl | exact .inr rfl), [(.int .i64 (wI (x25 - 1)))], ⟨(.int .i64 (wI (x25 - 1))), _, rfl, rfl, rfl⟩, ?_⟩
  refine Re1<|Shift.done<|?_
  exact ⟨rfl, rfl, rfl⟩
 ·intro h24
  have h24 := dcd_f (h24)
  have H := iff_ h24 H
  refine Cw_skip<|Cw_seq<|Cw_seq<|Cw_region<|Ow_q rfl rfl rfl (Qt_fieldAddr (m := 0) rfl rfl rfl rfl rfl)<|Ow_q rfl rfl rfl (Qt_load1 (v := (sv vp1_capacities)) rfl rfl rfl (Rdc.blk Mb1 rfl))<|Ow_q rfl rfl rfl (Q_len (T := Ty.i64) hp1_capacities rfl rfl)<|Ow_q rfl rfl rfl (Qt_cmp rfl rfl rfl)<|Ow_nil<|?_
  refine Cw_cond rfl ?_ ?_
  ·intro h29
   have h29 := dcd_t (h29)
   have H := ift h29 H
   refine Cw_seq<|Cw_region<|Ow_q rfl rfl rfl (Qt_assign rfl)<|Ow_nil<|Cw_ret<|?_
   obtain ⟨ey0, ez0_at_, ez0_value⟩ := inj3 H
   subst y0 z0_at_ z0_value
   refine ⟨(by first | exact .inl rfl | exact .inr rfl), [(.int .i64 (-1))], ⟨(.int .i64 (-1)), _, rfl, rfl, rfl⟩, ?_⟩
   refine Re1<|Shift.done<|?_
   exact ⟨rfl, rfl, rfl⟩
  ·intro h29
   have h29 := dcd_f (h29)
   have H := iff_ h29 H
   refine Cw_skip<|Cw_seq<|Cw_region<|Ow_q rfl rfl rfl (Qt_move rfl)<|Ow_q rfl rfl rfl (Qt_fieldAddr (m := 0) rfl rfl rfl rfl rfl)<|Ow_q rfl rfl rfl (Qt_load1 (v := (sv vp1_capacities)) rfl rfl rfl (Rdc.blk Mb1 rfl))<|Ow_q rfl rfl rfl (Q_len (T := Ty.i64) hp1_capacities rfl rfl)<|?_
   obtain ⟨x30, x31, hx32, H⟩ := bnd2 H
   refine Ow_cons rfl (OpW_call rfl Try.call20 rfl rfl (c_M_0z bp0 (Draw_Codes.mk p0.list x22 p0.value) vp0_list (p1.capacities.length : Int) x30 x31 hx32 _ _ hp0_list) ?_)
   rintro _ _ _ - ⟨rfl, rfl, rfl⟩
   refine Ow_q rfl rfl rfl (Qt_assign rfl)<|Ow_nil<|Cw_ret<|?_
   obtain ⟨ey0, ez0_at_, ez0_value⟩ := inj3 H
   subst y0 z0_at_ z0_value
   refine ⟨(by first | exact .inl rfl | exact .inr rfl), [(.int .i64 x30)], ⟨(.int .i64 x30), _, rfl, rfl, rfl⟩, ?_⟩
   refine Re1<|Shift.done<|?_
   exact ⟨rfl, rfl, rfl⟩

set_option maxHeartbeats 1000000 in
theorem c_M_144z (bp0 : Nat) (p0 : Draw_Codes) (vp0_list : SV) (y0 : Int) (z0_value : Int) (H : M_144z p0 = some (y0, z0_value)) (K : Kp) (G : List Ent) (hp0_list : Slr Ty.u8 K (sv vp0_list) p0.list) :
  Fc Try.prog 37 #[(.pointer (some ((⟨bp0, 0, none⟩ : Addr).add 0)))] K ((.blk bp0 77 (Draw_Codes.cells p0 vp0_list)) :: G) (fun v K' G' => v = (.int .u64 y0) ∧ K = K' ∧ (.blk bp0 77 (Draw_Codes.cells (Draw_Codes.mk p0.list p0.at_ z0_value) vp0_list)) :: G = G') := by
 refine Fc_body Try.func37 rfl Try.ntmps37 Try.results37 rfl ?_
 unfold M_144z at H
 refine Cw_seq<|Cw_region<|Ow_q rfl rfl rfl (Qt_assign rfl)<|Ow_nil<|Cw_seq<|Cw_region<|Ow_q rfl rfl rfl (Qt_move rfl)<|Ow_q rfl rfl rfl (Qt_nilCheck rfl)<|Ow_q rfl rfl rfl (Qt_fieldAddr (m := 2) rfl rfl rfl rfl rfl)<|Ow_q rfl rfl rfl (Qt_load1 (v := (.int .u64 p0.value)) rfl rfl rfl (Rdc.blk Mb0 rfl))<|?_
 refine Ow_q rfl rfl rfl (Qt_arith (e := wU (p0.value + 1)) rfl rfl rfl rfl)<|Ow_q rfl rfl rfl (Qt_nilCheck rfl)<|Ow_q rfl rfl rfl (Qt_fieldAddr (m := 2) rfl rfl rfl rfl rfl)<|?_
 refine Ow_cons rfl (OpW_store (vs := [(.int .u64 (wU (p0.value + 1)))]) (all' := (Draw_Codes.cells (Draw_Codes.mk p0.list p0.at_ (wU (p0.value + 1))) vp0_list)) rfl rfl rfl rfl rfl .here rfl rfl rfl ?_)
 refine Ow_nil<|Cw_seq<|Cw_region<|Ow_q rfl rfl rfl (Qt_move rfl)<|Ow_q rfl rfl rfl (Qt_nilCheck rfl)<|Ow_q rfl rfl rfl (Qt_fieldAddr (m := 2) rfl rfl rfl rfl rfl)<|Ow_q rfl rfl rfl (Qt_load1 (v := (.int .u64 (wU (p0.value + 1)))) rfl rfl rfl (Rdc.blk Mb0 rfl))<|Ow_q rfl rfl rfl (Qt_assign rfl)<|Ow_nil<|Cw_ret<|?_
 obtain ⟨ey0, ez0_value⟩ := inj2 H
 subst y0 z0_value
 refine ⟨(by first | exact .inl rfl | exact .inr rfl), [(.int .u64 (wU (p0.value + 1)))], ⟨(.int .u64 (wU (p0.value + 1))), _, rfl, rfl, rfl⟩, ?_⟩
 exact Shift.done ⟨rfl, rfl, rfl⟩

set_option maxHeartbeats 1000000 in
theorem c_M_49z (bp0 : Nat) (p0 : Draw_Codes) (vp0_list : SV) (p1 : Op) (vp1_cases : SV) (vp1_draws : SV) (y0 : Op) (z0_at_ : Int) (z0_value : Int) (H : M_49z p0 p1 = some (y0, z0_at_, z0_value)) (K : Kp) (G : List Ent) (hp0_list : Slr Ty.u8 K (sv vp0_list) p0.list) (hp1_cases : Slr TyCase K (sv vp1_cases) p1.cases) (hp1_draws : Slr Ty.i64 K (sv vp1_draws) p1.draws) :
  Fc Try.prog 38 #[(.pointer (some ((⟨bp0, 0, none⟩ : Addr).add 0))), (.agg (Op.cells p1 vp1_cases vp1_draws).toArray)] K ((.blk bp0 77 (Draw_Codes.cells p0 vp0_list)) :: G) (fun v K' G' => ∃ (wy0_cases : SV) (wy0_draws : SV), v = (.agg (Op.cells y0 wy0_cases wy0_draws).toArray) ∧ K = K' ∧ (.blk bp0 77 (Draw_Codes.cells (Draw_Codes.mk p0.list z0_at_ z0_value) vp0_list)) :: G = G' ∧ Slr TyCase K' (sv wy0_cases) y0.cases ∧ Slr Ty.i64 K' (sv wy0_draws) y0.draws) := by
 refine Fc_body Try.func38 rfl Try.ntmps38 Try.results38 rfl ?_
 unfold M_49z at H
 refine Cw_seq<|Cw_region<|?_
 refine Ow_cons rfl (OpW_box (cs := (Op.cells p1 vp1_cases vp1_draws)) rfl rfl rfl (fun b32 => ?_))
 refine Ow_cons rfl (OpW_alloc (cs := (Op.cells (Op.mk 0 0 0 0 0 [] []) nilS nilS)) rfl rfl rfl rfl (fun b33 => ?_))
 refine Ow_nil ?_
 refine Cw_join (fun env' K' G' => ∃ (i54 : Int) (i55 : Int) (i56 : Int) (i57 : Int) (i58 : Int) (i59 : Int) (i60 : Int) (i61 : Int) (i62 : Int), [(3, (.pointer (some ((⟨b32, 0, none⟩ : Addr).add 0)))), (4, (.pointer (some ((⟨b33, 0, none⟩ : Addr).add 0))))] = env' ∧ K = K' ∧ (.blk bp0 77 (Draw_Codes.cells (Draw_Codes.mk p0.list i54 i55) vp0_list)) :: (.blk b33 41 (Op.cells (Op.mk i56 i56 i56 i57 i56 [] []) nilS nilS)) :: (.blk b32 41 (Op.cells (Op.mk i58 i59 i60 i61 i62 p1.cases p1.draws) vp1_cases vp1_draws)) :: G = G' ∧ M_31z p0 p1 i54 i55 i56 i57 i58 i59 i60 i61 i62 = some (y0, z0_at_, z0_value)) ?_ ?_
 ·skip
  refine Cw_seq<|Cw_region<|Ow_q rfl rfl rfl (Qt_move rfl)<|?_
  obtain ⟨x63, x64, hx65, H⟩ := bnd2 H
  refine Ow.shift (Pu2 (Shift.done ?_))
  refine Ow_cons rfl (OpW_call rfl Try.call20 rfl rfl (c_M_0z bp0 p0 vp0_list 8 x63 x64 hx65 _ _ hp0_list) ?_)
  rintro _ _ _ - ⟨rfl, rfl, rfl⟩
  refine Ow_nil<|Cw_block<|?_
  refine Cw_join (fun env' K' G' => ∃ (t67 : Bool), [(0, (.pointer (some ((⟨bp0, 0, none⟩ : Addr).add 0)))), (3, (.pointer (some ((⟨b32, 0, none⟩ : Addr).add 0)))), (4, (.pointer (some ((⟨b33, 0, none⟩ : Addr).add 0)))), (6, (.int .i64 x63)), (7, (.bool t67))] = env' ∧ K = K' ∧ (.blk bp0 77 (Draw_Codes.cells (Draw_Codes.mk p0.list x64 p0.value) vp0_list)) :: (.blk b33 41 (Op.cells (Op.mk 0 0 0 0 0 [] []) nilS nilS)) :: (.blk b32 41 (Op.cells p1 vp1_cases vp1_draws)) :: G = G' ∧ M_86z x63 p0 x64 p1 t67 = some (y0, z0_at_, z0_value)) ?_ ?_
  ·skip
   refine Cw_seq<|Cw_region<|Ow_q rfl rfl rfl (Qt_cmp rfl rfl rfl)<|Ow_q rfl rfl rfl (Qt_assign rfl)<|Ow_nil<|?_
   refine Cw_cond rfl ?_ ?_
   ·intro h68
    have h68 := dcd_t (h68)
    have H := ift h68 H
    refine Cw_skip<|Pu2<|Pu2<|Pu2<|Shift.done<|?_
    exact ⟨_, by exact ⟨rfl, rfl, rfl, rfl, rfl, trivial⟩, (dcd (x63 = 5)), rfl, rfl, rfl, H⟩
   ·intro h68
    have h68 := dcd_f (h68)
    have H := iff_ h68 H
    refine Cw_region<|Ow_q rfl rfl rfl (Qt_cmp rfl rfl rfl)<|Ow_q rfl rfl rfl (Qt_assign rfl)<|Ow_nil<|Pu2<|Pu2<|Pu2<|Shift.done<|?_
    exact ⟨_, by exact ⟨rfl, rfl, rfl, rfl, rfl, trivial⟩, (dcd (x63 = 6)), rfl, rfl, rfl, H⟩
  rintro _ _ _ - ⟨t67, rfl, rfl, rfl, H⟩
  unfold M_86z at H
  refine Cw_cond rfl ?_ ?_
  ·intro h69
   have H := ift h69 H
   refine Cw_region<|Ow_q rfl rfl rfl (Qt_fieldAddr (m := 1) rfl rfl rfl rfl rfl)<|?_
   refine Ow_cons rfl (OpW_store (vs := [(.int .i64 1)]) (all' := (Op.cells (Op.mk p1.kind 1 p1.channel p1.value p1.deadline p1.cases p1.draws) vp1_cases vp1_draws)) rfl rfl rfl rfl rfl (.there (.there .here)) rfl rfl rfl ?_)
   refine Ow_nil<|Pu2<|Pu2<|Pu2<|Shift.done<|?_
   exact ⟨_, by exact ⟨rfl, rfl, trivial⟩, x64, p0.value, 0, 0, p1.kind, 1, p1.channel, p1.value, p1.deadline, rfl, rfl, rfl, H⟩
  ·intro h69
   have H := iff_ (btf h69) H
   refine Cw_seq<|Cw_region<|Ow_q rfl rfl rfl (Qt_cmp rfl rfl rfl)<|Ow_q rfl rfl rfl (Qt_assign rfl)<|Ow_nil<|?_
   refine Cw_cond rfl ?_ ?_
   ·intro h70
    have h70 := dcd_t (h70)
    have H := ift h70 H
    refine Cw_region<|Ow_q rfl rfl rfl (Qt_move rfl)<|?_
    obtain ⟨x71, x72, hx73, H⟩ := bnd2 H
    refine Ow_cons rfl (OpW_call rfl Try.call20 rfl rfl (c_M_0z bp0 (Draw_Codes.mk p0.list x64 p0.value) vp0_list 5 x71 x72 hx73 _ _ hp0_list) ?_)
    rintro _ _ _ - ⟨rfl, rfl, rfl⟩
    refine Ow_q rfl rfl rfl (Qt_fieldAddr (m := 1) rfl rfl rfl rfl rfl) ?_
    refine Ow_cons rfl (OpW_store (vs := [(.int .i64 2)]) (all' := (Op.cells (Op.mk p1.kind 2 p1.channel p1.value p1.deadline p1.cases p1.draws) vp1_cases vp1_draws)) rfl rfl rfl rfl rfl (.there (.there .here)) rfl rfl rfl ?_)
    refine Ow_q rfl rfl rfl (Qt_fieldAddr (m := 4) rfl rfl rfl rfl rfl) ?_
    refine Ow_cons rfl (OpW_store (vs := [(.int .i64 x71)]) (all' := (Op.cells (Op.mk p1.kind 2 p1.channel p1.value x71 p1.cases p1.draws) vp1_cases vp1_draws)) rfl rfl rfl rfl rfl (.there (.there .here)) rfl rfl rfl ?_)
    refine Ow_nil<|Pu2<|Pu2<|Pu2<|Shift.done<|?_
    exact ⟨_, by exact ⟨rfl, rfl, trivial⟩, x72, ((Draw_Codes.mk p0.list x64 p0.value).value), 0, 0, p1.kind, 2, p1.channel, p1.value, x71, rfl, rfl, rfl, H⟩
   ·intro h70
    have h70 := dcd_f (h70)
    have H := iff_ h70 H
    refine Cw_skip<|Pu2<|Pu2<|Pu2<|Shift.done<|?_
    exact ⟨_, by exact ⟨rfl, rfl, trivial⟩, x64, p0.value, 0, 0, p1.kind, p1.mode, p1.channel, p1.value, p1.deadline, rfl, rfl, rfl, H⟩
 rintro _ _ _ - ⟨i54, i55, i56, i57, i58, i59, i60, i61, i62, rfl, rfl, rfl, H⟩
 unfold M_31z at H
 refine Cw_seq<|Cw_region<|Ow_q rfl rfl rfl (Qt_loadA (m := 7) (cs := (Op.cells (Op.mk i58 i59 i60 i61 i62 p1.cases p1.draws) vp1_cases vp1_draws)) rfl rfl rfl rfl ⟨rfl, Rdc.blk Mb2 rfl⟩)<|?_
 refine Ow_cons rfl (OpW_store (vs := (Op.cells (Op.mk i58 i59 i60 i61 i62 p1.cases p1.draws) vp1_cases vp1_draws)) (all' := (Op.cells (Op.mk i58 i59 i60 i61 i62 p1.cases p1.draws) vp1_cases vp1_draws)) rfl rfl rfl rfl rfl (.there .here) rfl rfl rfl ?_)
 refine Ow_nil<|Cw_ret<|?_
 obtain ⟨ey0, ez0_at_, ez0_value⟩ := inj3 H
 subst y0 z0_at_ z0_value
 refine ⟨(by first | exact .inl rfl | exact .inr rfl), [(.agg (Op.cells (Op.mk i58 i59 i60 i61 i62 p1.cases p1.draws) vp1_cases vp1_draws).toArray)], ⟨(.agg (Op.cells (Op.mk i58 i59 i60 i61 i62 p1.cases p1.draws) vp1_cases vp1_draws).toArray), _, rfl, ⟨_, 7, (Op.cells (Op.mk i58 i59 i60 i61 i62 p1.cases p1.draws) vp1_cases vp1_draws), rfl, rfl, rfl, rfl, ⟨rfl, Rdc.blk Mb1 rfl⟩, rfl⟩, rfl⟩, ?_⟩
 refine Re1<|Re1<|Shift.done<|?_
 exact ⟨vp1_cases, vp1_draws, rfl, rfl, rfl, hp1_cases, hp1_draws⟩



end Go.Hx

namespace Go.Hx
open Go Go.Proofs
set_option linter.unusedSimpArgs false
set_option linter.unusedVariables false
set_option maxRecDepth 10000
set_option maxHeartbeats 1000000 in
theorem c_M_124z (p0 : Op) (vp0_cases : SV) (vp0_draws : SV) (y0 : List Int) (H : M_124z p0 = some y0) (K : Kp) (G : List Ent) (hp0_cases : Slr TyCase K (sv vp0_cases) p0.cases) (hp0_draws : Slr Ty.i64 K (sv vp0_draws) p0.draws) :
  Fc Try.prog 43 #[(.agg (Op.cells p0 vp0_cases vp0_draws).toArray)] K (G) (fun v K' G' => ∃ (wy0 : SV) (rswy0 : List (List Value)), v = (sv wy0) ∧ (.row (sv wy0) 3 1 rswy0.flatten) :: G = G' ∧ RowR Ty.i64 K' rswy0 y0) := by
 refine Fc_body Try.func43 rfl Try.ntmps43 Try.results43 rfl ?_
 unfold M_124z at H
 refine Cw_seq<|Cw_region<|?_
 refine Ow_cons rfl (OpW_box (cs := (Op.cells p0 vp0_cases vp0_draws)) rfl rfl rfl (fun b9 => ?_))
 refine Ow_q rfl rfl rfl (Qt_assign rfl)<|Ow_nil<|Cw_seq<|Cw_region<|Ow_q rfl rfl rfl (Qt_fieldAddr (m := 5) rfl rfl rfl rfl rfl)<|Ow_q rfl rfl rfl (Qt_load1 (v := (sv vp0_cases)) rfl rfl rfl (Rdc.blk Mb0 rfl))<|Ow_q rfl rfl rfl (Q_len (T := TyCase) hp0_cases rfl rfl)<|Ow_q rfl rfl rfl (Qt_fieldAddr (m := 6) rfl rfl rfl rfl rfl)<|Ow_q rfl rfl rfl (Qt_load1 (v := (sv vp0_draws)) rfl rfl rfl (Rdc.blk Mb0 rfl))<|?_
 obtain ⟨x10, hx11, H⟩ := bnd H
 refine Ow_cons rfl (OpW_call rfl Try.call73 rfl rfl (c_M_123z (p0.cases.length : Int) p0.draws vp0_draws x10 hx11 _ _ hp0_draws) ?_)
 rintro _ K14 _ hK15 ⟨v12, rs13, rfl, rfl, hs16⟩
 refine Ow_q rfl rfl rfl (Qt_assign rfl)<|Ow_nil<|Cw_ret<|?_
 obtain ey0 := inj1 H
 subst y0
 refine ⟨(by first | exact .inl rfl | exact .inr rfl), [(sv v12)], ⟨(sv v12), _, rfl, rfl, rfl⟩, ?_⟩
 refine Re1<|Shift.done<|?_
 exact ⟨v12, rs13, rfl, rfl, hs16⟩



end Go.Hx

namespace Go.Hx
open Go Go.Proofs
set_option linter.unusedSimpArgs false
set_option linter.unusedVariables false
set_option maxRecDepth 10000
set_option maxHeartbeats 1000000 in
theorem c_M_112z (p0 : Config) (vp0_capacities : SV) (vp0_starts : SV) (y0 : List Chan) (H : M_112z p0 = some y0) (K : Kp) (G : List Ent) (hp0_capacities : Slr Ty.i64 K (sv vp0_capacities) p0.capacities) (hp0_starts : Slr Ty.u64 K (sv vp0_starts) p0.starts) :
  Fc Try.prog 56 #[(.agg (Config.cells p0 vp0_capacities vp0_starts).toArray)] K (G) (fun v K' G' => ∃ (wy0 : SV), v = (sv wy0) ∧ (.tok 71 3 [(sv wy0)]) :: G = G' ∧ Slr TyChan K' (sv wy0) y0) := by
 refine Fc_body Try.func56 rfl Try.ntmps56 Try.results56 rfl ?_
 unfold M_112z at H
 refine Cw_seq<|Cw_region<|?_
 refine Ow_cons rfl (OpW_box (cs := (Config.cells p0 vp0_capacities vp0_starts)) rfl rfl rfl (fun b49 => ?_))
 refine Ow_q rfl rfl rfl (Qt_assign rfl)<|Ow_nil<|Cw_seq<|Cw_region<|Ow_q rfl rfl rfl (Qt_assign rfl)<|Ow_nil<|?_
 refine Cw_join (fun env' K' G' => ∃ (v92 : SV) (l93 : List Chan), [(3, (sv v92))] = env' ∧ (.tok 71 3 [(sv v92)]) :: G = G' ∧ M_211z l93 = some y0 ∧ Slr TyChan K' (sv v92) l93) ?_ ?_
 ·skip
  refine Cw_seq<|Cw_region<|Ow_q rfl rfl rfl (Qt_fieldAddr (m := 0) rfl rfl rfl rfl rfl)<|Ow_q rfl rfl rfl (Qt_load1 (v := (sv vp0_capacities)) rfl rfl rfl (Rdc.blk Mb0 rfl))<|Ow_q rfl rfl rfl (Q_len (T := Ty.i64) hp0_capacities rfl rfl)<|Ow_q rfl rfl rfl (Qt_move rfl)<|Ow_nil<|Cw_block<|?_
  refine Cw_loopM (fun n137 env' K' G' => ∃ (v133 : SV) (l134 : List Chan) (i136 : Int), [(3, (sv v133)), (7, (sv vp0_capacities)), (8, (.int .i64 (p0.capacities.length : Int))), (9, (.int .i64 i136))] = env' ∧ (.tok 71 3 [(sv v133)]) :: G = G' ∧ lp2 (M_111z p0) n137 l134 i136 = some y0 ∧ Slr TyChan K' (sv v133) l134) BIG ?_ ?_
  ·skip
   refine Shift.nilTok1 71 3<|Re1<|Shift.done<|?_
   exact ⟨_, by exact ⟨rfl, rfl, rfl, rfl, trivial⟩, nilS, ([] : List Chan), 0, rfl, rfl, H, (Slr.nil TyChan _)⟩
  rintro n137 _ K138 _ hK139 ⟨v133, l134, i136, rfl, rfl, H, hs135⟩
  obtain ⟨m140, k141, rfl, hkk142, H⟩ := lps2 H
  unfold M_111z at H
  refine Cw_seq<|Cw_region<|Ow_q rfl rfl rfl (Qt_cmp rfl rfl rfl)<|Ow_nil<|Cw_seq<|?_
  refine Cw_cond rfl ?_ ?_
  ·intro h144
   have h144 := dcd_t (h144)
   have H := ift h144 H
   refine Cw_skip<|Cw_seq<|Cw_block<|Cw_seq<|Cw_region<|?_
   obtain ⟨x159, hx160, H⟩ := bnd H
   have hs161 := (hp0_capacities).mono hK139
   obtain ⟨r162, hr163, hk164⟩ := Slr.at hs161 hx160
   obtain rfl := hr163
   refine Ow_q rfl rfl rfl (Q_ix (T := Ty.i64) hs161 hx160 rfl rfl rfl rfl rfl)<|Ow_q rfl rfl rfl (Qt_load1 (v := (.int .i64 x159)) rfl rfl rfl (Rdc.k hk164 rfl))<|Ow_q rfl rfl rfl (Qt_assign rfl)<|Ow_nil<|Cw_region<|Ow_q rfl rfl rfl (Qt_move rfl)<|Ow_q rfl rfl rfl (Qt_move rfl)<|Ow_q rfl rfl rfl (Qt_build (cs := (Chan.cells (Chan.mk x159 [] false) nilS)) rfl rfl rfl rfl rfl rfl)<|?_
   have hR166 : RowR TyChan K138 [(Chan.cells (Chan.mk x159 [] false) nilS)] [(Chan.mk x159 [] false)] := RowR.cons ⟨nilS, rfl, (Slr.nil Ty.u64 _)⟩ (RowR.nil)
   refine Ow_cons rfl (O_lit (T := TyChan) (rows := [(Chan.cells (Chan.mk x159 [] false) nilS)]) (l := [(Chan.mk x159 [] false)]) rfl rfl rfl hR166 rfl rfl rfl rfl rfl rfl rfl rfl (fun v165 => ?_))
   obtain ⟨x167, hx168, H⟩ := bnd H
   refine Ow_cons rfl (O_appTok (T := TyChan) (bytes := 40) (q := 0) rfl rfl rfl hs135 Mb1 rfl (SrcT.row Mb0 hR166 rfl) hx168 rfl rfl rfl rfl rfl rfl rfl rfl (fun v169 K170 hK171 hs172 => ⟨_, (.there .here), ?_⟩))
   refine Ow.shift (Re0 (Shift.done ?_))
   refine Ow_q rfl rfl rfl (Qt_assign rfl)<|Ow_nil<|Cw_region<|Ow_q rfl rfl rfl (Qt_arith (e := wI (i136 + 1)) rfl rfl rfl rfl)<|Ow_q rfl rfl rfl (Qt_move rfl)<|Ow_nil<|Shift.done<|?_
   exact ⟨_, by exact ⟨rfl, rfl, rfl, rfl, trivial⟩, _, Nat.lt_succ_self _, v169, x167, (wI (i136 + 1)), rfl, rfl, (hkk142 ▸ H), hs172⟩
  ·intro h144
   have h144 := dcd_f (h144)
   have H := iff_ h144 H
   refine Cw_exit<|Shift.done<|?_
   exact ⟨_, by exact ⟨rfl, trivial⟩, v133, l134, rfl, rfl, H, hs135⟩
 rintro _ K173 _ hK174 ⟨v92, l93, rfl, rfl, H, hs94⟩
 unfold M_211z at H
 refine Cw_seq<|Cw_region<|Ow_q rfl rfl rfl (Qt_move rfl)<|Ow_q rfl rfl rfl (Qt_assign rfl)<|Ow_nil<|Cw_ret<|?_
 obtain ey0 := inj1 H
 subst y0
 refine ⟨(by first | exact .inl rfl | exact .inr rfl), [(sv v92)], ⟨(sv v92), _, rfl, rfl, rfl⟩, ?_⟩
 exact Shift.done ⟨v92, rfl, rfl, hs94⟩

set_option maxHeartbeats 1000000 in
theorem c_M_75z (p0 : List Chan) (vp0 : SV) (p1 : Int) (y0 : Chan) (y1 : Bool) (H : M_75z p0 p1 = some (y0, y1)) (K : Kp) (G : List Ent) (hp0 : Slr TyChan K (sv vp0) p0) :
  Fc Try.prog 67 #[(sv vp0), (.int .i64 p1)] K (G) (fun v K' G' => ∃ (wy0_buffer : SV), v = (.tuple #[(.agg (Chan.cells y0 wy0_buffer).toArray), (.bool y1)]) ∧ K = K' ∧ G = G' ∧ Slr Ty.u64 K' (sv wy0_buffer) y0.buffer) := by
 refine Fc_body Try.func67 rfl Try.ntmps67 Try.results67 rfl ?_
 unfold M_75z at H
 refine Cw_seq<|Cw_region<|?_
 refine Ow_cons rfl (OpW_alloc (cs := (Chan.cells (Chan.mk 0 [] false) nilS)) rfl rfl rfl rfl (fun b14 => ?_))
 refine Ow_q rfl rfl rfl (Qt_assign rfl)<|Ow_nil<|Cw_seq<|?_
 refine Cw_join (fun env' K' G' => ∃ (i21 : Int) (t22 : Bool) (i23 : Int), [(0, (sv vp0)), (1, (.int .i64 i21)), (4, (.pointer (some ((⟨b14, 0, none⟩ : Addr).add 0)))), (13, (.bool t22))] = env' ∧ K = K' ∧ (.blk b14 71 (Chan.cells (Chan.mk i23 [] false) nilS)) :: G = G' ∧ M_74z p0 i21 t22 i23 = some (y0, y1)) ?_ ?_
 ·skip
  refine Cw_region<|Ow_q rfl rfl rfl (Qt_move rfl)<|Ow_q rfl rfl rfl (Qt_cmp rfl rfl rfl)<|Ow_q rfl rfl rfl (Qt_move rfl)<|?_
  refine Ow_caseG rfl rfl rfl ?_ ?_
  ·intro h24
   have h24 := dcd_t (h24)
   have H := ift h24 H
   refine Ow_pass rfl rfl rfl rfl rfl rfl rfl<|Ow_pass rfl rfl rfl rfl rfl rfl rfl<|Ow_pass rfl rfl rfl rfl rfl rfl rfl<|Ow_pass rfl rfl rfl rfl rfl rfl rfl<|Ow_q rfl rfl rfl (Qt_pick_t rfl rfl)<|Ow_nil<|Shift.done<|?_
   exact ⟨_, by exact ⟨rfl, rfl, rfl, rfl, trivial⟩, p1, true, 0, rfl, rfl, rfl, H⟩
  ·intro h24
   have h24 := dcd_f (h24)
   have H := iff_ h24 H
   refine Ow_qw rfl rfl rfl rfl rfl rfl (Qt_move rfl)<|Ow_qw rfl rfl rfl rfl rfl rfl (Qt_move rfl)<|Ow_qw rfl rfl rfl rfl rfl rfl (Q_len (T := TyChan) hp0 rfl rfl)<|Ow_qw rfl rfl rfl rfl rfl rfl (Qt_cmp rfl rfl rfl)<|Ow_q rfl rfl rfl (Qt_pick_f rfl rfl)<|Ow_nil<|Shift.done<|?_
   exact ⟨_, by exact ⟨rfl, rfl, rfl, rfl, trivial⟩, p1, (dcd (p1 ≥ (p0.length : Int))), 0, rfl, rfl, rfl, H⟩
 rintro _ _ _ - ⟨i21, t22, i23, rfl, rfl, rfl, H⟩
 unfold M_74z at H
 refine Cw_cond rfl ?_ ?_
 ·intro h25
  have H := ift h25 H
  refine Cw_seq<|Cw_region<|Ow_q rfl rfl rfl (Qt_build (cs := (Chan.cells (Chan.mk 0 [] false) nilS)) rfl rfl rfl rfl rfl rfl)<|?_
  refine Ow_cons rfl (OpW_store (vs := (Chan.cells (Chan.mk 0 [] false) nilS)) (all' := (Chan.cells (Chan.mk 0 [] false) nilS)) rfl rfl rfl rfl rfl .here rfl rfl rfl ?_)
  refine Ow_q rfl rfl rfl (Qt_assign rfl)<|Ow_nil<|Cw_ret<|?_
  obtain ⟨ey0, ey1⟩ := inj2 H
  subst y0 y1
  refine ⟨(by first | exact .inl rfl | exact .inr rfl), [(.agg (Chan.cells (Chan.mk 0 [] false) nilS).toArray), (.bool false)], ⟨(.agg (Chan.cells (Chan.mk 0 [] false) nilS).toArray), _, rfl, ⟨_, 3, (Chan.cells (Chan.mk 0 [] false) nilS), rfl, rfl, rfl, rfl, ⟨rfl, Rdc.blk Mb0 rfl⟩, rfl⟩, ⟨(.bool false), _, rfl, rfl, rfl⟩⟩, ?_⟩
  refine Re0<|Shift.done<|?_
  exact ⟨nilS, rfl, rfl, rfl, (Slr.nil Ty.u64 _)⟩
 ·intro h25
  have H := iff_ (btf h25) H
  refine Cw_skip<|Cw_seq<|Cw_region<|Ow_q rfl rfl rfl (Qt_move rfl)<|Ow_q rfl rfl rfl (Qt_move rfl)<|?_
  obtain ⟨x26, hx27, H⟩ := bnd H
  obtain ⟨r28, hr29, hk30⟩ := Slr.at hp0 hx27
  obtain ⟨v31, rfl, hs32⟩ := hr29
  refine Ow_q rfl rfl rfl (Q_ix (T := TyChan) hp0 hx27 rfl rfl rfl rfl rfl)<|Ow_q rfl rfl rfl (Qt_loadA (m := 3) (cs := (Chan.cells x26 v31)) rfl rfl rfl rfl ⟨rfl, Rdc.k hk30 rfl⟩)<|?_
  refine Ow_cons rfl (OpW_store (vs := (Chan.cells x26 v31)) (all' := (Chan.cells x26 v31)) rfl rfl rfl rfl rfl .here rfl rfl rfl ?_)
  refine Ow_q rfl rfl rfl (Qt_assign rfl)<|Ow_nil<|Cw_ret<|?_
  obtain ⟨ey0, ey1⟩ := inj2 H
  subst y0 y1
  refine ⟨(by first | exact .inl rfl | exact .inr rfl), [(.agg (Chan.cells x26 v31).toArray), (.bool true)], ⟨(.agg (Chan.cells x26 v31).toArray), _, rfl, ⟨_, 3, (Chan.cells x26 v31), rfl, rfl, rfl, rfl, ⟨rfl, Rdc.blk Mb0 rfl⟩, rfl⟩, ⟨(.bool true), _, rfl, rfl, rfl⟩⟩, ?_⟩
  refine Re0<|Shift.done<|?_
  exact ⟨v31, rfl, rfl, rfl, hs32⟩

set_option maxHeartbeats 1000000 in
theorem c_M_47z (p0 : List Chan) (vp0 : SV) (p1 : Case) (y0 : Bool) (H : M_47z p0 p1 = some y0) (K : Kp) (G : List Ent) (hp0 : Slr TyChan K (sv vp0) p0) :
  Fc Try.prog 39 #[(sv vp0), (.agg (Case.cells p1).toArray)] K (G) (fun v K' G' => v = (.bool y0) ∧ K = K' ∧ G = G') := by
 refine Fc_body Try.func39 rfl Try.ntmps39 Try.results39 rfl ?_
 unfold M_47z at H
 refine Cw_seq<|Cw_region<|?_
 refine Ow_cons rfl (OpW_box (cs := (Case.cells p1)) rfl rfl rfl (fun b12 => ?_))
 refine Ow_q rfl rfl rfl (Qt_assign rfl)<|Ow_nil<|Cw_seq<|Cw_region<|Ow_q rfl rfl rfl (Qt_move rfl)<|Ow_q rfl rfl rfl (Qt_fieldAddr (m := 1) rfl rfl rfl rfl rfl)<|Ow_q rfl rfl rfl (Qt_load1 (v := (.int .i64 p1.channel)) rfl rfl rfl (Rdc.blk Mb0 rfl))<|?_
 obtain ⟨x13, x14, hx15, H⟩ := bnd2 H
 refine Ow_cons rfl (OpW_call rfl Try.call67 rfl rfl (c_M_75z p0 vp0 p1.channel x13 x14 hx15 _ _ hp0) ?_)
 rintro _ _ _ - ⟨v16, rfl, rfl, rfl, hs17⟩
 refine Ow_q rfl rfl rfl (Qt_move rfl)<|Ow_q rfl rfl rfl (Qt_extract rfl rfl)<|Ow_q rfl rfl rfl (Qt_extract rfl rfl)<|?_
 refine Ow_cons rfl (OpW_alloc (cs := (Chan.cells (Chan.mk 0 [] false) nilS)) rfl rfl rfl rfl (fun b18 => ?_))
 refine Ow_cons rfl (OpW_store (vs := (Chan.cells x13 v16)) (all' := (Chan.cells x13 v16)) rfl rfl rfl rfl rfl .here rfl rfl rfl ?_)
 refine Ow_q rfl rfl rfl (Qt_assign rfl)<|Ow_nil<|Cw_seq<|Cw_block<|Cw_seq<|Cw_region<|Ow_q rfl rfl rfl (Qt_move rfl)<|Ow_q rfl rfl rfl (Qt_not rfl)<|Ow_q rfl rfl rfl (Qt_assign rfl)<|Ow_nil<|?_
 refine Cw_cond rfl ?_ ?_
 ·intro h22
  have h22 := nt_t (h22)
  have H := iff_ (btf h22) H
  refine Cw_seq<|Cw_region<|Ow_q rfl rfl rfl (Qt_assign rfl)<|Ow_nil<|Cw_ret<|?_
  obtain ey0 := inj1 H
  subst y0
  refine ⟨(by first | exact .inl rfl | exact .inr rfl), [(.bool false)], ⟨(.bool false), _, rfl, rfl, rfl⟩, ?_⟩
  refine Re0<|Re0<|Shift.done<|?_
  exact ⟨rfl, rfl, rfl⟩
 ·intro h22
  have h22 := nt_f (h22)
  have H := ift h22 H
  refine Cw_seq<|Cw_region<|Ow_q rfl rfl rfl (Qt_fieldAddr (m := 0) rfl rfl rfl rfl rfl)<|Ow_q rfl rfl rfl (Qt_load1 (v := (.bool p1.send)) rfl rfl rfl (Rdc.blk Mb1 rfl))<|Ow_q rfl rfl rfl (Qt_assign rfl)<|Ow_nil<|?_
  refine Cw_cond rfl ?_ ?_
  ·intro h23
   have H := ift h23 H
   refine Cw_seq<|Cw_region<|Ow_q rfl rfl rfl (Qt_fieldAddr (m := 2) rfl rfl rfl rfl rfl)<|Ow_q rfl rfl rfl (Qt_load1 (v := (.bool x13.closed)) rfl rfl rfl (Rdc.blk Mb0 rfl))<|Ow_q rfl rfl rfl (Qt_move rfl)<|?_
   refine Ow_caseG rfl rfl rfl ?_ ?_
   ·intro h25
    have H := ift h25 H
    refine Ow_pass rfl rfl rfl rfl rfl rfl rfl<|Ow_pass rfl rfl rfl rfl rfl rfl rfl<|Ow_pass rfl rfl rfl rfl rfl rfl rfl<|Ow_pass rfl rfl rfl rfl rfl rfl rfl<|Ow_pass rfl rfl rfl rfl rfl rfl rfl<|Ow_pass rfl rfl rfl rfl rfl rfl rfl<|Ow_q rfl rfl rfl (Qt_pick_t rfl rfl)<|Ow_q rfl rfl rfl (Qt_assign rfl)<|Ow_nil<|Cw_ret<|?_
    obtain ey0 := inj1 H
    subst y0
    refine ⟨(by first | exact .inl rfl | exact .inr rfl), [(.bool true)], ⟨(.bool true), _, rfl, rfl, rfl⟩, ?_⟩
    refine Re0<|Re0<|Shift.done<|?_
    exact ⟨rfl, rfl, rfl⟩
   ·intro h25
    have H := iff_ (btf h25) H
    refine Ow_qw rfl rfl rfl rfl rfl rfl (Qt_fieldAddr (m := 1) rfl rfl rfl rfl rfl)<|Ow_qw rfl rfl rfl rfl rfl rfl (Qt_load1 (v := (sv v16)) rfl rfl rfl (Rdc.blk Mb0 rfl))<|Ow_qw rfl rfl rfl rfl rfl rfl (Q_len (T := Ty.u64) hs17 rfl rfl)<|Ow_qw rfl rfl rfl rfl rfl rfl (Qt_fieldAddr (m := 0) rfl rfl rfl rfl rfl)<|Ow_qw rfl rfl rfl rfl rfl rfl (Qt_load1 (v := (.int .i64 x13.capacity)) rfl rfl rfl (Rdc.blk Mb0 rfl))<|Ow_qw rfl rfl rfl rfl rfl rfl (Qt_cmp rfl rfl rfl)<|Ow_q rfl rfl rfl (Qt_pick_f rfl rfl)<|Ow_q rfl rfl rfl (Qt_assign rfl)<|Ow_nil<|Cw_ret<|?_
    obtain ey0 := inj1 H
    subst y0
    refine ⟨(by first | exact .inl rfl | exact .inr rfl), [(.bool (dcd ((x13.buffer.length : Int) < x13.capacity)))], ⟨(.bool (dcd ((x13.buffer.length : Int) < x13.capacity))), _, rfl, rfl, rfl⟩, ?_⟩
    refine Re0<|Re0<|Shift.done<|?_
    exact ⟨rfl, rfl, rfl⟩
  ·intro h23
   have H := iff_ (btf h23) H
   refine Cw_skip<|Cw_seq<|Cw_region<|Ow_q rfl rfl rfl (Qt_fieldAddr (m := 2) rfl rfl rfl rfl rfl)<|Ow_q rfl rfl rfl (Qt_load1 (v := (.bool x13.closed)) rfl rfl rfl (Rdc.blk Mb0 rfl))<|Ow_q rfl rfl rfl (Qt_move rfl)<|?_
   refine Ow_caseG rfl rfl rfl ?_ ?_
   ·intro h27
    have H := ift h27 H
    refine Ow_pass rfl rfl rfl rfl rfl rfl rfl<|Ow_pass rfl rfl rfl rfl rfl rfl rfl<|Ow_pass rfl rfl rfl rfl rfl rfl rfl<|Ow_pass rfl rfl rfl rfl rfl rfl rfl<|Ow_q rfl rfl rfl (Qt_pick_t rfl rfl)<|Ow_q rfl rfl rfl (Qt_assign rfl)<|Ow_nil<|Cw_ret<|?_
    obtain ey0 := inj1 H
    subst y0
    refine ⟨(by first | exact .inl rfl | exact .inr rfl), [(.bool true)], ⟨(.bool true), _, rfl, rfl, rfl⟩, ?_⟩
    refine Re0<|Re0<|Shift.done<|?_
    exact ⟨rfl, rfl, rfl⟩
   ·intro h27
    have H := iff_ (btf h27) H
    refine Ow_qw rfl rfl rfl rfl rfl rfl (Qt_fieldAddr (m := 1) rfl rfl rfl rfl rfl)<|Ow_qw rfl rfl rfl rfl rfl rfl (Qt_load1 (v := (sv v16)) rfl rfl rfl (Rdc.blk Mb0 rfl))<|Ow_qw rfl rfl rfl rfl rfl rfl (Q_len (T := Ty.u64) hs17 rfl rfl)<|Ow_qw rfl rfl rfl rfl rfl rfl (Qt_cmp rfl rfl rfl)<|Ow_q rfl rfl rfl (Qt_pick_f rfl rfl)<|Ow_q rfl rfl rfl (Qt_assign rfl)<|Ow_nil<|Cw_ret<|?_
    obtain ey0 := inj1 H
    subst y0
    refine ⟨(by first | exact .inl rfl | exact .inr rfl), [(.bool (dcd ((x13.buffer.length : Int) > 0)))], ⟨(.bool (dcd ((x13.buffer.length : Int) > 0))), _, rfl, rfl, rfl⟩, ?_⟩
    refine Re0<|Re0<|Shift.done<|?_
    exact ⟨rfl, rfl, rfl⟩



end Go.Hx

namespace Go.Hx
open Go Go.Proofs
set_option linter.unusedSimpArgs false
set_option linter.unusedVariables false
set_option maxRecDepth 10000
set_option maxHeartbeats 1000000 in
theorem c_M_126z (p0 : List Waiter) (vp0 : SV) (bc1_0 : Nat) (c1_0 : Case) (bc1_1 : Nat) (c1_1 : Int) (y0 : Int) (H : M_126z p0 c1_0 c1_1 = some y0) (K : Kp) (G : List Ent) (hp0 : Slr TyWaiter K (sv vp0) p0) :
  Fc Try.prog 68 #[(sv vp0), (.func (.func 69) #[] #[(.pointer (some ((⟨bc1_0, 0, none⟩ : Addr).add 0))), (.pointer (some ((⟨bc1_1, 0, none⟩ : Addr).add 0)))])] K ((.blk bc1_0 45 (Case.cells c1_0)) :: (.blk bc1_1 3 [(.int .i64 c1_1)]) :: G) (fun v K' G' => v = (.int .i64 y0) ∧ (.blk bc1_0 45 (Case.cells c1_0)) :: (.blk bc1_1 3 [(.int .i64 c1_1)]) :: G = G') := by
 refine Fc_body Try.func68 rfl Try.ntmps68 Try.results68 rfl ?_
 unfold M_126z at H
 refine Cw_seq<|Cw_region<|Ow_q rfl rfl rfl (Qt_assign rfl)<|Ow_nil<|?_
 refine Cw_join (fun env' K' G' => [] = env' ∧ (.blk bc1_1 3 [(.int .i64 c1_1)]) :: (.blk bc1_0 45 (Case.cells c1_0)) :: G = G' ∧ M_178z c1_1 c1_0 = some y0) ?_ ?_
 ·skip
  refine Cw_seq<|Cw_region<|Ow_q rfl rfl rfl (Qt_move rfl)<|Ow_q rfl rfl rfl (Q_len (T := TyWaiter) hp0 rfl rfl)<|Ow_q rfl rfl rfl (Qt_move rfl)<|Ow_nil<|Cw_block<|?_
  refine Cw_loopM (fun n117 env' K' G' => ∃ (i116 : Int), [(0, (sv vp0)), (1, (.func (.func 69) #[] #[(.pointer (some ((⟨bc1_0, 0, none⟩ : Addr).add 0))), (.pointer (some ((⟨bc1_1, 0, none⟩ : Addr).add 0)))])), (7, (.int .i64 (p0.length : Int))), (8, (.int .i64 i116))] = env' ∧ (.blk bc1_1 3 [(.int .i64 c1_1)]) :: (.blk bc1_0 45 (Case.cells c1_0)) :: G = G' ∧ lp1 (M_125z p0 c1_1 c1_0) n117 i116 = some y0) BIG ?_ ?_
  ·skip
   refine Pu1<|Shift.done<|?_
   exact ⟨_, by exact ⟨rfl, rfl, rfl, rfl, trivial⟩, 0, rfl, rfl, H⟩
  rintro n117 _ K118 _ hK119 ⟨i116, rfl, rfl, H⟩
  obtain ⟨m120, k121, rfl, hkk122, H⟩ := lps1 H
  unfold M_125z at H
  refine Cw_seq<|Cw_region<|Ow_q rfl rfl rfl (Qt_cmp rfl rfl rfl)<|Ow_nil<|Cw_seq<|?_
  refine Cw_cond rfl ?_ ?_
  ·intro h124
   have h124 := dcd_t (h124)
   have H := ift h124 H
   refine Cw_skip<|Cw_seq<|Cw_block<|Cw_seq<|Cw_region<|Ow_q rfl rfl rfl (Qt_move rfl)<|Ow_q rfl rfl rfl (Qt_assign rfl)<|Ow_nil<|Cw_seq<|Cw_region<|?_
   refine Ow_q rfl rfl rfl (Qt_move rfl)<|Ow_q rfl rfl rfl (Qt_move rfl)<|Ow_q rfl rfl rfl (Qt_move rfl)<|?_
   obtain ⟨x140, hx141, H⟩ := bnd H
   have hs142 := (hp0).mono hK119
   obtain ⟨r143, hr144, hk145⟩ := Slr.at hs142 hx141
   obtain ⟨v146, v147, rfl, hs148, hs149⟩ := hr144
   refine Ow_q rfl rfl rfl (Q_ix (T := TyWaiter) hs142 hx141 rfl rfl rfl rfl rfl)<|Ow_q rfl rfl rfl (Qt_loadA (m := 8) (cs := (Waiter.cells x140 v146 v147)) rfl rfl rfl rfl ⟨rfl, Rdc.k hk145 rfl⟩)<|?_
   obtain ⟨x150, hx151, H⟩ := bnd H
   refine Ow.shift (Pu1 (Shift.done ?_))
   refine Ow_cons rfl (OpW_call rfl Try.call69 rfl rfl (c_M_76z x140 v146 v147 bc1_0 c1_0 bc1_1 c1_1 x150 hx151 _ _ hs148 hs149) ?_)
   rintro _ K152 _ hK153 ⟨rfl, rfl⟩
   refine Ow_nil ?_
   refine Cw_cond rfl ?_ ?_
   ·intro h154
    have H := ift h154 H
    refine Cw_seq<|Cw_region<|Ow_q rfl rfl rfl (Qt_move rfl)<|Ow_q rfl rfl rfl (Qt_assign rfl)<|Ow_nil<|Cw_ret<|?_
    obtain ey0 := inj1 H
    subst y0
    refine ⟨(by first | exact .inl rfl | exact .inr rfl), [(.int .i64 i116)], ⟨(.int .i64 i116), _, rfl, rfl, rfl⟩, ?_⟩
    refine Pu1<|Pu1<|Shift.done<|?_
    exact ⟨rfl, rfl⟩
   ·intro h154
    have H := iff_ (btf h154) H
    refine Cw_skip<|Cw_region<|Ow_q rfl rfl rfl (Qt_arith (e := wI (i116 + 1)) rfl rfl rfl rfl)<|Ow_q rfl rfl rfl (Qt_move rfl)<|Ow_nil<|Pu1<|Shift.done<|?_
    exact ⟨_, by exact ⟨rfl, rfl, rfl, rfl, trivial⟩, _, Nat.lt_succ_self _, (wI (i116 + 1)), rfl, rfl, (hkk122 ▸ H)⟩
  ·intro h124
   have h124 := dcd_f (h124)
   have H := iff_ h124 H
   refine Cw_exit<|Pu1<|Pu1<|Shift.done<|?_
   exact ⟨[], trivial, rfl, rfl, H⟩
 rintro _ K155 _ hK156 ⟨rfl, rfl, H⟩
 unfold M_178z at H
 refine Cw_seq<|Cw_region<|Ow_q rfl rfl rfl (Qt_assign rfl)<|Ow_nil<|Cw_ret<|?_
 obtain ey0 := inj1 H
 subst y0
 refine ⟨(by first | exact .inl rfl | exact .inr rfl), [(.int .i64 (-1))], ⟨(.int .i64 (-1)), _, rfl, rfl, rfl⟩, ?_⟩
 refine Pu1<|Shift.done<|?_
 exact ⟨rfl, rfl⟩

set_option maxHeartbeats 1000000 in
theorem c_M_132z (p0 : List Waiter) (vp0 : SV) (rsp0 : List (List Value)) (bc1_0 : Nat) (c1_0 : Case) (bc1_1 : Nat) (c1_1 : Int) (y0 : Int) (H : M_132z p0 c1_0 c1_1 = some y0) (K : Kp) (G : List Ent) (hp0 : RowR TyWaiter K rsp0 p0) :
  Fc Try.prog 68 #[(sv vp0), (.func (.func 69) #[] #[(.pointer (some ((⟨bc1_0, 0, none⟩ : Addr).add 0))), (.pointer (some ((⟨bc1_1, 0, none⟩ : Addr).add 0)))])] K ((.row (sv vp0) 52 8 rsp0.flatten) :: (.blk bc1_0 45 (Case.cells c1_0)) :: (.blk bc1_1 3 [(.int .i64 c1_1)]) :: G) (fun v K' G' => v = (.int .i64 y0) ∧ (.blk bc1_0 45 (Case.cells c1_0)) :: (.blk bc1_1 3 [(.int .i64 c1_1)]) :: (.row (sv vp0) 52 8 rsp0.flatten) :: G = G') := by
 refine Fc_body Try.func68 rfl Try.ntmps68 Try.results68 rfl ?_
 unfold M_132z at H
 refine Cw_seq<|Cw_region<|Ow_q rfl rfl rfl (Qt_assign rfl)<|Ow_nil<|?_
 refine Cw_join (fun env' K' G' => [] = env' ∧ (.blk bc1_1 3 [(.int .i64 c1_1)]) :: (.blk bc1_0 45 (Case.cells c1_0)) :: (.row (sv vp0) 52 8 rsp0.flatten) :: G = G' ∧ M_180z c1_1 c1_0 p0 = some y0) ?_ ?_
 ·skip
  refine Cw_seq<|Cw_region<|Ow_q rfl rfl rfl (Qt_move rfl)<|Ow_q rfl rfl rfl (Q_lenR (T := TyWaiter) Mb0 hp0 rfl rfl rfl)<|Ow_q rfl rfl rfl (Qt_move rfl)<|Ow_nil<|Cw_block<|?_
  refine Cw_loopM (fun n117 env' K' G' => ∃ (i116 : Int), [(0, (sv vp0)), (1, (.func (.func 69) #[] #[(.pointer (some ((⟨bc1_0, 0, none⟩ : Addr).add 0))), (.pointer (some ((⟨bc1_1, 0, none⟩ : Addr).add 0)))])), (7, (.int .i64 (p0.length : Int))), (8, (.int .i64 i116))] = env' ∧ (.blk bc1_1 3 [(.int .i64 c1_1)]) :: (.blk bc1_0 45 (Case.cells c1_0)) :: (.row (sv vp0) 52 8 rsp0.flatten) :: G = G' ∧ lp1 (M_131z p0 c1_1 c1_0) n117 i116 = some y0) BIG ?_ ?_
  ·skip
   refine Pu1<|Pu2<|Shift.done<|?_
   exact ⟨_, by exact ⟨rfl, rfl, rfl, rfl, trivial⟩, 0, rfl, rfl, H⟩
  rintro n117 _ K118 _ hK119 ⟨i116, rfl, rfl, H⟩
  obtain ⟨m120, k121, rfl, hkk122, H⟩ := lps1 H
  unfold M_131z at H
  refine Cw_seq<|Cw_region<|Ow_q rfl rfl rfl (Qt_cmp rfl rfl rfl)<|Ow_nil<|Cw_seq<|?_
  refine Cw_cond rfl ?_ ?_
  ·intro h124
   have h124 := dcd_t (h124)
   have H := ift h124 H
   refine Cw_skip<|Cw_seq<|Cw_block<|Cw_seq<|Cw_region<|Ow_q rfl rfl rfl (Qt_move rfl)<|Ow_q rfl rfl rfl (Qt_assign rfl)<|Ow_nil<|Cw_seq<|Cw_region<|?_
   refine Ow_q rfl rfl rfl (Qt_move rfl)<|Ow_q rfl rfl rfl (Qt_move rfl)<|Ow_q rfl rfl rfl (Qt_move rfl)<|?_
   obtain ⟨x140, hx141, H⟩ := bnd H
   have hs142 := (hp0).mono hK119
   obtain ⟨r143, hq144, hr145⟩ := RowR.at hs142 hx141
   obtain ⟨v146, v147, rfl, hs148, hs149⟩ := hr145
   refine Ow_q rfl rfl rfl (Q_ixR (T := TyWaiter) Mb2 hs142 hq144 (getI_ix hx141).1 rfl rfl rfl rfl rfl)<|Ow_q rfl rfl rfl (Qt_loadA (m := 8) (cs := (Waiter.cells x140 v146 v147)) rfl rfl rfl rfl ⟨rfl, Rd_row (T := TyWaiter) Mb2 hs142 hq144 rfl rfl⟩)<|?_
   obtain ⟨x150, hx151, H⟩ := bnd H
   refine Ow.shift (Pu1 (Shift.done ?_))
   refine Ow_cons rfl (OpW_call rfl Try.call69 rfl rfl (c_M_76z x140 v146 v147 bc1_0 c1_0 bc1_1 c1_1 x150 hx151 _ _ hs148 hs149) ?_)
   rintro _ K152 _ hK153 ⟨rfl, rfl⟩
   refine Ow_nil ?_
   refine Cw_cond rfl ?_ ?_
   ·intro h154
    have H := ift h154 H
    refine Cw_seq<|Cw_region<|Ow_q rfl rfl rfl (Qt_move rfl)<|Ow_q rfl rfl rfl (Qt_assign rfl)<|Ow_nil<|Cw_ret<|?_
    obtain ey0 := inj1 H
    subst y0
    refine ⟨(by first | exact .inl rfl | exact .inr rfl), [(.int .i64 i116)], ⟨(.int .i64 i116), _, rfl, rfl, rfl⟩, ?_⟩
    refine Pu2<|Pu2<|Pu2<|Shift.done<|?_
    exact ⟨rfl, rfl⟩
   ·intro h154
    have H := iff_ (btf h154) H
    refine Cw_skip<|Cw_region<|Ow_q rfl rfl rfl (Qt_arith (e := wI (i116 + 1)) rfl rfl rfl rfl)<|Ow_q rfl rfl rfl (Qt_move rfl)<|Ow_nil<|Pu2<|Pu1<|Pu2<|Shift.done<|?_
    exact ⟨_, by exact ⟨rfl, rfl, rfl, rfl, trivial⟩, _, Nat.lt_succ_self _, (wI (i116 + 1)), rfl, rfl, (hkk122 ▸ H)⟩
  ·intro h124
   have h124 := dcd_f (h124)
   have H := iff_ h124 H
   refine Cw_exit<|Pu2<|Pu2<|Pu2<|Shift.done<|?_
   exact ⟨[], trivial, rfl, rfl, H⟩
 rintro _ K155 _ hK156 ⟨rfl, rfl, H⟩
 unfold M_180z at H
 refine Cw_seq<|Cw_region<|Ow_q rfl rfl rfl (Qt_assign rfl)<|Ow_nil<|Cw_ret<|?_
 obtain ey0 := inj1 H
 subst y0
 refine ⟨(by first | exact .inl rfl | exact .inr rfl), [(.int .i64 (-1))], ⟨(.int .i64 (-1)), _, rfl, rfl, rfl⟩, ?_⟩
 refine Pu2<|Pu1<|Pu2<|Shift.done<|?_
 exact ⟨rfl, rfl⟩

set_option maxHeartbeats 1000000 in
theorem c_M_26z (p0 : List Int) (vp0 : SV) (y0 : List Int) (H : M_26z p0 = some y0) (K : Kp) (G : List Ent) (hp0 : Slr Ty.u64 K (sv vp0) p0) :
  Fc Try.prog 77 #[(sv vp0)] K (G) (fun v K' G' => ∃ (wy0 : SV) (rswy0 : List (List Value)), v = (sv wy0) ∧ K = K' ∧ (.row (sv wy0) 38 1 rswy0.flatten) :: G = G' ∧ RowR Ty.u64 K' rswy0 y0) := by
 refine Fc_body Try.func77 rfl Try.ntmps77 Try.results77 rfl ?_
 unfold M_26z at H
 refine Cw_seq<|Cw_region<|Ow_q rfl rfl rfl (Qt_assign rfl)<|Ow_nil<|Cw_seq<|Cw_seq<|Cw_region<|Ow_q rfl rfl rfl (Qt_move rfl)<|Ow_q rfl rfl rfl (Qt_eqNilS rfl rfl rfl)<|Ow_nil<|?_
 refine Cw_cond rfl ?_ ?_
 ·intro h15
  have hl16 := Slr.nil_of hp0 h15
  have H : some [] = some y0 := by rw [hl16] at H; simpa [app] using H
  refine Cw_seq<|Cw_region<|Ow_q rfl rfl rfl (Qt_assign rfl)<|Ow_nil<|Cw_ret<|?_
  obtain ey0 := inj1 H
  subst y0
  refine ⟨(by first | exact .inl rfl | exact .inr rfl), [(sv nilS)], ⟨(sv nilS), _, rfl, rfl, rfl⟩, ?_⟩
  have hR17 : RowR Ty.u64 K [] [] := RowR.nil
  refine Shift.nilRow 38 1<|Shift.done<|?_
  exact ⟨nilS, ([] : List (List Value)), rfl, rfl, rfl, hR17⟩
 ·intro h15
  refine Cw_skip<|Cw_seq<|Cw_region<|?_
  have hR19 : RowR Ty.u64 K [] [] := RowR.nil
  refine Ow_cons rfl (O_lit0 (T := Ty.u64) rfl rfl rfl rfl rfl (fun v18 => ?_))
  refine Ow_q rfl rfl rfl (Qt_move rfl) ?_
  obtain ⟨x20, hx21, H⟩ := bnd H
  refine Ow_cons rfl (O_appRow (T := Ty.u64) (bytes := 8) rfl rfl rfl Mb0 hR19 (SrcT.sl hp0) hx21 rfl rfl rfl rfl rfl rfl rfl rfl (fun v22 rs23 hR24 => ⟨_, .here, ?_⟩))
  refine Ow_q rfl rfl rfl (Qt_assign rfl)<|Ow_nil<|Cw_ret<|?_
  obtain ey0 := inj1 H
  subst y0
  refine ⟨(by first | exact .inl rfl | exact .inr rfl), [(sv v22)], ⟨(sv v22), _, rfl, rfl, rfl⟩, ?_⟩
  exact Shift.done ⟨v22, rs23, rfl, rfl, rfl, hR24⟩



end Go.Hx
