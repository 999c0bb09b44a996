/- Printed by program. -/
import Derived.Test.YtgpoanmjkggijaaXCM
import Derived.Test.YtgpoanmjkggijaaXCWRef14
import Derived.Test.YtgpoanmjkggijaaXCWRef15
import Derived.Test.YtgpoanmjkggijaaXCWRef3
namespace Go.Hx
open Go Go.Proofs
set_option linter.unusedSimpArgs false
set_option linter.unusedVariables false
set_option maxRecDepth 10000
set_option maxHeartbeats 1000000 in
theorem c_M_12z (p0 : Op) (vp0_cases : SV) (vp0_draws : SV) (p1 : Int) (p2 : Bool) (y0 : Int) (H : M_12z p0 p1 p2 = some y0) (K : Kp) (G : List Ent) (hp0_cases : Slr TyCase K (sv vp0_cases) p0.cases) (hp0_draws : Slr Ty.i64 K (sv vp0_draws) p0.draws) :
  Fc Try.prog 115 #[(.agg (Op.cells p0 vp0_cases vp0_draws).toArray), (.int .i64 p1), (.bool p2)] K (G) (fun v K' G' => v = (.int .i64 y0) ∧ G = G') := by
 refine Fc_body Try.func115 rfl Try.ntmps115 Try.results115 rfl ?_
 unfold M_12z at H
 refine Cw_seq ?_
 refine Cw_region ?_
 refine Ow_cons rfl (OpW_box (cs := (Op.cells p0 vp0_cases vp0_draws)) rfl rfl rfl (fun b52 => ?_))
 refine Ow_q rfl rfl rfl (Qt_assign rfl) ?_
 refine Ow_nil ?_
 refine Cw_seq ?_
 refine Cw_region ?_
 refine Ow_q rfl rfl rfl (Qt_loadA (m := 7) (cs := (Op.cells p0 vp0_cases vp0_draws)) rfl rfl rfl rfl ⟨rfl, Rdc.blk (.head _) rfl⟩) ?_
 obtain ⟨x53, hx54, H⟩ := bnd H
 refine Ow_cons rfl (OpW_call rfl Try.call63 rfl rfl (c_M_3z p0 vp0_cases vp0_draws x53 hx54 _ _ hp0_cases hp0_draws) ?_)
 rintro _ K56 _ hK57 ⟨v55, rfl, rfl, hs58⟩
 refine Ow_q rfl rfl rfl (Qt_assign rfl) ?_
 refine Ow_nil ?_
 refine Cw_join (fun env' K' G' => [] = env' ∧ G = G' ∧ M_186z = some y0) ?_ ?_
 ·skip
  refine Cw_seq ?_
  refine Cw_region ?_
  refine Ow_q rfl rfl rfl (Qt_assign rfl) ?_
  refine Ow_nil ?_
  refine Cw_block ?_
  refine Cw_loopM (fun n131 env' K' G' => ∃ (i130 : Int), [(1, (.int .i64 p1)), (2, (.bool p2)), (7, (sv v55)), (8, (.int .i64 i130))] = env' ∧ K56 = K' ∧ G = G' ∧ lp1 (M_83z p1 p2 x53) n131 i130 = some y0) BIG ?_ ?_
  ·skip
   refine Shift.rem .here ?_
   refine Shift.done ?_
   exact ⟨[(1, (.int .i64 p1)), (2, (.bool p2)), (7, (sv v55)), (8, (.int .i64 0))], ⟨rfl, rfl, rfl, rfl, trivial⟩, 0, rfl, rfl, rfl, H⟩
  rintro n131 _ _ _ - ⟨i130, rfl, rfl, rfl, H⟩
  obtain ⟨m132, k133, rfl, hkk134, H⟩ := lps1 H
  unfold M_83z at H
  refine Cw_seq ?_
  refine Cw_seq ?_
  refine Cw_region ?_
  refine Ow_q rfl rfl rfl (Qt_move rfl) ?_
  refine Ow_q rfl rfl rfl (Qt_move rfl) ?_
  refine Ow_q rfl rfl rfl (Q_len (T := TyCase) hs58 rfl rfl) ?_
  refine Ow_q rfl rfl rfl (Qt_cmp rfl rfl rfl) ?_
  refine Ow_nil ?_
  refine Cw_cond rfl ?_ ?_
  ·intro h136
   have h136 := dcd_t (h136)
   have H := ift h136 H
   refine Cw_skip ?_
   refine Cw_seq ?_
   refine Cw_block ?_
   refine Cw_join (fun env' K' G' => ∃ (t161 : Bool), [(1, (.int .i64 p1)), (2, (.bool p2)), (7, (sv v55)), (8, (.int .i64 i130)), (32, (.bool t161))] = env' ∧ K56 = K' ∧ G = G' ∧ M_82z p1 p2 x53 i130 k133 t161 = some y0) ?_ ?_
   ·skip
    refine Cw_region ?_
    refine Ow_q rfl rfl rfl (Qt_move rfl) ?_
    refine Ow_q rfl rfl rfl (Qt_move rfl) ?_
    obtain ⟨x162, hx163, H⟩ := bnd H
    obtain ⟨r164, hr165, hk166⟩ := Slr.at hs58 hx163
    obtain rfl := hr165
    refine Ow_q rfl rfl rfl (Q_ix (T := TyCase) hs58 hx163 rfl rfl rfl rfl rfl) ?_
    refine Ow_q rfl rfl rfl (Qt_fieldAddr (m := 1) rfl rfl rfl rfl rfl) ?_
    refine Ow_q rfl rfl rfl (Qt_load1 (v := (.int .i64 x162.channel)) rfl rfl rfl (Rdc.k hk166 rfl)) ?_
    refine Ow_q rfl rfl rfl (Qt_move rfl) ?_
    refine Ow_q rfl rfl rfl (Qt_cmp rfl rfl rfl) ?_
    refine Ow_q rfl rfl rfl (Qt_move rfl) ?_
    refine Ow_caseG rfl rfl rfl ?_ ?_
    ·intro h167
     have h167 := dcd_t (h167)
     have H := ift h167 H
     refine Ow_qw rfl rfl rfl rfl rfl rfl (Qt_move rfl) ?_
     refine Ow_qw rfl rfl rfl rfl rfl rfl (Qt_move rfl) ?_
     obtain ⟨x168, hx169, H⟩ := bnd H
     obtain ⟨r170, hr171, hk172⟩ := Slr.at hs58 hx169
     obtain rfl := hr171
     refine Ow_qw rfl rfl rfl rfl rfl rfl (Q_ix (T := TyCase) hs58 hx169 rfl rfl rfl rfl rfl) ?_
     refine Ow_qw rfl rfl rfl rfl rfl rfl (Qt_fieldAddr (m := 0) rfl rfl rfl rfl rfl) ?_
     refine Ow_qw rfl rfl rfl rfl rfl rfl (Qt_load1 (v := (.bool x168.send)) rfl rfl rfl (Rdc.k hk172 rfl)) ?_
     refine Ow_qw rfl rfl rfl rfl rfl rfl (Qt_move rfl) ?_
     refine Ow_qw rfl rfl rfl rfl rfl rfl (Qt_eqB rfl rfl rfl) ?_
     refine Ow_q rfl rfl rfl (Qt_pick_t rfl rfl) ?_
     refine Ow_nil ?_
     refine Shift.done ?_
     exact ⟨[(1, (.int .i64 p1)), (2, (.bool p2)), (7, (sv v55)), (8, (.int .i64 i130)), (32, (.bool (x168.send == p2)))], ⟨rfl, rfl, rfl, rfl, rfl, trivial⟩, (x168.send == p2), rfl, rfl, rfl, H⟩
    ·intro h167
     have h167 := dcd_f (h167)
     have H := iff_ h167 H
     refine Ow_pass rfl rfl rfl rfl rfl rfl rfl ?_
     refine Ow_pass rfl rfl rfl rfl rfl rfl rfl ?_
     refine Ow_pass rfl rfl rfl rfl rfl rfl rfl ?_
     refine Ow_pass rfl rfl rfl rfl rfl rfl rfl ?_
     refine Ow_pass rfl rfl rfl rfl rfl rfl rfl ?_
     refine Ow_pass rfl rfl rfl rfl rfl rfl rfl ?_
     refine Ow_pass rfl rfl rfl rfl rfl rfl rfl ?_
     refine Ow_q rfl rfl rfl (Qt_pick_f rfl rfl) ?_
     refine Ow_nil ?_
     refine Shift.done ?_
     exact ⟨[(1, (.int .i64 p1)), (2, (.bool p2)), (7, (sv v55)), (8, (.int .i64 i130)), (32, (.bool false))], ⟨rfl, rfl, rfl, rfl, rfl, trivial⟩, false, rfl, rfl, rfl, H⟩
   rintro _ _ _ - ⟨t161, rfl, rfl, rfl, H⟩
   unfold M_82z at H
   refine Cw_cond rfl ?_ ?_
   ·intro h173
    have H := ift h173 H
    refine Cw_seq ?_
    refine Cw_region ?_
    refine Ow_q rfl rfl rfl (Qt_move rfl) ?_
    refine Ow_q rfl rfl rfl (Qt_assign rfl) ?_
    refine Ow_nil ?_
    refine Cw_ret ?_
    obtain ey0 := inj1 H
    subst y0
    refine ⟨(by first | exact .inl rfl | exact .inr rfl), [(.int .i64 i130)], ⟨(.int .i64 i130), _, rfl, rfl, rfl⟩, ?_⟩
    refine Shift.done ?_
    exact ⟨rfl, rfl⟩
   ·intro h173
    have H := iff_ (btf h173) H
    refine Cw_skip ?_
    refine Cw_region ?_
    refine Ow_q rfl rfl rfl (Qt_move rfl) ?_
    refine Ow_q rfl rfl rfl (Qt_arith (e := wI (i130 + 1)) rfl rfl rfl rfl) ?_
    refine Ow_q rfl rfl rfl (Qt_assign rfl) ?_
    refine Ow_nil ?_
    refine Shift.done ?_
    exact ⟨[(1, (.int .i64 p1)), (2, (.bool p2)), (7, (sv v55)), (8, (.int .i64 (wI (i130 + 1))))], ⟨rfl, rfl, rfl, rfl, trivial⟩, _, Nat.lt_succ_self _, (wI (i130 + 1)), rfl, rfl, rfl, (hkk134 ▸ H)⟩
  ·intro h136
   have h136 := dcd_f (h136)
   have H := iff_ h136 H
   refine Cw_exit ?_
   refine Shift.done ?_
   exact ⟨[], trivial, rfl, rfl, H⟩
 rintro _ K174 _ hK175 ⟨rfl, rfl, H⟩
 unfold M_186z at H
 refine Cw_seq ?_
 refine Cw_region ?_
 refine Ow_q rfl rfl rfl (Qt_assign rfl) ?_
 refine Ow_nil ?_
 refine Cw_ret ?_
 obtain ey0 := inj1 H
 subst y0
 refine ⟨(by first | exact .inl rfl | exact .inr rfl), [(.int .i64 (-1))], ⟨(.int .i64 (-1)), _, rfl, rfl, rfl⟩, ?_⟩
 refine Shift.done ?_
 exact ⟨rfl, rfl⟩

set_option maxHeartbeats 1000000 in
theorem c_M_13z (p0 : Op) (vp0_cases : SV) (vp0_draws : SV) (p1 : Int) (y0 : Int) (H : M_13z p0 p1 = some y0) (K : Kp) (G : List Ent) (hp0_cases : Slr TyCase K (sv vp0_cases) p0.cases) (hp0_draws : Slr Ty.i64 K (sv vp0_draws) p0.draws) :
  Fc Try.prog 116 #[(.agg (Op.cells p0 vp0_cases vp0_draws).toArray), (.int .i64 p1)] K (G) (fun v K' G' => v = (.int .i64 y0) ∧ K = K' ∧ G = G') := by
 refine Fc_body Try.func116 rfl Try.ntmps116 Try.results116 rfl ?_
 unfold M_13z at H
 refine Cw_seq ?_
 refine Cw_region ?_
 refine Ow_cons rfl (OpW_box (cs := (Op.cells p0 vp0_cases vp0_draws)) rfl rfl rfl (fun b3 => ?_))
 refine Ow_q rfl rfl rfl (Qt_assign rfl) ?_
 refine Ow_nil ?_
 refine Cw_seq ?_
 refine Cw_seq ?_
 refine Cw_region ?_
 refine Ow_q rfl rfl rfl (Qt_fieldAddr (m := 0) rfl rfl rfl rfl rfl) ?_
 refine Ow_q rfl rfl rfl (Qt_load1 (v := (.int .i64 p0.kind)) rfl rfl rfl (Rdc.blk (.head _) rfl)) ?_
 refine Ow_q rfl rfl rfl (Qt_cmp rfl rfl rfl) ?_
 refine Ow_nil ?_
 refine Cw_cond rfl ?_ ?_
 ·intro h5
  have h5 := dcd_t (h5)
  have H := ift h5 H
  refine Cw_seq ?_
  refine Cw_region ?_
  refine Ow_q rfl rfl rfl (Qt_move rfl) ?_
  refine Ow_q rfl rfl rfl (Qt_assign rfl) ?_
  refine Ow_nil ?_
  refine Cw_ret ?_
  obtain ey0 := inj1 H
  subst y0
  refine ⟨(by first | exact .inl rfl | exact .inr rfl), [(.int .i64 p1)], ⟨(.int .i64 p1), _, rfl, rfl, rfl⟩, ?_⟩
  refine Shift.rem .here ?_
  refine Shift.done ?_
  exact ⟨rfl, rfl, rfl⟩
 ·intro h5
  have h5 := dcd_f (h5)
  have H := iff_ h5 H
  refine Cw_skip ?_
  refine Cw_seq ?_
  refine Cw_region ?_
  refine Ow_q rfl rfl rfl (Qt_assign rfl) ?_
  refine Ow_nil ?_
  refine Cw_ret ?_
  obtain ey0 := inj1 H
  subst y0
  refine ⟨(by first | exact .inl rfl | exact .inr rfl), [(.int .i64 (-1))], ⟨(.int .i64 (-1)), _, rfl, rfl, rfl⟩, ?_⟩
  refine Shift.rem .here ?_
  refine Shift.done ?_
  exact ⟨rfl, rfl, rfl⟩

set_option maxHeartbeats 1000000 in
theorem c_M_4z (p0 : Desk) (vp0_chans : SV) (vp0_waiting : SV) (p1 : Int) (y0 : Desk) (H : M_4z p0 p1 = some y0) (K : Kp) (G : List Ent) (hp0_chans : Slr TyChan K (sv vp0_chans) p0.chans) (hp0_waiting : Slr TyWaiter K (sv vp0_waiting) p0.waiting) :
  Fc Try.prog 117 #[(.agg (Desk.cells p0 vp0_chans vp0_waiting).toArray), (.int .i64 p1)] K (G) (fun v K' G' => ∃ (wy0_chans : SV) (wy0_waiting : SV), v = (.agg (Desk.cells y0 wy0_chans wy0_waiting).toArray) ∧ (.tok 77 8 [(sv wy0_waiting)]) :: G = G' ∧ Slr TyChan K' (sv wy0_chans) y0.chans ∧ Slr TyWaiter K' (sv wy0_waiting) y0.waiting) := by
 refine Fc_body Try.func117 rfl Try.ntmps117 Try.results117 rfl ?_
 unfold M_4z at H
 refine Cw_seq ?_
 refine Cw_region ?_
 refine Ow_cons rfl (OpW_box (cs := (Desk.cells p0 vp0_chans vp0_waiting)) rfl rfl rfl (fun b60 => ?_))
 refine Ow_cons rfl (OpW_alloc (cs := (Desk.cells (Desk.mk [] [] 0) nilS nilS)) rfl rfl rfl rfl (fun b61 => ?_))
 refine Ow_nil ?_
 refine Cw_join (fun env' K' G' => ∃ (v113 : SV) (l114 : List Waiter), [(2, (.pointer (some ((⟨b60, 0, none⟩ : Addr).add 0)))), (4, (.pointer (some ((⟨b61, 0, none⟩ : Addr).add 0))))] = env' ∧ (.blk b61 102 (Desk.cells (Desk.mk [] [] 0) nilS nilS)) :: (.blk b60 102 (Desk.cells (Desk.mk p0.chans l114 p0.tick) vp0_chans v113)) :: (.tok 77 8 [(sv v113)]) :: G = G' ∧ M_84z p0 l114 = some y0 ∧ Slr TyWaiter K' (sv v113) l114) ?_ ?_
 ·skip
  obtain ⟨x116, hx117, H⟩ := bnd H
  obtain ⟨x119, hx120, H⟩ := bnd H
  obtain ⟨x125, hx126, H⟩ := bnd H
  obtain ⟨x129, hx130, H⟩ := bnd H
  refine Cw_region_any [.blk b61 102 (Desk.cells (Desk.mk [] [] 0) nilS nilS)] rfl (Inc.cons (.head _) Inc.nil) ?_
  refine Aw_q 0 rfl (by kernel_rfl) (by kernel_rfl) (by kernel_rfl) rfl rfl rfl (Qt_fieldAddr (m := 1) rfl rfl rfl rfl rfl) ?_
  refine Aw_q 2 rfl (by kernel_rfl) (by kernel_rfl) (by kernel_rfl) rfl rfl rfl (Qt_move rfl) ?_
  refine Aw_q 5 rfl (by kernel_rfl) (by kernel_rfl) (by kernel_rfl) rfl rfl rfl (Qt_fieldAddr (m := 1) rfl rfl rfl rfl rfl) ?_
  refine Aw_q 7 rfl (by kernel_rfl) (by kernel_rfl) (by kernel_rfl) rfl rfl rfl (Qt_move rfl) ?_
  refine Aw_q 8 rfl (by kernel_rfl) (by kernel_rfl) (by kernel_rfl) rfl rfl rfl (Qt_arith (e := wI (p1 + 1)) rfl rfl rfl rfl) ?_
  refine Aw_two 1 6 (by kernel_rfl) ?_ ?_
  ·skip
   refine id (Ax_mk rfl rfl (OpW_of_Qt rfl rfl (Qt_load1 (v := (sv vp0_waiting)) rfl rfl rfl (Rdc.blk (.tail _ (.head _)) rfl)) ⟨(Inc.cons (.head _) Inc.nil), ?_⟩))
   have hs135 := Slr.cut hp0_waiting hx117
   refine Aw_q 3 rfl (by kernel_rfl) (by kernel_rfl) (by kernel_rfl) rfl rfl rfl (Q_cutH (T := TyWaiter) hp0_waiting hx117 rfl rfl rfl rfl) ?_
   refine Aw_two 4 6 (by kernel_rfl) ?_ ?_
   ·skip
    refine id (Ax_mk rfl rfl ?_)
    refine OpW.shift (Shift.nilTok1 77 8 (Shift.done ?_))
    refine O_appTok (T := TyWaiter) (bytes := 96) (q := 0) rfl rfl rfl (Slr.nil TyWaiter _) (.head _) rfl (SrcT.sl hs135) hx120 rfl rfl rfl rfl rfl rfl rfl rfl (fun v136 K137 hK138 hs139 => ⟨_, .here, ⟨(Inc.cons (.tail _ (.head _)) Inc.nil), ?_⟩⟩)
    refine Aw_one 6 (by kernel_rfl) (Ax_mk rfl rfl (OpW_of_Qt rfl rfl (Qt_load1 (v := (sv vp0_waiting)) rfl rfl rfl (Rdc.blk (.tail _ (.tail _ (.head _))) rfl)) ⟨(Inc.cons (.tail _ (.head _)) Inc.nil), ?_⟩))
    have hs140 := Slr.cutL hp0_waiting hx126
    refine Aw_q 9 rfl (by kernel_rfl) (by kernel_rfl) (by kernel_rfl) rfl rfl rfl (Q_cutL (T := TyWaiter) hp0_waiting hx126 rfl rfl rfl rfl rfl) ?_
    refine Aw_one 10 (by kernel_rfl) (Ax_mk rfl rfl ?_)
    have hs141 := (hs140).mono hK138
    refine O_appTok (T := TyWaiter) (bytes := 96) (q := 0) rfl rfl rfl hs139 (.head _) rfl (SrcT.sl hs141) hx130 rfl rfl rfl rfl rfl rfl rfl rfl (fun v142 K143 hK144 hs145 => ⟨_, .here, ⟨(Inc.cons (.tail _ (.head _)) Inc.nil), ?_⟩⟩)
    refine Aw_q 11 rfl (by kernel_rfl) (by kernel_rfl) (by kernel_rfl) rfl rfl rfl (Qt_fieldAddr (m := 1) rfl rfl rfl rfl rfl) ?_
    refine Aw_one 12 (by kernel_rfl) (Ax_mk rfl rfl ?_)
    refine OpW_store (vs := [(sv v142)]) (all' := (Desk.cells (Desk.mk p0.chans x129 p0.tick) vp0_chans v142)) rfl rfl rfl rfl rfl (.there (.there .here)) rfl rfl rfl ⟨(Inc.cons (.tail _ (.head _)) Inc.nil), ?_⟩
    refine Aw_done (by kernel_rfl) ?_
    refine Shift.pull (.there (.there .here)) ?_
    refine Shift.pull (.there (.there .here)) ?_
    refine Shift.done ?_
    exact ⟨[(2, (.pointer (some ((⟨b60, 0, none⟩ : Addr).add 0)))), (4, (.pointer (some ((⟨b61, 0, none⟩ : Addr).add 0))))], ⟨rfl, rfl, trivial⟩, v142, x129, rfl, rfl, H, hs145⟩
   ·skip
    refine id (Ax_mk rfl rfl (OpW_of_Qt rfl rfl (Qt_load1 (v := (sv vp0_waiting)) rfl rfl rfl (Rdc.blk (.tail _ (.head _)) rfl)) ⟨(Inc.cons (.head _) Inc.nil), ?_⟩))
    have hs146 := Slr.cutL hp0_waiting hx126
    refine Aw_q 9 rfl (by kernel_rfl) (by kernel_rfl) (by kernel_rfl) rfl rfl rfl (Q_cutL (T := TyWaiter) hp0_waiting hx126 rfl rfl rfl rfl rfl) ?_
    refine Aw_one 4 (by kernel_rfl) (Ax_mk rfl rfl ?_)
    refine OpW.shift (Shift.nilTok1 77 8 (Shift.done ?_))
    refine O_appTok (T := TyWaiter) (bytes := 96) (q := 0) rfl rfl rfl (Slr.nil TyWaiter _) (.head _) rfl (SrcT.sl hs135) hx120 rfl rfl rfl rfl rfl rfl rfl rfl (fun v147 K148 hK149 hs150 => ⟨_, .here, ⟨(Inc.cons (.tail _ (.head _)) Inc.nil), ?_⟩⟩)
    refine Aw_one 10 (by kernel_rfl) (Ax_mk rfl rfl ?_)
    have hs151 := (hs146).mono hK149
    refine O_appTok (T := TyWaiter) (bytes := 96) (q := 0) rfl rfl rfl hs150 (.head _) rfl (SrcT.sl hs151) hx130 rfl rfl rfl rfl rfl rfl rfl rfl (fun v152 K153 hK154 hs155 => ⟨_, .here, ⟨(Inc.cons (.tail _ (.head _)) Inc.nil), ?_⟩⟩)
    refine Aw_q 11 rfl (by kernel_rfl) (by kernel_rfl) (by kernel_rfl) rfl rfl rfl (Qt_fieldAddr (m := 1) rfl rfl rfl rfl rfl) ?_
    refine Aw_one 12 (by kernel_rfl) (Ax_mk rfl rfl ?_)
    refine OpW_store (vs := [(sv v152)]) (all' := (Desk.cells (Desk.mk p0.chans x129 p0.tick) vp0_chans v152)) rfl rfl rfl rfl rfl (.there (.there .here)) rfl rfl rfl ⟨(Inc.cons (.tail _ (.head _)) Inc.nil), ?_⟩
    refine Aw_done (by kernel_rfl) ?_
    refine Shift.pull (.there (.there .here)) ?_
    refine Shift.pull (.there (.there .here)) ?_
    refine Shift.done ?_
    exact ⟨[(2, (.pointer (some ((⟨b60, 0, none⟩ : Addr).add 0)))), (4, (.pointer (some ((⟨b61, 0, none⟩ : Addr).add 0))))], ⟨rfl, rfl, trivial⟩, v152, x129, rfl, rfl, H, hs155⟩
  ·skip
   refine id (Ax_mk rfl rfl (OpW_of_Qt rfl rfl (Qt_load1 (v := (sv vp0_waiting)) rfl rfl rfl (Rdc.blk (.tail _ (.head _)) rfl)) ⟨(Inc.cons (.head _) Inc.nil), ?_⟩))
   have hs156 := Slr.cutL hp0_waiting hx126
   refine Aw_q 9 rfl (by kernel_rfl) (by kernel_rfl) (by kernel_rfl) rfl rfl rfl (Q_cutL (T := TyWaiter) hp0_waiting hx126 rfl rfl rfl rfl rfl) ?_
   refine Aw_one 1 (by kernel_rfl) (Ax_mk rfl rfl (OpW_of_Qt rfl rfl (Qt_load1 (v := (sv vp0_waiting)) rfl rfl rfl (Rdc.blk (.tail _ (.head _)) rfl)) ⟨(Inc.cons (.head _) Inc.nil), ?_⟩))
   have hs157 := Slr.cut hp0_waiting hx117
   refine Aw_q 3 rfl (by kernel_rfl) (by kernel_rfl) (by kernel_rfl) rfl rfl rfl (Q_cutH (T := TyWaiter) hp0_waiting hx117 rfl rfl rfl rfl) ?_
   refine Aw_one 4 (by kernel_rfl) (Ax_mk rfl rfl ?_)
   refine OpW.shift (Shift.nilTok1 77 8 (Shift.done ?_))
   refine O_appTok (T := TyWaiter) (bytes := 96) (q := 0) rfl rfl rfl (Slr.nil TyWaiter _) (.head _) rfl (SrcT.sl hs157) hx120 rfl rfl rfl rfl rfl rfl rfl rfl (fun v158 K159 hK160 hs161 => ⟨_, .here, ⟨(Inc.cons (.tail _ (.head _)) Inc.nil), ?_⟩⟩)
   refine Aw_one 10 (by kernel_rfl) (Ax_mk rfl rfl ?_)
   have hs162 := (hs156).mono hK160
   refine O_appTok (T := TyWaiter) (bytes := 96) (q := 0) rfl rfl rfl hs161 (.head _) rfl (SrcT.sl hs162) hx130 rfl rfl rfl rfl rfl rfl rfl rfl (fun v163 K164 hK165 hs166 => ⟨_, .here, ⟨(Inc.cons (.tail _ (.head _)) Inc.nil), ?_⟩⟩)
   refine Aw_q 11 rfl (by kernel_rfl) (by kernel_rfl) (by kernel_rfl) rfl rfl rfl (Qt_fieldAddr (m := 1) rfl rfl rfl rfl rfl) ?_
   refine Aw_one 12 (by kernel_rfl) (Ax_mk rfl rfl ?_)
   refine OpW_store (vs := [(sv v163)]) (all' := (Desk.cells (Desk.mk p0.chans x129 p0.tick) vp0_chans v163)) rfl rfl rfl rfl rfl (.there (.there .here)) rfl rfl rfl ⟨(Inc.cons (.tail _ (.head _)) Inc.nil), ?_⟩
   refine Aw_done (by kernel_rfl) ?_
   refine Shift.pull (.there (.there .here)) ?_
   refine Shift.pull (.there (.there .here)) ?_
   refine Shift.done ?_
   exact ⟨[(2, (.pointer (some ((⟨b60, 0, none⟩ : Addr).add 0)))), (4, (.pointer (some ((⟨b61, 0, none⟩ : Addr).add 0))))], ⟨rfl, rfl, trivial⟩, v163, x129, rfl, rfl, H, hs166⟩
 rintro _ K167 _ hK168 ⟨v113, l114, rfl, rfl, H, hs115⟩
 unfold M_84z at H
 refine Cw_seq ?_
 refine Cw_region ?_
 refine Ow_q rfl rfl rfl (Qt_loadA (m := 3) (cs := (Desk.cells (Desk.mk p0.chans l114 p0.tick) vp0_chans v113)) rfl rfl rfl rfl ⟨rfl, Rdc.blk (.tail _ (.head _)) rfl⟩) ?_
 refine Ow_cons rfl (OpW_store (vs := (Desk.cells (Desk.mk p0.chans l114 p0.tick) vp0_chans v113)) (all' := (Desk.cells (Desk.mk p0.chans l114 p0.tick) vp0_chans v113)) rfl rfl rfl rfl rfl .here rfl rfl rfl ?_)
 refine Ow_nil ?_
 refine Cw_ret ?_
 obtain ey0 := inj1 H
 subst y0
 refine ⟨(by first | exact .inl rfl | exact .inr rfl), [(.agg (Desk.cells (Desk.mk p0.chans l114 p0.tick) vp0_chans v113).toArray)], ⟨(.agg (Desk.cells (Desk.mk p0.chans l114 p0.tick) vp0_chans v113).toArray), _, rfl, ⟨_, 3, (Desk.cells (Desk.mk p0.chans l114 p0.tick) vp0_chans v113), rfl, rfl, rfl, rfl, ⟨rfl, Rdc.blk (.head _) rfl⟩, rfl⟩, rfl⟩, ?_⟩
 refine Shift.pull (.there (.there .here)) ?_
 refine Shift.rem (.there .here) ?_
 refine Shift.rem (.there .here) ?_
 have hs169 := (hp0_chans).mono hK168
 refine Shift.done ?_
 exact ⟨vp0_chans, v113, rfl, rfl, hs169, hs115⟩

set_option maxHeartbeats 1000000 in
theorem c_M_22z (p0 : List Done) (vp0 : SV) (p1 : Int) (p2 : Result) (y0 : List Done) (H : M_22z p0 p1 p2 = some y0) (K : Kp) (G : List Ent) (hp0 : Slr TyDone K (sv vp0) p0) :
  Fc Try.prog 118 #[(sv vp0), (.int .i64 p1), (.agg (Result.cells p2).toArray)] K (G) (fun v K' G' => ∃ (wy0 : SV), v = (sv wy0) ∧ (.tok 108 6 [(sv wy0)]) :: G = G' ∧ Slr TyDone K' (sv wy0) y0) := by
 refine Fc_body Try.func118 rfl Try.ntmps118 Try.results118 rfl ?_
 unfold M_22z at H
 refine Cw_seq ?_
 refine Cw_region ?_
 refine Ow_cons rfl (OpW_box (cs := (Result.cells p2)) rfl rfl rfl (fun b97 => ?_))
 refine Ow_q rfl rfl rfl (Qt_assign rfl) ?_
 refine Ow_nil ?_
 refine Cw_seq ?_
 refine Cw_region ?_
 refine Ow_q rfl rfl rfl (Qt_move rfl) ?_
 refine Ow_q rfl rfl rfl (Q_len (T := TyDone) hp0 rfl rfl) ?_
 refine Ow_q rfl rfl rfl (Qt_assign rfl) ?_
 refine Ow_nil ?_
 refine Cw_join (fun env' K' G' => ∃ (i122 : Int), [(0, (sv vp0)), (1, (.int .i64 p1)), (5, (.pointer (some ((⟨b97, 0, none⟩ : Addr).add 0)))), (7, (.int .i64 i122))] = env' ∧ (.blk b97 25 (Result.cells p2)) :: G = G' ∧ M_85z p0 p1 p2 i122 = some y0) ?_ ?_
 ·skip
  refine Cw_block ?_
  refine Cw_loopM (fun n147 env' K' G' => ∃ (i146 : Int), [(0, (sv vp0)), (1, (.int .i64 p1)), (5, (.pointer (some ((⟨b97, 0, none⟩ : Addr).add 0)))), (7, (.int .i64 i146))] = env' ∧ K = K' ∧ (.blk b97 25 (Result.cells p2)) :: G = G' ∧ lp1 (M_137z p0 p1 p2) n147 i146 = some y0) BIG ?_ ?_
  ·skip
   refine Shift.done ?_
   exact ⟨[(0, (sv vp0)), (1, (.int .i64 p1)), (5, (.pointer (some ((⟨b97, 0, none⟩ : Addr).add 0)))), (7, (.int .i64 (p0.length : Int)))], ⟨rfl, rfl, rfl, rfl, trivial⟩, (p0.length : Int), rfl, rfl, rfl, H⟩
  rintro n147 _ _ _ - ⟨i146, rfl, rfl, rfl, H⟩
  obtain ⟨m148, k149, rfl, hkk150, H⟩ := lps1 H
  unfold M_137z at H
  refine Cw_seq ?_
  refine Cw_join (fun env' K' G' => ∃ (t165 : Bool), [(0, (sv vp0)), (1, (.int .i64 p1)), (5, (.pointer (some ((⟨b97, 0, none⟩ : Addr).add 0)))), (7, (.int .i64 i146)), (22, (.bool t165))] = env' ∧ K = K' ∧ (.blk b97 25 (Result.cells p2)) :: G = G' ∧ M_86z p0 p1 i146 p2 k149 t165 = some y0) ?_ ?_
  ·skip
   refine Cw_region ?_
   refine Ow_q rfl rfl rfl (Qt_move rfl) ?_
   refine Ow_q rfl rfl rfl (Qt_cmp rfl rfl rfl) ?_
   refine Ow_q rfl rfl rfl (Qt_move rfl) ?_
   refine Ow_caseG rfl rfl rfl ?_ ?_
   ·intro h166
    have h166 := dcd_t (h166)
    have H := ift h166 H
    refine Ow_qw rfl rfl rfl rfl rfl rfl (Qt_move rfl) ?_
    refine Ow_qw rfl rfl rfl rfl rfl rfl (Qt_move rfl) ?_
    refine Ow_qw rfl rfl rfl rfl rfl rfl (Qt_arith (e := wI (i146 - 1)) rfl rfl rfl rfl) ?_
    obtain ⟨x167, hx168, H⟩ := bnd H
    obtain ⟨r169, hr170, hk171⟩ := Slr.at hp0 hx168
    obtain rfl := hr170
    refine Ow_qw rfl rfl rfl rfl rfl rfl (Q_ix (T := TyDone) hp0 hx168 rfl rfl rfl rfl rfl) ?_
    refine Ow_qw rfl rfl rfl rfl rfl rfl (Qt_fieldAddr (m := 0) rfl rfl rfl rfl rfl) ?_
    refine Ow_qw rfl rfl rfl rfl rfl rfl (Qt_load1 (v := (.int .i64 x167.thread)) rfl rfl rfl (Rdc.k hk171 rfl)) ?_
    refine Ow_qw rfl rfl rfl rfl rfl rfl (Qt_move rfl) ?_
    refine Ow_qw rfl rfl rfl rfl rfl rfl (Qt_cmp rfl rfl rfl) ?_
    refine Ow_q rfl rfl rfl (Qt_pick_t rfl rfl) ?_
    refine Ow_nil ?_
    refine Shift.done ?_
    exact ⟨[(0, (sv vp0)), (1, (.int .i64 p1)), (5, (.pointer (some ((⟨b97, 0, none⟩ : Addr).add 0)))), (7, (.int .i64 i146)), (22, (.bool (dcd (x167.thread > p1))))], ⟨rfl, rfl, rfl, rfl, rfl, trivial⟩, (dcd (x167.thread > p1)), rfl, rfl, rfl, H⟩
   ·intro h166
    have h166 := dcd_f (h166)
    have H := iff_ h166 H
    refine Ow_pass rfl rfl rfl rfl rfl rfl rfl ?_
    refine Ow_pass rfl rfl rfl rfl rfl rfl rfl ?_
    refine Ow_pass rfl rfl rfl rfl rfl rfl rfl ?_
    refine Ow_pass rfl rfl rfl rfl rfl rfl rfl ?_
    refine Ow_pass rfl rfl rfl rfl rfl rfl rfl ?_
    refine Ow_pass rfl rfl rfl rfl rfl rfl rfl ?_
    refine Ow_pass rfl rfl rfl rfl rfl rfl rfl ?_
    refine Ow_pass rfl rfl rfl rfl rfl rfl rfl ?_
    refine Ow_q rfl rfl rfl (Qt_pick_f rfl rfl) ?_
    refine Ow_nil ?_
    refine Shift.done ?_
    exact ⟨[(0, (sv vp0)), (1, (.int .i64 p1)), (5, (.pointer (some ((⟨b97, 0, none⟩ : Addr).add 0)))), (7, (.int .i64 i146)), (22, (.bool false))], ⟨rfl, rfl, rfl, rfl, rfl, trivial⟩, false, rfl, rfl, rfl, H⟩
  rintro _ _ _ - ⟨t165, rfl, rfl, rfl, H⟩
  unfold M_86z at H
  refine Cw_cond rfl ?_ ?_
  ·intro h172
   have H := ift h172 H
   refine Cw_skip ?_
   refine Cw_block ?_
   refine Cw_region ?_
   refine Ow_q rfl rfl rfl (Qt_move rfl) ?_
   refine Ow_q rfl rfl rfl (Qt_arith (e := wI (i146 - 1)) rfl rfl rfl rfl) ?_
   refine Ow_q rfl rfl rfl (Qt_assign rfl) ?_
   refine Ow_nil ?_
   refine Shift.done ?_
   exact ⟨[(0, (sv vp0)), (1, (.int .i64 p1)), (5, (.pointer (some ((⟨b97, 0, none⟩ : Addr).add 0)))), (7, (.int .i64 (wI (i146 - 1))))], ⟨rfl, rfl, rfl, rfl, trivial⟩, _, Nat.lt_succ_self _, (wI (i146 - 1)), rfl, rfl, rfl, (hkk150 ▸ H)⟩
  ·intro h172
   have H := iff_ (btf h172) H
   refine Cw_exit ?_
   refine Shift.done ?_
   exact ⟨[(0, (sv vp0)), (1, (.int .i64 p1)), (5, (.pointer (some ((⟨b97, 0, none⟩ : Addr).add 0)))), (7, (.int .i64 i146))], ⟨rfl, rfl, rfl, rfl, trivial⟩, i146, rfl, rfl, H⟩
 rintro _ K173 _ hK174 ⟨i122, rfl, rfl, H⟩
 unfold M_85z at H
 refine Cw_seq ?_
 refine Cw_region ?_
 refine Ow_q rfl rfl rfl (Qt_move rfl) ?_
 refine Ow_q rfl rfl rfl (Qt_move rfl) ?_
 obtain ⟨x175, hx176, H⟩ := bnd H
 have hs177 := (hp0).mono hK174
 have hs178 := Slr.cut hs177 hx176
 refine Ow_q rfl rfl rfl (Q_cutH (T := TyDone) hs177 hx176 rfl rfl rfl rfl) ?_
 refine Ow.shift (Shift.nilTok1 108 6 (Shift.done ?_))
 obtain ⟨x179, hx180, H⟩ := bnd H
 refine Ow_cons rfl (O_appTok (T := TyDone) (bytes := 48) (q := 0) rfl rfl rfl (Slr.nil TyDone _) (.head _) rfl (SrcT.sl hs178) hx180 rfl rfl rfl rfl rfl rfl rfl rfl (fun v181 K182 hK183 hs184 => ⟨_, .here, ?_⟩))
 refine Ow_q rfl rfl rfl (Qt_assign rfl) ?_
 refine Ow_nil ?_
 refine Cw_seq ?_
 obtain ⟨x218, hx219, H⟩ := bnd H
 obtain ⟨x224, hx225, H⟩ := bnd H
 obtain ⟨x228, hx229, H⟩ := bnd H
 refine Cw_region_any [.blk b97 25 (Result.cells p2)] rfl (Inc.cons (.tail _ (.head _)) Inc.nil) ?_
 refine Aw_q 0 rfl (by kernel_rfl) (by kernel_rfl) (by kernel_rfl) rfl rfl rfl (Qt_move rfl) ?_
 refine Aw_q 1 rfl (by kernel_rfl) (by kernel_rfl) (by kernel_rfl) rfl rfl rfl (Qt_move rfl) ?_
 refine Aw_q 2 rfl (by kernel_rfl) (by kernel_rfl) (by kernel_rfl) rfl rfl rfl (Qt_loadA (m := 5) (cs := (Result.cells p2)) rfl rfl rfl rfl ⟨rfl, Rdc.blk (.head _) rfl⟩) ?_
 refine Aw_q 3 rfl (by kernel_rfl) (by kernel_rfl) (by kernel_rfl) rfl rfl rfl (Qt_build (cs := (Done.cells (Done.mk p1 p2))) rfl rfl rfl rfl rfl rfl) ?_
 refine Aw_q 6 rfl (by kernel_rfl) (by kernel_rfl) (by kernel_rfl) rfl rfl rfl (Qt_move rfl) ?_
 refine Aw_q 7 rfl (by kernel_rfl) (by kernel_rfl) (by kernel_rfl) rfl rfl rfl (Qt_move rfl) ?_
 have hs234 := (hs177).mono hK183
 have hs235 := Slr.cutL hs234 hx225
 refine Aw_q 8 rfl (by kernel_rfl) (by kernel_rfl) (by kernel_rfl) rfl rfl rfl (Q_cutL (T := TyDone) hs234 hx225 rfl rfl rfl rfl rfl) ?_
 refine Aw_one 4 (by kernel_rfl) (Ax_mk rfl rfl ?_)
 have hR237 : RowR TyDone K182 [(Done.cells (Done.mk p1 p2))] [(Done.mk p1 p2)] := RowR.cons rfl (RowR.nil)
 refine O_lit (T := TyDone) (rows := [(Done.cells (Done.mk p1 p2))]) (l := [(Done.mk p1 p2)]) rfl rfl rfl hR237 rfl rfl rfl rfl rfl rfl rfl rfl (fun v236 => ⟨(Inc.cons (.tail _ (.tail _ (.head _))) Inc.nil), ?_⟩)
 refine Aw_one 5 (by kernel_rfl) (Ax_mk rfl rfl ?_)
 refine O_appTok (T := TyDone) (bytes := 48) (q := 0) rfl rfl rfl hs184 (.tail _ (.head _)) rfl (SrcT.row (.head _) hR237 rfl) hx219 rfl rfl rfl rfl rfl rfl rfl rfl (fun v238 K239 hK240 hs241 => ⟨_, (.there .here), ⟨(Inc.cons (.tail _ (.tail _ (.head _))) Inc.nil), ?_⟩⟩)
 refine Aw.shift (Shift.rem .here (Shift.done ⟨(Inc.cons (.tail _ (.head _)) Inc.nil), ?_⟩))
 refine Aw_one 9 (by kernel_rfl) (Ax_mk rfl rfl ?_)
 have hs242 := (hs235).mono hK240
 refine O_appTok (T := TyDone) (bytes := 48) (q := 0) rfl rfl rfl hs241 (.head _) rfl (SrcT.sl hs242) hx229 rfl rfl rfl rfl rfl rfl rfl rfl (fun v243 K244 hK245 hs246 => ⟨_, .here, ⟨(Inc.cons (.tail _ (.head _)) Inc.nil), ?_⟩⟩)
 refine Aw_q 10 rfl (by kernel_rfl) (by kernel_rfl) (by kernel_rfl) rfl rfl rfl (Qt_assign rfl) ?_
 refine Aw_done (by kernel_rfl) ?_
 refine Cw_ret ?_
 obtain ey0 := inj1 H
 subst y0
 refine ⟨(by first | exact .inl rfl | exact .inr rfl), [(sv v243)], ⟨(sv v243), _, rfl, rfl, rfl⟩, ?_⟩
 refine Shift.rem (.there .here) ?_
 refine Shift.done ?_
 exact ⟨v243, rfl, rfl, hs246⟩

set_option maxHeartbeats 1000000 in
theorem c_M_88z (p0 : Desk) (vp0_chans : SV) (vp0_waiting : SV) (p1 : Int) (p2 : Op) (vp2_cases : SV) (vp2_draws : SV) (y0 : Desk) (y1 : List Done) (H : M_88z p0 p1 p2 = some (y0, y1)) (K : Kp) (G : List Ent) (hp0_chans : Slr TyChan K (sv vp0_chans) p0.chans) (hp0_waiting : Slr TyWaiter K (sv vp0_waiting) p0.waiting) (hp2_cases : Slr TyCase K (sv vp2_cases) p2.cases) (hp2_draws : Slr Ty.i64 K (sv vp2_draws) p2.draws) :
  Fc Try.prog 101 #[(.agg (Desk.cells p0 vp0_chans vp0_waiting).toArray), (.int .i64 p1), (.agg (Op.cells p2 vp2_cases vp2_draws).toArray)] K (G) (fun v K' G' => ∃ (wy0_chans : SV) (wy0_waiting : SV) (wy1 : SV), v = (.tuple #[(.agg (Desk.cells y0 wy0_chans wy0_waiting).toArray), (sv wy1)]) ∧ (.tok 108 6 [(sv wy1)]) :: G = G' ∧ Slr TyChan K' (sv wy0_chans) y0.chans ∧ Slr TyWaiter K' (sv wy0_waiting) y0.waiting ∧ Slr TyDone K' (sv wy1) y1) := by
 refine Fc_body Try.func101 rfl Try.ntmps101 Try.results101 rfl ?_
 unfold M_88z at H
 refine Cw_seq ?_
 refine Cw_region ?_
 refine Ow_cons rfl (OpW_box (cs := (Desk.cells p0 vp0_chans vp0_waiting)) rfl rfl rfl (fun b321 => ?_))
 refine Ow_cons rfl (OpW_box (cs := (Op.cells p2 vp2_cases vp2_draws)) rfl rfl rfl (fun b322 => ?_))
 refine Ow_cons rfl (OpW_alloc (cs := (Desk.cells (Desk.mk [] [] 0) nilS nilS)) rfl rfl rfl rfl (fun b323 => ?_))
 refine Ow_q rfl rfl rfl (Qt_assign rfl) ?_
 refine Ow_nil ?_
 refine Cw_seq ?_
 refine Cw_join (fun env' K' G' => ∃ (t346 : Bool), [(1, (.int .i64 p1)), (3, (.pointer (some ((⟨b321, 0, none⟩ : Addr).add 0)))), (5, (.pointer (some ((⟨b322, 0, none⟩ : Addr).add 0)))), (6, (.pointer (some ((⟨b323, 0, none⟩ : Addr).add 0)))), (34, (.bool t346))] = env' ∧ K = K' ∧ (.blk b323 102 (Desk.cells (Desk.mk [] [] 0) nilS nilS)) :: (.blk b322 38 (Op.cells p2 vp2_cases vp2_draws)) :: (.blk b321 102 (Desk.cells p0 vp0_chans vp0_waiting)) :: G = G' ∧ M_50z p1 p2 p0 t346 = some (y0, y1)) ?_ ?_
 ·skip
  refine Cw_region ?_
  refine Ow_q rfl rfl rfl (Qt_fieldAddr (m := 2) rfl rfl rfl rfl rfl) ?_
  refine Ow_q rfl rfl rfl (Qt_load1 (v := (.int .i64 p2.channel)) rfl rfl rfl (Rdc.blk (.tail _ (.head _)) rfl)) ?_
  refine Ow_q rfl rfl rfl (Qt_cmp rfl rfl rfl) ?_
  refine Ow_q rfl rfl rfl (Qt_move rfl) ?_
  refine Ow_caseG rfl rfl rfl ?_ ?_
  ·intro h347
   have h347 := dcd_t (h347)
   have H := ift h347 H
   refine Ow_pass rfl rfl rfl rfl rfl rfl rfl ?_
   refine Ow_pass rfl rfl rfl rfl rfl rfl rfl ?_
   refine Ow_pass rfl rfl rfl rfl rfl rfl rfl ?_
   refine Ow_pass rfl rfl rfl rfl rfl rfl rfl ?_
   refine Ow_pass rfl rfl rfl rfl rfl rfl rfl ?_
   refine Ow_pass rfl rfl rfl rfl rfl rfl rfl ?_
   refine Ow_q rfl rfl rfl (Qt_pick_t rfl rfl) ?_
   refine Ow_q rfl rfl rfl (Qt_move rfl) ?_
   refine Ow_pass rfl rfl rfl rfl rfl rfl rfl ?_
   refine Ow_pass rfl rfl rfl rfl rfl rfl rfl ?_
   refine Ow_pass rfl rfl rfl rfl rfl rfl rfl ?_
   refine Ow_pass rfl rfl rfl rfl rfl rfl rfl ?_
   refine Ow_pass rfl rfl rfl rfl rfl rfl rfl ?_
   refine Ow_pass rfl rfl rfl rfl rfl rfl rfl ?_
   refine Ow_pass rfl rfl rfl rfl rfl rfl rfl ?_
   refine Ow_q rfl rfl rfl (Qt_pick_t rfl rfl) ?_
   refine Ow_nil ?_
   refine Shift.pull (.there (.there .here)) ?_
   refine Shift.pull (.there (.there .here)) ?_
   refine Shift.pull (.there (.there .here)) ?_
   refine Shift.done ?_
   exact ⟨[(1, (.int .i64 p1)), (3, (.pointer (some ((⟨b321, 0, none⟩ : Addr).add 0)))), (5, (.pointer (some ((⟨b322, 0, none⟩ : Addr).add 0)))), (6, (.pointer (some ((⟨b323, 0, none⟩ : Addr).add 0)))), (34, (.bool true))], ⟨rfl, rfl, rfl, rfl, rfl, trivial⟩, true, rfl, rfl, rfl, H⟩
  ·intro h347
   have h347 := dcd_f (h347)
   have H := iff_ h347 H
   refine Ow_qw rfl rfl rfl rfl rfl rfl (Qt_fieldAddr (m := 2) rfl rfl rfl rfl rfl) ?_
   refine Ow_qw rfl rfl rfl rfl rfl rfl (Qt_load1 (v := (.int .i64 p2.channel)) rfl rfl rfl (Rdc.blk (.tail _ (.head _)) rfl)) ?_
   refine Ow_qw rfl rfl rfl rfl rfl rfl (Qt_fieldAddr (m := 0) rfl rfl rfl rfl rfl) ?_
   refine Ow_qw rfl rfl rfl rfl rfl rfl (Qt_load1 (v := (sv vp0_chans)) rfl rfl rfl (Rdc.blk (.tail _ (.tail _ (.head _))) rfl)) ?_
   refine Ow_qw rfl rfl rfl rfl rfl rfl (Q_len (T := TyChan) hp0_chans rfl rfl) ?_
   refine Ow_qw rfl rfl rfl rfl rfl rfl (Qt_cmp rfl rfl rfl) ?_
   refine Ow_q rfl rfl rfl (Qt_pick_f rfl rfl) ?_
   refine Ow_q rfl rfl rfl (Qt_move rfl) ?_
   refine Ow_caseG rfl rfl rfl ?_ ?_
   ·intro h348
    have h348 := dcd_t (h348)
    have H := ift h348 H
    refine Ow_pass rfl rfl rfl rfl rfl rfl rfl ?_
    refine Ow_pass rfl rfl rfl rfl rfl rfl rfl ?_
    refine Ow_pass rfl rfl rfl rfl rfl rfl rfl ?_
    refine Ow_pass rfl rfl rfl rfl rfl rfl rfl ?_
    refine Ow_pass rfl rfl rfl rfl rfl rfl rfl ?_
    refine Ow_pass rfl rfl rfl rfl rfl rfl rfl ?_
    refine Ow_pass rfl rfl rfl rfl rfl rfl rfl ?_
    refine Ow_q rfl rfl rfl (Qt_pick_t rfl rfl) ?_
    refine Ow_nil ?_
    refine Shift.pull (.there (.there .here)) ?_
    refine Shift.pull (.there (.there .here)) ?_
    refine Shift.pull (.there (.there .here)) ?_
    refine Shift.done ?_
    exact ⟨[(1, (.int .i64 p1)), (3, (.pointer (some ((⟨b321, 0, none⟩ : Addr).add 0)))), (5, (.pointer (some ((⟨b322, 0, none⟩ : Addr).add 0)))), (6, (.pointer (some ((⟨b323, 0, none⟩ : Addr).add 0)))), (34, (.bool true))], ⟨rfl, rfl, rfl, rfl, rfl, trivial⟩, true, rfl, rfl, rfl, H⟩
   ·intro h348
    have h348 := dcd_f (h348)
    have H := iff_ h348 H
    refine Ow_qw rfl rfl rfl rfl rfl rfl (Qt_fieldAddr (m := 0) rfl rfl rfl rfl rfl) ?_
    refine Ow_qw rfl rfl rfl rfl rfl rfl (Qt_load1 (v := (sv vp0_chans)) rfl rfl rfl (Rdc.blk (.tail _ (.tail _ (.head _))) rfl)) ?_
    refine Ow_qw rfl rfl rfl rfl rfl rfl (Qt_fieldAddr (m := 2) rfl rfl rfl rfl rfl) ?_
    refine Ow_qw rfl rfl rfl rfl rfl rfl (Qt_load1 (v := (.int .i64 p2.channel)) rfl rfl rfl (Rdc.blk (.tail _ (.head _)) rfl)) ?_
    obtain ⟨x349, hx350, H⟩ := bnd H
    obtain ⟨r351, hr352, hk353⟩ := Slr.at hp0_chans hx350
    obtain ⟨v354, rfl, hs355⟩ := hr352
    refine Ow_qw rfl rfl rfl rfl rfl rfl (Q_ix (T := TyChan) hp0_chans hx350 rfl rfl rfl rfl rfl) ?_
    refine Ow_qw rfl rfl rfl rfl rfl rfl (Qt_fieldAddr (m := 2) rfl rfl rfl rfl rfl) ?_
    refine Ow_qw rfl rfl rfl rfl rfl rfl (Qt_load1 (v := (.bool x349.closed)) rfl rfl rfl (Rdc.k hk353 rfl)) ?_
    refine Ow_q rfl rfl rfl (Qt_pick_f rfl rfl) ?_
    refine Ow_nil ?_
    refine Shift.pull (.there (.there .here)) ?_
    refine Shift.pull (.there (.there .here)) ?_
    refine Shift.pull (.there (.there .here)) ?_
    refine Shift.done ?_
    exact ⟨[(1, (.int .i64 p1)), (3, (.pointer (some ((⟨b321, 0, none⟩ : Addr).add 0)))), (5, (.pointer (some ((⟨b322, 0, none⟩ : Addr).add 0)))), (6, (.pointer (some ((⟨b323, 0, none⟩ : Addr).add 0)))), (34, (.bool x349.closed))], ⟨rfl, rfl, rfl, rfl, rfl, trivial⟩, x349.closed, rfl, rfl, rfl, H⟩
 rintro _ _ _ - ⟨t346, rfl, rfl, rfl, H⟩
 unfold M_50z at H
 refine Cw_cond rfl ?_ ?_
 ·intro h356
  have H := ift h356 H
  refine Cw_seq ?_
  refine Cw_region ?_
  refine Ow_q rfl rfl rfl (Qt_loadA (m := 3) (cs := (Desk.cells p0 vp0_chans vp0_waiting)) rfl rfl rfl rfl ⟨rfl, Rdc.blk (.tail _ (.tail _ (.head _))) rfl⟩) ?_
  refine Ow_q rfl rfl rfl (Qt_move rfl) ?_
  refine Ow_q rfl rfl rfl (Qt_build (cs := (Result.cells (Result.mk 5 (-1) 0 false 0))) rfl rfl rfl rfl rfl rfl) ?_
  refine Ow_q rfl rfl rfl (Qt_build (cs := (Done.cells (Done.mk p1 (Result.mk 5 (-1) 0 false 0)))) rfl rfl rfl rfl rfl rfl) ?_
  have hR358 : RowR TyDone K [(Done.cells (Done.mk p1 (Result.mk 5 (-1) 0 false 0)))] [(Done.mk p1 (Result.mk 5 (-1) 0 false 0))] := RowR.cons rfl (RowR.nil)
  refine Ow_cons rfl (O_lit (T := TyDone) (rows := [(Done.cells (Done.mk p1 (Result.mk 5 (-1) 0 false 0)))]) (l := [(Done.mk p1 (Result.mk 5 (-1) 0 false 0))]) rfl rfl rfl hR358 rfl rfl rfl rfl rfl rfl rfl rfl (fun v357 => ?_))
  refine Ow_cons rfl (OpW_store (vs := (Desk.cells p0 vp0_chans vp0_waiting)) (all' := (Desk.cells p0 vp0_chans vp0_waiting)) rfl rfl rfl rfl rfl (.there .here) rfl rfl rfl ?_)
  refine Ow_q rfl rfl rfl (Qt_assign rfl) ?_
  refine Ow_nil ?_
  refine Cw_ret ?_
  obtain ⟨ey0, ey1⟩ := inj2 H
  subst y0 y1
  refine ⟨(by first | exact .inl rfl | exact .inr rfl), [(.agg (Desk.cells p0 vp0_chans vp0_waiting).toArray), (sv v357)], ⟨(.agg (Desk.cells p0 vp0_chans vp0_waiting).toArray), _, rfl, ⟨_, 3, (Desk.cells p0 vp0_chans vp0_waiting), rfl, rfl, rfl, rfl, ⟨rfl, Rdc.blk (.tail _ (.head _)) rfl⟩, rfl⟩, ⟨(sv v357), _, rfl, rfl, rfl⟩⟩, ?_⟩
  refine Shift.settle (T := TyDone) .here hR358 rfl ?_
  intro K359 hK360 hs361
  refine Shift.rem (.there .here) ?_
  refine Shift.rem (.there .here) ?_
  refine Shift.rem (.there .here) ?_
  have hs362 := (hp0_chans).mono hK360
  have hs363 := (hp0_waiting).mono hK360
  refine Shift.done ?_
  exact ⟨vp0_chans, vp0_waiting, v357, rfl, rfl, hs362, hs363, hs361⟩
 ·intro h356
  have H := iff_ (btf h356) H
  refine Cw_skip ?_
  refine Cw_seq ?_
  refine Cw_region ?_
  refine Ow_q rfl rfl rfl (Qt_fieldAddr (m := 0) rfl rfl rfl rfl rfl) ?_
  refine Ow_q rfl rfl rfl (Qt_load1 (v := (sv vp0_chans)) rfl rfl rfl (Rdc.blk (.tail _ (.tail _ (.head _))) rfl)) ?_
  refine Ow_q rfl rfl rfl (Qt_fieldAddr (m := 2) rfl rfl rfl rfl rfl) ?_
  refine Ow_q rfl rfl rfl (Qt_load1 (v := (.int .i64 p2.channel)) rfl rfl rfl (Rdc.blk (.tail _ (.head _)) rfl)) ?_
  obtain ⟨x364, hx365, H⟩ := bnd H
  obtain ⟨r366, hr367, hk368⟩ := Slr.at hp0_chans hx365
  obtain ⟨v369, rfl, hs370⟩ := hr367
  refine Ow_q rfl rfl rfl (Q_ix (T := TyChan) hp0_chans hx365 rfl rfl rfl rfl rfl) ?_
  refine Ow_q rfl rfl rfl (Qt_loadA (m := 3) (cs := (Chan.cells x364 v369)) rfl rfl rfl rfl ⟨rfl, Rdc.k hk368 rfl⟩) ?_
  refine Ow_cons rfl (OpW_alloc (cs := (Chan.cells (Chan.mk 0 [] false) nilS)) rfl rfl rfl rfl (fun b371 => ?_))
  refine Ow_cons rfl (OpW_store (vs := (Chan.cells x364 v369)) (all' := (Chan.cells x364 v369)) rfl rfl rfl rfl rfl .here rfl rfl rfl ?_)
  refine Ow_nil ?_
  refine Cw_seq ?_
  refine Cw_region ?_
  refine Ow_q rfl rfl rfl (Qt_fieldAddr (m := 2) rfl rfl rfl rfl rfl) ?_
  refine Ow_cons rfl (OpW_store (vs := [(.bool true)]) (all' := (Chan.cells (Chan.mk x364.capacity x364.buffer true) v369)) rfl rfl rfl rfl rfl .here rfl rfl rfl ?_)
  refine Ow_nil ?_
  refine Cw_seq ?_
  refine Cw_region ?_
  refine Ow_q rfl rfl rfl (Qt_loadA (m := 3) (cs := (Desk.cells p0 vp0_chans vp0_waiting)) rfl rfl rfl rfl ⟨rfl, Rdc.blk (.tail _ (.tail _ (.tail _ (.head _)))) rfl⟩) ?_
  refine Ow_q rfl rfl rfl (Qt_fieldAddr (m := 2) rfl rfl rfl rfl rfl) ?_
  refine Ow_q rfl rfl rfl (Qt_load1 (v := (.int .i64 p2.channel)) rfl rfl rfl (Rdc.blk (.tail _ (.tail _ (.head _))) rfl)) ?_
  refine Ow_q rfl rfl rfl (Qt_loadA (m := 3) (cs := (Chan.cells (Chan.mk x364.capacity x364.buffer true) v369)) rfl rfl rfl rfl ⟨rfl, Rdc.blk (.head _) rfl⟩) ?_
  obtain ⟨x372, hx373, H⟩ := bnd H
  refine Ow_cons rfl (OpW_call rfl Try.call114 rfl rfl (c_M_11z p0 vp0_chans vp0_waiting p2.channel (Chan.mk x364.capacity x364.buffer true) v369 x372 hx373 _ _ hp0_chans hp0_waiting hs370) ?_)
  rintro _ _ _ - ⟨v374, rs375, v376, rfl, rfl, rfl, hs377, hs378⟩
  refine Ow_cons rfl (OpW_store (vs := (Desk.cells x372 v374 v376)) (all' := (Desk.cells x372 v374 v376)) rfl rfl rfl rfl rfl (.there (.there (.there (.there .here)))) rfl rfl rfl ?_)
  refine Ow_nil ?_
  refine Cw_seq ?_
  refine Cw_region ?_
  refine Ow_q rfl rfl rfl (Qt_move rfl) ?_
  refine Ow_q rfl rfl rfl (Qt_build (cs := (Result.cells (Result.mk 6 (-1) 0 false 0))) rfl rfl rfl rfl rfl rfl) ?_
  refine Ow_q rfl rfl rfl (Qt_build (cs := (Done.cells (Done.mk p1 (Result.mk 6 (-1) 0 false 0)))) rfl rfl rfl rfl rfl rfl) ?_
  have hR380 : RowR TyDone K [(Done.cells (Done.mk p1 (Result.mk 6 (-1) 0 false 0)))] [(Done.mk p1 (Result.mk 6 (-1) 0 false 0))] := RowR.cons rfl (RowR.nil)
  refine Ow_cons rfl (O_lit (T := TyDone) (rows := [(Done.cells (Done.mk p1 (Result.mk 6 (-1) 0 false 0)))]) (l := [(Done.mk p1 (Result.mk 6 (-1) 0 false 0))]) rfl rfl rfl hR380 rfl rfl rfl rfl rfl rfl rfl rfl (fun v379 => ?_))
  refine Ow_q rfl rfl rfl (Qt_assign rfl) ?_
  refine Ow_nil ?_
  refine Cw_join (fun env' K' G' => ∃ (v648 : SV) (l649 : List Done) (v651 : SV) (l652 : List Chan) (v654 : SV) (l655 : List Waiter) (i657 : Int), [(3, (.pointer (some ((⟨b321, 0, none⟩ : Addr).add 0)))), (6, (.pointer (some ((⟨b323, 0, none⟩ : Addr).add 0)))), (9, (sv v648))] = env' ∧ (.blk b323 102 (Desk.cells (Desk.mk [] [] 0) nilS nilS)) :: (.blk b321 102 (Desk.cells (Desk.mk l652 l655 i657) v651 v654)) :: (.tok 108 6 [(sv v648)]) :: G = G' ∧ M_87z l649 l652 l655 i657 = some (y0, y1) ∧ Slr TyDone K' (sv v648) l649 ∧ Slr TyChan K' (sv v651) l652 ∧ Slr TyWaiter K' (sv v654) l655) ?_ ?_
  ·skip
   refine Cw_seq ?_
   refine Cw_region ?_
   refine Ow_q rfl rfl rfl (Qt_assign rfl) ?_
   refine Ow_nil ?_
   refine Cw_block ?_
   refine Cw_loopM (fun n925 env' K' G' => ∃ (v914 : SV) (l915 : List Done) (i917 : Int) (v918 : SV) (l919 : List Chan) (v921 : SV) (l922 : List Waiter) (i924 : Int), [(3, (.pointer (some ((⟨b321, 0, none⟩ : Addr).add 0)))), (5, (.pointer (some ((⟨b322, 0, none⟩ : Addr).add 0)))), (6, (.pointer (some ((⟨b323, 0, none⟩ : Addr).add 0)))), (9, (sv v914)), (10, (.int .i64 i917))] = env' ∧ (.blk b323 102 (Desk.cells (Desk.mk [] [] 0) nilS nilS)) :: (.blk b322 38 (Op.cells p2 vp2_cases vp2_draws)) :: (.blk b321 102 (Desk.cells (Desk.mk l919 l922 i924) v918 v921)) :: (.tok 108 6 [(sv v914)]) :: G = G' ∧ lp5 (M_23z p2) n925 l915 i917 l919 l922 i924 = some (y0, y1) ∧ Slr TyDone K' (sv v914) l915 ∧ Slr TyChan K' (sv v918) l919 ∧ Slr TyWaiter K' (sv v921) l922) BIG ?_ ?_
   ·skip
    refine Shift.settle (T := TyDone) .here hR380 rfl ?_
    intro K926 hK927 hs928
    have hs932 := (hs377).mono hK927
    refine Shift.settle (T := TyChan) (.there .here) hs932 rfl ?_
    intro K929 hK930 hs931
    refine Shift.pull (.there (.there (.there (.there (.there .here))))) ?_
    refine Shift.pull (.there (.there (.there (.there (.there .here))))) ?_
    refine Shift.pull (.there (.there (.there (.there (.there .here))))) ?_
    refine Shift.rem (.there (.there (.there (.there .here)))) ?_
    refine Shift.rem (.there (.there (.there (.there .here)))) ?_
    have hs933 := (hs928).mono hK930
    have hs934 := ((hs378).mono hK927).mono hK930
    refine Shift.done ?_
    exact ⟨[(3, (.pointer (some ((⟨b321, 0, none⟩ : Addr).add 0)))), (5, (.pointer (some ((⟨b322, 0, none⟩ : Addr).add 0)))), (6, (.pointer (some ((⟨b323, 0, none⟩ : Addr).add 0)))), (9, (sv v379)), (10, (.int .i64 0))], ⟨rfl, rfl, rfl, rfl, rfl, trivial⟩, v379, [(Done.mk p1 (Result.mk 6 (-1) 0 false 0))], 0, v374, x372.chans, v376, x372.waiting, x372.tick, rfl, rfl, H, hs933, hs931, hs934⟩
   rintro n925 _ K935 _ hK936 ⟨v914, l915, i917, v918, l919, v921, l922, i924, rfl, rfl, H, hs916, hs920, hs923⟩
   obtain ⟨m937, k938, rfl, hkk939, H⟩ := lps5 H
   unfold M_23z at H
   refine Cw_seq ?_
   refine Cw_seq ?_
   refine Cw_region ?_
   refine Ow_q rfl rfl rfl (Qt_move rfl) ?_
   refine Ow_q rfl rfl rfl (Qt_cmp rfl rfl rfl) ?_
   refine Ow_nil ?_
   refine Cw_cond rfl ?_ ?_
   ·intro h941
    have h941 := dcd_t (h941)
    have H := ift h941 H
    refine Cw_skip ?_
    refine Cw_join (fun env' K' G' => ∃ (v1049 : SV) (l1050 : List Done) (v1052 : SV) (l1053 : List Chan) (v1055 : SV) (l1056 : List Waiter) (i1058 : Int), [(3, (.pointer (some ((⟨b321, 0, none⟩ : Addr).add 0)))), (5, (.pointer (some ((⟨b322, 0, none⟩ : Addr).add 0)))), (6, (.pointer (some ((⟨b323, 0, none⟩ : Addr).add 0)))), (9, (sv v1049)), (10, (.int .i64 i917))] = env' ∧ (.blk b323 102 (Desk.cells (Desk.mk [] [] 0) nilS nilS)) :: (.blk b322 38 (Op.cells p2 vp2_cases vp2_draws)) :: (.blk b321 102 (Desk.cells (Desk.mk l1053 l1056 i1058) v1052 v1055)) :: (.tok 108 6 [(sv v1049)]) :: G = G' ∧ M_138z i917 p2 k938 l1050 l1053 l1056 i1058 = some (y0, y1) ∧ Slr TyDone K' (sv v1049) l1050 ∧ Slr TyChan K' (sv v1052) l1053 ∧ Slr TyWaiter K' (sv v1055) l1056) ?_ ?_
    ·skip
     refine Cw_block ?_
     refine Cw_seq ?_
     refine Cw_region ?_
     refine Ow_q rfl rfl rfl (Qt_assign rfl) ?_
     refine Ow_nil ?_
     refine Cw_block ?_
     refine Cw_loopM (fun n1166 env' K' G' => ∃ (v1155 : SV) (l1156 : List Done) (i1158 : Int) (v1159 : SV) (l1160 : List Chan) (v1162 : SV) (l1163 : List Waiter) (i1165 : Int), [(3, (.pointer (some ((⟨b321, 0, none⟩ : Addr).add 0)))), (5, (.pointer (some ((⟨b322, 0, none⟩ : Addr).add 0)))), (6, (.pointer (some ((⟨b323, 0, none⟩ : Addr).add 0)))), (9, (sv v1155)), (10, (.int .i64 i917)), (11, (.int .i64 i1158))] = env' ∧ (.blk b323 102 (Desk.cells (Desk.mk [] [] 0) nilS nilS)) :: (.blk b322 38 (Op.cells p2 vp2_cases vp2_draws)) :: (.blk b321 102 (Desk.cells (Desk.mk l1160 l1163 i1165) v1159 v1162)) :: (.tok 108 6 [(sv v1155)]) :: G = G' ∧ lp5 (M_49z i917 p2 k938) n1166 l1156 i1158 l1160 l1163 i1165 = some (y0, y1) ∧ Slr TyDone K' (sv v1155) l1156 ∧ Slr TyChan K' (sv v1159) l1160 ∧ Slr TyWaiter K' (sv v1162) l1163) BIG ?_ ?_
     ·skip
      refine Shift.pull (.there (.there (.there .here))) ?_
      refine Shift.pull (.there (.there (.there .here))) ?_
      refine Shift.pull (.there (.there (.there .here))) ?_
      refine Shift.pull (.there (.there (.there .here))) ?_
      refine Shift.done ?_
      exact ⟨[(3, (.pointer (some ((⟨b321, 0, none⟩ : Addr).add 0)))), (5, (.pointer (some ((⟨b322, 0, none⟩ : Addr).add 0)))), (6, (.pointer (some ((⟨b323, 0, none⟩ : Addr).add 0)))), (9, (sv v914)), (10, (.int .i64 i917)), (11, (.int .i64 0))], ⟨rfl, rfl, rfl, rfl, rfl, rfl, trivial⟩, v914, l915, 0, v918, l919, v921, l922, i924, rfl, rfl, H, hs916, hs920, hs923⟩
     rintro n1166 _ K1167 _ hK1168 ⟨v1155, l1156, i1158, v1159, l1160, v1162, l1163, i1165, rfl, rfl, H, hs1157, hs1161, hs1164⟩
     obtain ⟨m1169, k1170, rfl, hkk1171, H⟩ := lps5 H
     unfold M_49z at H
     refine Cw_seq ?_
     refine Cw_seq ?_
     refine Cw_region ?_
     refine Ow_q rfl rfl rfl (Qt_move rfl) ?_
     refine Ow_q rfl rfl rfl (Qt_fieldAddr (m := 1) rfl rfl rfl rfl rfl) ?_
     refine Ow_q rfl rfl rfl (Qt_load1 (v := (sv v1162)) rfl rfl rfl (Rdc.blk (.tail _ (.tail _ (.head _))) rfl)) ?_
     refine Ow_q rfl rfl rfl (Q_len (T := TyWaiter) hs1164 rfl rfl) ?_
     refine Ow_q rfl rfl rfl (Qt_cmp rfl rfl rfl) ?_
     refine Ow_nil ?_
     refine Cw_cond rfl ?_ ?_
     ·intro h1173
      have h1173 := dcd_t (h1173)
      have H := ift h1173 H
      refine Cw_skip ?_
      refine Cw_block ?_
      refine Cw_seq ?_
      refine Cw_region ?_
      refine Ow_q rfl rfl rfl (Qt_fieldAddr (m := 1) rfl rfl rfl rfl rfl) ?_
      refine Ow_q rfl rfl rfl (Qt_load1 (v := (sv v1162)) rfl rfl rfl (Rdc.blk (.tail _ (.tail _ (.head _))) rfl)) ?_
      refine Ow_q rfl rfl rfl (Qt_move rfl) ?_
      obtain ⟨x1174, hx1175, H⟩ := bnd H
      obtain ⟨r1176, hr1177, hk1178⟩ := Slr.at hs1164 hx1175
      obtain ⟨v1179, v1180, rfl, hs1181, hs1182⟩ := hr1177
      refine Ow_q rfl rfl rfl (Q_ix (T := TyWaiter) hs1164 hx1175 rfl rfl rfl rfl rfl) ?_
      refine Ow_q rfl rfl rfl (Qt_loadA (m := 8) (cs := (Waiter.cells x1174 v1179 v1180)) rfl rfl rfl rfl ⟨rfl, Rdc.k hk1178 rfl⟩) ?_
      refine Ow_cons rfl (OpW_alloc (cs := (Waiter.cells (Waiter.mk 0 (Op.mk 0 0 0 0 0 [] [])) nilS nilS)) rfl rfl rfl rfl (fun b1183 => ?_))
      refine Ow_cons rfl (OpW_store (vs := (Waiter.cells x1174 v1179 v1180)) (all' := (Waiter.cells x1174 v1179 v1180)) rfl rfl rfl rfl rfl .here rfl rfl rfl ?_)
      refine Ow_nil ?_
      refine Cw_seq ?_
      refine Cw_region ?_
      refine Ow_q rfl rfl rfl (Qt_fieldAddr (m := 1) rfl rfl rfl rfl rfl) ?_
      refine Ow_q rfl rfl rfl (Qt_loadA (m := 7) (cs := (Op.cells x1174.op v1179 v1180)) rfl rfl rfl rfl ⟨rfl, Rdc.blk (.head _) rfl⟩) ?_
      refine Ow_q rfl rfl rfl (Qt_fieldAddr (m := 2) rfl rfl rfl rfl rfl) ?_
      refine Ow_q rfl rfl rfl (Qt_load1 (v := (.int .i64 p2.channel)) rfl rfl rfl (Rdc.blk (.tail _ (.tail _ (.head _))) rfl)) ?_
      refine Ow_q rfl rfl rfl (Qt_move rfl) ?_
      refine Ow_q rfl rfl rfl (Qt_cmp rfl rfl rfl) ?_
      obtain ⟨x1184, hx1185, H⟩ := bnd H
      refine Ow_cons rfl (OpW_call rfl Try.call115 rfl rfl (c_M_12z x1174.op v1179 v1180 p2.channel (dcd (i917 = 1)) x1184 hx1185 _ _ hs1181 hs1182) ?_)
      rintro _ K1186 _ hK1187 ⟨rfl, rfl⟩
      refine Ow_q rfl rfl rfl (Qt_assign rfl) ?_
      refine Ow_nil ?_
      refine Cw_seq ?_
      refine Cw_seq ?_
      refine Cw_region ?_
      refine Ow_q rfl rfl rfl (Qt_move rfl) ?_
      refine Ow_q rfl rfl rfl (Qt_cmp rfl rfl rfl) ?_
      refine Ow_nil ?_
      refine Cw_cond rfl ?_ ?_
      ·intro h1189
       have h1189 := dcd_t (h1189)
       have H := ift h1189 H
       refine Cw_seq ?_
       refine Cw_region ?_
       refine Ow_q rfl rfl rfl (Qt_move rfl) ?_
       refine Ow_q rfl rfl rfl (Qt_arith (e := wI (i1158 + 1)) rfl rfl rfl rfl) ?_
       refine Ow_q rfl rfl rfl (Qt_assign rfl) ?_
       refine Ow_nil ?_
       refine Cw_exit ?_
       refine Shift.pull (.there (.there (.there (.there .here)))) ?_
       refine Shift.pull (.there (.there (.there (.there .here)))) ?_
       refine Shift.pull (.there (.there (.there (.there .here)))) ?_
       refine Shift.pull (.there (.there (.there (.there .here)))) ?_
       refine Shift.rem (.there (.there (.there (.there .here)))) ?_
       have hs1190 := (hs1157).mono hK1187
       have hs1191 := (hs1161).mono hK1187
       have hs1192 := (hs1164).mono hK1187
       refine Shift.done ?_
       exact ⟨[(3, (.pointer (some ((⟨b321, 0, none⟩ : Addr).add 0)))), (5, (.pointer (some ((⟨b322, 0, none⟩ : Addr).add 0)))), (6, (.pointer (some ((⟨b323, 0, none⟩ : Addr).add 0)))), (9, (sv v1155)), (10, (.int .i64 i917)), (11, (.int .i64 (wI (i1158 + 1))))], ⟨rfl, rfl, rfl, rfl, rfl, rfl, trivial⟩, _, Nat.lt_succ_self _, v1155, l1156, (wI (i1158 + 1)), v1159, l1160, v1162, l1163, i1165, rfl, rfl, (hkk1171 ▸ H), hs1190, hs1191, hs1192⟩
      ·intro h1189
       have h1189 := dcd_f (h1189)
       have H := iff_ h1189 H
       refine Cw_skip ?_
       refine Cw_seq ?_
       refine Cw_region ?_
       refine Ow_q rfl rfl rfl (Qt_fieldAddr (m := 1) rfl rfl rfl rfl rfl) ?_
       refine Ow_q rfl rfl rfl (Qt_loadA (m := 7) (cs := (Op.cells x1174.op v1179 v1180)) rfl rfl rfl rfl ⟨rfl, Rdc.blk (.head _) rfl⟩) ?_
       refine Ow_q rfl rfl rfl (Qt_move rfl) ?_
       obtain ⟨x1193, hx1194, H⟩ := bnd H
       have hs1195 := (hs1181).mono hK1187
       have hs1196 := (hs1182).mono hK1187
       refine Ow_cons rfl (OpW_call rfl Try.call116 rfl rfl (c_M_13z x1174.op v1179 v1180 x1184 x1193 hx1194 _ _ hs1195 hs1196) ?_)
       rintro _ _ _ - ⟨rfl, rfl, rfl⟩
       refine Ow_q rfl rfl rfl (Qt_build (cs := (Result.cells (Result.mk 2 x1193 0 false 0))) rfl rfl rfl rfl rfl rfl) ?_
       refine Ow_cons rfl (OpW_alloc (cs := (Result.cells (Result.mk 0 0 0 false 0))) rfl rfl rfl rfl (fun b1197 => ?_))
       refine Ow_cons rfl (OpW_store (vs := (Result.cells (Result.mk 2 x1193 0 false 0))) (all' := (Result.cells (Result.mk 2 x1193 0 false 0))) rfl rfl rfl rfl rfl .here rfl rfl rfl ?_)
       refine Ow_nil ?_
       refine Cw_join (fun env' K' G' => ∃ (i1199 : Int), [(3, (.pointer (some ((⟨b321, 0, none⟩ : Addr).add 0)))), (5, (.pointer (some ((⟨b322, 0, none⟩ : Addr).add 0)))), (6, (.pointer (some ((⟨b323, 0, none⟩ : Addr).add 0)))), (9, (sv v1155)), (10, (.int .i64 i917)), (11, (.int .i64 i1158)), (12, (.pointer (some ((⟨b1183, 0, none⟩ : Addr).add 0)))), (14, (.pointer (some ((⟨b1197, 0, none⟩ : Addr).add 0))))] = env' ∧ K1186 = K' ∧ (.blk b1197 25 (Result.cells (Result.mk i1199 x1193 0 false 0))) :: (.blk b1183 77 (Waiter.cells x1174 v1179 v1180)) :: (.blk b323 102 (Desk.cells (Desk.mk [] [] 0) nilS nilS)) :: (.blk b322 38 (Op.cells p2 vp2_cases vp2_draws)) :: (.blk b321 102 (Desk.cells (Desk.mk l1160 l1163 i1165) v1159 v1162)) :: (.tok 108 6 [(sv v1155)]) :: G = G' ∧ M_48z l1156 i917 i1158 x1193 x1174 p2 l1160 l1163 i1165 k938 k1170 i1199 = some (y0, y1)) ?_ ?_
       ·skip
        refine Cw_seq ?_
        refine Cw_region ?_
        refine Ow_q rfl rfl rfl (Qt_move rfl) ?_
        refine Ow_q rfl rfl rfl (Qt_cmp rfl rfl rfl) ?_
        refine Ow_nil ?_
        refine Cw_cond rfl ?_ ?_
        ·intro h1200
         have h1200 := dcd_t (h1200)
         have H := ift h1200 H
         refine Cw_region ?_
         refine Ow_q rfl rfl rfl (Qt_fieldAddr (m := 0) rfl rfl rfl rfl rfl) ?_
         refine Ow_cons rfl (OpW_store (vs := [(.int .i64 5)]) (all' := (Result.cells (Result.mk 5 x1193 0 false 0))) rfl rfl rfl rfl rfl .here rfl rfl rfl ?_)
         refine Ow_nil ?_
         refine Shift.pull (.there (.there (.there (.there (.there .here))))) ?_
         refine Shift.pull (.there (.there (.there (.there (.there .here))))) ?_
         refine Shift.pull (.there (.there (.there (.there (.there .here))))) ?_
         refine Shift.pull (.there (.there (.there (.there (.there .here))))) ?_
         refine Shift.pull (.there (.there (.there (.there (.there .here))))) ?_
         refine Shift.pull (.there (.there (.there (.there (.there .here))))) ?_
         refine Shift.done ?_
         exact ⟨[(3, (.pointer (some ((⟨b321, 0, none⟩ : Addr).add 0)))), (5, (.pointer (some ((⟨b322, 0, none⟩ : Addr).add 0)))), (6, (.pointer (some ((⟨b323, 0, none⟩ : Addr).add 0)))), (9, (sv v1155)), (10, (.int .i64 i917)), (11, (.int .i64 i1158)), (12, (.pointer (some ((⟨b1183, 0, none⟩ : Addr).add 0)))), (14, (.pointer (some ((⟨b1197, 0, none⟩ : Addr).add 0))))], ⟨rfl, rfl, rfl, rfl, rfl, rfl, rfl, rfl, trivial⟩, 5, rfl, rfl, rfl, H⟩
        ·intro h1200
         have h1200 := dcd_f (h1200)
         have H := iff_ h1200 H
         refine Cw_skip ?_
         refine Shift.pull (.there (.there (.there (.there (.there .here))))) ?_
         refine Shift.pull (.there (.there (.there (.there (.there .here))))) ?_
         refine Shift.pull (.there (.there (.there (.there (.there .here))))) ?_
         refine Shift.pull (.there (.there (.there (.there (.there .here))))) ?_
         refine Shift.pull (.there (.there (.there (.there (.there .here))))) ?_
         refine Shift.pull (.there (.there (.there (.there (.there .here))))) ?_
         refine Shift.done ?_
         exact ⟨[(3, (.pointer (some ((⟨b321, 0, none⟩ : Addr).add 0)))), (5, (.pointer (some ((⟨b322, 0, none⟩ : Addr).add 0)))), (6, (.pointer (some ((⟨b323, 0, none⟩ : Addr).add 0)))), (9, (sv v1155)), (10, (.int .i64 i917)), (11, (.int .i64 i1158)), (12, (.pointer (some ((⟨b1183, 0, none⟩ : Addr).add 0)))), (14, (.pointer (some ((⟨b1197, 0, none⟩ : Addr).add 0))))], ⟨rfl, rfl, rfl, rfl, rfl, rfl, rfl, rfl, trivial⟩, 2, rfl, rfl, rfl, H⟩
       rintro _ _ _ - ⟨i1199, rfl, rfl, rfl, H⟩
       unfold M_48z at H
       refine Cw_seq ?_
       refine Cw_region ?_
       refine Ow_q rfl rfl rfl (Qt_loadA (m := 3) (cs := (Desk.cells (Desk.mk l1160 l1163 i1165) v1159 v1162)) rfl rfl rfl rfl ⟨rfl, Rdc.blk (.tail _ (.tail _ (.tail _ (.tail _ (.head _))))) rfl⟩) ?_
       refine Ow_q rfl rfl rfl (Qt_move rfl) ?_
       obtain ⟨x1201, hx1202, H⟩ := bnd H
       have hs1203 := (hs1161).mono hK1187
       have hs1204 := (hs1164).mono hK1187
       refine Ow_cons rfl (OpW_call rfl Try.call117 rfl rfl (c_M_4z (Desk.mk l1160 l1163 i1165) v1159 v1162 i1158 x1201 hx1202 _ _ hs1203 hs1204) ?_)
       rintro _ K1207 _ hK1208 ⟨v1205, v1206, rfl, rfl, hs1209, hs1210⟩
       refine Ow_cons rfl (OpW_store (vs := (Desk.cells x1201 v1205 v1206)) (all' := (Desk.cells x1201 v1205 v1206)) rfl rfl rfl rfl rfl (.there (.there (.there (.there (.there .here))))) rfl rfl rfl ?_)
       refine Ow_nil ?_
       refine Cw_region ?_
       refine Ow_q rfl rfl rfl (Qt_move rfl) ?_
       refine Ow_q rfl rfl rfl (Qt_fieldAddr (m := 0) rfl rfl rfl rfl rfl) ?_
       refine Ow_q rfl rfl rfl (Qt_load1 (v := (.int .i64 x1174.thread)) rfl rfl rfl (Rdc.blk (.tail _ (.tail _ (.head _))) rfl)) ?_
       refine Ow_q rfl rfl rfl (Qt_loadA (m := 5) (cs := (Result.cells (Result.mk i1199 x1193 0 false 0))) rfl rfl rfl rfl ⟨rfl, Rdc.blk (.tail _ (.head _)) rfl⟩) ?_
       obtain ⟨x1211, hx1212, H⟩ := bnd H
       have hs1213 := ((hs1157).mono hK1187).mono hK1208
       refine Ow_cons rfl (OpW_call rfl Try.call118 rfl rfl (c_M_22z l1156 v1155 x1174.thread (Result.mk i1199 x1193 0 false 0) x1211 hx1212 _ _ hs1213) ?_)
       rintro _ K1215 _ hK1216 ⟨v1214, rfl, rfl, hs1217⟩
       refine Ow_q rfl rfl rfl (Qt_assign rfl) ?_
       refine Ow_nil ?_
       refine Shift.pull (.there (.there (.there (.there (.there (.there .here)))))) ?_
       refine Shift.pull (.there (.there (.there (.there (.there (.there .here)))))) ?_
       refine Shift.pull (.there (.there (.there (.there (.there (.there .here)))))) ?_
       refine Shift.rem (.there (.there (.there (.there .here)))) ?_
       refine Shift.rem (.there (.there (.there (.there .here)))) ?_
       refine Shift.rem (.there (.there (.there (.there .here)))) ?_
       refine Shift.rem (.there (.there (.there (.there .here)))) ?_
       have hs1218 := (hs1209).mono hK1216
       have hs1219 := (hs1210).mono hK1216
       refine Shift.done ?_
       exact ⟨[(3, (.pointer (some ((⟨b321, 0, none⟩ : Addr).add 0)))), (5, (.pointer (some ((⟨b322, 0, none⟩ : Addr).add 0)))), (6, (.pointer (some ((⟨b323, 0, none⟩ : Addr).add 0)))), (9, (sv v1214)), (10, (.int .i64 i917)), (11, (.int .i64 i1158))], ⟨rfl, rfl, rfl, rfl, rfl, rfl, trivial⟩, _, Nat.lt_succ_self _, v1214, x1211, i1158, v1205, x1201.chans, v1206, x1201.waiting, x1201.tick, rfl, rfl, (hkk1171 ▸ H), hs1217, hs1218, hs1219⟩
     ·intro h1173
      have h1173 := dcd_f (h1173)
      have H := iff_ h1173 H
      refine Cw_exit ?_
      refine Shift.pull (.there (.there (.there .here))) ?_
      refine Shift.pull (.there (.there (.there .here))) ?_
      refine Shift.pull (.there (.there (.there .here))) ?_
      refine Shift.pull (.there (.there (.there .here))) ?_
      refine Shift.done ?_
      exact ⟨[(3, (.pointer (some ((⟨b321, 0, none⟩ : Addr).add 0)))), (5, (.pointer (some ((⟨b322, 0, none⟩ : Addr).add 0)))), (6, (.pointer (some ((⟨b323, 0, none⟩ : Addr).add 0)))), (9, (sv v1155)), (10, (.int .i64 i917))], ⟨rfl, rfl, rfl, rfl, rfl, trivial⟩, v1155, l1156, v1159, l1160, v1162, l1163, i1165, rfl, rfl, H, hs1157, hs1161, hs1164⟩
    rintro _ K1220 _ hK1221 ⟨v1049, l1050, v1052, l1053, v1055, l1056, i1058, rfl, rfl, H, hs1051, hs1054, hs1057⟩
    unfold M_138z at H
    refine Cw_region ?_
    refine Ow_q rfl rfl rfl (Qt_move rfl) ?_
    refine Ow_q rfl rfl rfl (Qt_arith (e := wI (i917 + 1)) rfl rfl rfl rfl) ?_
    refine Ow_q rfl rfl rfl (Qt_assign rfl) ?_
    refine Ow_nil ?_
    refine Shift.pull (.there (.there (.there .here))) ?_
    refine Shift.pull (.there (.there (.there .here))) ?_
    refine Shift.pull (.there (.there (.there .here))) ?_
    refine Shift.pull (.there (.there (.there .here))) ?_
    refine Shift.done ?_
    exact ⟨[(3, (.pointer (some ((⟨b321, 0, none⟩ : Addr).add 0)))), (5, (.pointer (some ((⟨b322, 0, none⟩ : Addr).add 0)))), (6, (.pointer (some ((⟨b323, 0, none⟩ : Addr).add 0)))), (9, (sv v1049)), (10, (.int .i64 (wI (i917 + 1))))], ⟨rfl, rfl, rfl, rfl, rfl, trivial⟩, _, Nat.lt_succ_self _, v1049, l1050, (wI (i917 + 1)), v1052, l1053, v1055, l1056, i1058, rfl, rfl, (hkk939 ▸ H), hs1051, hs1054, hs1057⟩
   ·intro h941
    have h941 := dcd_f (h941)
    have H := iff_ h941 H
    refine Cw_exit ?_
    refine Shift.pull (.there (.there (.there .here))) ?_
    refine Shift.pull (.there (.there (.there .here))) ?_
    refine Shift.pull (.there (.there .here)) ?_
    refine Shift.rem (.there (.there (.there .here))) ?_
    refine Shift.done ?_
    exact ⟨[(3, (.pointer (some ((⟨b321, 0, none⟩ : Addr).add 0)))), (6, (.pointer (some ((⟨b323, 0, none⟩ : Addr).add 0)))), (9, (sv v914))], ⟨rfl, rfl, rfl, trivial⟩, v914, l915, v918, l919, v921, l922, i924, rfl, rfl, H, hs916, hs920, hs923⟩
  rintro _ K1222 _ hK1223 ⟨v648, l649, v651, l652, v654, l655, i657, rfl, rfl, H, hs650, hs653, hs656⟩
  unfold M_87z at H
  refine Cw_seq ?_
  refine Cw_region ?_
  refine Ow_q rfl rfl rfl (Qt_loadA (m := 3) (cs := (Desk.cells (Desk.mk l652 l655 i657) v651 v654)) rfl rfl rfl rfl ⟨rfl, Rdc.blk (.tail _ (.head _)) rfl⟩) ?_
  refine Ow_q rfl rfl rfl (Qt_move rfl) ?_
  refine Ow_cons rfl (OpW_store (vs := (Desk.cells (Desk.mk l652 l655 i657) v651 v654)) (all' := (Desk.cells (Desk.mk l652 l655 i657) v651 v654)) rfl rfl rfl rfl rfl .here rfl rfl rfl ?_)
  refine Ow_q rfl rfl rfl (Qt_assign rfl) ?_
  refine Ow_nil ?_
  refine Cw_ret ?_
  obtain ⟨ey0, ey1⟩ := inj2 H
  subst y0 y1
  refine ⟨(by first | exact .inl rfl | exact .inr rfl), [(.agg (Desk.cells (Desk.mk l652 l655 i657) v651 v654).toArray), (sv v648)], ⟨(.agg (Desk.cells (Desk.mk l652 l655 i657) v651 v654).toArray), _, rfl, ⟨_, 3, (Desk.cells (Desk.mk l652 l655 i657) v651 v654), rfl, rfl, rfl, rfl, ⟨rfl, Rdc.blk (.head _) rfl⟩, rfl⟩, ⟨(sv v648), _, rfl, rfl, rfl⟩⟩, ?_⟩
  refine Shift.pull (.there (.there .here)) ?_
  refine Shift.rem (.there .here) ?_
  refine Shift.rem (.there .here) ?_
  refine Shift.done ?_
  exact ⟨v651, v654, v648, rfl, rfl, hs653, hs656, hs650⟩

set_option maxHeartbeats 1000000 in
theorem c_M_51z (p0 : Desk) (vp0_chans : SV) (vp0_waiting : SV) (p1 : Int) (p2 : Case) (y0 : Int) (H : M_51z p0 p1 p2 = some y0) (K : Kp) (G : List Ent) (hp0_chans : Slr TyChan K (sv vp0_chans) p0.chans) (hp0_waiting : Slr TyWaiter K (sv vp0_waiting) p0.waiting) :
  Fc Try.prog 120 #[(.agg (Desk.cells p0 vp0_chans vp0_waiting).toArray), (.int .i64 p1), (.agg (Case.cells p2).toArray)] K (G) (fun v K' G' => v = (.int .i64 y0) ∧ G = G') := by
 refine Fc_body Try.func120 rfl Try.ntmps120 Try.results120 rfl ?_
 unfold M_51z at H
 refine Cw_seq ?_
 refine Cw_region ?_
 refine Ow_cons rfl (OpW_box (cs := (Desk.cells p0 vp0_chans vp0_waiting)) rfl rfl rfl (fun b135 => ?_))
 refine Ow_cons rfl (OpW_box (cs := (Case.cells p2)) rfl rfl rfl (fun b136 => ?_))
 refine Ow_q rfl rfl rfl (Qt_assign rfl) ?_
 refine Ow_nil ?_
 refine Cw_seq ?_
 refine Cw_join (fun env' K' G' => ∃ (t141 : Bool), [(1, (.int .i64 p1)), (3, (.pointer (some ((⟨b135, 0, none⟩ : Addr).add 0)))), (5, (.pointer (some ((⟨b136, 0, none⟩ : Addr).add 0)))), (18, (.bool t141))] = env' ∧ K = K' ∧ (.blk b136 73 (Case.cells p2)) :: (.blk b135 102 (Desk.cells p0 vp0_chans vp0_waiting)) :: G = G' ∧ M_95z p1 p2 p0 t141 = some y0) ?_ ?_
 ·skip
  refine Cw_region ?_
  refine Ow_q rfl rfl rfl (Qt_fieldAddr (m := 1) rfl rfl rfl rfl rfl) ?_
  refine Ow_q rfl rfl rfl (Qt_load1 (v := (.int .i64 p2.channel)) rfl rfl rfl (Rdc.blk (.head _) rfl)) ?_
  refine Ow_q rfl rfl rfl (Qt_cmp rfl rfl rfl) ?_
  refine Ow_q rfl rfl rfl (Qt_move rfl) ?_
  refine Ow_caseG rfl rfl rfl ?_ ?_
  ·intro h142
   have h142 := dcd_t (h142)
   have H := ift h142 H
   refine Ow_pass rfl rfl rfl rfl rfl rfl rfl ?_
   refine Ow_pass rfl rfl rfl rfl rfl rfl rfl ?_
   refine Ow_pass rfl rfl rfl rfl rfl rfl rfl ?_
   refine Ow_pass rfl rfl rfl rfl rfl rfl rfl ?_
   refine Ow_pass rfl rfl rfl rfl rfl rfl rfl ?_
   refine Ow_pass rfl rfl rfl rfl rfl rfl rfl ?_
   refine Ow_q rfl rfl rfl (Qt_pick_t rfl rfl) ?_
   refine Ow_nil ?_
   refine Shift.pull (.there .here) ?_
   refine Shift.pull (.there .here) ?_
   refine Shift.done ?_
   exact ⟨[(1, (.int .i64 p1)), (3, (.pointer (some ((⟨b135, 0, none⟩ : Addr).add 0)))), (5, (.pointer (some ((⟨b136, 0, none⟩ : Addr).add 0)))), (18, (.bool true))], ⟨rfl, rfl, rfl, rfl, trivial⟩, true, rfl, rfl, rfl, H⟩
  ·intro h142
   have h142 := dcd_f (h142)
   have H := iff_ h142 H
   refine Ow_qw rfl rfl rfl rfl rfl rfl (Qt_fieldAddr (m := 1) rfl rfl rfl rfl rfl) ?_
   refine Ow_qw rfl rfl rfl rfl rfl rfl (Qt_load1 (v := (.int .i64 p2.channel)) rfl rfl rfl (Rdc.blk (.head _) rfl)) ?_
   refine Ow_qw rfl rfl rfl rfl rfl rfl (Qt_fieldAddr (m := 0) rfl rfl rfl rfl rfl) ?_
   refine Ow_qw rfl rfl rfl rfl rfl rfl (Qt_load1 (v := (sv vp0_chans)) rfl rfl rfl (Rdc.blk (.tail _ (.head _)) rfl)) ?_
   refine Ow_qw rfl rfl rfl rfl rfl rfl (Q_len (T := TyChan) hp0_chans rfl rfl) ?_
   refine Ow_qw rfl rfl rfl rfl rfl rfl (Qt_cmp rfl rfl rfl) ?_
   refine Ow_q rfl rfl rfl (Qt_pick_f rfl rfl) ?_
   refine Ow_nil ?_
   refine Shift.pull (.there .here) ?_
   refine Shift.pull (.there .here) ?_
   refine Shift.done ?_
   exact ⟨[(1, (.int .i64 p1)), (3, (.pointer (some ((⟨b135, 0, none⟩ : Addr).add 0)))), (5, (.pointer (some ((⟨b136, 0, none⟩ : Addr).add 0)))), (18, (.bool (dcd (p2.channel ≥ (p0.chans.length : Int)))))], ⟨rfl, rfl, rfl, rfl, trivial⟩, (dcd (p2.channel ≥ (p0.chans.length : Int))), rfl, rfl, rfl, H⟩
 rintro _ _ _ - ⟨t141, rfl, rfl, rfl, H⟩
 unfold M_95z at H
 refine Cw_cond rfl ?_ ?_
 ·intro h143
  have H := ift h143 H
  refine Cw_seq ?_
  refine Cw_region ?_
  refine Ow_q rfl rfl rfl (Qt_assign rfl) ?_
  refine Ow_nil ?_
  refine Cw_ret ?_
  obtain ey0 := inj1 H
  subst y0
  refine ⟨(by first | exact .inl rfl | exact .inr rfl), [(.int .i64 (-1))], ⟨(.int .i64 (-1)), _, rfl, rfl, rfl⟩, ?_⟩
  refine Shift.rem .here ?_
  refine Shift.rem .here ?_
  refine Shift.done ?_
  exact ⟨rfl, rfl⟩
 ·intro h143
  have H := iff_ (btf h143) H
  refine Cw_skip ?_
  refine Cw_join (fun env' K' G' => [] = env' ∧ G = G' ∧ M_188z = some y0) ?_ ?_
  ·skip
   refine Cw_seq ?_
   refine Cw_region ?_
   refine Ow_q rfl rfl rfl (Qt_assign rfl) ?_
   refine Ow_nil ?_
   refine Cw_block ?_
   refine Cw_loopM (fun n364 env' K' G' => ∃ (i363 : Int), [(1, (.int .i64 p1)), (3, (.pointer (some ((⟨b135, 0, none⟩ : Addr).add 0)))), (5, (.pointer (some ((⟨b136, 0, none⟩ : Addr).add 0)))), (7, (.int .i64 i363))] = env' ∧ (.blk b136 73 (Case.cells p2)) :: (.blk b135 102 (Desk.cells p0 vp0_chans vp0_waiting)) :: G = G' ∧ lp1 (M_94z p1 p2 p0) n364 i363 = some y0) BIG ?_ ?_
   ·skip
    refine Shift.pull (.there .here) ?_
    refine Shift.pull (.there .here) ?_
    refine Shift.done ?_
    exact ⟨[(1, (.int .i64 p1)), (3, (.pointer (some ((⟨b135, 0, none⟩ : Addr).add 0)))), (5, (.pointer (some ((⟨b136, 0, none⟩ : Addr).add 0)))), (7, (.int .i64 0))], ⟨rfl, rfl, rfl, rfl, trivial⟩, 0, rfl, rfl, H⟩
   rintro n364 _ K365 _ hK366 ⟨i363, rfl, rfl, H⟩
   obtain ⟨m367, k368, rfl, hkk369, H⟩ := lps1 H
   unfold M_94z at H
   refine Cw_seq ?_
   refine Cw_seq ?_
   refine Cw_region ?_
   refine Ow_q rfl rfl rfl (Qt_move rfl) ?_
   refine Ow_q rfl rfl rfl (Qt_fieldAddr (m := 1) rfl rfl rfl rfl rfl) ?_
   refine Ow_q rfl rfl rfl (Qt_load1 (v := (sv vp0_waiting)) rfl rfl rfl (Rdc.blk (.tail _ (.head _)) rfl)) ?_
   have hs372 := (hp0_waiting).mono hK366
   refine Ow_q rfl rfl rfl (Q_len (T := TyWaiter) hs372 rfl rfl) ?_
   refine Ow_q rfl rfl rfl (Qt_cmp rfl rfl rfl) ?_
   refine Ow_nil ?_
   refine Cw_cond rfl ?_ ?_
   ·intro h373
    have h373 := dcd_t (h373)
    have H := ift h373 H
    refine Cw_skip ?_
    refine Cw_seq ?_
    refine Cw_block ?_
    refine Cw_join (fun env' K' G' => ∃ (t470 : Bool), [(1, (.int .i64 p1)), (3, (.pointer (some ((⟨b135, 0, none⟩ : Addr).add 0)))), (5, (.pointer (some ((⟨b136, 0, none⟩ : Addr).add 0)))), (7, (.int .i64 i363)), (48, (.bool t470))] = env' ∧ (.blk b136 73 (Case.cells p2)) :: (.blk b135 102 (Desk.cells p0 vp0_chans vp0_waiting)) :: G = G' ∧ M_93z p1 i363 p2 p0 k368 t470 = some y0) ?_ ?_
    ·skip
     obtain ⟨x471, hx472, H⟩ := bnd H
     rcases bool_ct (!(dcd (x471.thread = p1))) with hb_ | hb_ <;> revert hb_
     ·intro h480
      have h480 := dcd_f (nt_t (h480))
      have H := iff_ h480 H
      obtain ⟨x481, hx482, H⟩ := bnd H
      obtain ⟨x490, hx491, H⟩ := bnd H
      refine Cw_region_any [.blk b136 73 (Case.cells p2), .blk b135 102 (Desk.cells p0 vp0_chans vp0_waiting)] rfl (Inc.cons (.head _) (Inc.cons (.tail _ (.head _)) Inc.nil)) ?_
      refine Aw_q 0 rfl (by kernel_rfl) (by kernel_rfl) (by kernel_rfl) rfl rfl rfl (Qt_fieldAddr (m := 1) rfl rfl rfl rfl rfl) ?_
      refine Aw_q 1 rfl (by kernel_rfl) (by kernel_rfl) (by kernel_rfl) rfl rfl rfl (Qt_load1 (v := (sv vp0_waiting)) rfl rfl rfl (Rdc.blk (.tail _ (.head _)) rfl)) ?_
      refine Aw_q 2 rfl (by kernel_rfl) (by kernel_rfl) (by kernel_rfl) rfl rfl rfl (Qt_move rfl) ?_
      obtain ⟨r494, hr495, hk496⟩ := Slr.at hs372 hx472
      obtain ⟨v497, v498, rfl, hs499, hs500⟩ := hr495
      refine Aw_q 3 rfl (by kernel_rfl) (by kernel_rfl) (by kernel_rfl) rfl rfl rfl (Q_ix (T := TyWaiter) hs372 hx472 rfl rfl rfl rfl rfl) ?_
      refine Aw_q 4 rfl (by kernel_rfl) (by kernel_rfl) (by kernel_rfl) rfl rfl rfl (Qt_fieldAddr (m := 0) rfl rfl rfl rfl rfl) ?_
      refine Aw_q 5 rfl (by kernel_rfl) (by kernel_rfl) (by kernel_rfl) rfl rfl rfl (Qt_load1 (v := (.int .i64 x471.thread)) rfl rfl rfl (Rdc.k hk496 rfl)) ?_
      refine Aw_q 6 rfl (by kernel_rfl) (by kernel_rfl) (by kernel_rfl) rfl rfl rfl (Qt_move rfl) ?_
      refine Aw_q 7 rfl (by kernel_rfl) (by kernel_rfl) (by kernel_rfl) rfl rfl rfl (Qt_cmp rfl rfl rfl) ?_
      refine Aw_q 8 rfl (by kernel_rfl) (by kernel_rfl) (by kernel_rfl) rfl rfl rfl (Qt_move rfl) ?_
      refine Aw.known (d := 34) rfl (nt_mt (dcd_neg h480)) ?_
      refine Aw_qw 9 rfl (by kernel_rfl) (by kernel_rfl) (by kernel_rfl) rfl rfl rfl rfl rfl rfl (Qt_fieldAddr (m := 1) rfl rfl rfl rfl rfl) ?_
      refine Aw_qw 10 rfl (by kernel_rfl) (by kernel_rfl) (by kernel_rfl) rfl rfl rfl rfl rfl rfl (Qt_load1 (v := (sv vp0_waiting)) rfl rfl rfl (Rdc.blk (.tail _ (.head _)) rfl)) ?_
      refine Aw_qw 11 rfl (by kernel_rfl) (by kernel_rfl) (by kernel_rfl) rfl rfl rfl rfl rfl rfl (Qt_move rfl) ?_
      obtain ⟨r501, hr502, hk503⟩ := Slr.at hs372 hx482
      obtain ⟨v504, v505, rfl, hs506, hs507⟩ := hr502
      refine Aw_qw 12 rfl (by kernel_rfl) (by kernel_rfl) (by kernel_rfl) rfl rfl rfl rfl rfl rfl (Q_ix (T := TyWaiter) hs372 hx482 rfl rfl rfl rfl rfl) ?_
      refine Aw_qw 13 rfl (by kernel_rfl) (by kernel_rfl) (by kernel_rfl) rfl rfl rfl rfl rfl rfl (Qt_fieldAddr (m := 1) rfl rfl rfl rfl rfl) ?_
      refine Aw_qw 14 rfl (by kernel_rfl) (by kernel_rfl) (by kernel_rfl) rfl rfl rfl rfl rfl rfl (Qt_loadA (m := 7) (cs := (Op.cells x481.op v504 v505)) rfl rfl rfl rfl ⟨rfl, Rdc.k hk503 rfl⟩) ?_
      refine Aw_qw 15 rfl (by kernel_rfl) (by kernel_rfl) (by kernel_rfl) rfl rfl rfl rfl rfl rfl (Qt_fieldAddr (m := 1) rfl rfl rfl rfl rfl) ?_
      refine Aw_qw 16 rfl (by kernel_rfl) (by kernel_rfl) (by kernel_rfl) rfl rfl rfl rfl rfl rfl (Qt_load1 (v := (.int .i64 p2.channel)) rfl rfl rfl (Rdc.blk (.head _) rfl)) ?_
      refine Aw_qw 17 rfl (by kernel_rfl) (by kernel_rfl) (by kernel_rfl) rfl rfl rfl rfl rfl rfl (Qt_fieldAddr (m := 0) rfl rfl rfl rfl rfl) ?_
      refine Aw_qw 18 rfl (by kernel_rfl) (by kernel_rfl) (by kernel_rfl) rfl rfl rfl rfl rfl rfl (Qt_load1 (v := (.bool p2.send)) rfl rfl rfl (Rdc.blk (.head _) rfl)) ?_
      refine Aw_qw 19 rfl (by kernel_rfl) (by kernel_rfl) (by kernel_rfl) rfl rfl rfl rfl rfl rfl (Qt_not rfl) ?_
      refine Aw_one 20 (by kernel_rfl) (Ax_mkw rfl rfl rfl rfl rfl ?_)
      refine OpW_call rfl Try.call115 rfl rfl (c_M_12z x481.op v504 v505 p2.channel (!(p2.send)) x490 hx491 _ _ hs506 hs507) ?_
      rintro _ K508 _ hK509 ⟨rfl, rfl⟩
      refine ⟨(Inc.cons (.head _) (Inc.cons (.tail _ (.head _)) Inc.nil)), ?_⟩
      refine Aw_qw 21 rfl (by kernel_rfl) (by kernel_rfl) (by kernel_rfl) rfl rfl rfl rfl rfl rfl (Qt_cmp rfl rfl rfl) ?_
      refine Aw_q 22 rfl (by kernel_rfl) (by kernel_rfl) (by kernel_rfl) rfl rfl rfl (Qt_pick_t rfl rfl) ?_
      refine Aw_done (by kernel_rfl) ?_
      refine Shift.pull (.there .here) ?_
      refine Shift.pull (.there .here) ?_
      refine Shift.done ?_
      exact ⟨[(1, (.int .i64 p1)), (3, (.pointer (some ((⟨b135, 0, none⟩ : Addr).add 0)))), (5, (.pointer (some ((⟨b136, 0, none⟩ : Addr).add 0)))), (7, (.int .i64 i363)), (48, (.bool (dcd (x490 ≥ 0))))], ⟨rfl, rfl, rfl, rfl, rfl, trivial⟩, (dcd (x490 ≥ 0)), rfl, rfl, H⟩
     ·intro h480
      have h480 := dcd_t (nt_f (h480))
      have H := ift h480 H
      refine Cw_region_any [.blk b136 73 (Case.cells p2), .blk b135 102 (Desk.cells p0 vp0_chans vp0_waiting)] rfl (Inc.cons (.head _) (Inc.cons (.tail _ (.head _)) Inc.nil)) ?_
      refine Aw_q 0 rfl (by kernel_rfl) (by kernel_rfl) (by kernel_rfl) rfl rfl rfl (Qt_fieldAddr (m := 1) rfl rfl rfl rfl rfl) ?_
      refine Aw_q 1 rfl (by kernel_rfl) (by kernel_rfl) (by kernel_rfl) rfl rfl rfl (Qt_load1 (v := (sv vp0_waiting)) rfl rfl rfl (Rdc.blk (.tail _ (.head _)) rfl)) ?_
      refine Aw_q 2 rfl (by kernel_rfl) (by kernel_rfl) (by kernel_rfl) rfl rfl rfl (Qt_move rfl) ?_
      obtain ⟨r510, hr511, hk512⟩ := Slr.at hs372 hx472
      obtain ⟨v513, v514, rfl, hs515, hs516⟩ := hr511
      refine Aw_q 3 rfl (by kernel_rfl) (by kernel_rfl) (by kernel_rfl) rfl rfl rfl (Q_ix (T := TyWaiter) hs372 hx472 rfl rfl rfl rfl rfl) ?_
      refine Aw_q 4 rfl (by kernel_rfl) (by kernel_rfl) (by kernel_rfl) rfl rfl rfl (Qt_fieldAddr (m := 0) rfl rfl rfl rfl rfl) ?_
      refine Aw_q 5 rfl (by kernel_rfl) (by kernel_rfl) (by kernel_rfl) rfl rfl rfl (Qt_load1 (v := (.int .i64 x471.thread)) rfl rfl rfl (Rdc.k hk512 rfl)) ?_
      refine Aw_q 6 rfl (by kernel_rfl) (by kernel_rfl) (by kernel_rfl) rfl rfl rfl (Qt_move rfl) ?_
      refine Aw_q 7 rfl (by kernel_rfl) (by kernel_rfl) (by kernel_rfl) rfl rfl rfl (Qt_cmp rfl rfl rfl) ?_
      refine Aw_q 8 rfl (by kernel_rfl) (by kernel_rfl) (by kernel_rfl) rfl rfl rfl (Qt_move rfl) ?_
      refine Aw.known (d := 34) rfl (nt_mf (dcd_pos h480)) ?_
      refine Aw_pass 9 rfl (by kernel_rfl) (by kernel_rfl) (by kernel_rfl) rfl rfl rfl rfl rfl rfl rfl ?_
      refine Aw_pass 10 rfl (by kernel_rfl) (by kernel_rfl) (by kernel_rfl) rfl rfl rfl rfl rfl rfl rfl ?_
      refine Aw_pass 11 rfl (by kernel_rfl) (by kernel_rfl) (by kernel_rfl) rfl rfl rfl rfl rfl rfl rfl ?_
      refine Aw_pass 12 rfl (by kernel_rfl) (by kernel_rfl) (by kernel_rfl) rfl rfl rfl rfl rfl rfl rfl ?_
      refine Aw_pass 13 rfl (by kernel_rfl) (by kernel_rfl) (by kernel_rfl) rfl rfl rfl rfl rfl rfl rfl ?_
      refine Aw_pass 14 rfl (by kernel_rfl) (by kernel_rfl) (by kernel_rfl) rfl rfl rfl rfl rfl rfl rfl ?_
      refine Aw_pass 15 rfl (by kernel_rfl) (by kernel_rfl) (by kernel_rfl) rfl rfl rfl rfl rfl rfl rfl ?_
      refine Aw_pass 16 rfl (by kernel_rfl) (by kernel_rfl) (by kernel_rfl) rfl rfl rfl rfl rfl rfl rfl ?_
      refine Aw_pass 17 rfl (by kernel_rfl) (by kernel_rfl) (by kernel_rfl) rfl rfl rfl rfl rfl rfl rfl ?_
      refine Aw_pass 18 rfl (by kernel_rfl) (by kernel_rfl) (by kernel_rfl) rfl rfl rfl rfl rfl rfl rfl ?_
      refine Aw_pass 19 rfl (by kernel_rfl) (by kernel_rfl) (by kernel_rfl) rfl rfl rfl rfl rfl rfl rfl ?_
      refine Aw_pass 20 rfl (by kernel_rfl) (by kernel_rfl) (by kernel_rfl) rfl rfl rfl rfl rfl rfl rfl ?_
      refine Aw_pass 21 rfl (by kernel_rfl) (by kernel_rfl) (by kernel_rfl) rfl rfl rfl rfl rfl rfl rfl ?_
      refine Aw_q 22 rfl (by kernel_rfl) (by kernel_rfl) (by kernel_rfl) rfl rfl rfl (Qt_pick_f rfl rfl) ?_
      refine Aw_done (by kernel_rfl) ?_
      refine Shift.pull (.there .here) ?_
      refine Shift.pull (.there .here) ?_
      refine Shift.done ?_
      exact ⟨[(1, (.int .i64 p1)), (3, (.pointer (some ((⟨b135, 0, none⟩ : Addr).add 0)))), (5, (.pointer (some ((⟨b136, 0, none⟩ : Addr).add 0)))), (7, (.int .i64 i363)), (48, (.bool false))], ⟨rfl, rfl, rfl, rfl, rfl, trivial⟩, false, rfl, rfl, H⟩
    rintro _ K517 _ hK518 ⟨t470, rfl, rfl, H⟩
    unfold M_93z at H
    refine Cw_cond rfl ?_ ?_
    ·intro h519
     have H := ift h519 H
     refine Cw_seq ?_
     refine Cw_region ?_
     refine Ow_q rfl rfl rfl (Qt_move rfl) ?_
     refine Ow_q rfl rfl rfl (Qt_assign rfl) ?_
     refine Ow_nil ?_
     refine Cw_ret ?_
     obtain ey0 := inj1 H
     subst y0
     refine ⟨(by first | exact .inl rfl | exact .inr rfl), [(.int .i64 i363)], ⟨(.int .i64 i363), _, rfl, rfl, rfl⟩, ?_⟩
     refine Shift.rem .here ?_
     refine Shift.rem .here ?_
     refine Shift.done ?_
     exact ⟨rfl, rfl⟩
    ·intro h519
     have H := iff_ (btf h519) H
     refine Cw_skip ?_
     refine Cw_region ?_
     refine Ow_q rfl rfl rfl (Qt_move rfl) ?_
     refine Ow_q rfl rfl rfl (Qt_arith (e := wI (i363 + 1)) rfl rfl rfl rfl) ?_
     refine Ow_q rfl rfl rfl (Qt_assign rfl) ?_
     refine Ow_nil ?_
     refine Shift.pull (.there .here) ?_
     refine Shift.pull (.there .here) ?_
     refine Shift.done ?_
     exact ⟨[(1, (.int .i64 p1)), (3, (.pointer (some ((⟨b135, 0, none⟩ : Addr).add 0)))), (5, (.pointer (some ((⟨b136, 0, none⟩ : Addr).add 0)))), (7, (.int .i64 (wI (i363 + 1))))], ⟨rfl, rfl, rfl, rfl, trivial⟩, _, Nat.lt_succ_self _, (wI (i363 + 1)), rfl, rfl, (hkk369 ▸ H)⟩
   ·intro h373
    have h373 := dcd_f (h373)
    have H := iff_ h373 H
    refine Cw_exit ?_
    refine Shift.rem .here ?_
    refine Shift.rem .here ?_
    refine Shift.done ?_
    exact ⟨[], trivial, rfl, rfl, H⟩
  rintro _ K520 _ hK521 ⟨rfl, rfl, H⟩
  unfold M_188z at H
  refine Cw_seq ?_
  refine Cw_region ?_
  refine Ow_q rfl rfl rfl (Qt_assign rfl) ?_
  refine Ow_nil ?_
  refine Cw_ret ?_
  obtain ey0 := inj1 H
  subst y0
  refine ⟨(by first | exact .inl rfl | exact .inr rfl), [(.int .i64 (-1))], ⟨(.int .i64 (-1)), _, rfl, rfl, rfl⟩, ?_⟩
  refine Shift.done ?_
  exact ⟨rfl, rfl⟩

set_option maxHeartbeats 1000000 in
theorem c_M_52z (p0 : Desk) (vp0_chans : SV) (vp0_waiting : SV) (p1 : Int) (p2 : Case) (y0 : Bool) (H : M_52z p0 p1 p2 = some y0) (K : Kp) (G : List Ent) (hp0_chans : Slr TyChan K (sv vp0_chans) p0.chans) (hp0_waiting : Slr TyWaiter K (sv vp0_waiting) p0.waiting) :
  Fc Try.prog 103 #[(.agg (Desk.cells p0 vp0_chans vp0_waiting).toArray), (.int .i64 p1), (.agg (Case.cells p2).toArray)] K (G) (fun v K' G' => v = (.bool y0) ∧ G = G') := by
 refine Fc_body Try.func103 rfl Try.ntmps103 Try.results103 rfl ?_
 unfold M_52z at H
 refine Cw_seq ?_
 refine Cw_region ?_
 refine Ow_cons rfl (OpW_box (cs := (Desk.cells p0 vp0_chans vp0_waiting)) rfl rfl rfl (fun b10 => ?_))
 refine Ow_cons rfl (OpW_box (cs := (Case.cells p2)) rfl rfl rfl (fun b11 => ?_))
 refine Ow_q rfl rfl rfl (Qt_assign rfl) ?_
 refine Ow_nil ?_
 refine Cw_seq ?_
 refine Cw_region ?_
 refine Ow_q rfl rfl rfl (Qt_fieldAddr (m := 0) rfl rfl rfl rfl rfl) ?_
 refine Ow_q rfl rfl rfl (Qt_load1 (v := (sv vp0_chans)) rfl rfl rfl (Rdc.blk (.tail _ (.head _)) rfl)) ?_
 refine Ow_q rfl rfl rfl (Qt_loadA (m := 3) (cs := (Case.cells p2)) rfl rfl rfl rfl ⟨rfl, Rdc.blk (.head _) rfl⟩) ?_
 obtain ⟨x19, hx20, H⟩ := bnd H
 refine Ow_cons rfl (OpW_call rfl Try.call43 rfl rfl (c_M_92z p0.chans vp0_chans p2 x19 hx20 _ _ hp0_chans) ?_)
 rintro _ _ _ - ⟨rfl, rfl, rfl⟩
 refine Ow_q rfl rfl rfl (Qt_move rfl) ?_
 refine Ow_caseG rfl rfl rfl ?_ ?_
 ·intro h21
  have H := ift h21 H
  refine Ow_pass rfl rfl rfl rfl rfl rfl rfl ?_
  refine Ow_pass rfl rfl rfl rfl rfl rfl rfl ?_
  refine Ow_pass rfl rfl rfl rfl rfl rfl rfl ?_
  refine Ow_pass rfl rfl rfl rfl rfl rfl rfl ?_
  refine Ow_pass rfl rfl rfl rfl rfl rfl rfl ?_
  refine Ow_q rfl rfl rfl (Qt_pick_t rfl rfl) ?_
  refine Ow_q rfl rfl rfl (Qt_assign rfl) ?_
  refine Ow_nil ?_
  refine Cw_ret ?_
  obtain ey0 := inj1 H
  subst y0
  refine ⟨(by first | exact .inl rfl | exact .inr rfl), [(.bool true)], ⟨(.bool true), _, rfl, rfl, rfl⟩, ?_⟩
  refine Shift.rem .here ?_
  refine Shift.rem .here ?_
  refine Shift.done ?_
  exact ⟨rfl, rfl⟩
 ·intro h21
  have H := iff_ (btf h21) H
  refine Ow_qw rfl rfl rfl rfl rfl rfl (Qt_loadA (m := 3) (cs := (Desk.cells p0 vp0_chans vp0_waiting)) rfl rfl rfl rfl ⟨rfl, Rdc.blk (.tail _ (.head _)) rfl⟩) ?_
  refine Ow_qw rfl rfl rfl rfl rfl rfl (Qt_move rfl) ?_
  refine Ow_qw rfl rfl rfl rfl rfl rfl (Qt_loadA (m := 3) (cs := (Case.cells p2)) rfl rfl rfl rfl ⟨rfl, Rdc.blk (.head _) rfl⟩) ?_
  obtain ⟨x22, hx23, H⟩ := bnd H
  refine Ow_want rfl rfl rfl rfl (OpW_call rfl Try.call120 rfl rfl (c_M_51z p0 vp0_chans vp0_waiting p1 p2 x22 hx23 _ _ hp0_chans hp0_waiting) ?_)
  rintro _ K24 _ hK25 ⟨rfl, rfl⟩
  refine Ow_qw rfl rfl rfl rfl rfl rfl (Qt_cmp rfl rfl rfl) ?_
  refine Ow_q rfl rfl rfl (Qt_pick_f rfl rfl) ?_
  refine Ow_q rfl rfl rfl (Qt_assign rfl) ?_
  refine Ow_nil ?_
  refine Cw_ret ?_
  obtain ey0 := inj1 H
  subst y0
  refine ⟨(by first | exact .inl rfl | exact .inr rfl), [(.bool (dcd (x22 ≥ 0)))], ⟨(.bool (dcd (x22 ≥ 0))), _, rfl, rfl, rfl⟩, ?_⟩
  refine Shift.rem .here ?_
  refine Shift.rem .here ?_
  refine Shift.done ?_
  exact ⟨rfl, rfl⟩



end Go.Hx
