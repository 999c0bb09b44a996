/- Printed by program. -/
import Derived.Test.YtgpoanmjkggijaaXCM
import Derived.Test.YtgpoanmjkggijaaXCWDraw
namespace Go.Hx
open Go Go.Proofs
set_option linter.unusedSimpArgs false
set_option linter.unusedVariables false
set_option maxRecDepth 10000
set_option maxHeartbeats 1000000 in
theorem c_M_20z (p0 : Op) (vp0_cases : SV) (vp0_draws : SV) (p1 : Int) (p2 : Bool) (y0 : Int) (H : M_20z p0 p1 p2 = some y0) (K : Kp) (G : List Ent) (hp0_cases : Slr TyCase K (sv vp0_cases) p0.cases) (hp0_draws : Slr Ty.i64 K (sv vp0_draws) p0.draws) :
  Fc Try.prog 115 #[(.agg (Op.cells p0 vp0_cases vp0_draws).toArray), (.int .i64 p1), (.bool p2)] K (G) (fun v K' G' => v = (.int .i64 y0) ∧ G = G') := by
 refine Fc_body Try.func115 rfl Try.ntmps115 Try.results115 rfl ?_
 unfold M_20z at H
 refine Cw_seq<|Cw_region<|?_
 refine Ow_cons rfl (OpW_box (cs := (Op.cells p0 vp0_cases vp0_draws)) rfl rfl rfl (fun b52 => ?_))
 refine Ow_q rfl rfl rfl (Qt_assign rfl)<|Ow_nil<|Cw_seq<|Cw_region<|Ow_q rfl rfl rfl (Qt_loadA (m := 7) (cs := (Op.cells p0 vp0_cases vp0_draws)) rfl rfl rfl rfl ⟨rfl, Rdc.blk Mb0 rfl⟩)<|?_
 obtain ⟨x53, hx54, H⟩ := bnd H
 refine Ow_cons rfl (OpW_call rfl Try.call63 rfl rfl (c_M_7z p0 vp0_cases vp0_draws x53 hx54 _ _ hp0_cases hp0_draws) ?_)
 rintro _ K56 _ hK57 ⟨v55, rfl, rfl, hs58⟩
 refine Ow_q rfl rfl rfl (Qt_assign rfl)<|Ow_nil<|?_
 refine Cw_join (fun env' K' G' => [] = env' ∧ G = G' ∧ M_189z = some y0) ?_ ?_
 ·skip
  refine Cw_seq<|Cw_region<|Ow_q rfl rfl rfl (Qt_assign rfl)<|Ow_nil<|Cw_block<|?_
  refine Cw_loopM (fun n131 env' K' G' => ∃ (i130 : Int), [(1, (.int .i64 p1)), (2, (.bool p2)), (7, (sv v55)), (8, (.int .i64 i130))] = env' ∧ K56 = K' ∧ G = G' ∧ lp1 (M_110z p1 p2 x53) n131 i130 = some y0) BIG ?_ ?_
  ·skip
   refine Re0<|Shift.done<|?_
   exact ⟨_, by exact ⟨rfl, rfl, rfl, rfl, trivial⟩, 0, rfl, rfl, rfl, H⟩
  rintro n131 _ _ _ - ⟨i130, rfl, rfl, rfl, H⟩
  obtain ⟨m132, k133, rfl, hkk134, H⟩ := lps1 H
  unfold M_110z at H
  refine Cw_seq<|Cw_seq<|Cw_region<|Ow_q rfl rfl rfl (Qt_move rfl)<|Ow_q rfl rfl rfl (Qt_move rfl)<|Ow_q rfl rfl rfl (Q_len (T := TyCase) hs58 rfl rfl)<|Ow_q rfl rfl rfl (Qt_cmp rfl rfl rfl)<|Ow_nil<|?_
  refine Cw_cond rfl ?_ ?_
  ·intro h136
   have h136 := dcd_t (h136)
   have H := ift h136 H
   refine Cw_skip<|Cw_seq<|Cw_block<|?_
   refine Cw_join (fun env' K' G' => ∃ (t161 : Bool), [(1, (.int .i64 p1)), (2, (.bool p2)), (7, (sv v55)), (8, (.int .i64 i130)), (32, (.bool t161))] = env' ∧ K56 = K' ∧ G = G' ∧ M_109z p1 p2 x53 i130 k133 t161 = some y0) ?_ ?_
   ·skip
    refine Cw_region<|Ow_q rfl rfl rfl (Qt_move rfl)<|Ow_q rfl rfl rfl (Qt_move rfl)<|?_
    obtain ⟨x162, hx163, H⟩ := bnd H
    obtain ⟨r164, hr165, hk166⟩ := Slr.at hs58 hx163
    obtain rfl := hr165
    refine Ow_q rfl rfl rfl (Q_ix (T := TyCase) hs58 hx163 rfl rfl rfl rfl rfl)<|Ow_q rfl rfl rfl (Qt_fieldAddr (m := 1) rfl rfl rfl rfl rfl)<|Ow_q rfl rfl rfl (Qt_load1 (v := (.int .i64 x162.channel)) rfl rfl rfl (Rdc.k hk166 rfl))<|Ow_q rfl rfl rfl (Qt_move rfl)<|Ow_q rfl rfl rfl (Qt_cmp rfl rfl rfl)<|Ow_q rfl rfl rfl (Qt_move rfl)<|?_
    refine Ow_caseG rfl rfl rfl ?_ ?_
    ·intro h167
     have h167 := dcd_t (h167)
     have H := ift h167 H
     refine Ow_qw rfl rfl rfl rfl rfl rfl (Qt_move rfl)<|Ow_qw rfl rfl rfl rfl rfl rfl (Qt_move rfl)<|?_
     obtain ⟨x168, hx169, H⟩ := bnd H
     obtain ⟨r170, hr171, hk172⟩ := Slr.at hs58 hx169
     obtain rfl := hr171
     refine Ow_qw rfl rfl rfl rfl rfl rfl (Q_ix (T := TyCase) hs58 hx169 rfl rfl rfl rfl rfl)<|Ow_qw rfl rfl rfl rfl rfl rfl (Qt_fieldAddr (m := 0) rfl rfl rfl rfl rfl)<|Ow_qw rfl rfl rfl rfl rfl rfl (Qt_load1 (v := (.bool x168.send)) rfl rfl rfl (Rdc.k hk172 rfl))<|Ow_qw rfl rfl rfl rfl rfl rfl (Qt_move rfl)<|Ow_qw rfl rfl rfl rfl rfl rfl (Qt_eqB rfl rfl rfl)<|Ow_q rfl rfl rfl (Qt_pick_t rfl rfl)<|Ow_nil<|Shift.done<|?_
     exact ⟨_, by exact ⟨rfl, rfl, rfl, rfl, rfl, trivial⟩, (x168.send == p2), rfl, rfl, rfl, H⟩
    ·intro h167
     have h167 := dcd_f (h167)
     have H := iff_ h167 H
     refine Ow_pass rfl rfl rfl rfl rfl rfl rfl<|Ow_pass rfl rfl rfl rfl rfl rfl rfl<|Ow_pass rfl rfl rfl rfl rfl rfl rfl<|Ow_pass rfl rfl rfl rfl rfl rfl rfl<|Ow_pass rfl rfl rfl rfl rfl rfl rfl<|Ow_pass rfl rfl rfl rfl rfl rfl rfl<|Ow_pass rfl rfl rfl rfl rfl rfl rfl<|Ow_q rfl rfl rfl (Qt_pick_f rfl rfl)<|Ow_nil<|Shift.done<|?_
     exact ⟨_, by exact ⟨rfl, rfl, rfl, rfl, rfl, trivial⟩, false, rfl, rfl, rfl, H⟩
   rintro _ _ _ - ⟨t161, rfl, rfl, rfl, H⟩
   unfold M_109z at H
   refine Cw_cond rfl ?_ ?_
   ·intro h173
    have H := ift h173 H
    refine Cw_seq<|Cw_region<|Ow_q rfl rfl rfl (Qt_move rfl)<|Ow_q rfl rfl rfl (Qt_assign rfl)<|Ow_nil<|Cw_ret<|?_
    obtain ey0 := inj1 H
    subst y0
    refine ⟨(by first | exact .inl rfl | exact .inr rfl), [(.int .i64 i130)], ⟨(.int .i64 i130), _, rfl, rfl, rfl⟩, ?_⟩
    exact Shift.done ⟨rfl, rfl⟩
   ·intro h173
    have H := iff_ (btf h173) H
    refine Cw_skip<|Cw_region<|Ow_q rfl rfl rfl (Qt_move rfl)<|Ow_q rfl rfl rfl (Qt_arith (e := wI (i130 + 1)) rfl rfl rfl rfl)<|Ow_q rfl rfl rfl (Qt_assign rfl)<|Ow_nil<|Shift.done<|?_
    exact ⟨_, by exact ⟨rfl, rfl, rfl, rfl, trivial⟩, _, Nat.lt_succ_self _, (wI (i130 + 1)), rfl, rfl, rfl, (hkk134 ▸ H)⟩
  ·intro h136
   have h136 := dcd_f (h136)
   have H := iff_ h136 H
   refine Cw_exit<|Shift.done<|?_
   exact ⟨[], trivial, rfl, rfl, H⟩
 rintro _ K174 _ hK175 ⟨rfl, rfl, H⟩
 unfold M_189z at H
 refine Cw_seq<|Cw_region<|Ow_q rfl rfl rfl (Qt_assign rfl)<|Ow_nil<|Cw_ret<|?_
 obtain ey0 := inj1 H
 subst y0
 refine ⟨(by first | exact .inl rfl | exact .inr rfl), [(.int .i64 (-1))], ⟨(.int .i64 (-1)), _, rfl, rfl, rfl⟩, ?_⟩
 exact Shift.done ⟨rfl, rfl⟩

set_option maxHeartbeats 1000000 in
theorem c_M_21z (p0 : Op) (vp0_cases : SV) (vp0_draws : SV) (p1 : Int) (y0 : Int) (H : M_21z p0 p1 = some y0) (K : Kp) (G : List Ent) (hp0_cases : Slr TyCase K (sv vp0_cases) p0.cases) (hp0_draws : Slr Ty.i64 K (sv vp0_draws) p0.draws) :
  Fc Try.prog 116 #[(.agg (Op.cells p0 vp0_cases vp0_draws).toArray), (.int .i64 p1)] K (G) (fun v K' G' => v = (.int .i64 y0) ∧ K = K' ∧ G = G') := by
 refine Fc_body Try.func116 rfl Try.ntmps116 Try.results116 rfl ?_
 unfold M_21z at H
 refine Cw_seq<|Cw_region<|?_
 refine Ow_cons rfl (OpW_box (cs := (Op.cells p0 vp0_cases vp0_draws)) rfl rfl rfl (fun b3 => ?_))
 refine Ow_q rfl rfl rfl (Qt_assign rfl)<|Ow_nil<|Cw_seq<|Cw_seq<|Cw_region<|Ow_q rfl rfl rfl (Qt_fieldAddr (m := 0) rfl rfl rfl rfl rfl)<|Ow_q rfl rfl rfl (Qt_load1 (v := (.int .i64 p0.kind)) rfl rfl rfl (Rdc.blk Mb0 rfl))<|Ow_q rfl rfl rfl (Qt_cmp rfl rfl rfl)<|Ow_nil<|?_
 refine Cw_cond rfl ?_ ?_
 ·intro h5
  have h5 := dcd_t (h5)
  have H := ift h5 H
  refine Cw_seq<|Cw_region<|Ow_q rfl rfl rfl (Qt_move rfl)<|Ow_q rfl rfl rfl (Qt_assign rfl)<|Ow_nil<|Cw_ret<|?_
  obtain ey0 := inj1 H
  subst y0
  refine ⟨(by first | exact .inl rfl | exact .inr rfl), [(.int .i64 p1)], ⟨(.int .i64 p1), _, rfl, rfl, rfl⟩, ?_⟩
  refine Re0<|Shift.done<|?_
  exact ⟨rfl, rfl, rfl⟩
 ·intro h5
  have h5 := dcd_f (h5)
  have H := iff_ h5 H
  refine Cw_skip<|Cw_seq<|Cw_region<|Ow_q rfl rfl rfl (Qt_assign rfl)<|Ow_nil<|Cw_ret<|?_
  obtain ey0 := inj1 H
  subst y0
  refine ⟨(by first | exact .inl rfl | exact .inr rfl), [(.int .i64 (-1))], ⟨(.int .i64 (-1)), _, rfl, rfl, rfl⟩, ?_⟩
  refine Re0<|Shift.done<|?_
  exact ⟨rfl, rfl, rfl⟩

set_option maxHeartbeats 1000000 in
theorem c_M_8z (p0 : Desk) (vp0_chans : SV) (vp0_waiting : SV) (p1 : Int) (y0 : Desk) (H : M_8z p0 p1 = some y0) (K : Kp) (G : List Ent) (hp0_chans : Slr TyChan K (sv vp0_chans) p0.chans) (hp0_waiting : Slr TyWaiter K (sv vp0_waiting) p0.waiting) :
  Fc Try.prog 117 #[(.agg (Desk.cells p0 vp0_chans vp0_waiting).toArray), (.int .i64 p1)] K (G) (fun v K' G' => ∃ (wy0_chans : SV) (wy0_waiting : SV), v = (.agg (Desk.cells y0 wy0_chans wy0_waiting).toArray) ∧ (.tok 77 8 [(sv wy0_waiting)]) :: G = G' ∧ Slr TyChan K' (sv wy0_chans) y0.chans ∧ Slr TyWaiter K' (sv wy0_waiting) y0.waiting) := by
 refine Fc_body Try.func117 rfl Try.ntmps117 Try.results117 rfl ?_
 unfold M_8z at H
 refine Cw_seq<|Cw_region<|?_
 refine Ow_cons rfl (OpW_box (cs := (Desk.cells p0 vp0_chans vp0_waiting)) rfl rfl rfl (fun b60 => ?_))
 refine Ow_cons rfl (OpW_alloc (cs := (Desk.cells (Desk.mk [] [] 0) nilS nilS)) rfl rfl rfl rfl (fun b61 => ?_))
 refine Ow_nil ?_
 refine Cw_join (fun env' K' G' => ∃ (v113 : SV) (l114 : List Waiter), [(2, (.pointer (some ((⟨b60, 0, none⟩ : Addr).add 0)))), (4, (.pointer (some ((⟨b61, 0, none⟩ : Addr).add 0))))] = env' ∧ (.blk b61 102 (Desk.cells (Desk.mk [] [] 0) nilS nilS)) :: (.blk b60 102 (Desk.cells (Desk.mk p0.chans l114 p0.tick) vp0_chans v113)) :: (.tok 77 8 [(sv v113)]) :: G = G' ∧ M_111z p0 l114 = some y0 ∧ Slr TyWaiter K' (sv v113) l114) ?_ ?_
 ·skip
  obtain ⟨x116, hx117, H⟩ := bnd H
  obtain ⟨x119, hx120, H⟩ := bnd H
  obtain ⟨x125, hx126, H⟩ := bnd H
  obtain ⟨x129, hx130, H⟩ := bnd H
  refine Cw_region_any [.blk b61 102 (Desk.cells (Desk.mk [] [] 0) nilS nilS)] rfl (Inc.cons Mb0 Inc.nil)<|Awq 0 rfl (by kernel_rfl) rfl rfl rfl (Qt_fieldAddr (m := 1) rfl rfl rfl rfl rfl)<|Awq 2 rfl (by kernel_rfl) rfl rfl rfl (Qt_move rfl)<|Awq 5 rfl (by kernel_rfl) rfl rfl rfl (Qt_fieldAddr (m := 1) rfl rfl rfl rfl rfl)<|Awq 7 rfl (by kernel_rfl) rfl rfl rfl (Qt_move rfl)<|Awq 8 rfl (by kernel_rfl) rfl rfl rfl (Qt_arith (e := wI (p1 + 1)) rfl rfl rfl rfl)<|?_
  refine Aw_two 1 6 (by kernel_rfl) ?_ ?_
  ·skip
   refine id (Ax_mk rfl rfl (OpW_of_Qt rfl rfl (Qt_load1 (v := (sv vp0_waiting)) rfl rfl rfl (Rdc.blk Mb1 rfl)) ⟨(Inc.cons Mb0 Inc.nil), ?_⟩))
   have hs135 := Slr.cut hp0_waiting hx117
   refine Awq 3 rfl (by kernel_rfl) rfl rfl rfl (Q_cutH (T := TyWaiter) hp0_waiting hx117 rfl rfl rfl rfl) ?_
   refine Aw_two 4 6 (by kernel_rfl) ?_ ?_
   ·skip
    refine id (Ax_mk rfl rfl ?_)
    refine OpW.shift (Shift.nilTok1 77 8 (Shift.done ?_))
    refine O_appTok (T := TyWaiter) (bytes := 96) (q := 0) rfl rfl rfl (Slr.nil TyWaiter _) Mb0 rfl (SrcT.sl hs135) hx120 rfl rfl rfl rfl rfl rfl rfl rfl (fun v136 K137 hK138 hs139 => ⟨_, .here, ⟨(Inc.cons Mb1 Inc.nil), ?_⟩⟩)
    refine Aw_one 6 (by kernel_rfl) (Ax_mk rfl rfl (OpW_of_Qt rfl rfl (Qt_load1 (v := (sv vp0_waiting)) rfl rfl rfl (Rdc.blk Mb2 rfl)) ⟨(Inc.cons Mb1 Inc.nil), ?_⟩))
    have hs140 := Slr.cutL hp0_waiting hx126
    refine Awq 9 rfl (by kernel_rfl) rfl rfl rfl (Q_cutL (T := TyWaiter) hp0_waiting hx126 rfl rfl rfl rfl rfl) ?_
    refine Aw_one 10 (by kernel_rfl) (Ax_mk rfl rfl ?_)
    have hs141 := (hs140).mono hK138
    refine O_appTok (T := TyWaiter) (bytes := 96) (q := 0) rfl rfl rfl hs139 Mb0 rfl (SrcT.sl hs141) hx130 rfl rfl rfl rfl rfl rfl rfl rfl (fun v142 K143 hK144 hs145 => ⟨_, .here, ⟨(Inc.cons Mb1 Inc.nil), ?_⟩⟩)
    refine Awq 11 rfl (by kernel_rfl) rfl rfl rfl (Qt_fieldAddr (m := 1) rfl rfl rfl rfl rfl) ?_
    refine Aw_one 12 (by kernel_rfl) (Ax_mk rfl rfl ?_)
    refine OpW_store (vs := [(sv v142)]) (all' := (Desk.cells (Desk.mk p0.chans x129 p0.tick) vp0_chans v142)) rfl rfl rfl rfl rfl (.there (.there .here)) rfl rfl rfl ⟨(Inc.cons Mb1 Inc.nil), ?_⟩
    refine Aw_done (by kernel_rfl)<|Pu2<|Pu2<|Shift.done<|?_
    exact ⟨_, by exact ⟨rfl, rfl, trivial⟩, v142, x129, rfl, rfl, H, hs145⟩
   ·skip
    refine id (Ax_mk rfl rfl (OpW_of_Qt rfl rfl (Qt_load1 (v := (sv vp0_waiting)) rfl rfl rfl (Rdc.blk Mb1 rfl)) ⟨(Inc.cons Mb0 Inc.nil), ?_⟩))
    have hs146 := Slr.cutL hp0_waiting hx126
    refine Awq 9 rfl (by kernel_rfl) rfl rfl rfl (Q_cutL (T := TyWaiter) hp0_waiting hx126 rfl rfl rfl rfl rfl) ?_
    refine Aw_one 4 (by kernel_rfl) (Ax_mk rfl rfl ?_)
    refine OpW.shift (Shift.nilTok1 77 8 (Shift.done ?_))
    refine O_appTok (T := TyWaiter) (bytes := 96) (q := 0) rfl rfl rfl (Slr.nil TyWaiter _) Mb0 rfl (SrcT.sl hs135) hx120 rfl rfl rfl rfl rfl rfl rfl rfl (fun v147 K148 hK149 hs150 => ⟨_, .here, ⟨(Inc.cons Mb1 Inc.nil), ?_⟩⟩)
    refine Aw_one 10 (by kernel_rfl) (Ax_mk rfl rfl ?_)
    have hs151 := (hs146).mono hK149
    refine O_appTok (T := TyWaiter) (bytes := 96) (q := 0) rfl rfl rfl hs150 Mb0 rfl (SrcT.sl hs151) hx130 rfl rfl rfl rfl rfl rfl rfl rfl (fun v152 K153 hK154 hs155 => ⟨_, .here, ⟨(Inc.cons Mb1 Inc.nil), ?_⟩⟩)
    refine Awq 11 rfl (by kernel_rfl) rfl rfl rfl (Qt_fieldAddr (m := 1) rfl rfl rfl rfl rfl) ?_
    refine Aw_one 12 (by kernel_rfl) (Ax_mk rfl rfl ?_)
    refine OpW_store (vs := [(sv v152)]) (all' := (Desk.cells (Desk.mk p0.chans x129 p0.tick) vp0_chans v152)) rfl rfl rfl rfl rfl (.there (.there .here)) rfl rfl rfl ⟨(Inc.cons Mb1 Inc.nil), ?_⟩
    refine Aw_done (by kernel_rfl)<|Pu2<|Pu2<|Shift.done<|?_
    exact ⟨_, by exact ⟨rfl, rfl, trivial⟩, v152, x129, rfl, rfl, H, hs155⟩
  ·skip
   refine id (Ax_mk rfl rfl (OpW_of_Qt rfl rfl (Qt_load1 (v := (sv vp0_waiting)) rfl rfl rfl (Rdc.blk Mb1 rfl)) ⟨(Inc.cons Mb0 Inc.nil), ?_⟩))
   have hs156 := Slr.cutL hp0_waiting hx126
   refine Awq 9 rfl (by kernel_rfl) rfl rfl rfl (Q_cutL (T := TyWaiter) hp0_waiting hx126 rfl rfl rfl rfl rfl) ?_
   refine Aw_one 1 (by kernel_rfl) (Ax_mk rfl rfl (OpW_of_Qt rfl rfl (Qt_load1 (v := (sv vp0_waiting)) rfl rfl rfl (Rdc.blk Mb1 rfl)) ⟨(Inc.cons Mb0 Inc.nil), ?_⟩))
   have hs157 := Slr.cut hp0_waiting hx117
   refine Awq 3 rfl (by kernel_rfl) rfl rfl rfl (Q_cutH (T := TyWaiter) hp0_waiting hx117 rfl rfl rfl rfl) ?_
   refine Aw_one 4 (by kernel_rfl) (Ax_mk rfl rfl ?_)
   refine OpW.shift (Shift.nilTok1 77 8 (Shift.done ?_))
   refine O_appTok (T := TyWaiter) (bytes := 96) (q := 0) rfl rfl rfl (Slr.nil TyWaiter _) Mb0 rfl (SrcT.sl hs157) hx120 rfl rfl rfl rfl rfl rfl rfl rfl (fun v158 K159 hK160 hs161 => ⟨_, .here, ⟨(Inc.cons Mb1 Inc.nil), ?_⟩⟩)
   refine Aw_one 10 (by kernel_rfl) (Ax_mk rfl rfl ?_)
   have hs162 := (hs156).mono hK160
   refine O_appTok (T := TyWaiter) (bytes := 96) (q := 0) rfl rfl rfl hs161 Mb0 rfl (SrcT.sl hs162) hx130 rfl rfl rfl rfl rfl rfl rfl rfl (fun v163 K164 hK165 hs166 => ⟨_, .here, ⟨(Inc.cons Mb1 Inc.nil), ?_⟩⟩)
   refine Awq 11 rfl (by kernel_rfl) rfl rfl rfl (Qt_fieldAddr (m := 1) rfl rfl rfl rfl rfl) ?_
   refine Aw_one 12 (by kernel_rfl) (Ax_mk rfl rfl ?_)
   refine OpW_store (vs := [(sv v163)]) (all' := (Desk.cells (Desk.mk p0.chans x129 p0.tick) vp0_chans v163)) rfl rfl rfl rfl rfl (.there (.there .here)) rfl rfl rfl ⟨(Inc.cons Mb1 Inc.nil), ?_⟩
   refine Aw_done (by kernel_rfl)<|Pu2<|Pu2<|Shift.done<|?_
   exact ⟨_, by exact ⟨rfl, rfl, trivial⟩, v163, x129, rfl, rfl, H, hs166⟩
 rintro _ K167 _ hK168 ⟨v113, l114, rfl, rfl, H, hs115⟩
 unfold M_111z at H
 refine Cw_seq<|Cw_region<|Ow_q rfl rfl rfl (Qt_loadA (m := 3) (cs := (Desk.cells (Desk.mk p0.chans l114 p0.tick) vp0_chans v113)) rfl rfl rfl rfl ⟨rfl, Rdc.blk Mb1 rfl⟩)<|?_
 refine Ow_cons rfl (OpW_store (vs := (Desk.cells (Desk.mk p0.chans l114 p0.tick) vp0_chans v113)) (all' := (Desk.cells (Desk.mk p0.chans l114 p0.tick) vp0_chans v113)) rfl rfl rfl rfl rfl .here rfl rfl rfl ?_)
 refine Ow_nil<|Cw_ret<|?_
 obtain ey0 := inj1 H
 subst y0
 refine ⟨(by first | exact .inl rfl | exact .inr rfl), [(.agg (Desk.cells (Desk.mk p0.chans l114 p0.tick) vp0_chans v113).toArray)], ⟨(.agg (Desk.cells (Desk.mk p0.chans l114 p0.tick) vp0_chans v113).toArray), _, rfl, ⟨_, 3, (Desk.cells (Desk.mk p0.chans l114 p0.tick) vp0_chans v113), rfl, rfl, rfl, rfl, ⟨rfl, Rdc.blk Mb0 rfl⟩, rfl⟩, rfl⟩, ?_⟩
 refine Pu2<|Re1<|Re1<|?_
 have hs169 := (hp0_chans).mono hK168
 exact Shift.done ⟨vp0_chans, v113, rfl, rfl, hs169, hs115⟩

set_option maxHeartbeats 1000000 in
theorem c_M_36z (p0 : List Done) (vp0 : SV) (p1 : Int) (p2 : Result) (y0 : List Done) (H : M_36z p0 p1 p2 = some y0) (K : Kp) (G : List Ent) (hp0 : Slr TyDone K (sv vp0) p0) :
  Fc Try.prog 118 #[(sv vp0), (.int .i64 p1), (.agg (Result.cells p2).toArray)] K (G) (fun v K' G' => ∃ (wy0 : SV), v = (sv wy0) ∧ (.tok 108 6 [(sv wy0)]) :: G = G' ∧ Slr TyDone K' (sv wy0) y0) := by
 refine Fc_body Try.func118 rfl Try.ntmps118 Try.results118 rfl ?_
 unfold M_36z at H
 refine Cw_seq<|Cw_region<|?_
 refine Ow_cons rfl (OpW_box (cs := (Result.cells p2)) rfl rfl rfl (fun b97 => ?_))
 refine Ow_q rfl rfl rfl (Qt_assign rfl)<|Ow_nil<|Cw_seq<|Cw_region<|Ow_q rfl rfl rfl (Qt_move rfl)<|Ow_q rfl rfl rfl (Q_len (T := TyDone) hp0 rfl rfl)<|Ow_q rfl rfl rfl (Qt_assign rfl)<|Ow_nil<|?_
 refine Cw_join (fun env' K' G' => ∃ (i122 : Int), [(0, (sv vp0)), (1, (.int .i64 p1)), (5, (.pointer (some ((⟨b97, 0, none⟩ : Addr).add 0)))), (7, (.int .i64 i122))] = env' ∧ (.blk b97 25 (Result.cells p2)) :: G = G' ∧ M_112z p0 p1 p2 i122 = some y0) ?_ ?_
 ·skip
  refine Cw_block ?_
  refine Cw_loopM (fun n147 env' K' G' => ∃ (i146 : Int), [(0, (sv vp0)), (1, (.int .i64 p1)), (5, (.pointer (some ((⟨b97, 0, none⟩ : Addr).add 0)))), (7, (.int .i64 i146))] = env' ∧ K = K' ∧ (.blk b97 25 (Result.cells p2)) :: G = G' ∧ lp1 (M_160z p0 p1 p2) n147 i146 = some y0) BIG ?_ ?_
  ·skip
   exact Shift.done ⟨_, by exact ⟨rfl, rfl, rfl, rfl, trivial⟩, (p0.length : Int), rfl, rfl, rfl, H⟩
  rintro n147 _ _ _ - ⟨i146, rfl, rfl, rfl, H⟩
  obtain ⟨m148, k149, rfl, hkk150, H⟩ := lps1 H
  unfold M_160z at H
  refine Cw_seq ?_
  refine Cw_join (fun env' K' G' => ∃ (t165 : Bool), [(0, (sv vp0)), (1, (.int .i64 p1)), (5, (.pointer (some ((⟨b97, 0, none⟩ : Addr).add 0)))), (7, (.int .i64 i146)), (22, (.bool t165))] = env' ∧ K = K' ∧ (.blk b97 25 (Result.cells p2)) :: G = G' ∧ M_113z p0 p1 i146 p2 k149 t165 = some y0) ?_ ?_
  ·skip
   refine Cw_region<|Ow_q rfl rfl rfl (Qt_move rfl)<|Ow_q rfl rfl rfl (Qt_cmp rfl rfl rfl)<|Ow_q rfl rfl rfl (Qt_move rfl)<|?_
   refine Ow_caseG rfl rfl rfl ?_ ?_
   ·intro h166
    have h166 := dcd_t (h166)
    have H := ift h166 H
    refine Ow_qw rfl rfl rfl rfl rfl rfl (Qt_move rfl)<|Ow_qw rfl rfl rfl rfl rfl rfl (Qt_move rfl)<|Ow_qw rfl rfl rfl rfl rfl rfl (Qt_arith (e := wI (i146 - 1)) rfl rfl rfl rfl)<|?_
    obtain ⟨x167, hx168, H⟩ := bnd H
    obtain ⟨r169, hr170, hk171⟩ := Slr.at hp0 hx168
    obtain rfl := hr170
    refine Ow_qw rfl rfl rfl rfl rfl rfl (Q_ix (T := TyDone) hp0 hx168 rfl rfl rfl rfl rfl)<|Ow_qw rfl rfl rfl rfl rfl rfl (Qt_fieldAddr (m := 0) rfl rfl rfl rfl rfl)<|Ow_qw rfl rfl rfl rfl rfl rfl (Qt_load1 (v := (.int .i64 x167.thread)) rfl rfl rfl (Rdc.k hk171 rfl))<|Ow_qw rfl rfl rfl rfl rfl rfl (Qt_move rfl)<|Ow_qw rfl rfl rfl rfl rfl rfl (Qt_cmp rfl rfl rfl)<|Ow_q rfl rfl rfl (Qt_pick_t rfl rfl)<|Ow_nil<|Shift.done<|?_
    exact ⟨_, by exact ⟨rfl, rfl, rfl, rfl, rfl, trivial⟩, (dcd (x167.thread > p1)), rfl, rfl, rfl, H⟩
   ·intro h166
    have h166 := dcd_f (h166)
    have H := iff_ h166 H
    refine Ow_pass rfl rfl rfl rfl rfl rfl rfl<|Ow_pass rfl rfl rfl rfl rfl rfl rfl<|Ow_pass rfl rfl rfl rfl rfl rfl rfl<|Ow_pass rfl rfl rfl rfl rfl rfl rfl<|Ow_pass rfl rfl rfl rfl rfl rfl rfl<|Ow_pass rfl rfl rfl rfl rfl rfl rfl<|Ow_pass rfl rfl rfl rfl rfl rfl rfl<|Ow_pass rfl rfl rfl rfl rfl rfl rfl<|Ow_q rfl rfl rfl (Qt_pick_f rfl rfl)<|Ow_nil<|?_
    exact Shift.done ⟨_, by exact ⟨rfl, rfl, rfl, rfl, rfl, trivial⟩, false, rfl, rfl, rfl, H⟩
  rintro _ _ _ - ⟨t165, rfl, rfl, rfl, H⟩
  unfold M_113z at H
  refine Cw_cond rfl ?_ ?_
  ·intro h172
   have H := ift h172 H
   refine Cw_skip<|Cw_block<|Cw_region<|Ow_q rfl rfl rfl (Qt_move rfl)<|Ow_q rfl rfl rfl (Qt_arith (e := wI (i146 - 1)) rfl rfl rfl rfl)<|Ow_q rfl rfl rfl (Qt_assign rfl)<|Ow_nil<|Shift.done<|?_
   exact ⟨_, by exact ⟨rfl, rfl, rfl, rfl, trivial⟩, _, Nat.lt_succ_self _, (wI (i146 - 1)), rfl, rfl, rfl, (hkk150 ▸ H)⟩
  ·intro h172
   have H := iff_ (btf h172) H
   refine Cw_exit<|Shift.done<|?_
   exact ⟨_, by exact ⟨rfl, rfl, rfl, rfl, trivial⟩, i146, rfl, rfl, H⟩
 rintro _ K173 _ hK174 ⟨i122, rfl, rfl, H⟩
 unfold M_112z at H
 refine Cw_seq<|Cw_region<|Ow_q rfl rfl rfl (Qt_move rfl)<|Ow_q rfl rfl rfl (Qt_move rfl)<|?_
 obtain ⟨x175, hx176, H⟩ := bnd H
 have hs177 := (hp0).mono hK174
 have hs178 := Slr.cut hs177 hx176
 refine Ow_q rfl rfl rfl (Q_cutH (T := TyDone) hs177 hx176 rfl rfl rfl rfl) ?_
 refine Ow.shift (Shift.nilTok1 108 6 (Shift.done ?_))
 obtain ⟨x179, hx180, H⟩ := bnd H
 refine Ow_cons rfl (O_appTok (T := TyDone) (bytes := 48) (q := 0) rfl rfl rfl (Slr.nil TyDone _) Mb0 rfl (SrcT.sl hs178) hx180 rfl rfl rfl rfl rfl rfl rfl rfl (fun v181 K182 hK183 hs184 => ⟨_, .here, ?_⟩))
 refine Ow_q rfl rfl rfl (Qt_assign rfl)<|Ow_nil<|Cw_seq<|?_
 obtain ⟨x218, hx219, H⟩ := bnd H
 obtain ⟨x224, hx225, H⟩ := bnd H
 obtain ⟨x228, hx229, H⟩ := bnd H
 refine Cw_region_any [.blk b97 25 (Result.cells p2)] rfl (Inc.cons Mb1 Inc.nil)<|Awq 0 rfl (by kernel_rfl) rfl rfl rfl (Qt_move rfl)<|Awq 1 rfl (by kernel_rfl) rfl rfl rfl (Qt_move rfl)<|Awq 2 rfl (by kernel_rfl) rfl rfl rfl (Qt_loadA (m := 5) (cs := (Result.cells p2)) rfl rfl rfl rfl ⟨rfl, Rdc.blk Mb0 rfl⟩)<|Awq 3 rfl (by kernel_rfl) rfl rfl rfl (Qt_build (cs := (Done.cells (Done.mk p1 p2))) rfl rfl rfl rfl rfl rfl)<|Awq 6 rfl (by kernel_rfl) rfl rfl rfl (Qt_move rfl)<|Awq 7 rfl (by kernel_rfl) rfl rfl rfl (Qt_move rfl)<|?_
 have hs234 := (hs177).mono hK183
 have hs235 := Slr.cutL hs234 hx225
 refine Awq 8 rfl (by kernel_rfl) rfl rfl rfl (Q_cutL (T := TyDone) hs234 hx225 rfl rfl rfl rfl rfl) ?_
 refine Aw_one 4 (by kernel_rfl) (Ax_mk rfl rfl ?_)
 have hR237 : RowR TyDone K182 [(Done.cells (Done.mk p1 p2))] [(Done.mk p1 p2)] := RowR.cons rfl (RowR.nil)
 refine O_lit (T := TyDone) (rows := [(Done.cells (Done.mk p1 p2))]) (l := [(Done.mk p1 p2)]) rfl rfl rfl hR237 rfl rfl rfl rfl rfl rfl rfl rfl (fun v236 => ⟨(Inc.cons Mb2 Inc.nil), ?_⟩)
 refine Aw_one 5 (by kernel_rfl) (Ax_mk rfl rfl ?_)
 refine O_appTok (T := TyDone) (bytes := 48) (q := 0) rfl rfl rfl hs184 Mb1 rfl (SrcT.row Mb0 hR237 rfl) hx219 rfl rfl rfl rfl rfl rfl rfl rfl (fun v238 K239 hK240 hs241 => ⟨_, (.there .here), ⟨(Inc.cons Mb2 Inc.nil), ?_⟩⟩)
 refine Aw.shift (Re0 (Shift.done ⟨(Inc.cons Mb1 Inc.nil), ?_⟩))
 refine Aw_one 9 (by kernel_rfl) (Ax_mk rfl rfl ?_)
 have hs242 := (hs235).mono hK240
 refine O_appTok (T := TyDone) (bytes := 48) (q := 0) rfl rfl rfl hs241 Mb0 rfl (SrcT.sl hs242) hx229 rfl rfl rfl rfl rfl rfl rfl rfl (fun v243 K244 hK245 hs246 => ⟨_, .here, ⟨(Inc.cons Mb1 Inc.nil), ?_⟩⟩)
 refine Awq 10 rfl (by kernel_rfl) rfl rfl rfl (Qt_assign rfl)<|Aw_done (by kernel_rfl)<|Cw_ret<|?_
 obtain ey0 := inj1 H
 subst y0
 refine ⟨(by first | exact .inl rfl | exact .inr rfl), [(sv v243)], ⟨(sv v243), _, rfl, rfl, rfl⟩, ?_⟩
 refine Re1<|Shift.done<|?_
 exact ⟨v243, rfl, rfl, hs246⟩

set_option maxHeartbeats 1000000 in
theorem c_M_115z (p0 : Desk) (vp0_chans : SV) (vp0_waiting : SV) (p1 : Int) (p2 : Op) (vp2_cases : SV) (vp2_draws : SV) (y0 : Desk) (y1 : List Done) (H : M_115z p0 p1 p2 = some (y0, y1)) (K : Kp) (G : List Ent) (hp0_chans : Slr TyChan K (sv vp0_chans) p0.chans) (hp0_waiting : Slr TyWaiter K (sv vp0_waiting) p0.waiting) (hp2_cases : Slr TyCase K (sv vp2_cases) p2.cases) (hp2_draws : Slr Ty.i64 K (sv vp2_draws) p2.draws) :
  Fc Try.prog 101 #[(.agg (Desk.cells p0 vp0_chans vp0_waiting).toArray), (.int .i64 p1), (.agg (Op.cells p2 vp2_cases vp2_draws).toArray)] K (G) (fun v K' G' => ∃ (wy0_chans : SV) (wy0_waiting : SV) (wy1 : SV), v = (.tuple #[(.agg (Desk.cells y0 wy0_chans wy0_waiting).toArray), (sv wy1)]) ∧ (.tok 108 6 [(sv wy1)]) :: G = G' ∧ Slr TyChan K' (sv wy0_chans) y0.chans ∧ Slr TyWaiter K' (sv wy0_waiting) y0.waiting ∧ Slr TyDone K' (sv wy1) y1) := by
 refine Fc_body Try.func101 rfl Try.ntmps101 Try.results101 rfl ?_
 unfold M_115z at H
 refine Cw_seq<|Cw_region<|?_
 refine Ow_cons rfl (OpW_box (cs := (Desk.cells p0 vp0_chans vp0_waiting)) rfl rfl rfl (fun b321 => ?_))
 refine Ow_cons rfl (OpW_box (cs := (Op.cells p2 vp2_cases vp2_draws)) rfl rfl rfl (fun b322 => ?_))
 refine Ow_cons rfl (OpW_alloc (cs := (Desk.cells (Desk.mk [] [] 0) nilS nilS)) rfl rfl rfl rfl (fun b323 => ?_))
 refine Ow_q rfl rfl rfl (Qt_assign rfl)<|Ow_nil<|Cw_seq<|?_
 refine Cw_join (fun env' K' G' => ∃ (t346 : Bool), [(1, (.int .i64 p1)), (3, (.pointer (some ((⟨b321, 0, none⟩ : Addr).add 0)))), (5, (.pointer (some ((⟨b322, 0, none⟩ : Addr).add 0)))), (6, (.pointer (some ((⟨b323, 0, none⟩ : Addr).add 0)))), (34, (.bool t346))] = env' ∧ K = K' ∧ (.blk b323 102 (Desk.cells (Desk.mk [] [] 0) nilS nilS)) :: (.blk b322 38 (Op.cells p2 vp2_cases vp2_draws)) :: (.blk b321 102 (Desk.cells p0 vp0_chans vp0_waiting)) :: G = G' ∧ M_65z p1 p2 p0 t346 = some (y0, y1)) ?_ ?_
 ·skip
  refine Cw_region<|Ow_q rfl rfl rfl (Qt_fieldAddr (m := 2) rfl rfl rfl rfl rfl)<|Ow_q rfl rfl rfl (Qt_load1 (v := (.int .i64 p2.channel)) rfl rfl rfl (Rdc.blk Mb1 rfl))<|Ow_q rfl rfl rfl (Qt_cmp rfl rfl rfl)<|Ow_q rfl rfl rfl (Qt_move rfl)<|?_
  refine Ow_caseG rfl rfl rfl ?_ ?_
  ·intro h347
   have h347 := dcd_t (h347)
   have H := ift h347 H
   refine Ow_pass rfl rfl rfl rfl rfl rfl rfl<|Ow_pass rfl rfl rfl rfl rfl rfl rfl<|Ow_pass rfl rfl rfl rfl rfl rfl rfl<|Ow_pass rfl rfl rfl rfl rfl rfl rfl<|Ow_pass rfl rfl rfl rfl rfl rfl rfl<|Ow_pass rfl rfl rfl rfl rfl rfl rfl<|Ow_q rfl rfl rfl (Qt_pick_t rfl rfl)<|Ow_q rfl rfl rfl (Qt_move rfl)<|Ow_pass rfl rfl rfl rfl rfl rfl rfl<|Ow_pass rfl rfl rfl rfl rfl rfl rfl<|?_
   refine Ow_pass rfl rfl rfl rfl rfl rfl rfl<|Ow_pass rfl rfl rfl rfl rfl rfl rfl<|Ow_pass rfl rfl rfl rfl rfl rfl rfl<|Ow_pass rfl rfl rfl rfl rfl rfl rfl<|Ow_pass rfl rfl rfl rfl rfl rfl rfl<|Ow_q rfl rfl rfl (Qt_pick_t rfl rfl)<|Ow_nil<|Pu2<|Pu2<|Pu2<|?_
   exact Shift.done ⟨_, by exact ⟨rfl, rfl, rfl, rfl, rfl, trivial⟩, true, rfl, rfl, rfl, H⟩
  ·intro h347
   have h347 := dcd_f (h347)
   have H := iff_ h347 H
   refine Ow_qw rfl rfl rfl rfl rfl rfl (Qt_fieldAddr (m := 2) rfl rfl rfl rfl rfl)<|Ow_qw rfl rfl rfl rfl rfl rfl (Qt_load1 (v := (.int .i64 p2.channel)) rfl rfl rfl (Rdc.blk Mb1 rfl))<|Ow_qw rfl rfl rfl rfl rfl rfl (Qt_fieldAddr (m := 0) rfl rfl rfl rfl rfl)<|Ow_qw rfl rfl rfl rfl rfl rfl (Qt_load1 (v := (sv vp0_chans)) rfl rfl rfl (Rdc.blk Mb2 rfl))<|Ow_qw rfl rfl rfl rfl rfl rfl (Q_len (T := TyChan) hp0_chans rfl rfl)<|Ow_qw rfl rfl rfl rfl rfl rfl (Qt_cmp rfl rfl rfl)<|Ow_q rfl rfl rfl (Qt_pick_f rfl rfl)<|Ow_q rfl rfl rfl (Qt_move rfl)<|?_
   refine Ow_caseG rfl rfl rfl ?_ ?_
   ·intro h348
    have h348 := dcd_t (h348)
    have H := ift h348 H
    refine Ow_pass rfl rfl rfl rfl rfl rfl rfl<|Ow_pass rfl rfl rfl rfl rfl rfl rfl<|Ow_pass rfl rfl rfl rfl rfl rfl rfl<|Ow_pass rfl rfl rfl rfl rfl rfl rfl<|Ow_pass rfl rfl rfl rfl rfl rfl rfl<|Ow_pass rfl rfl rfl rfl rfl rfl rfl<|Ow_pass rfl rfl rfl rfl rfl rfl rfl<|Ow_q rfl rfl rfl (Qt_pick_t rfl rfl)<|Ow_nil<|Pu2<|?_
    refine Pu2<|Pu2<|Shift.done<|?_
    exact ⟨_, by exact ⟨rfl, rfl, rfl, rfl, rfl, trivial⟩, true, rfl, rfl, rfl, H⟩
   ·intro h348
    have h348 := dcd_f (h348)
    have H := iff_ h348 H
    refine Ow_qw rfl rfl rfl rfl rfl rfl (Qt_fieldAddr (m := 0) rfl rfl rfl rfl rfl)<|Ow_qw rfl rfl rfl rfl rfl rfl (Qt_load1 (v := (sv vp0_chans)) rfl rfl rfl (Rdc.blk Mb2 rfl))<|Ow_qw rfl rfl rfl rfl rfl rfl (Qt_fieldAddr (m := 2) rfl rfl rfl rfl rfl)<|Ow_qw rfl rfl rfl rfl rfl rfl (Qt_load1 (v := (.int .i64 p2.channel)) rfl rfl rfl (Rdc.blk Mb1 rfl))<|?_
    obtain ⟨x349, hx350, H⟩ := bnd H
    obtain ⟨r351, hr352, hk353⟩ := Slr.at hp0_chans hx350
    obtain ⟨v354, rfl, hs355⟩ := hr352
    refine Ow_qw rfl rfl rfl rfl rfl rfl (Q_ix (T := TyChan) hp0_chans hx350 rfl rfl rfl rfl rfl)<|Ow_qw rfl rfl rfl rfl rfl rfl (Qt_fieldAddr (m := 2) rfl rfl rfl rfl rfl)<|Ow_qw rfl rfl rfl rfl rfl rfl (Qt_load1 (v := (.bool x349.closed)) rfl rfl rfl (Rdc.k hk353 rfl))<|Ow_q rfl rfl rfl (Qt_pick_f rfl rfl)<|Ow_nil<|Pu2<|Pu2<|Pu2<|Shift.done<|?_
    exact ⟨_, by exact ⟨rfl, rfl, rfl, rfl, rfl, trivial⟩, x349.closed, rfl, rfl, rfl, H⟩
 rintro _ _ _ - ⟨t346, rfl, rfl, rfl, H⟩
 unfold M_65z at H
 refine Cw_cond rfl ?_ ?_
 ·intro h356
  have H := ift h356 H
  refine Cw_seq<|Cw_region<|Ow_q rfl rfl rfl (Qt_loadA (m := 3) (cs := (Desk.cells p0 vp0_chans vp0_waiting)) rfl rfl rfl rfl ⟨rfl, Rdc.blk Mb2 rfl⟩)<|Ow_q rfl rfl rfl (Qt_move rfl)<|Ow_q rfl rfl rfl (Qt_build (cs := (Result.cells (Result.mk 5 (-1) 0 false 0))) rfl rfl rfl rfl rfl rfl)<|Ow_q rfl rfl rfl (Qt_build (cs := (Done.cells (Done.mk p1 (Result.mk 5 (-1) 0 false 0)))) rfl rfl rfl rfl rfl rfl)<|?_
  have hR358 : RowR TyDone K [(Done.cells (Done.mk p1 (Result.mk 5 (-1) 0 false 0)))] [(Done.mk p1 (Result.mk 5 (-1) 0 false 0))] := RowR.cons rfl (RowR.nil)
  refine Ow_cons rfl (O_lit (T := TyDone) (rows := [(Done.cells (Done.mk p1 (Result.mk 5 (-1) 0 false 0)))]) (l := [(Done.mk p1 (Result.mk 5 (-1) 0 false 0))]) rfl rfl rfl hR358 rfl rfl rfl rfl rfl rfl rfl rfl (fun v357 => ?_))
  refine Ow_cons rfl (OpW_store (vs := (Desk.cells p0 vp0_chans vp0_waiting)) (all' := (Desk.cells p0 vp0_chans vp0_waiting)) rfl rfl rfl rfl rfl (.there .here) rfl rfl rfl ?_)
  refine Ow_q rfl rfl rfl (Qt_assign rfl)<|Ow_nil<|Cw_ret<|?_
  obtain ⟨ey0, ey1⟩ := inj2 H
  subst y0 y1
  refine ⟨(by first | exact .inl rfl | exact .inr rfl), [(.agg (Desk.cells p0 vp0_chans vp0_waiting).toArray), (sv v357)], ⟨(.agg (Desk.cells p0 vp0_chans vp0_waiting).toArray), _, rfl, ⟨_, 3, (Desk.cells p0 vp0_chans vp0_waiting), rfl, rfl, rfl, rfl, ⟨rfl, Rdc.blk Mb1 rfl⟩, rfl⟩, ⟨(sv v357), _, rfl, rfl, rfl⟩⟩, ?_⟩
  refine Shift.settle (T := TyDone) .here hR358 rfl ?_
  intro K359 hK360 hs361
  refine Re1<|Re1<|Re1<|?_
  have hs362 := (hp0_chans).mono hK360
  have hs363 := (hp0_waiting).mono hK360
  exact Shift.done ⟨vp0_chans, vp0_waiting, v357, rfl, rfl, hs362, hs363, hs361⟩
 ·intro h356
  have H := iff_ (btf h356) H
  refine Cw_skip<|Cw_seq<|Cw_region<|Ow_q rfl rfl rfl (Qt_fieldAddr (m := 0) rfl rfl rfl rfl rfl)<|Ow_q rfl rfl rfl (Qt_load1 (v := (sv vp0_chans)) rfl rfl rfl (Rdc.blk Mb2 rfl))<|Ow_q rfl rfl rfl (Qt_fieldAddr (m := 2) rfl rfl rfl rfl rfl)<|Ow_q rfl rfl rfl (Qt_load1 (v := (.int .i64 p2.channel)) rfl rfl rfl (Rdc.blk Mb1 rfl))<|?_
  obtain ⟨x364, hx365, H⟩ := bnd H
  obtain ⟨r366, hr367, hk368⟩ := Slr.at hp0_chans hx365
  obtain ⟨v369, rfl, hs370⟩ := hr367
  refine Ow_q rfl rfl rfl (Q_ix (T := TyChan) hp0_chans hx365 rfl rfl rfl rfl rfl)<|Ow_q rfl rfl rfl (Qt_loadA (m := 3) (cs := (Chan.cells x364 v369)) rfl rfl rfl rfl ⟨rfl, Rdc.k hk368 rfl⟩)<|?_
  refine Ow_cons rfl (OpW_alloc (cs := (Chan.cells (Chan.mk 0 [] false) nilS)) rfl rfl rfl rfl (fun b371 => ?_))
  refine Ow_cons rfl (OpW_store (vs := (Chan.cells x364 v369)) (all' := (Chan.cells x364 v369)) rfl rfl rfl rfl rfl .here rfl rfl rfl ?_)
  refine Ow_nil<|Cw_seq<|Cw_region<|Ow_q rfl rfl rfl (Qt_fieldAddr (m := 2) rfl rfl rfl rfl rfl)<|?_
  refine Ow_cons rfl (OpW_store (vs := [(.bool true)]) (all' := (Chan.cells (Chan.mk x364.capacity x364.buffer true) v369)) rfl rfl rfl rfl rfl .here rfl rfl rfl ?_)
  refine Ow_nil<|Cw_seq<|Cw_region<|Ow_q rfl rfl rfl (Qt_loadA (m := 3) (cs := (Desk.cells p0 vp0_chans vp0_waiting)) rfl rfl rfl rfl ⟨rfl, Rdc.blk Mb3 rfl⟩)<|Ow_q rfl rfl rfl (Qt_fieldAddr (m := 2) rfl rfl rfl rfl rfl)<|Ow_q rfl rfl rfl (Qt_load1 (v := (.int .i64 p2.channel)) rfl rfl rfl (Rdc.blk Mb2 rfl))<|Ow_q rfl rfl rfl (Qt_loadA (m := 3) (cs := (Chan.cells (Chan.mk x364.capacity x364.buffer true) v369)) rfl rfl rfl rfl ⟨rfl, Rdc.blk Mb0 rfl⟩)<|?_
  obtain ⟨x372, hx373, H⟩ := bnd H
  refine Ow_cons rfl (OpW_call rfl Try.call114 rfl rfl (c_M_19z p0 vp0_chans vp0_waiting p2.channel (Chan.mk x364.capacity x364.buffer true) v369 x372 hx373 _ _ hp0_chans hp0_waiting hs370) ?_)
  rintro _ _ _ - ⟨v374, rs375, v376, rfl, rfl, rfl, hs377, hs378⟩
  refine Ow_cons rfl (OpW_store (vs := (Desk.cells x372 v374 v376)) (all' := (Desk.cells x372 v374 v376)) rfl rfl rfl rfl rfl (.there (.there (.there (.there .here)))) rfl rfl rfl ?_)
  refine Ow_nil<|Cw_seq<|Cw_region<|Ow_q rfl rfl rfl (Qt_move rfl)<|Ow_q rfl rfl rfl (Qt_build (cs := (Result.cells (Result.mk 6 (-1) 0 false 0))) rfl rfl rfl rfl rfl rfl)<|Ow_q rfl rfl rfl (Qt_build (cs := (Done.cells (Done.mk p1 (Result.mk 6 (-1) 0 false 0)))) rfl rfl rfl rfl rfl rfl)<|?_
  have hR380 : RowR TyDone K [(Done.cells (Done.mk p1 (Result.mk 6 (-1) 0 false 0)))] [(Done.mk p1 (Result.mk 6 (-1) 0 false 0))] := RowR.cons rfl (RowR.nil)
  refine Ow_cons rfl (O_lit (T := TyDone) (rows := [(Done.cells (Done.mk p1 (Result.mk 6 (-1) 0 false 0)))]) (l := [(Done.mk p1 (Result.mk 6 (-1) 0 false 0))]) rfl rfl rfl hR380 rfl rfl rfl rfl rfl rfl rfl rfl (fun v379 => ?_))
  refine Ow_q rfl rfl rfl (Qt_assign rfl)<|Ow_nil<|?_
  refine Cw_join (fun env' K' G' => ∃ (v648 : SV) (l649 : List Done) (v651 : SV) (l652 : List Chan) (v654 : SV) (l655 : List Waiter) (i657 : Int), [(3, (.pointer (some ((⟨b321, 0, none⟩ : Addr).add 0)))), (6, (.pointer (some ((⟨b323, 0, none⟩ : Addr).add 0)))), (9, (sv v648))] = env' ∧ (.blk b323 102 (Desk.cells (Desk.mk [] [] 0) nilS nilS)) :: (.blk b321 102 (Desk.cells (Desk.mk l652 l655 i657) v651 v654)) :: (.tok 108 6 [(sv v648)]) :: G = G' ∧ M_114z l649 l652 l655 i657 = some (y0, y1) ∧ Slr TyDone K' (sv v648) l649 ∧ Slr TyChan K' (sv v651) l652 ∧ Slr TyWaiter K' (sv v654) l655) ?_ ?_
  ·skip
   refine Cw_seq<|Cw_region<|Ow_q rfl rfl rfl (Qt_assign rfl)<|Ow_nil<|Cw_block<|?_
   refine Cw_loopM (fun n925 env' K' G' => ∃ (v914 : SV) (l915 : List Done) (i917 : Int) (v918 : SV) (l919 : List Chan) (v921 : SV) (l922 : List Waiter) (i924 : Int), [(3, (.pointer (some ((⟨b321, 0, none⟩ : Addr).add 0)))), (5, (.pointer (some ((⟨b322, 0, none⟩ : Addr).add 0)))), (6, (.pointer (some ((⟨b323, 0, none⟩ : Addr).add 0)))), (9, (sv v914)), (10, (.int .i64 i917))] = env' ∧ (.blk b323 102 (Desk.cells (Desk.mk [] [] 0) nilS nilS)) :: (.blk b322 38 (Op.cells p2 vp2_cases vp2_draws)) :: (.blk b321 102 (Desk.cells (Desk.mk l919 l922 i924) v918 v921)) :: (.tok 108 6 [(sv v914)]) :: G = G' ∧ lp5 (M_37z p2) n925 l915 i917 l919 l922 i924 = some (y0, y1) ∧ Slr TyDone K' (sv v914) l915 ∧ Slr TyChan K' (sv v918) l919 ∧ Slr TyWaiter K' (sv v921) l922) BIG ?_ ?_
   ·skip
    refine Shift.settle (T := TyDone) .here hR380 rfl ?_
    intro K926 hK927 hs928
    have hs932 := (hs377).mono hK927
    refine Shift.settle (T := TyChan) (.there .here) hs932 rfl ?_
    intro K929 hK930 hs931
    refine Pu5<|Pu5<|Pu5<|Re4<|Re4<|?_
    have hs933 := (hs928).mono hK930
    have hs934 := ((hs378).mono hK927).mono hK930
    exact Shift.done ⟨_, by exact ⟨rfl, rfl, rfl, rfl, rfl, trivial⟩, v379, [(Done.mk p1 (Result.mk 6 (-1) 0 false 0))], 0, v374, x372.chans, v376, x372.waiting, x372.tick, rfl, rfl, H, hs933, hs931, hs934⟩
   rintro n925 _ K935 _ hK936 ⟨v914, l915, i917, v918, l919, v921, l922, i924, rfl, rfl, H, hs916, hs920, hs923⟩
   obtain ⟨m937, k938, rfl, hkk939, H⟩ := lps5 H
   unfold M_37z at H
   refine Cw_seq<|Cw_seq<|Cw_region<|Ow_q rfl rfl rfl (Qt_move rfl)<|Ow_q rfl rfl rfl (Qt_cmp rfl rfl rfl)<|Ow_nil<|?_
   refine Cw_cond rfl ?_ ?_
   ·intro h941
    have h941 := dcd_t (h941)
    have H := ift h941 H
    refine Cw_skip ?_
    refine Cw_join (fun env' K' G' => ∃ (v1049 : SV) (l1050 : List Done) (v1052 : SV) (l1053 : List Chan) (v1055 : SV) (l1056 : List Waiter) (i1058 : Int), [(3, (.pointer (some ((⟨b321, 0, none⟩ : Addr).add 0)))), (5, (.pointer (some ((⟨b322, 0, none⟩ : Addr).add 0)))), (6, (.pointer (some ((⟨b323, 0, none⟩ : Addr).add 0)))), (9, (sv v1049)), (10, (.int .i64 i917))] = env' ∧ (.blk b323 102 (Desk.cells (Desk.mk [] [] 0) nilS nilS)) :: (.blk b322 38 (Op.cells p2 vp2_cases vp2_draws)) :: (.blk b321 102 (Desk.cells (Desk.mk l1053 l1056 i1058) v1052 v1055)) :: (.tok 108 6 [(sv v1049)]) :: G = G' ∧ M_161z i917 p2 k938 l1050 l1053 l1056 i1058 = some (y0, y1) ∧ Slr TyDone K' (sv v1049) l1050 ∧ Slr TyChan K' (sv v1052) l1053 ∧ Slr TyWaiter K' (sv v1055) l1056) ?_ ?_
    ·skip
     refine Cw_block<|Cw_seq<|Cw_region<|Ow_q rfl rfl rfl (Qt_assign rfl)<|Ow_nil<|Cw_block<|?_
     refine Cw_loopM (fun n1166 env' K' G' => ∃ (v1155 : SV) (l1156 : List Done) (i1158 : Int) (v1159 : SV) (l1160 : List Chan) (v1162 : SV) (l1163 : List Waiter) (i1165 : Int), [(3, (.pointer (some ((⟨b321, 0, none⟩ : Addr).add 0)))), (5, (.pointer (some ((⟨b322, 0, none⟩ : Addr).add 0)))), (6, (.pointer (some ((⟨b323, 0, none⟩ : Addr).add 0)))), (9, (sv v1155)), (10, (.int .i64 i917)), (11, (.int .i64 i1158))] = env' ∧ (.blk b323 102 (Desk.cells (Desk.mk [] [] 0) nilS nilS)) :: (.blk b322 38 (Op.cells p2 vp2_cases vp2_draws)) :: (.blk b321 102 (Desk.cells (Desk.mk l1160 l1163 i1165) v1159 v1162)) :: (.tok 108 6 [(sv v1155)]) :: G = G' ∧ lp5 (M_64z i917 p2 k938) n1166 l1156 i1158 l1160 l1163 i1165 = some (y0, y1) ∧ Slr TyDone K' (sv v1155) l1156 ∧ Slr TyChan K' (sv v1159) l1160 ∧ Slr TyWaiter K' (sv v1162) l1163) BIG ?_ ?_
     ·skip
      refine Pu3<|Pu3<|Pu3<|Pu3<|Shift.done<|?_
      exact ⟨_, by exact ⟨rfl, rfl, rfl, rfl, rfl, rfl, trivial⟩, v914, l915, 0, v918, l919, v921, l922, i924, rfl, rfl, H, hs916, hs920, hs923⟩
     rintro n1166 _ K1167 _ hK1168 ⟨v1155, l1156, i1158, v1159, l1160, v1162, l1163, i1165, rfl, rfl, H, hs1157, hs1161, hs1164⟩
     obtain ⟨m1169, k1170, rfl, hkk1171, H⟩ := lps5 H
     unfold M_64z at H
     refine Cw_seq<|Cw_seq<|Cw_region<|Ow_q rfl rfl rfl (Qt_move rfl)<|Ow_q rfl rfl rfl (Qt_fieldAddr (m := 1) rfl rfl rfl rfl rfl)<|Ow_q rfl rfl rfl (Qt_load1 (v := (sv v1162)) rfl rfl rfl (Rdc.blk Mb2 rfl))<|Ow_q rfl rfl rfl (Q_len (T := TyWaiter) hs1164 rfl rfl)<|Ow_q rfl rfl rfl (Qt_cmp rfl rfl rfl)<|Ow_nil<|?_
     refine Cw_cond rfl ?_ ?_
     ·intro h1173
      have h1173 := dcd_t (h1173)
      have H := ift h1173 H
      refine Cw_skip<|Cw_block<|Cw_seq<|Cw_region<|Ow_q rfl rfl rfl (Qt_fieldAddr (m := 1) rfl rfl rfl rfl rfl)<|Ow_q rfl rfl rfl (Qt_load1 (v := (sv v1162)) rfl rfl rfl (Rdc.blk Mb2 rfl))<|Ow_q rfl rfl rfl (Qt_move rfl)<|?_
      obtain ⟨x1174, hx1175, H⟩ := bnd H
      obtain ⟨r1176, hr1177, hk1178⟩ := Slr.at hs1164 hx1175
      obtain ⟨v1179, v1180, rfl, hs1181, hs1182⟩ := hr1177
      refine Ow_q rfl rfl rfl (Q_ix (T := TyWaiter) hs1164 hx1175 rfl rfl rfl rfl rfl)<|Ow_q rfl rfl rfl (Qt_loadA (m := 8) (cs := (Waiter.cells x1174 v1179 v1180)) rfl rfl rfl rfl ⟨rfl, Rdc.k hk1178 rfl⟩)<|?_
      refine Ow_cons rfl (OpW_alloc (cs := (Waiter.cells (Waiter.mk 0 (Op.mk 0 0 0 0 0 [] [])) nilS nilS)) rfl rfl rfl rfl (fun b1183 => ?_))
      refine Ow_cons rfl (OpW_store (vs := (Waiter.cells x1174 v1179 v1180)) (all' := (Waiter.cells x1174 v1179 v1180)) rfl rfl rfl rfl rfl .here rfl rfl rfl ?_)
      refine Ow_nil<|Cw_seq<|Cw_region<|Ow_q rfl rfl rfl (Qt_fieldAddr (m := 1) rfl rfl rfl rfl rfl)<|Ow_q rfl rfl rfl (Qt_loadA (m := 7) (cs := (Op.cells x1174.op v1179 v1180)) rfl rfl rfl rfl ⟨rfl, Rdc.blk Mb0 rfl⟩)<|Ow_q rfl rfl rfl (Qt_fieldAddr (m := 2) rfl rfl rfl rfl rfl)<|Ow_q rfl rfl rfl (Qt_load1 (v := (.int .i64 p2.channel)) rfl rfl rfl (Rdc.blk Mb2 rfl))<|Ow_q rfl rfl rfl (Qt_move rfl)<|Ow_q rfl rfl rfl (Qt_cmp rfl rfl rfl)<|?_
      obtain ⟨x1184, hx1185, H⟩ := bnd H
      refine Ow_cons rfl (OpW_call rfl Try.call115 rfl rfl (c_M_20z x1174.op v1179 v1180 p2.channel (dcd (i917 = 1)) x1184 hx1185 _ _ hs1181 hs1182) ?_)
      rintro _ K1186 _ hK1187 ⟨rfl, rfl⟩
      refine Ow_q rfl rfl rfl (Qt_assign rfl)<|Ow_nil<|Cw_seq<|Cw_seq<|Cw_region<|Ow_q rfl rfl rfl (Qt_move rfl)<|Ow_q rfl rfl rfl (Qt_cmp rfl rfl rfl)<|Ow_nil<|?_
      refine Cw_cond rfl ?_ ?_
      ·intro h1189
       have h1189 := dcd_t (h1189)
       have H := ift h1189 H
       refine Cw_seq<|Cw_region<|Ow_q rfl rfl rfl (Qt_move rfl)<|Ow_q rfl rfl rfl (Qt_arith (e := wI (i1158 + 1)) rfl rfl rfl rfl)<|Ow_q rfl rfl rfl (Qt_assign rfl)<|Ow_nil<|Cw_exit<|Pu4<|Pu4<|Pu4<|?_
       refine Pu4<|Re4<|?_
       have hs1190 := (hs1157).mono hK1187
       have hs1191 := (hs1161).mono hK1187
       have hs1192 := (hs1164).mono hK1187
       exact Shift.done ⟨_, by exact ⟨rfl, rfl, rfl, rfl, rfl, rfl, trivial⟩, _, Nat.lt_succ_self _, v1155, l1156, (wI (i1158 + 1)), v1159, l1160, v1162, l1163, i1165, rfl, rfl, (hkk1171 ▸ H), hs1190, hs1191, hs1192⟩
      ·intro h1189
       have h1189 := dcd_f (h1189)
       have H := iff_ h1189 H
       refine Cw_skip<|Cw_seq<|Cw_region<|Ow_q rfl rfl rfl (Qt_fieldAddr (m := 1) rfl rfl rfl rfl rfl)<|Ow_q rfl rfl rfl (Qt_loadA (m := 7) (cs := (Op.cells x1174.op v1179 v1180)) rfl rfl rfl rfl ⟨rfl, Rdc.blk Mb0 rfl⟩)<|Ow_q rfl rfl rfl (Qt_move rfl)<|?_
       obtain ⟨x1193, hx1194, H⟩ := bnd H
       have hs1195 := (hs1181).mono hK1187
       have hs1196 := (hs1182).mono hK1187
       refine Ow_cons rfl (OpW_call rfl Try.call116 rfl rfl (c_M_21z x1174.op v1179 v1180 x1184 x1193 hx1194 _ _ hs1195 hs1196) ?_)
       rintro _ _ _ - ⟨rfl, rfl, rfl⟩
       refine Ow_q rfl rfl rfl (Qt_build (cs := (Result.cells (Result.mk 2 x1193 0 false 0))) rfl rfl rfl rfl rfl rfl) ?_
       refine Ow_cons rfl (OpW_alloc (cs := (Result.cells (Result.mk 0 0 0 false 0))) rfl rfl rfl rfl (fun b1197 => ?_))
       refine Ow_cons rfl (OpW_store (vs := (Result.cells (Result.mk 2 x1193 0 false 0))) (all' := (Result.cells (Result.mk 2 x1193 0 false 0))) rfl rfl rfl rfl rfl .here rfl rfl rfl ?_)
       refine Ow_nil ?_
       refine Cw_join (fun env' K' G' => ∃ (i1199 : Int), [(3, (.pointer (some ((⟨b321, 0, none⟩ : Addr).add 0)))), (5, (.pointer (some ((⟨b322, 0, none⟩ : Addr).add 0)))), (6, (.pointer (some ((⟨b323, 0, none⟩ : Addr).add 0)))), (9, (sv v1155)), (10, (.int .i64 i917)), (11, (.int .i64 i1158)), (12, (.pointer (some ((⟨b1183, 0, none⟩ : Addr).add 0)))), (14, (.pointer (some ((⟨b1197, 0, none⟩ : Addr).add 0))))] = env' ∧ K1186 = K' ∧ (.blk b1197 25 (Result.cells (Result.mk i1199 x1193 0 false 0))) :: (.blk b1183 77 (Waiter.cells x1174 v1179 v1180)) :: (.blk b323 102 (Desk.cells (Desk.mk [] [] 0) nilS nilS)) :: (.blk b322 38 (Op.cells p2 vp2_cases vp2_draws)) :: (.blk b321 102 (Desk.cells (Desk.mk l1160 l1163 i1165) v1159 v1162)) :: (.tok 108 6 [(sv v1155)]) :: G = G' ∧ M_63z l1156 i917 i1158 x1193 x1174 p2 l1160 l1163 i1165 k938 k1170 i1199 = some (y0, y1)) ?_ ?_
       ·skip
        refine Cw_seq<|Cw_region<|Ow_q rfl rfl rfl (Qt_move rfl)<|Ow_q rfl rfl rfl (Qt_cmp rfl rfl rfl)<|Ow_nil<|?_
        refine Cw_cond rfl ?_ ?_
        ·intro h1200
         have h1200 := dcd_t (h1200)
         have H := ift h1200 H
         refine Cw_region<|Ow_q rfl rfl rfl (Qt_fieldAddr (m := 0) rfl rfl rfl rfl rfl)<|?_
         refine Ow_cons rfl (OpW_store (vs := [(.int .i64 5)]) (all' := (Result.cells (Result.mk 5 x1193 0 false 0))) rfl rfl rfl rfl rfl .here rfl rfl rfl ?_)
         refine Ow_nil<|Pu5<|Pu5<|Pu5<|Pu5<|Pu5<|Pu5<|Shift.done<|?_
         exact ⟨_, by exact ⟨rfl, rfl, rfl, rfl, rfl, rfl, rfl, rfl, trivial⟩, 5, rfl, rfl, rfl, H⟩
        ·intro h1200
         have h1200 := dcd_f (h1200)
         have H := iff_ h1200 H
         refine Cw_skip<|Pu5<|Pu5<|Pu5<|Pu5<|Pu5<|Pu5<|Shift.done<|?_
         exact ⟨_, by exact ⟨rfl, rfl, rfl, rfl, rfl, rfl, rfl, rfl, trivial⟩, 2, rfl, rfl, rfl, H⟩
       rintro _ _ _ - ⟨i1199, rfl, rfl, rfl, H⟩
       unfold M_63z at H
       refine Cw_seq<|Cw_region<|Ow_q rfl rfl rfl (Qt_loadA (m := 3) (cs := (Desk.cells (Desk.mk l1160 l1163 i1165) v1159 v1162)) rfl rfl rfl rfl ⟨rfl, Rdc.blk Mb4 rfl⟩)<|Ow_q rfl rfl rfl (Qt_move rfl)<|?_
       obtain ⟨x1201, hx1202, H⟩ := bnd H
       have hs1203 := (hs1161).mono hK1187
       have hs1204 := (hs1164).mono hK1187
       refine Ow_cons rfl (OpW_call rfl Try.call117 rfl rfl (c_M_8z (Desk.mk l1160 l1163 i1165) v1159 v1162 i1158 x1201 hx1202 _ _ hs1203 hs1204) ?_)
       rintro _ K1207 _ hK1208 ⟨v1205, v1206, rfl, rfl, hs1209, hs1210⟩
       refine Ow_cons rfl (OpW_store (vs := (Desk.cells x1201 v1205 v1206)) (all' := (Desk.cells x1201 v1205 v1206)) rfl rfl rfl rfl rfl (.there (.there (.there (.there (.there .here))))) rfl rfl rfl ?_)
       refine Ow_nil<|Cw_region<|Ow_q rfl rfl rfl (Qt_move rfl)<|Ow_q rfl rfl rfl (Qt_fieldAddr (m := 0) rfl rfl rfl rfl rfl)<|Ow_q rfl rfl rfl (Qt_load1 (v := (.int .i64 x1174.thread)) rfl rfl rfl (Rdc.blk Mb2 rfl))<|Ow_q rfl rfl rfl (Qt_loadA (m := 5) (cs := (Result.cells (Result.mk i1199 x1193 0 false 0))) rfl rfl rfl rfl ⟨rfl, Rdc.blk Mb1 rfl⟩)<|?_
       obtain ⟨x1211, hx1212, H⟩ := bnd H
       have hs1213 := ((hs1157).mono hK1187).mono hK1208
       refine Ow_cons rfl (OpW_call rfl Try.call118 rfl rfl (c_M_36z l1156 v1155 x1174.thread (Result.mk i1199 x1193 0 false 0) x1211 hx1212 _ _ hs1213) ?_)
       rintro _ K1215 _ hK1216 ⟨v1214, rfl, rfl, hs1217⟩
       refine Ow_q rfl rfl rfl (Qt_assign rfl)<|Ow_nil<|Pu6<|Pu6<|Pu6<|Re4<|Re4<|Re4<|Re4<|?_
       have hs1218 := (hs1209).mono hK1216
       have hs1219 := (hs1210).mono hK1216
       exact Shift.done ⟨_, by exact ⟨rfl, rfl, rfl, rfl, rfl, rfl, trivial⟩, _, Nat.lt_succ_self _, v1214, x1211, i1158, v1205, x1201.chans, v1206, x1201.waiting, x1201.tick, rfl, rfl, (hkk1171 ▸ H), hs1217, hs1218, hs1219⟩
     ·intro h1173
      have h1173 := dcd_f (h1173)
      have H := iff_ h1173 H
      refine Cw_exit<|Pu3<|Pu3<|Pu3<|Pu3<|Shift.done<|?_
      exact ⟨_, by exact ⟨rfl, rfl, rfl, rfl, rfl, trivial⟩, v1155, l1156, v1159, l1160, v1162, l1163, i1165, rfl, rfl, H, hs1157, hs1161, hs1164⟩
    rintro _ K1220 _ hK1221 ⟨v1049, l1050, v1052, l1053, v1055, l1056, i1058, rfl, rfl, H, hs1051, hs1054, hs1057⟩
    unfold M_161z at H
    refine Cw_region<|Ow_q rfl rfl rfl (Qt_move rfl)<|Ow_q rfl rfl rfl (Qt_arith (e := wI (i917 + 1)) rfl rfl rfl rfl)<|Ow_q rfl rfl rfl (Qt_assign rfl)<|Ow_nil<|Pu3<|Pu3<|Pu3<|Pu3<|Shift.done<|?_
    exact ⟨_, by exact ⟨rfl, rfl, rfl, rfl, rfl, trivial⟩, _, Nat.lt_succ_self _, v1049, l1050, (wI (i917 + 1)), v1052, l1053, v1055, l1056, i1058, rfl, rfl, (hkk939 ▸ H), hs1051, hs1054, hs1057⟩
   ·intro h941
    have h941 := dcd_f (h941)
    have H := iff_ h941 H
    refine Cw_exit<|Pu3<|Pu3<|Pu2<|Re3<|Shift.done<|?_
    exact ⟨_, by exact ⟨rfl, rfl, rfl, trivial⟩, v914, l915, v918, l919, v921, l922, i924, rfl, rfl, H, hs916, hs920, hs923⟩
  rintro _ K1222 _ hK1223 ⟨v648, l649, v651, l652, v654, l655, i657, rfl, rfl, H, hs650, hs653, hs656⟩
  unfold M_114z at H
  refine Cw_seq<|Cw_region<|Ow_q rfl rfl rfl (Qt_loadA (m := 3) (cs := (Desk.cells (Desk.mk l652 l655 i657) v651 v654)) rfl rfl rfl rfl ⟨rfl, Rdc.blk Mb1 rfl⟩)<|Ow_q rfl rfl rfl (Qt_move rfl)<|?_
  refine Ow_cons rfl (OpW_store (vs := (Desk.cells (Desk.mk l652 l655 i657) v651 v654)) (all' := (Desk.cells (Desk.mk l652 l655 i657) v651 v654)) rfl rfl rfl rfl rfl .here rfl rfl rfl ?_)
  refine Ow_q rfl rfl rfl (Qt_assign rfl)<|Ow_nil<|Cw_ret<|?_
  obtain ⟨ey0, ey1⟩ := inj2 H
  subst y0 y1
  refine ⟨(by first | exact .inl rfl | exact .inr rfl), [(.agg (Desk.cells (Desk.mk l652 l655 i657) v651 v654).toArray), (sv v648)], ⟨(.agg (Desk.cells (Desk.mk l652 l655 i657) v651 v654).toArray), _, rfl, ⟨_, 3, (Desk.cells (Desk.mk l652 l655 i657) v651 v654), rfl, rfl, rfl, rfl, ⟨rfl, Rdc.blk Mb0 rfl⟩, rfl⟩, ⟨(sv v648), _, rfl, rfl, rfl⟩⟩, ?_⟩
  refine Pu2<|Re1<|Re1<|Shift.done<|?_
  exact ⟨v651, v654, v648, rfl, rfl, hs653, hs656, hs650⟩

set_option maxHeartbeats 1000000 in
theorem c_M_67z (p0 : Desk) (vp0_chans : SV) (vp0_waiting : SV) (p1 : Int) (p2 : Case) (y0 : Int) (H : M_67z p0 p1 p2 = some y0) (K : Kp) (G : List Ent) (hp0_chans : Slr TyChan K (sv vp0_chans) p0.chans) (hp0_waiting : Slr TyWaiter K (sv vp0_waiting) p0.waiting) :
  Fc Try.prog 120 #[(.agg (Desk.cells p0 vp0_chans vp0_waiting).toArray), (.int .i64 p1), (.agg (Case.cells p2).toArray)] K (G) (fun v K' G' => v = (.int .i64 y0) ∧ G = G') := by
 refine Fc_body Try.func120 rfl Try.ntmps120 Try.results120 rfl ?_
 unfold M_67z at H
 refine Cw_seq<|Cw_region<|?_
 refine Ow_cons rfl (OpW_box (cs := (Desk.cells p0 vp0_chans vp0_waiting)) rfl rfl rfl (fun b135 => ?_))
 refine Ow_cons rfl (OpW_box (cs := (Case.cells p2)) rfl rfl rfl (fun b136 => ?_))
 refine Ow_q rfl rfl rfl (Qt_assign rfl)<|Ow_nil<|Cw_seq<|?_
 refine Cw_join (fun env' K' G' => ∃ (t141 : Bool), [(1, (.int .i64 p1)), (3, (.pointer (some ((⟨b135, 0, none⟩ : Addr).add 0)))), (5, (.pointer (some ((⟨b136, 0, none⟩ : Addr).add 0)))), (18, (.bool t141))] = env' ∧ K = K' ∧ (.blk b136 73 (Case.cells p2)) :: (.blk b135 102 (Desk.cells p0 vp0_chans vp0_waiting)) :: G = G' ∧ M_123z p1 p2 p0 t141 = some y0) ?_ ?_
 ·skip
  refine Cw_region<|Ow_q rfl rfl rfl (Qt_fieldAddr (m := 1) rfl rfl rfl rfl rfl)<|Ow_q rfl rfl rfl (Qt_load1 (v := (.int .i64 p2.channel)) rfl rfl rfl (Rdc.blk Mb0 rfl))<|Ow_q rfl rfl rfl (Qt_cmp rfl rfl rfl)<|Ow_q rfl rfl rfl (Qt_move rfl)<|?_
  refine Ow_caseG rfl rfl rfl ?_ ?_
  ·intro h142
   have h142 := dcd_t (h142)
   have H := ift h142 H
   refine Ow_pass rfl rfl rfl rfl rfl rfl rfl<|Ow_pass rfl rfl rfl rfl rfl rfl rfl<|Ow_pass rfl rfl rfl rfl rfl rfl rfl<|Ow_pass rfl rfl rfl rfl rfl rfl rfl<|Ow_pass rfl rfl rfl rfl rfl rfl rfl<|Ow_pass rfl rfl rfl rfl rfl rfl rfl<|Ow_q rfl rfl rfl (Qt_pick_t rfl rfl)<|Ow_nil<|Pu1<|Pu1<|?_
   exact Shift.done ⟨_, by exact ⟨rfl, rfl, rfl, rfl, trivial⟩, true, rfl, rfl, rfl, H⟩
  ·intro h142
   have h142 := dcd_f (h142)
   have H := iff_ h142 H
   refine Ow_qw rfl rfl rfl rfl rfl rfl (Qt_fieldAddr (m := 1) rfl rfl rfl rfl rfl)<|Ow_qw rfl rfl rfl rfl rfl rfl (Qt_load1 (v := (.int .i64 p2.channel)) rfl rfl rfl (Rdc.blk Mb0 rfl))<|Ow_qw rfl rfl rfl rfl rfl rfl (Qt_fieldAddr (m := 0) rfl rfl rfl rfl rfl)<|Ow_qw rfl rfl rfl rfl rfl rfl (Qt_load1 (v := (sv vp0_chans)) rfl rfl rfl (Rdc.blk Mb1 rfl))<|Ow_qw rfl rfl rfl rfl rfl rfl (Q_len (T := TyChan) hp0_chans rfl rfl)<|Ow_qw rfl rfl rfl rfl rfl rfl (Qt_cmp rfl rfl rfl)<|Ow_q rfl rfl rfl (Qt_pick_f rfl rfl)<|Ow_nil<|Pu1<|Pu1<|?_
   exact Shift.done ⟨_, by exact ⟨rfl, rfl, rfl, rfl, trivial⟩, (dcd (p2.channel ≥ (p0.chans.length : Int))), rfl, rfl, rfl, H⟩
 rintro _ _ _ - ⟨t141, rfl, rfl, rfl, H⟩
 unfold M_123z at H
 refine Cw_cond rfl ?_ ?_
 ·intro h143
  have H := ift h143 H
  refine Cw_seq<|Cw_region<|Ow_q rfl rfl rfl (Qt_assign rfl)<|Ow_nil<|Cw_ret<|?_
  obtain ey0 := inj1 H
  subst y0
  refine ⟨(by first | exact .inl rfl | exact .inr rfl), [(.int .i64 (-1))], ⟨(.int .i64 (-1)), _, rfl, rfl, rfl⟩, ?_⟩
  refine Re0<|Re0<|Shift.done<|?_
  exact ⟨rfl, rfl⟩
 ·intro h143
  have H := iff_ (btf h143) H
  refine Cw_skip ?_
  refine Cw_join (fun env' K' G' => [] = env' ∧ G = G' ∧ M_191z = some y0) ?_ ?_
  ·skip
   refine Cw_seq<|Cw_region<|Ow_q rfl rfl rfl (Qt_assign rfl)<|Ow_nil<|Cw_block<|?_
   refine Cw_loopM (fun n364 env' K' G' => ∃ (i363 : Int), [(1, (.int .i64 p1)), (3, (.pointer (some ((⟨b135, 0, none⟩ : Addr).add 0)))), (5, (.pointer (some ((⟨b136, 0, none⟩ : Addr).add 0)))), (7, (.int .i64 i363))] = env' ∧ (.blk b136 73 (Case.cells p2)) :: (.blk b135 102 (Desk.cells p0 vp0_chans vp0_waiting)) :: G = G' ∧ lp1 (M_122z p1 p2 p0) n364 i363 = some y0) BIG ?_ ?_
   ·skip
    refine Pu1<|Pu1<|Shift.done<|?_
    exact ⟨_, by exact ⟨rfl, rfl, rfl, rfl, trivial⟩, 0, rfl, rfl, H⟩
   rintro n364 _ K365 _ hK366 ⟨i363, rfl, rfl, H⟩
   obtain ⟨m367, k368, rfl, hkk369, H⟩ := lps1 H
   unfold M_122z at H
   refine Cw_seq<|Cw_seq<|Cw_region<|Ow_q rfl rfl rfl (Qt_move rfl)<|Ow_q rfl rfl rfl (Qt_fieldAddr (m := 1) rfl rfl rfl rfl rfl)<|Ow_q rfl rfl rfl (Qt_load1 (v := (sv vp0_waiting)) rfl rfl rfl (Rdc.blk Mb1 rfl))<|?_
   have hs372 := (hp0_waiting).mono hK366
   refine Ow_q rfl rfl rfl (Q_len (T := TyWaiter) hs372 rfl rfl)<|Ow_q rfl rfl rfl (Qt_cmp rfl rfl rfl)<|Ow_nil<|?_
   refine Cw_cond rfl ?_ ?_
   ·intro h373
    have h373 := dcd_t (h373)
    have H := ift h373 H
    refine Cw_skip<|Cw_seq<|Cw_block<|?_
    refine Cw_join (fun env' K' G' => ∃ (t470 : Bool), [(1, (.int .i64 p1)), (3, (.pointer (some ((⟨b135, 0, none⟩ : Addr).add 0)))), (5, (.pointer (some ((⟨b136, 0, none⟩ : Addr).add 0)))), (7, (.int .i64 i363)), (48, (.bool t470))] = env' ∧ (.blk b136 73 (Case.cells p2)) :: (.blk b135 102 (Desk.cells p0 vp0_chans vp0_waiting)) :: G = G' ∧ M_121z p1 i363 p2 p0 k368 t470 = some y0) ?_ ?_
    ·skip
     obtain ⟨x471, hx472, H⟩ := bnd H
     rcases bool_ct (!(dcd (x471.thread = p1))) with hb_ | hb_ <;> revert hb_
     ·intro h480
      have h480 := dcd_f (nt_t (h480))
      have H := iff_ h480 H
      obtain ⟨x481, hx482, H⟩ := bnd H
      obtain ⟨x490, hx491, H⟩ := bnd H
      refine Cw_region_any [.blk b136 73 (Case.cells p2), .blk b135 102 (Desk.cells p0 vp0_chans vp0_waiting)] rfl (Inc.cons Mb0 (Inc.cons Mb1 Inc.nil))<|Awq 0 rfl (by kernel_rfl) rfl rfl rfl (Qt_fieldAddr (m := 1) rfl rfl rfl rfl rfl)<|Awq 1 rfl (by kernel_rfl) rfl rfl rfl (Qt_load1 (v := (sv vp0_waiting)) rfl rfl rfl (Rdc.blk Mb1 rfl))<|Awq 2 rfl (by kernel_rfl) rfl rfl rfl (Qt_move rfl)<|?_
      obtain ⟨r494, hr495, hk496⟩ := Slr.at hs372 hx472
      obtain ⟨v497, v498, rfl, hs499, hs500⟩ := hr495
      refine Awq 3 rfl (by kernel_rfl) rfl rfl rfl (Q_ix (T := TyWaiter) hs372 hx472 rfl rfl rfl rfl rfl)<|Awq 4 rfl (by kernel_rfl) rfl rfl rfl (Qt_fieldAddr (m := 0) rfl rfl rfl rfl rfl)<|Awq 5 rfl (by kernel_rfl) rfl rfl rfl (Qt_load1 (v := (.int .i64 x471.thread)) rfl rfl rfl (Rdc.k hk496 rfl))<|Awq 6 rfl (by kernel_rfl) rfl rfl rfl (Qt_move rfl)<|Awq 7 rfl (by kernel_rfl) rfl rfl rfl (Qt_cmp rfl rfl rfl)<|Awq 8 rfl (by kernel_rfl) rfl rfl rfl (Qt_move rfl)<|Aw.known (d := 34) rfl (nt_mt (dcd_neg h480))<|Awqw 9 rfl (by kernel_rfl) rfl rfl rfl rfl rfl rfl (Qt_fieldAddr (m := 1) rfl rfl rfl rfl rfl)<|Awqw 10 rfl (by kernel_rfl) rfl rfl rfl rfl rfl rfl (Qt_load1 (v := (sv vp0_waiting)) rfl rfl rfl (Rdc.blk Mb1 rfl))<|Awqw 11 rfl (by kernel_rfl) rfl rfl rfl rfl rfl rfl (Qt_move rfl)<|?_
      obtain ⟨r501, hr502, hk503⟩ := Slr.at hs372 hx482
      obtain ⟨v504, v505, rfl, hs506, hs507⟩ := hr502
      refine Awqw 12 rfl (by kernel_rfl) rfl rfl rfl rfl rfl rfl (Q_ix (T := TyWaiter) hs372 hx482 rfl rfl rfl rfl rfl)<|Awqw 13 rfl (by kernel_rfl) rfl rfl rfl rfl rfl rfl (Qt_fieldAddr (m := 1) rfl rfl rfl rfl rfl)<|Awqw 14 rfl (by kernel_rfl) rfl rfl rfl rfl rfl rfl (Qt_loadA (m := 7) (cs := (Op.cells x481.op v504 v505)) rfl rfl rfl rfl ⟨rfl, Rdc.k hk503 rfl⟩)<|Awqw 15 rfl (by kernel_rfl) rfl rfl rfl rfl rfl rfl (Qt_fieldAddr (m := 1) rfl rfl rfl rfl rfl)<|Awqw 16 rfl (by kernel_rfl) rfl rfl rfl rfl rfl rfl (Qt_load1 (v := (.int .i64 p2.channel)) rfl rfl rfl (Rdc.blk Mb0 rfl))<|Awqw 17 rfl (by kernel_rfl) rfl rfl rfl rfl rfl rfl (Qt_fieldAddr (m := 0) rfl rfl rfl rfl rfl)<|Awqw 18 rfl (by kernel_rfl) rfl rfl rfl rfl rfl rfl (Qt_load1 (v := (.bool p2.send)) rfl rfl rfl (Rdc.blk Mb0 rfl))<|Awqw 19 rfl (by kernel_rfl) rfl rfl rfl rfl rfl rfl (Qt_not rfl)<|?_
      refine Aw_one 20 (by kernel_rfl) (Ax_mkw rfl rfl rfl rfl rfl ?_)
      refine OpW_call rfl Try.call115 rfl rfl (c_M_20z x481.op v504 v505 p2.channel (!(p2.send)) x490 hx491 _ _ hs506 hs507) ?_
      rintro _ K508 _ hK509 ⟨rfl, rfl⟩
      refine ⟨(Inc.cons Mb0 (Inc.cons Mb1 Inc.nil)), ?_⟩
      refine Awqw 21 rfl (by kernel_rfl) rfl rfl rfl rfl rfl rfl (Qt_cmp rfl rfl rfl)<|Awq 22 rfl (by kernel_rfl) rfl rfl rfl (Qt_pick_t rfl rfl)<|Aw_done (by kernel_rfl)<|Pu1<|Pu1<|Shift.done<|?_
      exact ⟨_, by exact ⟨rfl, rfl, rfl, rfl, rfl, trivial⟩, (dcd (x490 ≥ 0)), rfl, rfl, H⟩
     ·intro h480
      have h480 := dcd_t (nt_f (h480))
      have H := ift h480 H
      refine Cw_region_any [.blk b136 73 (Case.cells p2), .blk b135 102 (Desk.cells p0 vp0_chans vp0_waiting)] rfl (Inc.cons Mb0 (Inc.cons Mb1 Inc.nil))<|Awq 0 rfl (by kernel_rfl) rfl rfl rfl (Qt_fieldAddr (m := 1) rfl rfl rfl rfl rfl)<|Awq 1 rfl (by kernel_rfl) rfl rfl rfl (Qt_load1 (v := (sv vp0_waiting)) rfl rfl rfl (Rdc.blk Mb1 rfl))<|Awq 2 rfl (by kernel_rfl) rfl rfl rfl (Qt_move rfl)<|?_
      obtain ⟨r510, hr511, hk512⟩ := Slr.at hs372 hx472
      obtain ⟨v513, v514, rfl, hs515, hs516⟩ := hr511
      refine Awq 3 rfl (by kernel_rfl) rfl rfl rfl (Q_ix (T := TyWaiter) hs372 hx472 rfl rfl rfl rfl rfl)<|Awq 4 rfl (by kernel_rfl) rfl rfl rfl (Qt_fieldAddr (m := 0) rfl rfl rfl rfl rfl)<|Awq 5 rfl (by kernel_rfl) rfl rfl rfl (Qt_load1 (v := (.int .i64 x471.thread)) rfl rfl rfl (Rdc.k hk512 rfl))<|Awq 6 rfl (by kernel_rfl) rfl rfl rfl (Qt_move rfl)<|Awq 7 rfl (by kernel_rfl) rfl rfl rfl (Qt_cmp rfl rfl rfl)<|Awq 8 rfl (by kernel_rfl) rfl rfl rfl (Qt_move rfl)<|Aw.known (d := 34) rfl (nt_mf (dcd_pos h480))<|Awps 9 rfl (by kernel_rfl) rfl rfl rfl rfl rfl rfl rfl<|Awps 10 rfl (by kernel_rfl) rfl rfl rfl rfl rfl rfl rfl<|Awps 11 rfl (by kernel_rfl) rfl rfl rfl rfl rfl rfl rfl<|?_
      refine Awps 12 rfl (by kernel_rfl) rfl rfl rfl rfl rfl rfl rfl<|Awps 13 rfl (by kernel_rfl) rfl rfl rfl rfl rfl rfl rfl<|Awps 14 rfl (by kernel_rfl) rfl rfl rfl rfl rfl rfl rfl<|Awps 15 rfl (by kernel_rfl) rfl rfl rfl rfl rfl rfl rfl<|Awps 16 rfl (by kernel_rfl) rfl rfl rfl rfl rfl rfl rfl<|Awps 17 rfl (by kernel_rfl) rfl rfl rfl rfl rfl rfl rfl<|Awps 18 rfl (by kernel_rfl) rfl rfl rfl rfl rfl rfl rfl<|Awps 19 rfl (by kernel_rfl) rfl rfl rfl rfl rfl rfl rfl<|Awps 20 rfl (by kernel_rfl) rfl rfl rfl rfl rfl rfl rfl<|Awps 21 rfl (by kernel_rfl) rfl rfl rfl rfl rfl rfl rfl<|?_
      refine Awq 22 rfl (by kernel_rfl) rfl rfl rfl (Qt_pick_f rfl rfl)<|Aw_done (by kernel_rfl)<|Pu1<|Pu1<|Shift.done<|?_
      exact ⟨_, by exact ⟨rfl, rfl, rfl, rfl, rfl, trivial⟩, false, rfl, rfl, H⟩
    rintro _ K517 _ hK518 ⟨t470, rfl, rfl, H⟩
    unfold M_121z at H
    refine Cw_cond rfl ?_ ?_
    ·intro h519
     have H := ift h519 H
     refine Cw_seq<|Cw_region<|Ow_q rfl rfl rfl (Qt_move rfl)<|Ow_q rfl rfl rfl (Qt_assign rfl)<|Ow_nil<|Cw_ret<|?_
     obtain ey0 := inj1 H
     subst y0
     refine ⟨(by first | exact .inl rfl | exact .inr rfl), [(.int .i64 i363)], ⟨(.int .i64 i363), _, rfl, rfl, rfl⟩, ?_⟩
     refine Re0<|Re0<|Shift.done<|?_
     exact ⟨rfl, rfl⟩
    ·intro h519
     have H := iff_ (btf h519) H
     refine Cw_skip<|Cw_region<|Ow_q rfl rfl rfl (Qt_move rfl)<|Ow_q rfl rfl rfl (Qt_arith (e := wI (i363 + 1)) rfl rfl rfl rfl)<|Ow_q rfl rfl rfl (Qt_assign rfl)<|Ow_nil<|Pu1<|Pu1<|Shift.done<|?_
     exact ⟨_, by exact ⟨rfl, rfl, rfl, rfl, trivial⟩, _, Nat.lt_succ_self _, (wI (i363 + 1)), rfl, rfl, (hkk369 ▸ H)⟩
   ·intro h373
    have h373 := dcd_f (h373)
    have H := iff_ h373 H
    refine Cw_exit<|Re0<|Re0<|Shift.done<|?_
    exact ⟨[], trivial, rfl, rfl, H⟩
  rintro _ K520 _ hK521 ⟨rfl, rfl, H⟩
  unfold M_191z at H
  refine Cw_seq<|Cw_region<|Ow_q rfl rfl rfl (Qt_assign rfl)<|Ow_nil<|Cw_ret<|?_
  obtain ey0 := inj1 H
  subst y0
  refine ⟨(by first | exact .inl rfl | exact .inr rfl), [(.int .i64 (-1))], ⟨(.int .i64 (-1)), _, rfl, rfl, rfl⟩, ?_⟩
  exact Shift.done ⟨rfl, rfl⟩

set_option maxHeartbeats 1000000 in
theorem c_M_68z (p0 : Desk) (vp0_chans : SV) (vp0_waiting : SV) (p1 : Int) (p2 : Case) (y0 : Bool) (H : M_68z p0 p1 p2 = some y0) (K : Kp) (G : List Ent) (hp0_chans : Slr TyChan K (sv vp0_chans) p0.chans) (hp0_waiting : Slr TyWaiter K (sv vp0_waiting) p0.waiting) :
  Fc Try.prog 103 #[(.agg (Desk.cells p0 vp0_chans vp0_waiting).toArray), (.int .i64 p1), (.agg (Case.cells p2).toArray)] K (G) (fun v K' G' => v = (.bool y0) ∧ G = G') := by
 refine Fc_body Try.func103 rfl Try.ntmps103 Try.results103 rfl ?_
 unfold M_68z at H
 refine Cw_seq<|Cw_region<|?_
 refine Ow_cons rfl (OpW_box (cs := (Desk.cells p0 vp0_chans vp0_waiting)) rfl rfl rfl (fun b10 => ?_))
 refine Ow_cons rfl (OpW_box (cs := (Case.cells p2)) rfl rfl rfl (fun b11 => ?_))
 refine Ow_q rfl rfl rfl (Qt_assign rfl)<|Ow_nil<|Cw_seq<|Cw_region<|Ow_q rfl rfl rfl (Qt_fieldAddr (m := 0) rfl rfl rfl rfl rfl)<|Ow_q rfl rfl rfl (Qt_load1 (v := (sv vp0_chans)) rfl rfl rfl (Rdc.blk Mb1 rfl))<|Ow_q rfl rfl rfl (Qt_loadA (m := 3) (cs := (Case.cells p2)) rfl rfl rfl rfl ⟨rfl, Rdc.blk Mb0 rfl⟩)<|?_
 obtain ⟨x19, hx20, H⟩ := bnd H
 refine Ow_cons rfl (OpW_call rfl Try.call43 rfl rfl (c_M_120z p0.chans vp0_chans p2 x19 hx20 _ _ hp0_chans) ?_)
 rintro _ _ _ - ⟨rfl, rfl, rfl⟩
 refine Ow_q rfl rfl rfl (Qt_move rfl) ?_
 refine Ow_caseG rfl rfl rfl ?_ ?_
 ·intro h21
  have H := ift h21 H
  refine Ow_pass rfl rfl rfl rfl rfl rfl rfl<|Ow_pass rfl rfl rfl rfl rfl rfl rfl<|Ow_pass rfl rfl rfl rfl rfl rfl rfl<|Ow_pass rfl rfl rfl rfl rfl rfl rfl<|Ow_pass rfl rfl rfl rfl rfl rfl rfl<|Ow_q rfl rfl rfl (Qt_pick_t rfl rfl)<|Ow_q rfl rfl rfl (Qt_assign rfl)<|Ow_nil<|Cw_ret<|?_
  obtain ey0 := inj1 H
  subst y0
  refine ⟨(by first | exact .inl rfl | exact .inr rfl), [(.bool true)], ⟨(.bool true), _, rfl, rfl, rfl⟩, ?_⟩
  refine Re0<|Re0<|Shift.done<|?_
  exact ⟨rfl, rfl⟩
 ·intro h21
  have H := iff_ (btf h21) H
  refine Ow_qw rfl rfl rfl rfl rfl rfl (Qt_loadA (m := 3) (cs := (Desk.cells p0 vp0_chans vp0_waiting)) rfl rfl rfl rfl ⟨rfl, Rdc.blk Mb1 rfl⟩)<|Ow_qw rfl rfl rfl rfl rfl rfl (Qt_move rfl)<|Ow_qw rfl rfl rfl rfl rfl rfl (Qt_loadA (m := 3) (cs := (Case.cells p2)) rfl rfl rfl rfl ⟨rfl, Rdc.blk Mb0 rfl⟩)<|?_
  obtain ⟨x22, hx23, H⟩ := bnd H
  refine Ow_want rfl rfl rfl rfl (OpW_call rfl Try.call120 rfl rfl (c_M_67z p0 vp0_chans vp0_waiting p1 p2 x22 hx23 _ _ hp0_chans hp0_waiting) ?_)
  rintro _ K24 _ hK25 ⟨rfl, rfl⟩
  refine Ow_qw rfl rfl rfl rfl rfl rfl (Qt_cmp rfl rfl rfl)<|Ow_q rfl rfl rfl (Qt_pick_f rfl rfl)<|Ow_q rfl rfl rfl (Qt_assign rfl)<|Ow_nil<|Cw_ret<|?_
  obtain ey0 := inj1 H
  subst y0
  refine ⟨(by first | exact .inl rfl | exact .inr rfl), [(.bool (dcd (x22 ≥ 0)))], ⟨(.bool (dcd (x22 ≥ 0))), _, rfl, rfl, rfl⟩, ?_⟩
  refine Re0<|Re0<|Shift.done<|?_
  exact ⟨rfl, rfl⟩



end Go.Hx

namespace Go.Hx
open Go Go.Proofs
set_option linter.unusedSimpArgs false
set_option linter.unusedVariables false
set_option maxRecDepth 10000
set_option maxHeartbeats 1000000 in
theorem c_M_116z (p0 : List Int) (vp0 : SV) (p1 : Int) (y0 : Int) (H : M_116z p0 p1 = some y0) (K : Kp) (G : List Ent) (hp0 : Slr Ty.i64 K (sv vp0) p0) :
  Fc Try.prog 126 #[(sv vp0), (.int .i64 p1)] K (G) (fun v K' G' => v = (.int .i64 y0) ∧ K = K' ∧ G = G') := by
 refine Fc_body Try.func126 rfl Try.ntmps126 Try.results126 rfl ?_
 unfold M_116z at H
 refine Cw_seq<|Cw_region<|Ow_q rfl rfl rfl (Qt_assign rfl)<|Ow_nil<|Cw_seq<|Cw_seq<|Cw_region<|Ow_q rfl rfl rfl (Qt_move rfl)<|Ow_q rfl rfl rfl (Qt_move rfl)<|Ow_q rfl rfl rfl (Q_len (T := Ty.i64) hp0 rfl rfl)<|?_
 refine Ow_q rfl rfl rfl (Qt_cmp rfl rfl rfl)<|Ow_nil<|?_
 refine Cw_cond rfl ?_ ?_
 ·intro h11
  have h11 := dcd_t (h11)
  have H := ift h11 H
  refine Cw_seq<|Cw_region<|Ow_q rfl rfl rfl (Qt_assign rfl)<|Ow_nil<|Cw_ret<|?_
  obtain ey0 := inj1 H
  subst y0
  refine ⟨(by first | exact .inl rfl | exact .inr rfl), [(.int .i64 0)], ⟨(.int .i64 0), _, rfl, rfl, rfl⟩, ?_⟩
  exact Shift.done ⟨rfl, rfl, rfl⟩
 ·intro h11
  have h11 := dcd_f (h11)
  have H := iff_ h11 H
  refine Cw_skip<|Cw_seq<|Cw_region<|Ow_q rfl rfl rfl (Qt_move rfl)<|Ow_q rfl rfl rfl (Qt_move rfl)<|?_
  obtain ⟨x12, hx13, H⟩ := bnd H
  obtain ⟨r14, hr15, hk16⟩ := Slr.at hp0 hx13
  obtain rfl := hr15
  refine Ow_q rfl rfl rfl (Q_ix (T := Ty.i64) hp0 hx13 rfl rfl rfl rfl rfl)<|Ow_q rfl rfl rfl (Qt_load1 (v := (.int .i64 x12)) rfl rfl rfl (Rdc.k hk16 rfl))<|Ow_q rfl rfl rfl (Qt_move rfl)<|Ow_q rfl rfl rfl (Qt_arith (e := wI (p1 + 1)) rfl rfl rfl rfl)<|?_
  obtain ⟨x17, hx18, H⟩ := bnd H
  refine Ow_q rfl rfl rfl (Q_rem hx18 rfl rfl)<|Ow_q rfl rfl rfl (Qt_assign rfl)<|Ow_nil<|Cw_seq<|Cw_seq<|Cw_region<|Ow_q rfl rfl rfl (Qt_move rfl)<|Ow_q rfl rfl rfl (Qt_cmp rfl rfl rfl)<|Ow_nil<|?_
  refine Cw_cond rfl ?_ ?_
  ·intro h20
   have h20 := dcd_t (h20)
   have H := ift h20 H
   refine Cw_region<|Ow_q rfl rfl rfl (Qt_move rfl)<|Ow_q rfl rfl rfl (Qt_move rfl)<|Ow_q rfl rfl rfl (Qt_arith (e := wI (p1 + 1)) rfl rfl rfl rfl)<|Ow_q rfl rfl rfl (Qt_arith (e := wI (x17 + (wI (p1 + 1)))) rfl rfl rfl rfl)<|Ow_q rfl rfl rfl (Qt_assign rfl)<|Ow_nil<|Cw_seq<|Cw_region<|Ow_q rfl rfl rfl (Qt_move rfl)<|?_
   refine Ow_q rfl rfl rfl (Qt_assign rfl)<|Ow_nil<|Cw_ret<|?_
   obtain ey0 := inj1 H
   subst y0
   refine ⟨(by first | exact .inl rfl | exact .inr rfl), [(.int .i64 (wI (x17 + (wI (p1 + 1)))))], ⟨(.int .i64 (wI (x17 + (wI (p1 + 1))))), _, rfl, rfl, rfl⟩, ?_⟩
   exact Shift.done ⟨rfl, rfl, rfl⟩
  ·intro h20
   have h20 := dcd_f (h20)
   have H := iff_ h20 H
   refine Cw_skip<|Cw_seq<|Cw_region<|Ow_q rfl rfl rfl (Qt_move rfl)<|Ow_q rfl rfl rfl (Qt_assign rfl)<|Ow_nil<|Cw_ret<|?_
   obtain ey0 := inj1 H
   subst y0
   refine ⟨(by first | exact .inl rfl | exact .inr rfl), [(.int .i64 x17)], ⟨(.int .i64 x17), _, rfl, rfl, rfl⟩, ?_⟩
   exact Shift.done ⟨rfl, rfl, rfl⟩

set_option maxHeartbeats 1000000 in
theorem c_M_38z (p0 : Int) (p1 : List Int) (vp1 : SV) (y0 : List Int) (H : M_38z p0 p1 = some y0) (K : Kp) (G : List Ent) (hp1 : Slr Ty.i64 K (sv vp1) p1) :
  Fc Try.prog 125 #[(.int .i64 p0), (sv vp1)] K (G) (fun v K' G' => ∃ (wy0 : SV) (rswy0 : List (List Value)), v = (sv wy0) ∧ (.row (sv wy0) 3 1 rswy0.flatten) :: G = G' ∧ RowR Ty.i64 K' rswy0 y0) := by
 refine Fc_body Try.func125 rfl Try.ntmps125 Try.results125 rfl ?_
 unfold M_38z at H
 refine Cw_seq<|Cw_region<|Ow_q rfl rfl rfl (Qt_assign rfl)<|Ow_nil<|Cw_seq<|?_
 refine Cw_join (fun env' K' G' => ∃ (t136 : Bool), [(0, (.int .i64 p0)), (1, (sv vp1)), (16, (.bool t136))] = env' ∧ K = K' ∧ G = G' ∧ M_66z p0 p1 t136 = some y0) ?_ ?_
 ·skip
  refine Cw_region<|Ow_q rfl rfl rfl (Qt_move rfl)<|Ow_q rfl rfl rfl (Qt_cmp rfl rfl rfl)<|Ow_q rfl rfl rfl (Qt_move rfl)<|?_
  refine Ow_caseG rfl rfl rfl ?_ ?_
  ·intro h137
   have h137 := dcd_t (h137)
   have H := ift h137 H
   refine Ow_pass rfl rfl rfl rfl rfl rfl rfl<|Ow_pass rfl rfl rfl rfl rfl rfl rfl<|Ow_q rfl rfl rfl (Qt_pick_t rfl rfl)<|Ow_nil<|Shift.done<|?_
   exact ⟨_, by exact ⟨rfl, rfl, rfl, trivial⟩, true, rfl, rfl, rfl, H⟩
  ·intro h137
   have h137 := dcd_f (h137)
   have H := iff_ h137 H
   refine Ow_qw rfl rfl rfl rfl rfl rfl (Qt_move rfl)<|Ow_qw rfl rfl rfl rfl rfl rfl (Qt_cmp rfl rfl rfl)<|Ow_q rfl rfl rfl (Qt_pick_f rfl rfl)<|Ow_nil<|Shift.done<|?_
   exact ⟨_, by exact ⟨rfl, rfl, rfl, trivial⟩, (dcd (p0 > 20)), rfl, rfl, rfl, H⟩
 rintro _ _ _ - ⟨t136, rfl, rfl, rfl, H⟩
 unfold M_66z at H
 refine Cw_cond rfl ?_ ?_
 ·intro h138
  have H := ift h138 H
  refine Cw_seq<|Cw_region<|Ow_q rfl rfl rfl (Qt_assign rfl)<|Ow_nil<|Cw_ret<|?_
  obtain ey0 := inj1 H
  subst y0
  refine ⟨(by first | exact .inl rfl | exact .inr rfl), [(sv nilS)], ⟨(sv nilS), _, rfl, rfl, rfl⟩, ?_⟩
  have hR139 : RowR Ty.i64 K [] [] := RowR.nil
  refine Shift.nilRow 3 1<|Shift.done<|?_
  exact ⟨nilS, ([] : List (List Value)), rfl, rfl, hR139⟩
 ·intro h138
  have H := iff_ (btf h138) H
  refine Cw_skip<|Cw_seq<|Cw_region<|Ow_q rfl rfl rfl (Qt_move rfl)<|?_
  obtain ⟨x140, hx141, H⟩ := bnd H
  refine Ow_cons rfl (O_make (T := Ty.i64) (r := [(.int .i64 0)]) rfl rfl rfl hx141 rfl rfl rfl rfl rfl rfl rfl rfl rfl rfl (fun v142 rs143 hR144 hz145 => ?_))
  refine Ow_q rfl rfl rfl (Qt_assign rfl)<|Ow_nil<|?_
  refine Cw_join (fun env' K' G' => ∃ (l175 : List Int) (rs177 : List (List Value)), [(0, (.int .i64 p0)), (1, (sv vp1)), (5, (sv v142))] = env' ∧ (.row (sv v142) 3 1 rs177.flatten) :: G = G' ∧ M_118z p0 p1 l175 = some y0 ∧ RowR Ty.i64 K' rs177 l175) ?_ ?_
  ·skip
   refine Cw_seq<|Cw_region<|Ow_q rfl rfl rfl (Qt_assign rfl)<|Ow_nil<|Cw_block<|?_
   refine Cw_loopM (fun n207 env' K' G' => ∃ (l203 : List Int) (rs205 : List (List Value)) (i206 : Int), [(0, (.int .i64 p0)), (1, (sv vp1)), (5, (sv v142)), (6, (.int .i64 i206))] = env' ∧ K = K' ∧ (.row (sv v142) 3 1 rs205.flatten) :: G = G' ∧ lp2 (M_119z p0 p1) n207 l203 i206 = some y0 ∧ RowR Ty.i64 K' rs205 l203) BIG ?_ ?_
   ·skip
    exact Shift.done ⟨_, by exact ⟨rfl, rfl, rfl, rfl, trivial⟩, x140, rs143, 0, rfl, rfl, rfl, H, hR144⟩
   rintro n207 _ _ _ - ⟨l203, rs205, i206, rfl, rfl, rfl, H, hR204⟩
   obtain ⟨m208, k209, rfl, hkk210, H⟩ := lps2 H
   unfold M_119z at H
   refine Cw_seq<|Cw_seq<|Cw_region<|Ow_q rfl rfl rfl (Qt_move rfl)<|Ow_q rfl rfl rfl (Qt_move rfl)<|Ow_q rfl rfl rfl (Qt_cmp rfl rfl rfl)<|Ow_nil<|?_
   refine Cw_cond rfl ?_ ?_
   ·intro h212
    have h212 := dcd_t (h212)
    have H := ift h212 H
    refine Cw_skip<|Cw_seq<|Cw_block<|Cw_region<|Ow_q rfl rfl rfl (Qt_move rfl)<|Ow_q rfl rfl rfl (Qt_move rfl)<|Ow_q rfl rfl rfl (Qt_move rfl)<|?_
    obtain ⟨x220, hx221, H⟩ := bnd H
    obtain ⟨r222, hq223, hr224⟩ := RowR.at hR204 hx221
    obtain rfl := hr224
    refine Ow_q rfl rfl rfl (Q_ixR (T := Ty.i64) Mb0 hR204 hq223 (getI_ix hx221).1 rfl rfl rfl rfl rfl) ?_
    refine Ow_cons rfl (O_storeR (T := Ty.i64) (vs := [(.int .i64 i206)]) (r' := [(.int .i64 i206)]) (l' := (setI l203 i206 i206)) rfl rfl rfl rfl rfl .here hR204 hq223 rfl rfl rfl (RowR.set i206 hR204 rfl) (fun hR225 => ?_))
    have hE226 := set_at hq223 (v := [(.int .i64 i206)])
    refine Ow_nil<|Cw_region<|Ow_q rfl rfl rfl (Qt_move rfl)<|Ow_q rfl rfl rfl (Qt_arith (e := wI (i206 + 1)) rfl rfl rfl rfl)<|Ow_q rfl rfl rfl (Qt_assign rfl)<|Ow_nil<|Shift.done<|?_
    exact ⟨_, by exact ⟨rfl, rfl, rfl, rfl, trivial⟩, _, Nat.lt_succ_self _, (setI l203 i206 i206), (rs205.set i206.toNat [(.int .i64 i206)]), (wI (i206 + 1)), rfl, rfl, rfl, (hkk210 ▸ H), hR225⟩
   ·intro h212
    have h212 := dcd_f (h212)
    have H := iff_ h212 H
    refine Cw_exit<|Shift.done<|?_
    exact ⟨_, by exact ⟨rfl, rfl, rfl, trivial⟩, l203, rs205, rfl, rfl, H, hR204⟩
  rintro _ K227 _ hK228 ⟨l175, rs177, rfl, rfl, H, hR176⟩
  unfold M_118z at H
  refine Cw_join (fun env' K' G' => ∃ (l311 : List Int) (rs313 : List (List Value)), [(5, (sv v142))] = env' ∧ (.row (sv v142) 3 1 rs313.flatten) :: G = G' ∧ M_190z l311 = some y0 ∧ RowR Ty.i64 K' rs313 l311) ?_ ?_
  ·skip
   refine Cw_seq<|Cw_region<|Ow_q rfl rfl rfl (Qt_move rfl)<|Ow_q rfl rfl rfl (Qt_arith (e := wI (p0 - 1)) rfl rfl rfl rfl)<|Ow_q rfl rfl rfl (Qt_assign rfl)<|Ow_nil<|Cw_block<|?_
   refine Cw_loopM (fun n396 env' K' G' => ∃ (l392 : List Int) (rs394 : List (List Value)) (i395 : Int), [(1, (sv vp1)), (5, (sv v142)), (7, (.int .i64 i395))] = env' ∧ K227 = K' ∧ (.row (sv v142) 3 1 rs394.flatten) :: G = G' ∧ lp2 (M_117z p1) n396 l392 i395 = some y0 ∧ RowR Ty.i64 K' rs394 l392) BIG ?_ ?_
   ·skip
    exact Shift.done ⟨_, by exact ⟨rfl, rfl, rfl, trivial⟩, l175, rs177, (wI (p0 - 1)), rfl, rfl, rfl, H, hR176⟩
   rintro n396 _ _ _ - ⟨l392, rs394, i395, rfl, rfl, rfl, H, hR393⟩
   obtain ⟨m397, k398, rfl, hkk399, H⟩ := lps2 H
   unfold M_117z at H
   refine Cw_seq<|Cw_seq<|Cw_region<|Ow_q rfl rfl rfl (Qt_move rfl)<|Ow_q rfl rfl rfl (Qt_cmp rfl rfl rfl)<|Ow_nil<|?_
   refine Cw_cond rfl ?_ ?_
   ·intro h401
    have h401 := dcd_t (h401)
    have H := ift h401 H
    refine Cw_skip<|Cw_seq<|Cw_block<|Cw_seq<|Cw_region<|Ow_q rfl rfl rfl (Qt_move rfl)<|Ow_q rfl rfl rfl (Qt_move rfl)<|?_
    obtain ⟨x435, hx436, H⟩ := bnd H
    have hs437 := (hp1).mono hK228
    refine Ow_cons rfl (OpW_call rfl Try.call126 rfl rfl (c_M_116z p1 vp1 i395 x435 hx436 _ _ hs437) ?_)
    rintro _ _ _ - ⟨rfl, rfl, rfl⟩
    refine Ow_q rfl rfl rfl (Qt_assign rfl)<|Ow_nil<|Cw_seq<|?_
    obtain ⟨x438, hx439, H⟩ := bnd H
    obtain ⟨x443, hx444, H⟩ := bnd H
    refine Cw_region_any [.row (sv v142) 3 1 rs394.flatten] rfl (Inc.cons Mb0 Inc.nil)<|Awq 0 rfl (by kernel_rfl) rfl rfl rfl (Qt_move rfl)<|Awq 1 rfl (by kernel_rfl) rfl rfl rfl (Qt_move rfl)<|?_
    obtain ⟨r448, hq449, hr450⟩ := RowR.at hR393 hx439
    obtain rfl := hr450
    refine Awq 2 rfl (by kernel_rfl) rfl rfl rfl (Q_ixR (T := Ty.i64) Mb0 hR393 hq449 (getI_ix hx439).1 rfl rfl rfl rfl rfl)<|Awq 3 rfl (by kernel_rfl) rfl rfl rfl (Qt_load1 (v := (.int .i64 x438)) rfl rfl rfl (Rd_row (T := Ty.i64) Mb0 hR393 hq449 rfl rfl))<|Awq 4 rfl (by kernel_rfl) rfl rfl rfl (Qt_move rfl)<|Awq 5 rfl (by kernel_rfl) rfl rfl rfl (Qt_move rfl)<|?_
    obtain ⟨r451, hq452, hr453⟩ := RowR.at hR393 hx444
    obtain rfl := hr453
    refine Awq 6 rfl (by kernel_rfl) rfl rfl rfl (Q_ixR (T := Ty.i64) Mb0 hR393 hq452 (getI_ix hx444).1 rfl rfl rfl rfl rfl)<|Awq 7 rfl (by kernel_rfl) rfl rfl rfl (Qt_load1 (v := (.int .i64 x443)) rfl rfl rfl (Rd_row (T := Ty.i64) Mb0 hR393 hq452 rfl rfl))<|Awq 8 rfl (by kernel_rfl) rfl rfl rfl (Qt_assign rfl)<|Awq 9 rfl (by kernel_rfl) rfl rfl rfl (Qt_assign rfl)<|Aw_done (by kernel_rfl)<|Cw_region<|Ow_q rfl rfl rfl (Qt_move rfl)<|Ow_q rfl rfl rfl (Qt_move rfl)<|Ow_q rfl rfl rfl (Qt_move rfl)<|Ow_q rfl rfl rfl (Qt_move rfl)<|?_
    refine Ow_q rfl rfl rfl (Qt_move rfl)<|Ow_q rfl rfl rfl (Qt_move rfl)<|?_
    obtain ⟨x454, hx455, H⟩ := bnd H
    obtain ⟨r456, hq457, hr458⟩ := RowR.at hR393 hx455
    obtain rfl := hr458
    refine Ow_q rfl rfl rfl (Q_ixR (T := Ty.i64) Mb0 hR393 hq457 (getI_ix hx455).1 rfl rfl rfl rfl rfl) ?_
    refine Ow_cons rfl (O_storeR (T := Ty.i64) (vs := [(.int .i64 x443)]) (r' := [(.int .i64 x443)]) (l' := (setI l392 i395 x443)) rfl rfl rfl rfl rfl .here hR393 hq457 rfl rfl rfl (RowR.set i395 hR393 rfl) (fun hR459 => ?_))
    have hE460 := set_at hq457 (v := [(.int .i64 x443)])
    obtain ⟨x461, hx462, H⟩ := bnd H
    obtain ⟨r463, hq464, hr465⟩ := RowR.at hR459 hx462
    obtain rfl := hr465
    refine Ow_q rfl rfl rfl (Q_ixR (T := Ty.i64) Mb0 hR459 hq464 (getI_ix hx462).1 rfl rfl rfl rfl rfl) ?_
    refine Ow_cons rfl (O_storeR (T := Ty.i64) (vs := [(.int .i64 x438)]) (r' := [(.int .i64 x438)]) (l' := (setI (setI l392 i395 x443) x435 x438)) rfl rfl rfl rfl rfl .here hR459 hq464 rfl rfl rfl (RowR.set x435 hR459 rfl) (fun hR466 => ?_))
    have hE467 := set_at hq464 (v := [(.int .i64 x438)])
    refine Ow_nil<|Cw_region<|Ow_q rfl rfl rfl (Qt_move rfl)<|Ow_q rfl rfl rfl (Qt_arith (e := wI (i395 - 1)) rfl rfl rfl rfl)<|Ow_q rfl rfl rfl (Qt_assign rfl)<|Ow_nil<|Shift.done<|?_
    exact ⟨_, by exact ⟨rfl, rfl, rfl, trivial⟩, _, Nat.lt_succ_self _, (setI (setI l392 i395 x443) x435 x438), ((rs394.set i395.toNat [(.int .i64 x443)]).set x435.toNat [(.int .i64 x438)]), (wI (i395 - 1)), rfl, rfl, rfl, (hkk399 ▸ H), hR466⟩
   ·intro h401
    have h401 := dcd_f (h401)
    have H := iff_ h401 H
    refine Cw_exit<|Shift.done<|?_
    exact ⟨_, by exact ⟨rfl, trivial⟩, l392, rs394, rfl, rfl, H, hR393⟩
  rintro _ K468 _ hK469 ⟨l311, rs313, rfl, rfl, H, hR312⟩
  unfold M_190z at H
  refine Cw_seq<|Cw_region<|Ow_q rfl rfl rfl (Qt_move rfl)<|Ow_q rfl rfl rfl (Qt_assign rfl)<|Ow_nil<|Cw_ret<|?_
  obtain ey0 := inj1 H
  subst y0
  refine ⟨(by first | exact .inl rfl | exact .inr rfl), [(sv v142)], ⟨(sv v142), _, rfl, rfl, rfl⟩, ?_⟩
  exact Shift.done ⟨v142, rs313, rfl, rfl, hR312⟩



end Go.Hx

namespace Go.Hx
open Go Go.Proofs
set_option linter.unusedSimpArgs false
set_option linter.unusedVariables false
set_option maxRecDepth 10000
set_option maxHeartbeats 1000000 in
theorem c_M_9z (p0 : Op) (vp0_cases : SV) (vp0_draws : SV) (y0 : List Int) (H : M_9z p0 = some y0) (K : Kp) (G : List Ent) (hp0_cases : Slr TyCase K (sv vp0_cases) p0.cases) (hp0_draws : Slr Ty.i64 K (sv vp0_draws) p0.draws) :
  Fc Try.prog 119 #[(.agg (Op.cells p0 vp0_cases vp0_draws).toArray)] K (G) (fun v K' G' => ∃ (wy0 : SV) (rswy0 : List (List Value)), v = (sv wy0) ∧ (.row (sv wy0) 3 1 rswy0.flatten) :: G = G' ∧ RowR Ty.i64 K' rswy0 y0) := by
 refine Fc_body Try.func119 rfl Try.ntmps119 Try.results119 rfl ?_
 unfold M_9z at H
 refine Cw_seq<|Cw_region<|?_
 refine Ow_cons rfl (OpW_box (cs := (Op.cells p0 vp0_cases vp0_draws)) rfl rfl rfl (fun b9 => ?_))
 refine Ow_q rfl rfl rfl (Qt_assign rfl)<|Ow_nil<|Cw_seq<|Cw_region<|Ow_q rfl rfl rfl (Qt_fieldAddr (m := 5) rfl rfl rfl rfl rfl)<|Ow_q rfl rfl rfl (Qt_load1 (v := (sv vp0_cases)) rfl rfl rfl (Rdc.blk Mb0 rfl))<|Ow_q rfl rfl rfl (Q_len (T := TyCase) hp0_cases rfl rfl)<|Ow_q rfl rfl rfl (Qt_fieldAddr (m := 6) rfl rfl rfl rfl rfl)<|Ow_q rfl rfl rfl (Qt_load1 (v := (sv vp0_draws)) rfl rfl rfl (Rdc.blk Mb0 rfl))<|?_
 obtain ⟨x10, hx11, H⟩ := bnd H
 refine Ow_cons rfl (OpW_call rfl Try.call125 rfl rfl (c_M_38z (p0.cases.length : Int) p0.draws vp0_draws x10 hx11 _ _ hp0_draws) ?_)
 rintro _ K14 _ hK15 ⟨v12, rs13, rfl, rfl, hs16⟩
 refine Ow_q rfl rfl rfl (Qt_assign rfl)<|Ow_nil<|Cw_ret<|?_
 obtain ey0 := inj1 H
 subst y0
 refine ⟨(by first | exact .inl rfl | exact .inr rfl), [(sv v12)], ⟨(sv v12), _, rfl, rfl, rfl⟩, ?_⟩
 refine Re1<|Shift.done<|?_
 exact ⟨v12, rs13, rfl, rfl, hs16⟩

set_option maxHeartbeats 1000000 in
theorem c_M_134z (p0 : Config) (vp0_capacities : SV) (vp0_starts : SV) (p1 : Int) (y0 : Bool) (H : M_134z p0 p1 = some y0) (K : Kp) (G : List Ent) (hp0_capacities : Slr Ty.i64 K (sv vp0_capacities) p0.capacities) (hp0_starts : Slr Ty.u64 K (sv vp0_starts) p0.starts) :
  Fc Try.prog 73 #[(.agg (Config.cells p0 vp0_capacities vp0_starts).toArray), (.int .i64 p1)] K (G) (fun v K' G' => v = (.bool y0) ∧ K = K' ∧ G = G') := by
 refine Fc_body Try.func73 rfl Try.ntmps73 Try.results73 rfl ?_
 unfold M_134z at H
 refine Cw_seq<|Cw_region<|?_
 refine Ow_cons rfl (OpW_box (cs := (Config.cells p0 vp0_capacities vp0_starts)) rfl rfl rfl (fun b3 => ?_))
 refine Ow_q rfl rfl rfl (Qt_assign rfl)<|Ow_nil<|Cw_seq<|Cw_region<|Ow_q rfl rfl rfl (Qt_move rfl)<|Ow_q rfl rfl rfl (Qt_cmp rfl rfl rfl)<|Ow_q rfl rfl rfl (Qt_move rfl)<|?_
 refine Ow_caseG rfl rfl rfl ?_ ?_
 ·intro h5
  have h5 := dcd_t (h5)
  have H := ift h5 H
  refine Ow_qw rfl rfl rfl rfl rfl rfl (Qt_move rfl)<|Ow_qw rfl rfl rfl rfl rfl rfl (Qt_fieldAddr (m := 0) rfl rfl rfl rfl rfl)<|Ow_qw rfl rfl rfl rfl rfl rfl (Qt_load1 (v := (sv vp0_capacities)) rfl rfl rfl (Rdc.blk Mb0 rfl))<|Ow_qw rfl rfl rfl rfl rfl rfl (Q_len (T := Ty.i64) hp0_capacities rfl rfl)<|Ow_qw rfl rfl rfl rfl rfl rfl (Qt_cmp rfl rfl rfl)<|Ow_q rfl rfl rfl (Qt_pick_t rfl rfl)<|Ow_q rfl rfl rfl (Qt_assign rfl)<|Ow_nil<|Cw_ret<|?_
  obtain ey0 := inj1 H
  subst y0
  refine ⟨(by first | exact .inl rfl | exact .inr rfl), [(.bool (dcd (p1 < (p0.capacities.length : Int))))], ⟨(.bool (dcd (p1 < (p0.capacities.length : Int)))), _, rfl, rfl, rfl⟩, ?_⟩
  refine Re0<|Shift.done<|?_
  exact ⟨rfl, rfl, rfl⟩
 ·intro h5
  have h5 := dcd_f (h5)
  have H := iff_ h5 H
  refine Ow_pass rfl rfl rfl rfl rfl rfl rfl<|Ow_pass rfl rfl rfl rfl rfl rfl rfl<|Ow_pass rfl rfl rfl rfl rfl rfl rfl<|Ow_pass rfl rfl rfl rfl rfl rfl rfl<|Ow_pass rfl rfl rfl rfl rfl rfl rfl<|Ow_q rfl rfl rfl (Qt_pick_f rfl rfl)<|Ow_q rfl rfl rfl (Qt_assign rfl)<|Ow_nil<|Cw_ret<|?_
  obtain ey0 := inj1 H
  subst y0
  refine ⟨(by first | exact .inl rfl | exact .inr rfl), [(.bool false)], ⟨(.bool false), _, rfl, rfl, rfl⟩, ?_⟩
  refine Re0<|Shift.done<|?_
  exact ⟨rfl, rfl, rfl⟩



end Go.Hx

namespace Go.Hx
open Go Go.Proofs
set_option linter.unusedSimpArgs false
set_option linter.unusedVariables false
set_option maxRecDepth 10000
set_option maxHeartbeats 1000000 in
theorem c_M_125z (p0 : Desk) (vp0_chans : SV) (vp0_waiting : SV) (p1 : Int) (p2 : Op) (vp2_cases : SV) (vp2_draws : SV) (y0 : Int) (H : M_125z p0 p1 p2 = some y0) (K : Kp) (G : List Ent) (hp0_chans : Slr TyChan K (sv vp0_chans) p0.chans) (hp0_waiting : Slr TyWaiter K (sv vp0_waiting) p0.waiting) (hp2_cases : Slr TyCase K (sv vp2_cases) p2.cases) (hp2_draws : Slr Ty.i64 K (sv vp2_draws) p2.draws) :
  Fc Try.prog 102 #[(.agg (Desk.cells p0 vp0_chans vp0_waiting).toArray), (.int .i64 p1), (.agg (Op.cells p2 vp2_cases vp2_draws).toArray)] K (G) (fun v K' G' => v = (.int .i64 y0) ∧ G = G') := by
 refine Fc_body Try.func102 rfl Try.ntmps102 Try.results102 rfl ?_
 unfold M_125z at H
 refine Cw_seq<|Cw_region<|?_
 refine Ow_cons rfl (OpW_box (cs := (Desk.cells p0 vp0_chans vp0_waiting)) rfl rfl rfl (fun b92 => ?_))
 refine Ow_cons rfl (OpW_box (cs := (Op.cells p2 vp2_cases vp2_draws)) rfl rfl rfl (fun b93 => ?_))
 refine Ow_q rfl rfl rfl (Qt_assign rfl)<|Ow_nil<|Cw_seq<|Cw_region<|Ow_q rfl rfl rfl (Qt_loadA (m := 7) (cs := (Op.cells p2 vp2_cases vp2_draws)) rfl rfl rfl rfl ⟨rfl, Rdc.blk Mb0 rfl⟩)<|?_
 obtain ⟨x94, hx95, H⟩ := bnd H
 refine Ow_cons rfl (OpW_call rfl Try.call119 rfl rfl (c_M_9z p2 vp2_cases vp2_draws x94 hx95 _ _ hp2_cases hp2_draws) ?_)
 rintro _ K98 _ hK99 ⟨v96, rs97, rfl, rfl, hs100⟩
 refine Ow_q rfl rfl rfl (Qt_assign rfl)<|Ow_nil<|?_
 refine Cw_join (fun env' K' G' => [] = env' ∧ G = G' ∧ M_192z = some y0) ?_ ?_
 ·skip
  refine Cw_seq<|Cw_region<|Ow_q rfl rfl rfl (Qt_assign rfl)<|Ow_nil<|Cw_block<|?_
  refine Cw_loopM (fun n261 env' K' G' => ∃ (i260 : Int), [(1, (.int .i64 p1)), (3, (.pointer (some ((⟨b92, 0, none⟩ : Addr).add 0)))), (5, (.pointer (some ((⟨b93, 0, none⟩ : Addr).add 0)))), (7, (sv v96)), (8, (.int .i64 i260))] = env' ∧ (.blk b93 38 (Op.cells p2 vp2_cases vp2_draws)) :: (.blk b92 102 (Desk.cells p0 vp0_chans vp0_waiting)) :: (.row (sv v96) 3 1 rs97.flatten) :: G = G' ∧ lp1 (M_124z p1 x94 p2 p0) n261 i260 = some y0) BIG ?_ ?_
  ·skip
   refine Pu2<|Pu2<|Shift.done<|?_
   exact ⟨_, by exact ⟨rfl, rfl, rfl, rfl, rfl, trivial⟩, 0, rfl, rfl, H⟩
  rintro n261 _ K262 _ hK263 ⟨i260, rfl, rfl, H⟩
  obtain ⟨m264, k265, rfl, hkk266, H⟩ := lps1 H
  unfold M_124z at H
  refine Cw_seq<|Cw_seq<|Cw_region<|Ow_q rfl rfl rfl (Qt_move rfl)<|Ow_q rfl rfl rfl (Qt_move rfl)<|?_
  have hs269 := (hs100).mono hK263
  refine Ow_q rfl rfl rfl (Q_lenR (T := Ty.i64) Mb2 hs269 rfl rfl rfl)<|Ow_q rfl rfl rfl (Qt_cmp rfl rfl rfl)<|Ow_nil<|?_
  refine Cw_cond rfl ?_ ?_
  ·intro h270
   have h270 := dcd_t (h270)
   have H := ift h270 H
   refine Cw_skip<|Cw_seq<|Cw_block<|Cw_seq<|?_
   obtain ⟨x306, hx307, H⟩ := bnd H
   obtain ⟨x311, hx312, H⟩ := bnd H
   obtain ⟨x317, hx318, H⟩ := bnd H
   refine Cw_region_any [.blk b93 38 (Op.cells p2 vp2_cases vp2_draws), .blk b92 102 (Desk.cells p0 vp0_chans vp0_waiting), .row (sv v96) 3 1 rs97.flatten] rfl (Inc.cons Mb0 (Inc.cons Mb1 (Inc.cons Mb2 Inc.nil)))<|Awq 0 rfl (by kernel_rfl) rfl rfl rfl (Qt_loadA (m := 3) (cs := (Desk.cells p0 vp0_chans vp0_waiting)) rfl rfl rfl rfl ⟨rfl, Rdc.blk Mb1 rfl⟩)<|Awq 1 rfl (by kernel_rfl) rfl rfl rfl (Qt_move rfl)<|Awq 2 rfl (by kernel_rfl) rfl rfl rfl (Qt_fieldAddr (m := 5) rfl rfl rfl rfl rfl)<|Awq 3 rfl (by kernel_rfl) rfl rfl rfl (Qt_load1 (v := (sv vp2_cases)) rfl rfl rfl (Rdc.blk Mb0 rfl))<|Awq 4 rfl (by kernel_rfl) rfl rfl rfl (Qt_move rfl)<|Awq 5 rfl (by kernel_rfl) rfl rfl rfl (Qt_move rfl)<|?_
   obtain ⟨r323, hq324, hr325⟩ := RowR.at hs269 hx307
   obtain rfl := hr325
   refine Awq 6 rfl (by kernel_rfl) rfl rfl rfl (Q_ixR (T := Ty.i64) Mb2 hs269 hq324 (getI_ix hx307).1 rfl rfl rfl rfl rfl)<|Awq 7 rfl (by kernel_rfl) rfl rfl rfl (Qt_load1 (v := (.int .i64 x306)) rfl rfl rfl (Rd_row (T := Ty.i64) Mb2 hs269 hq324 rfl rfl))<|?_
   have hs326 := ((hp2_cases).mono hK99).mono hK263
   obtain ⟨r327, hr328, hk329⟩ := Slr.at hs326 hx312
   obtain rfl := hr328
   refine Awq 8 rfl (by kernel_rfl) rfl rfl rfl (Q_ix (T := TyCase) hs326 hx312 rfl rfl rfl rfl rfl)<|Awq 9 rfl (by kernel_rfl) rfl rfl rfl (Qt_loadA (m := 3) (cs := (Case.cells x311)) rfl rfl rfl rfl ⟨rfl, Rdc.k hk329 rfl⟩)<|?_
   refine Aw_one 10 (by kernel_rfl) (Ax_mk rfl rfl ?_)
   have hs330 := ((hp0_chans).mono hK99).mono hK263
   have hs331 := ((hp0_waiting).mono hK99).mono hK263
   refine OpW_call rfl Try.call103 rfl rfl (c_M_68z p0 vp0_chans vp0_waiting p1 x311 x317 hx318 _ _ hs330 hs331) ?_
   rintro _ K332 _ hK333 ⟨rfl, rfl⟩
   refine ⟨(Inc.cons Mb0 (Inc.cons Mb1 (Inc.cons Mb2 Inc.nil))), ?_⟩
   refine Aw_done (by kernel_rfl) ?_
   refine Cw_cond rfl ?_ ?_
   ·intro h334
    have H := ift h334 H
    refine Cw_seq<|Cw_region<|Ow_q rfl rfl rfl (Qt_move rfl)<|Ow_q rfl rfl rfl (Qt_move rfl)<|?_
    obtain ⟨x335, hx336, H⟩ := bnd H
    have hs337 := (hs269).mono hK333
    obtain ⟨r338, hq339, hr340⟩ := RowR.at hs337 hx336
    obtain rfl := hr340
    refine Ow_q rfl rfl rfl (Q_ixR (T := Ty.i64) Mb2 hs337 hq339 (getI_ix hx336).1 rfl rfl rfl rfl rfl)<|Ow_q rfl rfl rfl (Qt_load1 (v := (.int .i64 x335)) rfl rfl rfl (Rd_row (T := Ty.i64) Mb2 hs337 hq339 rfl rfl))<|Ow_q rfl rfl rfl (Qt_assign rfl)<|Ow_nil<|Cw_ret<|?_
    obtain ey0 := inj1 H
    subst y0
    refine ⟨(by first | exact .inl rfl | exact .inr rfl), [(.int .i64 x335)], ⟨(.int .i64 x335), _, rfl, rfl, rfl⟩, ?_⟩
    refine Re0<|Re0<|Re0<|Shift.done<|?_
    exact ⟨rfl, rfl⟩
   ·intro h334
    have H := iff_ (btf h334) H
    refine Cw_skip<|Cw_region<|Ow_q rfl rfl rfl (Qt_move rfl)<|Ow_q rfl rfl rfl (Qt_arith (e := wI (i260 + 1)) rfl rfl rfl rfl)<|Ow_q rfl rfl rfl (Qt_assign rfl)<|Ow_nil<|Pu2<|Pu2<|Pu2<|Shift.done<|?_
    exact ⟨_, by exact ⟨rfl, rfl, rfl, rfl, rfl, trivial⟩, _, Nat.lt_succ_self _, (wI (i260 + 1)), rfl, rfl, (hkk266 ▸ H)⟩
  ·intro h270
   have h270 := dcd_f (h270)
   have H := iff_ h270 H
   refine Cw_exit<|Re0<|Re0<|Re0<|Shift.done<|?_
   exact ⟨[], trivial, rfl, rfl, H⟩
 rintro _ K341 _ hK342 ⟨rfl, rfl, H⟩
 unfold M_192z at H
 refine Cw_seq<|Cw_region<|Ow_q rfl rfl rfl (Qt_assign rfl)<|Ow_nil<|Cw_ret<|?_
 obtain ey0 := inj1 H
 subst y0
 refine ⟨(by first | exact .inl rfl | exact .inr rfl), [(.int .i64 (-1))], ⟨(.int .i64 (-1)), _, rfl, rfl, rfl⟩, ?_⟩
 exact Shift.done ⟨rfl, rfl⟩

set_option maxHeartbeats 1000000 in
theorem c_M_126z (p0 : Desk) (vp0_chans : SV) (vp0_waiting : SV) (p1 : Int) (p2 : Op) (vp2_cases : SV) (vp2_draws : SV) (p3 : Int) (p4 : Case) (y0 : Desk) (y1 : List Done) (H : M_126z p0 p1 p2 p3 p4 = some (y0, y1)) (K : Kp) (G : List Ent) (hp0_chans : Slr TyChan K (sv vp0_chans) p0.chans) (hp0_waiting : Slr TyWaiter K (sv vp0_waiting) p0.waiting) (hp2_cases : Slr TyCase K (sv vp2_cases) p2.cases) (hp2_draws : Slr Ty.i64 K (sv vp2_draws) p2.draws) :
  Fc Try.prog 104 #[(.agg (Desk.cells p0 vp0_chans vp0_waiting).toArray), (.int .i64 p1), (.agg (Op.cells p2 vp2_cases vp2_draws).toArray), (.int .i64 p3), (.agg (Case.cells p4).toArray)] K (G) (fun v K' G' => ∃ (wy0_chans : SV) (wy0_waiting : SV) (wy1 : SV), v = (.tuple #[(.agg (Desk.cells y0 wy0_chans wy0_waiting).toArray), (sv wy1)]) ∧ (.tok 108 6 [(sv wy1)]) :: G = G' ∧ Slr TyChan K' (sv wy0_chans) y0.chans ∧ Slr TyWaiter K' (sv wy0_waiting) y0.waiting ∧ Slr TyDone K' (sv wy1) y1) := by
 refine Fc_body Try.func104 rfl Try.ntmps104 Try.results104 rfl ?_
 unfold M_126z at H
 refine Cw_seq<|Cw_region<|?_
 refine Ow_cons rfl (OpW_box (cs := (Desk.cells p0 vp0_chans vp0_waiting)) rfl rfl rfl (fun b337 => ?_))
 refine Ow_cons rfl (OpW_box (cs := (Op.cells p2 vp2_cases vp2_draws)) rfl rfl rfl (fun b338 => ?_))
 refine Ow_cons rfl (OpW_box (cs := (Case.cells p4)) rfl rfl rfl (fun b339 => ?_))
 refine Ow_cons rfl (OpW_alloc (cs := (Desk.cells (Desk.mk [] [] 0) nilS nilS)) rfl rfl rfl rfl (fun b340 => ?_))
 refine Ow_q rfl rfl rfl (Qt_assign rfl)<|Ow_nil<|Cw_seq<|Cw_region<|Ow_q rfl rfl rfl (Qt_fieldAddr (m := 0) rfl rfl rfl rfl rfl)<|Ow_q rfl rfl rfl (Qt_load1 (v := (sv vp0_chans)) rfl rfl rfl (Rdc.blk Mb3 rfl))<|Ow_q rfl rfl rfl (Qt_fieldAddr (m := 1) rfl rfl rfl rfl rfl)<|Ow_q rfl rfl rfl (Qt_load1 (v := (.int .i64 p4.channel)) rfl rfl rfl (Rdc.blk Mb1 rfl))<|?_
 obtain ⟨x341, hx342, H⟩ := bnd H
 obtain ⟨r343, hr344, hk345⟩ := Slr.at hp0_chans hx342
 obtain ⟨v346, rfl, hs347⟩ := hr344
 refine Ow_q rfl rfl rfl (Q_ix (T := TyChan) hp0_chans hx342 rfl rfl rfl rfl rfl)<|Ow_q rfl rfl rfl (Qt_loadA (m := 3) (cs := (Chan.cells x341 v346)) rfl rfl rfl rfl ⟨rfl, Rdc.k hk345 rfl⟩)<|?_
 refine Ow_cons rfl (OpW_alloc (cs := (Chan.cells (Chan.mk 0 [] false) nilS)) rfl rfl rfl rfl (fun b348 => ?_))
 refine Ow_cons rfl (OpW_store (vs := (Chan.cells x341 v346)) (all' := (Chan.cells x341 v346)) rfl rfl rfl rfl rfl .here rfl rfl rfl ?_)
 refine Ow_nil<|Cw_seq<|Cw_region<|Ow_q rfl rfl rfl (Qt_loadA (m := 7) (cs := (Op.cells p2 vp2_cases vp2_draws)) rfl rfl rfl rfl ⟨rfl, Rdc.blk Mb3 rfl⟩)<|Ow_q rfl rfl rfl (Qt_move rfl)<|?_
 obtain ⟨x349, hx350, H⟩ := bnd H
 refine Ow_cons rfl (OpW_call rfl Try.call116 rfl rfl (c_M_21z p2 vp2_cases vp2_draws p3 x349 hx350 _ _ hp2_cases hp2_draws) ?_)
 rintro _ _ _ - ⟨rfl, rfl, rfl⟩
 refine Ow_q rfl rfl rfl (Qt_assign rfl)<|Ow_nil<|Cw_seq<|Cw_region<|Ow_q rfl rfl rfl (Qt_loadA (m := 3) (cs := (Desk.cells p0 vp0_chans vp0_waiting)) rfl rfl rfl rfl ⟨rfl, Rdc.blk Mb4 rfl⟩)<|Ow_q rfl rfl rfl (Qt_move rfl)<|Ow_q rfl rfl rfl (Qt_loadA (m := 3) (cs := (Case.cells p4)) rfl rfl rfl rfl ⟨rfl, Rdc.blk Mb2 rfl⟩)<|?_
 obtain ⟨x351, hx352, H⟩ := bnd H
 refine Ow_cons rfl (OpW_call rfl Try.call120 rfl rfl (c_M_67z p0 vp0_chans vp0_waiting p1 p4 x351 hx352 _ _ hp0_chans hp0_waiting) ?_)
 rintro _ K353 _ hK354 ⟨rfl, rfl⟩
 refine Ow_q rfl rfl rfl (Qt_assign rfl)<|Ow_nil<|Cw_seq<|Cw_seq<|Cw_region<|Ow_q rfl rfl rfl (Qt_fieldAddr (m := 0) rfl rfl rfl rfl rfl)<|Ow_q rfl rfl rfl (Qt_load1 (v := (.bool p4.send)) rfl rfl rfl (Rdc.blk Mb2 rfl))<|Ow_nil<|?_
 refine Cw_cond rfl ?_ ?_
 ·intro h487
  have H := ift h487 H
  refine Cw_seq<|Cw_seq<|Cw_region<|Ow_q rfl rfl rfl (Qt_fieldAddr (m := 2) rfl rfl rfl rfl rfl)<|Ow_q rfl rfl rfl (Qt_load1 (v := (.bool x341.closed)) rfl rfl rfl (Rdc.blk Mb0 rfl))<|Ow_nil<|?_
  refine Cw_cond rfl ?_ ?_
  ·intro h491
   have H := ift h491 H
   refine Cw_seq<|Cw_region<|Ow_q rfl rfl rfl (Qt_loadA (m := 3) (cs := (Desk.cells p0 vp0_chans vp0_waiting)) rfl rfl rfl rfl ⟨rfl, Rdc.blk Mb4 rfl⟩)<|Ow_q rfl rfl rfl (Qt_move rfl)<|Ow_q rfl rfl rfl (Qt_move rfl)<|Ow_q rfl rfl rfl (Qt_build (cs := (Result.cells (Result.mk 5 x349 0 false 0))) rfl rfl rfl rfl rfl rfl)<|Ow_q rfl rfl rfl (Qt_build (cs := (Done.cells (Done.mk p1 (Result.mk 5 x349 0 false 0)))) rfl rfl rfl rfl rfl rfl)<|?_
   have hR493 : RowR TyDone K353 [(Done.cells (Done.mk p1 (Result.mk 5 x349 0 false 0)))] [(Done.mk p1 (Result.mk 5 x349 0 false 0))] := RowR.cons rfl (RowR.nil)
   refine Ow_cons rfl (O_lit (T := TyDone) (rows := [(Done.cells (Done.mk p1 (Result.mk 5 x349 0 false 0)))]) (l := [(Done.mk p1 (Result.mk 5 x349 0 false 0))]) rfl rfl rfl hR493 rfl rfl rfl rfl rfl rfl rfl rfl (fun v492 => ?_))
   refine Ow_cons rfl (OpW_store (vs := (Desk.cells p0 vp0_chans vp0_waiting)) (all' := (Desk.cells p0 vp0_chans vp0_waiting)) rfl rfl rfl rfl rfl (.there (.there .here)) rfl rfl rfl ?_)
   refine Ow_q rfl rfl rfl (Qt_assign rfl)<|Ow_nil<|Cw_ret<|?_
   obtain ⟨ey0, ey1⟩ := inj2 H
   subst y0 y1
   refine ⟨(by first | exact .inl rfl | exact .inr rfl), [(.agg (Desk.cells p0 vp0_chans vp0_waiting).toArray), (sv v492)], ⟨(.agg (Desk.cells p0 vp0_chans vp0_waiting).toArray), _, rfl, ⟨_, 3, (Desk.cells p0 vp0_chans vp0_waiting), rfl, rfl, rfl, rfl, ⟨rfl, Rdc.blk Mb2 rfl⟩, rfl⟩, ⟨(sv v492), _, rfl, rfl, rfl⟩⟩, ?_⟩
   refine Shift.settle (T := TyDone) .here hR493 rfl ?_
   intro K494 hK495 hs496
   refine Re1<|Re1<|Re1<|Re1<|Re1<|?_
   have hs497 := ((hp0_chans).mono hK354).mono hK495
   have hs498 := ((hp0_waiting).mono hK354).mono hK495
   exact Shift.done ⟨vp0_chans, vp0_waiting, v492, rfl, rfl, hs497, hs498, hs496⟩
  ·intro h491
   have H := iff_ (btf h491) H
   refine Cw_skip<|Cw_seq<|Cw_region<|Ow_q rfl rfl rfl (Qt_move rfl)<|Ow_q rfl rfl rfl (Qt_move rfl)<|Ow_q rfl rfl rfl (Qt_build (cs := (Result.cells (Result.mk 1 x349 0 false 0))) rfl rfl rfl rfl rfl rfl)<|Ow_q rfl rfl rfl (Qt_build (cs := (Done.cells (Done.mk p1 (Result.mk 1 x349 0 false 0)))) rfl rfl rfl rfl rfl rfl)<|?_
   have hR500 : RowR TyDone K353 [(Done.cells (Done.mk p1 (Result.mk 1 x349 0 false 0)))] [(Done.mk p1 (Result.mk 1 x349 0 false 0))] := RowR.cons rfl (RowR.nil)
   refine Ow_cons rfl (O_lit (T := TyDone) (rows := [(Done.cells (Done.mk p1 (Result.mk 1 x349 0 false 0)))]) (l := [(Done.mk p1 (Result.mk 1 x349 0 false 0))]) rfl rfl rfl hR500 rfl rfl rfl rfl rfl rfl rfl rfl (fun v499 => ?_))
   refine Ow_q rfl rfl rfl (Qt_assign rfl)<|Ow_nil<|Cw_seq<|Cw_seq<|Cw_region<|Ow_q rfl rfl rfl (Qt_move rfl)<|Ow_q rfl rfl rfl (Qt_cmp rfl rfl rfl)<|Ow_nil<|?_
   refine Cw_cond rfl ?_ ?_
   ·intro h563
    have h563 := dcd_t (h563)
    have H := ift h563 H
    refine Cw_seq<|Cw_region<|Ow_q rfl rfl rfl (Qt_fieldAddr (m := 1) rfl rfl rfl rfl rfl)<|Ow_q rfl rfl rfl (Qt_load1 (v := (sv vp0_waiting)) rfl rfl rfl (Rdc.blk Mb5 rfl))<|Ow_q rfl rfl rfl (Qt_move rfl)<|?_
    obtain ⟨x564, hx565, H⟩ := bnd H
    have hs566 := (hp0_waiting).mono hK354
    obtain ⟨r567, hr568, hk569⟩ := Slr.at hs566 hx565
    obtain ⟨v570, v571, rfl, hs572, hs573⟩ := hr568
    refine Ow_q rfl rfl rfl (Q_ix (T := TyWaiter) hs566 hx565 rfl rfl rfl rfl rfl)<|Ow_q rfl rfl rfl (Qt_loadA (m := 8) (cs := (Waiter.cells x564 v570 v571)) rfl rfl rfl rfl ⟨rfl, Rdc.k hk569 rfl⟩)<|?_
    refine Ow_cons rfl (OpW_alloc (cs := (Waiter.cells (Waiter.mk 0 (Op.mk 0 0 0 0 0 [] [])) nilS nilS)) rfl rfl rfl rfl (fun b574 => ?_))
    refine Ow_cons rfl (OpW_store (vs := (Waiter.cells x564 v570 v571)) (all' := (Waiter.cells x564 v570 v571)) rfl rfl rfl rfl rfl .here rfl rfl rfl ?_)
    refine Ow_nil<|Cw_seq<|?_
    obtain ⟨x625, hx626, H⟩ := bnd H
    obtain ⟨x634, hx635, H⟩ := bnd H
    obtain ⟨x640, hx641, H⟩ := bnd H
    obtain ⟨x648, hx649, H⟩ := bnd H
    refine Cw_region_any [.blk b574 77 (Waiter.cells x564 v570 v571), .blk b348 83 (Chan.cells x341 v346), .blk b339 73 (Case.cells p4), .blk b338 38 (Op.cells p2 vp2_cases vp2_draws), .blk b337 102 (Desk.cells p0 vp0_chans vp0_waiting)] rfl (Inc.cons Mb0 (Inc.cons Mb2 (Inc.cons Mb4 (Inc.cons Mb5 (Inc.cons Mb6 Inc.nil)))))<|Awq 0 rfl (by kernel_rfl) rfl rfl rfl (Qt_loadA (m := 3) (cs := (Desk.cells p0 vp0_chans vp0_waiting)) rfl rfl rfl rfl ⟨rfl, Rdc.blk Mb4 rfl⟩)<|Awq 1 rfl (by kernel_rfl) rfl rfl rfl (Qt_move rfl)<|Awq 3 rfl (by kernel_rfl) rfl rfl rfl (Qt_move rfl)<|Awq 4 rfl (by kernel_rfl) rfl rfl rfl (Qt_fieldAddr (m := 0) rfl rfl rfl rfl rfl)<|Awq 5 rfl (by kernel_rfl) rfl rfl rfl (Qt_load1 (v := (.int .i64 x564.thread)) rfl rfl rfl (Rdc.blk Mb0 rfl))<|Awq 6 rfl (by kernel_rfl) rfl rfl rfl (Qt_fieldAddr (m := 1) rfl rfl rfl rfl rfl)<|Awq 7 rfl (by kernel_rfl) rfl rfl rfl (Qt_loadA (m := 7) (cs := (Op.cells x564.op v570 v571)) rfl rfl rfl rfl ⟨rfl, Rdc.blk Mb0 rfl⟩)<|Awq 8 rfl (by kernel_rfl) rfl rfl rfl (Qt_fieldAddr (m := 1) rfl rfl rfl rfl rfl)<|Awq 9 rfl (by kernel_rfl) rfl rfl rfl (Qt_loadA (m := 7) (cs := (Op.cells x564.op v570 v571)) rfl rfl rfl rfl ⟨rfl, Rdc.blk Mb0 rfl⟩)<|?_
    refine Awq 10 rfl (by kernel_rfl) rfl rfl rfl (Qt_fieldAddr (m := 1) rfl rfl rfl rfl rfl)<|Awq 11 rfl (by kernel_rfl) rfl rfl rfl (Qt_load1 (v := (.int .i64 p4.channel)) rfl rfl rfl (Rdc.blk Mb2 rfl))<|Awq 14 rfl (by kernel_rfl) rfl rfl rfl (Qt_fieldAddr (m := 2) rfl rfl rfl rfl rfl)<|Awq 15 rfl (by kernel_rfl) rfl rfl rfl (Qt_load1 (v := (.int .u64 p4.value)) rfl rfl rfl (Rdc.blk Mb2 rfl))<|?_
    refine Aw_one 2 (by kernel_rfl) (Ax_mk rfl rfl ?_)
    have hs654 := (hp0_chans).mono hK354
    refine OpW_call rfl Try.call117 rfl rfl (c_M_8z p0 vp0_chans vp0_waiting x351 x625 hx626 _ _ hs654 hs566) ?_
    rintro _ K657 _ hK658 ⟨v655, v656, rfl, rfl, hs659, hs660⟩
    refine ⟨(Inc.cons Mb1 (Inc.cons Mb3 (Inc.cons Mb5 (Inc.cons Mb6 (Inc.cons Mb7 Inc.nil))))), ?_⟩
    refine Aw_one 12 (by kernel_rfl) (Ax_mk rfl rfl ?_)
    have hs661 := (hs572).mono hK658
    have hs662 := (hs573).mono hK658
    refine OpW_call rfl Try.call115 rfl rfl (c_M_20z x564.op v570 v571 p4.channel false x634 hx635 _ _ hs661 hs662) ?_
    rintro _ K663 _ hK664 ⟨rfl, rfl⟩
    refine ⟨(Inc.cons Mb1 (Inc.cons Mb3 (Inc.cons Mb5 (Inc.cons Mb6 (Inc.cons Mb7 Inc.nil))))), ?_⟩
    refine Aw_one 13 (by kernel_rfl) (Ax_mk rfl rfl ?_)
    have hs665 := (hs661).mono hK664
    have hs666 := (hs662).mono hK664
    refine OpW_call rfl Try.call116 rfl rfl (c_M_21z x564.op v570 v571 x634 x640 hx641 _ _ hs665 hs666) ?_
    rintro _ _ _ - ⟨rfl, rfl, rfl⟩
    refine ⟨(Inc.cons Mb1 (Inc.cons Mb3 (Inc.cons Mb5 (Inc.cons Mb6 (Inc.cons Mb7 Inc.nil))))), ?_⟩
    refine Awq 16 rfl (by kernel_rfl) rfl rfl rfl (Qt_build (cs := (Result.cells (Result.mk 2 x640 p4.value true 0))) rfl rfl rfl rfl rfl rfl) ?_
    refine Aw_one 17 (by kernel_rfl) (Ax_mk rfl rfl ?_)
    have hs670 := ((hR500).mono hK658).mono hK664
    refine OpW.shift (Shift.settle (T := TyDone) (.there (.there .here)) hs670 rfl (fun K667 hK668 hs669 => Shift.done ?_))
    refine OpW_call rfl Try.call118 rfl rfl (c_M_36z [(Done.mk p1 (Result.mk 1 x349 0 false 0))] v499 x564.thread (Result.mk 2 x640 p4.value true 0) x648 hx649 _ _ hs669) ?_
    rintro _ K672 _ hK673 ⟨v671, rfl, rfl, hs674⟩
    refine ⟨(Inc.cons Mb2 (Inc.cons Mb4 (Inc.cons Mb6 (Inc.cons Mb7 (Inc.cons Mb8 Inc.nil))))), ?_⟩
    refine Aw_one 18 (by kernel_rfl) (Ax_mk rfl rfl ?_)
    refine OpW_store (vs := (Desk.cells x625 v655 v656)) (all' := (Desk.cells x625 v655 v656)) rfl rfl rfl rfl rfl (.there (.there (.there (.there (.there .here))))) rfl rfl rfl ⟨(Inc.cons Mb2 (Inc.cons Mb4 (Inc.cons Mb6 (Inc.cons Mb7 (Inc.cons Mb8 Inc.nil))))), ?_⟩
    refine Awq 19 rfl (by kernel_rfl) rfl rfl rfl (Qt_assign rfl)<|Aw_done (by kernel_rfl)<|Cw_ret<|?_
    obtain ⟨ey0, ey1⟩ := inj2 H
    subst y0 y1
    refine ⟨(by first | exact .inl rfl | exact .inr rfl), [(.agg (Desk.cells x625 v655 v656).toArray), (sv v671)], ⟨(.agg (Desk.cells x625 v655 v656).toArray), _, rfl, ⟨_, 3, (Desk.cells x625 v655 v656), rfl, rfl, rfl, rfl, ⟨rfl, Rdc.blk Mb5 rfl⟩, rfl⟩, ⟨(sv v671), _, rfl, rfl, rfl⟩⟩, ?_⟩
    refine Re1<|Re1<|Re1<|Re1<|Re1<|Re1<|Re1<|Re1<|?_
    have hs675 := (((hs659).mono hK664).mono hK668).mono hK673
    have hs676 := (((hs660).mono hK664).mono hK668).mono hK673
    exact Shift.done ⟨v655, v656, v671, rfl, rfl, hs675, hs676, hs674⟩
   ·intro h563
    have h563 := dcd_f (h563)
    have H := iff_ h563 H
    refine Cw_skip ?_
    refine Cw_join (fun env' K' G' => ∃ (v727 : SV) (l728 : List Int), [(5, (.pointer (some ((⟨b337, 0, none⟩ : Addr).add 0)))), (9, (.pointer (some ((⟨b339, 0, none⟩ : Addr).add 0)))), (10, (.pointer (some ((⟨b340, 0, none⟩ : Addr).add 0)))), (12, (.pointer (some ((⟨b348, 0, none⟩ : Addr).add 0)))), (15, (sv v499))] = env' ∧ (.blk b348 83 (Chan.cells (Chan.mk x341.capacity l728 x341.closed) v727)) :: (.blk b340 102 (Desk.cells (Desk.mk [] [] 0) nilS nilS)) :: (.blk b339 73 (Case.cells p4)) :: (.blk b337 102 (Desk.cells p0 vp0_chans vp0_waiting)) :: (.tok 23 1 [(sv v727)]) :: (.row (sv v499) 108 6 [(Done.cells (Done.mk p1 (Result.mk 1 x349 0 false 0)))].flatten) :: G = G' ∧ M_163z p1 x349 x341 p4 p0 l728 = some (y0, y1) ∧ Slr Ty.u64 K' (sv v727) l728) ?_ ?_
    ·skip
     obtain ⟨x730, hx731, H⟩ := bnd H
     obtain ⟨x739, hx740, H⟩ := bnd H
     refine Cw_region_any [.row (sv v499) 108 6 [(Done.cells (Done.mk p1 (Result.mk 1 x349 0 false 0)))].flatten, .blk b340 102 (Desk.cells (Desk.mk [] [] 0) nilS nilS), .blk b339 73 (Case.cells p4), .blk b338 38 (Op.cells p2 vp2_cases vp2_draws), .blk b337 102 (Desk.cells p0 vp0_chans vp0_waiting)] rfl (Inc.cons Mb0 (Inc.cons Mb2 (Inc.cons Mb3 (Inc.cons Mb4 (Inc.cons Mb5 Inc.nil)))))<|Awq 0 rfl (by kernel_rfl) rfl rfl rfl (Qt_fieldAddr (m := 1) rfl rfl rfl rfl rfl)<|Awq 3 rfl (by kernel_rfl) rfl rfl rfl (Qt_fieldAddr (m := 2) rfl rfl rfl rfl rfl)<|Awq 4 rfl (by kernel_rfl) rfl rfl rfl (Qt_load1 (v := (.int .u64 p4.value)) rfl rfl rfl (Rdc.blk Mb2 rfl))<|?_
     refine Aw_two 1 5 (by kernel_rfl) ?_ ?_
     ·skip
      refine id (Ax_mk rfl rfl (OpW_of_Qt rfl rfl (Qt_load1 (v := (sv v346)) rfl rfl rfl (Rdc.blk Mb1 rfl)) ⟨(Inc.cons Mb0 (Inc.cons Mb2 (Inc.cons Mb3 (Inc.cons Mb4 (Inc.cons Mb5 Inc.nil))))), ?_⟩))
      refine Aw_two 2 5 (by kernel_rfl) ?_ ?_
      ·skip
       refine id (Ax_mk rfl rfl ?_)
       refine OpW.shift (Shift.nilTok1 23 1 (Shift.done ?_))
       have hs745 := (hs347).mono hK354
       refine O_appTok (T := Ty.u64) (bytes := 8) (q := 0) rfl rfl rfl (Slr.nil Ty.u64 _) Mb0 rfl (SrcT.sl hs745) hx731 rfl rfl rfl rfl rfl rfl rfl rfl (fun v746 K747 hK748 hs749 => ⟨_, .here, ⟨(Inc.cons Mb1 (Inc.cons Mb3 (Inc.cons Mb4 (Inc.cons Mb5 (Inc.cons Mb6 Inc.nil))))), ?_⟩⟩)
       refine Aw_one 5 (by kernel_rfl) (Ax_mk rfl rfl ?_)
       have hR751 : RowR Ty.u64 K747 [[(.int .u64 p4.value)]] [p4.value] := RowR.cons rfl (RowR.nil)
       refine O_lit (T := Ty.u64) (rows := [[(.int .u64 p4.value)]]) (l := [p4.value]) rfl rfl rfl hR751 rfl rfl rfl rfl rfl rfl rfl rfl (fun v750 => ⟨(Inc.cons Mb2 (Inc.cons Mb4 (Inc.cons Mb5 (Inc.cons Mb6 (Inc.cons Mb7 Inc.nil))))), ?_⟩)
       refine Aw_one 6 (by kernel_rfl) (Ax_mk rfl rfl ?_)
       refine O_appTok (T := Ty.u64) (bytes := 8) (q := 0) rfl rfl rfl hs749 Mb1 rfl (SrcT.row Mb0 hR751 rfl) hx740 rfl rfl rfl rfl rfl rfl rfl rfl (fun v752 K753 hK754 hs755 => ⟨_, (.there .here), ⟨(Inc.cons Mb2 (Inc.cons Mb4 (Inc.cons Mb5 (Inc.cons Mb6 (Inc.cons Mb7 Inc.nil))))), ?_⟩⟩)
       refine Aw.shift (Re0 (Shift.done ⟨(Inc.cons Mb1 (Inc.cons Mb3 (Inc.cons Mb4 (Inc.cons Mb5 (Inc.cons Mb6 Inc.nil))))), ?_⟩))
       refine Awq 7 rfl (by kernel_rfl) rfl rfl rfl (Qt_fieldAddr (m := 1) rfl rfl rfl rfl rfl) ?_
       refine Aw_one 8 (by kernel_rfl) (Ax_mk rfl rfl ?_)
       refine OpW_store (vs := [(sv v752)]) (all' := (Chan.cells (Chan.mk x341.capacity x739 x341.closed) v752)) rfl rfl rfl rfl rfl (.there (.there .here)) rfl rfl rfl ⟨(Inc.cons Mb1 (Inc.cons Mb3 (Inc.cons Mb4 (Inc.cons Mb5 (Inc.cons Mb6 Inc.nil))))), ?_⟩
       refine Aw_done (by kernel_rfl)<|Pu1<|Pu1<|Pu6<|Pu5<|Pu5<|Pu5<|Re6<|Shift.done<|?_
       exact ⟨_, by exact ⟨rfl, rfl, rfl, rfl, rfl, trivial⟩, v752, x739, rfl, rfl, H, hs755⟩
      ·skip
       refine id (Ax_mk rfl rfl ?_)
       have hR757 : RowR Ty.u64 K353 [[(.int .u64 p4.value)]] [p4.value] := RowR.cons rfl (RowR.nil)
       refine O_lit (T := Ty.u64) (rows := [[(.int .u64 p4.value)]]) (l := [p4.value]) rfl rfl rfl hR757 rfl rfl rfl rfl rfl rfl rfl rfl (fun v756 => ⟨(Inc.cons Mb1 (Inc.cons Mb3 (Inc.cons Mb4 (Inc.cons Mb5 (Inc.cons Mb6 Inc.nil))))), ?_⟩)
       refine Aw_one 2 (by kernel_rfl) (Ax_mk rfl rfl ?_)
       refine OpW.shift (Shift.nilTok1 23 1 (Shift.done ?_))
       have hs758 := (hs347).mono hK354
       refine O_appTok (T := Ty.u64) (bytes := 8) (q := 0) rfl rfl rfl (Slr.nil Ty.u64 _) Mb0 rfl (SrcT.sl hs758) hx731 rfl rfl rfl rfl rfl rfl rfl rfl (fun v759 K760 hK761 hs762 => ⟨_, .here, ⟨(Inc.cons Mb2 (Inc.cons Mb4 (Inc.cons Mb5 (Inc.cons Mb6 (Inc.cons Mb7 Inc.nil))))), ?_⟩⟩)
       refine Aw_one 6 (by kernel_rfl) (Ax_mk rfl rfl ?_)
       have hs763 := (hR757).mono hK761
       refine O_appTok (T := Ty.u64) (bytes := 8) (q := 0) rfl rfl rfl hs762 Mb0 rfl (SrcT.row Mb1 hs763 rfl) hx740 rfl rfl rfl rfl rfl rfl rfl rfl (fun v764 K765 hK766 hs767 => ⟨_, .here, ⟨(Inc.cons Mb2 (Inc.cons Mb4 (Inc.cons Mb5 (Inc.cons Mb6 (Inc.cons Mb7 Inc.nil))))), ?_⟩⟩)
       refine Aw.shift (Re1 (Shift.done ⟨(Inc.cons Mb1 (Inc.cons Mb3 (Inc.cons Mb4 (Inc.cons Mb5 (Inc.cons Mb6 Inc.nil))))), ?_⟩))
       refine Awq 7 rfl (by kernel_rfl) rfl rfl rfl (Qt_fieldAddr (m := 1) rfl rfl rfl rfl rfl) ?_
       refine Aw_one 8 (by kernel_rfl) (Ax_mk rfl rfl ?_)
       refine OpW_store (vs := [(sv v764)]) (all' := (Chan.cells (Chan.mk x341.capacity x739 x341.closed) v764)) rfl rfl rfl rfl rfl (.there (.there .here)) rfl rfl rfl ⟨(Inc.cons Mb1 (Inc.cons Mb3 (Inc.cons Mb4 (Inc.cons Mb5 (Inc.cons Mb6 Inc.nil))))), ?_⟩
       refine Aw_done (by kernel_rfl)<|Pu1<|Pu1<|Pu6<|Pu5<|Pu5<|Pu5<|Re6<|Shift.done<|?_
       exact ⟨_, by exact ⟨rfl, rfl, rfl, rfl, rfl, trivial⟩, v764, x739, rfl, rfl, H, hs767⟩
     ·skip
      refine id (Ax_mk rfl rfl ?_)
      have hR769 : RowR Ty.u64 K353 [[(.int .u64 p4.value)]] [p4.value] := RowR.cons rfl (RowR.nil)
      refine O_lit (T := Ty.u64) (rows := [[(.int .u64 p4.value)]]) (l := [p4.value]) rfl rfl rfl hR769 rfl rfl rfl rfl rfl rfl rfl rfl (fun v768 => ⟨(Inc.cons Mb1 (Inc.cons Mb3 (Inc.cons Mb4 (Inc.cons Mb5 (Inc.cons Mb6 Inc.nil))))), ?_⟩)
      refine Aw_one 1 (by kernel_rfl) (Ax_mk rfl rfl (OpW_of_Qt rfl rfl (Qt_load1 (v := (sv v346)) rfl rfl rfl (Rdc.blk Mb2 rfl)) ⟨(Inc.cons Mb1 (Inc.cons Mb3 (Inc.cons Mb4 (Inc.cons Mb5 (Inc.cons Mb6 Inc.nil))))), ?_⟩))
      refine Aw_one 2 (by kernel_rfl) (Ax_mk rfl rfl ?_)
      refine OpW.shift (Shift.nilTok1 23 1 (Shift.done ?_))
      have hs770 := (hs347).mono hK354
      refine O_appTok (T := Ty.u64) (bytes := 8) (q := 0) rfl rfl rfl (Slr.nil Ty.u64 _) Mb0 rfl (SrcT.sl hs770) hx731 rfl rfl rfl rfl rfl rfl rfl rfl (fun v771 K772 hK773 hs774 => ⟨_, .here, ⟨(Inc.cons Mb2 (Inc.cons Mb4 (Inc.cons Mb5 (Inc.cons Mb6 (Inc.cons Mb7 Inc.nil))))), ?_⟩⟩)
      refine Aw_one 6 (by kernel_rfl) (Ax_mk rfl rfl ?_)
      have hs775 := (hR769).mono hK773
      refine O_appTok (T := Ty.u64) (bytes := 8) (q := 0) rfl rfl rfl hs774 Mb0 rfl (SrcT.row Mb1 hs775 rfl) hx740 rfl rfl rfl rfl rfl rfl rfl rfl (fun v776 K777 hK778 hs779 => ⟨_, .here, ⟨(Inc.cons Mb2 (Inc.cons Mb4 (Inc.cons Mb5 (Inc.cons Mb6 (Inc.cons Mb7 Inc.nil))))), ?_⟩⟩)
      refine Aw.shift (Re1 (Shift.done ⟨(Inc.cons Mb1 (Inc.cons Mb3 (Inc.cons Mb4 (Inc.cons Mb5 (Inc.cons Mb6 Inc.nil))))), ?_⟩))
      refine Awq 7 rfl (by kernel_rfl) rfl rfl rfl (Qt_fieldAddr (m := 1) rfl rfl rfl rfl rfl) ?_
      refine Aw_one 8 (by kernel_rfl) (Ax_mk rfl rfl ?_)
      refine OpW_store (vs := [(sv v776)]) (all' := (Chan.cells (Chan.mk x341.capacity x739 x341.closed) v776)) rfl rfl rfl rfl rfl (.there (.there .here)) rfl rfl rfl ⟨(Inc.cons Mb1 (Inc.cons Mb3 (Inc.cons Mb4 (Inc.cons Mb5 (Inc.cons Mb6 Inc.nil))))), ?_⟩
      refine Aw_done (by kernel_rfl)<|Pu1<|Pu1<|Pu6<|Pu5<|Pu5<|Pu5<|Re6<|Shift.done<|?_
      exact ⟨_, by exact ⟨rfl, rfl, rfl, rfl, rfl, trivial⟩, v776, x739, rfl, rfl, H, hs779⟩
    rintro _ K780 _ hK781 ⟨v727, l728, rfl, rfl, H, hs729⟩
    unfold M_163z at H
    refine Cw_seq<|Cw_region<|Ow_q rfl rfl rfl (Qt_loadA (m := 3) (cs := (Desk.cells p0 vp0_chans vp0_waiting)) rfl rfl rfl rfl ⟨rfl, Rdc.blk Mb3 rfl⟩)<|Ow_q rfl rfl rfl (Qt_fieldAddr (m := 1) rfl rfl rfl rfl rfl)<|Ow_q rfl rfl rfl (Qt_load1 (v := (.int .i64 p4.channel)) rfl rfl rfl (Rdc.blk Mb2 rfl))<|Ow_q rfl rfl rfl (Qt_loadA (m := 3) (cs := (Chan.cells (Chan.mk x341.capacity l728 x341.closed) v727)) rfl rfl rfl rfl ⟨rfl, Rdc.blk Mb0 rfl⟩)<|?_
    obtain ⟨x782, hx783, H⟩ := bnd H
    have hs784 := ((hp0_chans).mono hK354).mono hK781
    have hs785 := ((hp0_waiting).mono hK354).mono hK781
    refine Ow_cons rfl (OpW_call rfl Try.call114 rfl rfl (c_M_19z p0 vp0_chans vp0_waiting p4.channel (Chan.mk x341.capacity l728 x341.closed) v727 x782 hx783 _ _ hs784 hs785 hs729) ?_)
    rintro _ _ _ - ⟨v786, rs787, v788, rfl, rfl, rfl, hs789, hs790⟩
    refine Ow_q rfl rfl rfl (Qt_move rfl) ?_
    refine Ow_cons rfl (OpW_store (vs := (Desk.cells x782 v786 v788)) (all' := (Desk.cells x782 v786 v788)) rfl rfl rfl rfl rfl (.there (.there .here)) rfl rfl rfl ?_)
    refine Ow_q rfl rfl rfl (Qt_assign rfl)<|Ow_nil<|Cw_ret<|?_
    obtain ⟨ey0, ey1⟩ := inj2 H
    subst y0 y1
    refine ⟨(by first | exact .inl rfl | exact .inr rfl), [(.agg (Desk.cells x782 v786 v788).toArray), (sv v499)], ⟨(.agg (Desk.cells x782 v786 v788).toArray), _, rfl, ⟨_, 3, (Desk.cells x782 v786 v788), rfl, rfl, rfl, rfl, ⟨rfl, Rdc.blk Mb2 rfl⟩, rfl⟩, ⟨(sv v499), _, rfl, rfl, rfl⟩⟩, ?_⟩
    refine Shift.settle (T := TyChan) .here hs789 rfl ?_
    intro K791 hK792 hs793
    have hs797 := ((hR500).mono hK781).mono hK792
    refine Shift.settle (T := TyDone) (.there (.there (.there (.there (.there (.there .here)))))) hs797 rfl ?_
    intro K794 hK795 hs796
    refine Pu6<|Re1<|Re1<|Re1<|Re1<|Re1<|Re1<|?_
    have hs798 := (hs793).mono hK795
    have hs799 := ((hs790).mono hK792).mono hK795
    exact Shift.done ⟨v786, v788, v499, rfl, rfl, hs798, hs799, hs796⟩
 ·intro h487
  have H := iff_ (btf h487) H
  refine Cw_skip<|Cw_seq<|Cw_region<|Ow_q rfl rfl rfl (Qt_move rfl)<|Ow_q rfl rfl rfl (Qt_build (cs := (Result.cells (Result.mk 2 x349 0 false 0))) rfl rfl rfl rfl rfl rfl)<|?_
  refine Ow_cons rfl (OpW_alloc (cs := (Result.cells (Result.mk 0 0 0 false 0))) rfl rfl rfl rfl (fun b800 => ?_))
  refine Ow_cons rfl (OpW_store (vs := (Result.cells (Result.mk 2 x349 0 false 0))) (all' := (Result.cells (Result.mk 2 x349 0 false 0))) rfl rfl rfl rfl rfl .here rfl rfl rfl ?_)
  refine Ow_nil ?_
  refine Cw_join (fun env' K' G' => ∃ (i818 : Int) (t819 : Bool) (v820 : SV) (l821 : List Int), [(1, (.int .i64 p1)), (5, (.pointer (some ((⟨b337, 0, none⟩ : Addr).add 0)))), (9, (.pointer (some ((⟨b339, 0, none⟩ : Addr).add 0)))), (10, (.pointer (some ((⟨b340, 0, none⟩ : Addr).add 0)))), (12, (.pointer (some ((⟨b348, 0, none⟩ : Addr).add 0)))), (14, (.int .i64 x351)), (17, (.pointer (some ((⟨b800, 0, none⟩ : Addr).add 0))))] = env' ∧ K353 = K' ∧ (.blk b800 25 (Result.cells (Result.mk 2 x349 i818 t819 0))) :: (.blk b348 83 (Chan.cells (Chan.mk x341.capacity l821 x341.closed) v820)) :: (.blk b340 102 (Desk.cells (Desk.mk [] [] 0) nilS nilS)) :: (.blk b339 73 (Case.cells p4)) :: (.blk b337 102 (Desk.cells p0 vp0_chans vp0_waiting)) :: G = G' ∧ M_39z p1 x351 x349 x341 p4 p0 i818 t819 l821 = some (y0, y1) ∧ Slr Ty.u64 K' (sv v820) l821) ?_ ?_
  ·skip
   refine Cw_seq<|Cw_region<|Ow_q rfl rfl rfl (Qt_fieldAddr (m := 1) rfl rfl rfl rfl rfl)<|Ow_q rfl rfl rfl (Qt_load1 (v := (sv v346)) rfl rfl rfl (Rdc.blk Mb1 rfl))<|?_
   have hs823 := (hs347).mono hK354
   refine Ow_q rfl rfl rfl (Q_len (T := Ty.u64) hs823 rfl rfl)<|Ow_q rfl rfl rfl (Qt_cmp rfl rfl rfl)<|Ow_nil<|?_
   refine Cw_cond rfl ?_ ?_
   ·intro h824
    have h824 := dcd_t (h824)
    have H := ift h824 H
    refine Cw_seq<|Cw_region<|Ow_q rfl rfl rfl (Qt_fieldAddr (m := 1) rfl rfl rfl rfl rfl)<|Ow_q rfl rfl rfl (Qt_load1 (v := (sv v346)) rfl rfl rfl (Rdc.blk Mb1 rfl))<|?_
    obtain ⟨x825, hx826, H⟩ := bnd H
    obtain ⟨r827, hr828, hk829⟩ := Slr.at hs823 hx826
    obtain rfl := hr828
    refine Ow_q rfl rfl rfl (Q_ix (T := Ty.u64) hs823 hx826 rfl rfl rfl rfl rfl)<|Ow_q rfl rfl rfl (Qt_load1 (v := (.int .u64 x825)) rfl rfl rfl (Rdc.k hk829 rfl))<|Ow_q rfl rfl rfl (Qt_fieldAddr (m := 2) rfl rfl rfl rfl rfl)<|?_
    refine Ow_cons rfl (OpW_store (vs := [(.int .u64 x825)]) (all' := (Result.cells (Result.mk 2 x349 x825 false 0))) rfl rfl rfl rfl rfl .here rfl rfl rfl ?_)
    refine Ow_q rfl rfl rfl (Qt_fieldAddr (m := 3) rfl rfl rfl rfl rfl) ?_
    refine Ow_cons rfl (OpW_store (vs := [(.bool true)]) (all' := (Result.cells (Result.mk 2 x349 x825 true 0))) rfl rfl rfl rfl rfl .here rfl rfl rfl ?_)
    refine Ow_nil<|Cw_region<|Ow_q rfl rfl rfl (Qt_fieldAddr (m := 1) rfl rfl rfl rfl rfl)<|Ow_q rfl rfl rfl (Qt_load1 (v := (sv v346)) rfl rfl rfl (Rdc.blk Mb1 rfl))<|?_
    obtain ⟨x830, hx831, H⟩ := bnd H
    have hs832 := Slr.cutL hs823 hx831
    refine Ow_q rfl rfl rfl (Q_cutL (T := Ty.u64) hs823 hx831 rfl rfl rfl rfl rfl)<|Ow_q rfl rfl rfl (Qt_fieldAddr (m := 1) rfl rfl rfl rfl rfl)<|?_
    refine Ow_cons rfl (OpW_store (vs := [(sv (cutS v346 1 ((1 : Int).toNat) x341.buffer.length))]) (all' := (Chan.cells (Chan.mk x341.capacity x830 x341.closed) (cutS v346 1 ((1 : Int).toNat) x341.buffer.length))) rfl rfl rfl rfl rfl (.there .here) rfl rfl rfl ?_)
    refine Ow_nil<|Pu5<|Pu4<|Pu4<|Pu4<|Pu4<|Re5<|Shift.done<|?_
    exact ⟨_, by exact ⟨rfl, rfl, rfl, rfl, rfl, rfl, rfl, trivial⟩, x825, true, (cutS v346 1 ((1 : Int).toNat) x341.buffer.length), x830, rfl, rfl, rfl, H, hs832⟩
   ·intro h824
    have h824 := dcd_f (h824)
    have H := iff_ h824 H
    refine Cw_seq<|Cw_region<|Ow_q rfl rfl rfl (Qt_move rfl)<|Ow_q rfl rfl rfl (Qt_cmp rfl rfl rfl)<|Ow_nil<|?_
    refine Cw_cond rfl ?_ ?_
    ·intro h833
     have h833 := dcd_t (h833)
     have H := ift h833 H
     refine Cw_seq<|Cw_region_any [.blk b800 25 (Result.cells (Result.mk 2 x349 0 false 0)), .blk b348 83 (Chan.cells x341 v346), .blk b339 73 (Case.cells p4), .blk b338 38 (Op.cells p2 vp2_cases vp2_draws), .blk b337 102 (Desk.cells p0 vp0_chans vp0_waiting)] rfl (Inc.cons Mb0 (Inc.cons Mb1 (Inc.cons Mb3 (Inc.cons Mb4 (Inc.cons Mb5 Inc.nil)))))<|Awq 0 rfl (by kernel_rfl) rfl rfl rfl (Qt_loadA (m := 3) (cs := (Desk.cells p0 vp0_chans vp0_waiting)) rfl rfl rfl rfl ⟨rfl, Rdc.blk Mb4 rfl⟩)<|Awq 1 rfl (by kernel_rfl) rfl rfl rfl (Qt_move rfl)<|Awq 2 rfl (by kernel_rfl) rfl rfl rfl (Qt_loadA (m := 5) (cs := (Result.cells (Result.mk 2 x349 0 false 0))) rfl rfl rfl rfl ⟨rfl, Rdc.blk Mb0 rfl⟩)<|Awq 3 rfl (by kernel_rfl) rfl rfl rfl (Qt_build (cs := (Done.cells (Done.mk p1 (Result.mk 2 x349 0 false 0)))) rfl rfl rfl rfl rfl rfl)<|?_
     refine Aw_two 4 5 (by kernel_rfl) ?_ ?_
     ·skip
      refine id (Ax_mk rfl rfl ?_)
      have hR843 : RowR TyDone K353 [(Done.cells (Done.mk p1 (Result.mk 2 x349 0 false 0)))] [(Done.mk p1 (Result.mk 2 x349 0 false 0))] := RowR.cons rfl (RowR.nil)
      refine O_lit (T := TyDone) (rows := [(Done.cells (Done.mk p1 (Result.mk 2 x349 0 false 0)))]) (l := [(Done.mk p1 (Result.mk 2 x349 0 false 0))]) rfl rfl rfl hR843 rfl rfl rfl rfl rfl rfl rfl rfl (fun v842 => ⟨(Inc.cons Mb1 (Inc.cons Mb2 (Inc.cons Mb4 (Inc.cons Mb5 (Inc.cons Mb6 Inc.nil))))), ?_⟩)
      refine Aw_one 5 (by kernel_rfl) (Ax_mk rfl rfl ?_)
      refine OpW_store (vs := (Desk.cells p0 vp0_chans vp0_waiting)) (all' := (Desk.cells p0 vp0_chans vp0_waiting)) rfl rfl rfl rfl rfl (.there (.there (.there .here))) rfl rfl rfl ⟨(Inc.cons Mb1 (Inc.cons Mb2 (Inc.cons Mb4 (Inc.cons Mb5 (Inc.cons Mb6 Inc.nil))))), ?_⟩
      refine Awq 6 rfl (by kernel_rfl) rfl rfl rfl (Qt_assign rfl)<|Aw_done (by kernel_rfl)<|Cw_ret<|?_
      obtain ⟨ey0, ey1⟩ := inj2 H
      subst y0 y1
      refine ⟨(by first | exact .inl rfl | exact .inr rfl), [(.agg (Desk.cells p0 vp0_chans vp0_waiting).toArray), (sv v842)], ⟨(.agg (Desk.cells p0 vp0_chans vp0_waiting).toArray), _, rfl, ⟨_, 3, (Desk.cells p0 vp0_chans vp0_waiting), rfl, rfl, rfl, rfl, ⟨rfl, Rdc.blk Mb3 rfl⟩, rfl⟩, ⟨(sv v842), _, rfl, rfl, rfl⟩⟩, ?_⟩
      refine Shift.settle (T := TyDone) .here hR843 rfl ?_
      intro K844 hK845 hs846
      refine Re1<|Re1<|Re1<|Re1<|Re1<|Re1<|?_
      have hs847 := ((hp0_chans).mono hK354).mono hK845
      have hs848 := ((hp0_waiting).mono hK354).mono hK845
      exact Shift.done ⟨vp0_chans, vp0_waiting, v842, rfl, rfl, hs847, hs848, hs846⟩
     ·skip
      refine id (Ax_mk rfl rfl ?_)
      refine OpW_store (vs := (Desk.cells p0 vp0_chans vp0_waiting)) (all' := (Desk.cells p0 vp0_chans vp0_waiting)) rfl rfl rfl rfl rfl (.there (.there .here)) rfl rfl rfl ⟨(Inc.cons Mb0 (Inc.cons Mb1 (Inc.cons Mb3 (Inc.cons Mb4 (Inc.cons Mb5 Inc.nil))))), ?_⟩
      refine Aw_one 4 (by kernel_rfl) (Ax_mk rfl rfl ?_)
      have hR850 : RowR TyDone K353 [(Done.cells (Done.mk p1 (Result.mk 2 x349 0 false 0)))] [(Done.mk p1 (Result.mk 2 x349 0 false 0))] := RowR.cons rfl (RowR.nil)
      refine O_lit (T := TyDone) (rows := [(Done.cells (Done.mk p1 (Result.mk 2 x349 0 false 0)))]) (l := [(Done.mk p1 (Result.mk 2 x349 0 false 0))]) rfl rfl rfl hR850 rfl rfl rfl rfl rfl rfl rfl rfl (fun v849 => ⟨(Inc.cons Mb1 (Inc.cons Mb2 (Inc.cons Mb4 (Inc.cons Mb5 (Inc.cons Mb6 Inc.nil))))), ?_⟩)
      refine Awq 6 rfl (by kernel_rfl) rfl rfl rfl (Qt_assign rfl)<|Aw_done (by kernel_rfl)<|Cw_ret<|?_
      obtain ⟨ey0, ey1⟩ := inj2 H
      subst y0 y1
      refine ⟨(by first | exact .inl rfl | exact .inr rfl), [(.agg (Desk.cells p0 vp0_chans vp0_waiting).toArray), (sv v849)], ⟨(.agg (Desk.cells p0 vp0_chans vp0_waiting).toArray), _, rfl, ⟨_, 3, (Desk.cells p0 vp0_chans vp0_waiting), rfl, rfl, rfl, rfl, ⟨rfl, Rdc.blk Mb3 rfl⟩, rfl⟩, ⟨(sv v849), _, rfl, rfl, rfl⟩⟩, ?_⟩
      refine Shift.settle (T := TyDone) .here hR850 rfl ?_
      intro K851 hK852 hs853
      refine Re1<|Re1<|Re1<|Re1<|Re1<|Re1<|?_
      have hs854 := ((hp0_chans).mono hK354).mono hK852
      have hs855 := ((hp0_waiting).mono hK354).mono hK852
      exact Shift.done ⟨vp0_chans, vp0_waiting, v849, rfl, rfl, hs854, hs855, hs853⟩
    ·intro h833
     have h833 := dcd_f (h833)
     have H := iff_ h833 H
     refine Cw_skip<|Pu5<|Pu4<|Pu4<|Pu4<|Pu4<|Re5<|Shift.done<|?_
     exact ⟨_, by exact ⟨rfl, rfl, rfl, rfl, rfl, rfl, rfl, trivial⟩, 0, false, v346, x341.buffer, rfl, rfl, rfl, H, hs823⟩
  rintro _ _ _ - ⟨i818, t819, v820, l821, rfl, rfl, rfl, H, hs822⟩
  unfold M_39z at H
  refine Cw_seq<|Cw_seq<|Cw_region<|Ow_q rfl rfl rfl (Qt_move rfl)<|Ow_q rfl rfl rfl (Qt_cmp rfl rfl rfl)<|Ow_nil<|?_
  refine Cw_cond rfl ?_ ?_
  ·intro h899
   have h899 := dcd_t (h899)
   have H := ift h899 H
   refine Cw_join (fun env' K' G' => ∃ (v931 : SV) (rs933 : List (List Value)) (v934 : SV) (l935 : List Chan) (rs937 : List (List Value)) (v938 : SV) (l939 : List Waiter) (i941 : Int), [(10, (.pointer (some ((⟨b340, 0, none⟩ : Addr).add 0)))), (11, (sv v931))] = env' ∧ K353 = K' ∧ (.blk b340 102 (Desk.cells (Desk.mk l935 l939 i941) v934 v938)) :: (.row (sv v931) 108 6 rs933.flatten) :: (.row (sv v934) 83 3 rs937.flatten) :: G = G' ∧ M_193z p1 x349 i818 t819 l935 l939 i941 = some (y0, y1) ∧ RowR TyDone K' rs933 [(Done.mk p1 (Result.mk 2 x349 i818 t819 0))] ∧ RowR TyChan K' rs937 l935 ∧ Slr TyWaiter K' (sv v938) l939) ?_ ?_
   ·skip
    obtain ⟨x942, hx943, H⟩ := bnd H
    refine Cw_region_any [.blk b800 25 (Result.cells (Result.mk 2 x349 i818 t819 0)), .blk b348 83 (Chan.cells (Chan.mk x341.capacity l821 x341.closed) v820), .blk b339 73 (Case.cells p4), .blk b337 102 (Desk.cells p0 vp0_chans vp0_waiting)] rfl (Inc.cons Mb0 (Inc.cons Mb1 (Inc.cons Mb3 (Inc.cons Mb4 Inc.nil))))<|Awq 0 rfl (by kernel_rfl) rfl rfl rfl (Qt_loadA (m := 3) (cs := (Desk.cells p0 vp0_chans vp0_waiting)) rfl rfl rfl rfl ⟨rfl, Rdc.blk Mb3 rfl⟩)<|Awq 1 rfl (by kernel_rfl) rfl rfl rfl (Qt_fieldAddr (m := 1) rfl rfl rfl rfl rfl)<|Awq 2 rfl (by kernel_rfl) rfl rfl rfl (Qt_load1 (v := (.int .i64 p4.channel)) rfl rfl rfl (Rdc.blk Mb2 rfl))<|Awq 3 rfl (by kernel_rfl) rfl rfl rfl (Qt_loadA (m := 3) (cs := (Chan.cells (Chan.mk x341.capacity l821 x341.closed) v820)) rfl rfl rfl rfl ⟨rfl, Rdc.blk Mb1 rfl⟩)<|Awq 5 rfl (by kernel_rfl) rfl rfl rfl (Qt_move rfl)<|Awq 6 rfl (by kernel_rfl) rfl rfl rfl (Qt_loadA (m := 5) (cs := (Result.cells (Result.mk 2 x349 i818 t819 0))) rfl rfl rfl rfl ⟨rfl, Rdc.blk Mb0 rfl⟩)<|Awq 7 rfl (by kernel_rfl) rfl rfl rfl (Qt_build (cs := (Done.cells (Done.mk p1 (Result.mk 2 x349 i818 t819 0)))) rfl rfl rfl rfl rfl rfl)<|?_
    refine Aw_two 4 8 (by kernel_rfl) ?_ ?_
    ·skip
     refine id (Ax_mk rfl rfl ?_)
     have hs953 := (hp0_chans).mono hK354
     have hs954 := (hp0_waiting).mono hK354
     refine OpW_call rfl Try.call114 rfl rfl (c_M_19z p0 vp0_chans vp0_waiting p4.channel (Chan.mk x341.capacity l821 x341.closed) v820 x942 hx943 _ _ hs953 hs954 hs822) ?_
     rintro _ _ _ - ⟨v955, rs956, v957, rfl, rfl, rfl, hs958, hs959⟩
     refine ⟨(Inc.cons Mb1 (Inc.cons Mb2 (Inc.cons Mb4 (Inc.cons Mb5 Inc.nil)))), ?_⟩
     refine Aw_two 8 9 (by kernel_rfl) ?_ ?_
     ·skip
      refine id (Ax_mk rfl rfl ?_)
      have hR961 : RowR TyDone K353 [(Done.cells (Done.mk p1 (Result.mk 2 x349 i818 t819 0)))] [(Done.mk p1 (Result.mk 2 x349 i818 t819 0))] := RowR.cons rfl (RowR.nil)
      refine O_lit (T := TyDone) (rows := [(Done.cells (Done.mk p1 (Result.mk 2 x349 i818 t819 0)))]) (l := [(Done.mk p1 (Result.mk 2 x349 i818 t819 0))]) rfl rfl rfl hR961 rfl rfl rfl rfl rfl rfl rfl rfl (fun v960 => ⟨(Inc.cons Mb2 (Inc.cons Mb3 (Inc.cons Mb5 (Inc.cons Mb6 Inc.nil)))), ?_⟩)
      refine Aw_one 9 (by kernel_rfl) (Ax_mk rfl rfl ?_)
      refine OpW_store (vs := (Desk.cells x942 v955 v957)) (all' := (Desk.cells x942 v955 v957)) rfl rfl rfl rfl rfl (.there (.there (.there (.there .here)))) rfl rfl rfl ⟨(Inc.cons Mb2 (Inc.cons Mb3 (Inc.cons Mb5 (Inc.cons Mb6 Inc.nil)))), ?_⟩
      refine Awq 10 rfl (by kernel_rfl) rfl rfl rfl (Qt_assign rfl)<|Aw_done (by kernel_rfl)<|Pu1<|Pu1<|Pu4<|Re3<|Re3<|Re3<|Re3<|Shift.done<|?_
      exact ⟨_, by exact ⟨rfl, rfl, trivial⟩, v960, [(Done.cells (Done.mk p1 (Result.mk 2 x349 i818 t819 0)))], v955, x942.chans, rs956, v957, x942.waiting, x942.tick, rfl, rfl, rfl, H, hR961, hs958, hs959⟩
     ·skip
      refine id (Ax_mk rfl rfl ?_)
      refine OpW_store (vs := (Desk.cells x942 v955 v957)) (all' := (Desk.cells x942 v955 v957)) rfl rfl rfl rfl rfl (.there (.there (.there .here))) rfl rfl rfl ⟨(Inc.cons Mb1 (Inc.cons Mb2 (Inc.cons Mb4 (Inc.cons Mb5 Inc.nil)))), ?_⟩
      refine Aw_one 8 (by kernel_rfl) (Ax_mk rfl rfl ?_)
      have hR963 : RowR TyDone K353 [(Done.cells (Done.mk p1 (Result.mk 2 x349 i818 t819 0)))] [(Done.mk p1 (Result.mk 2 x349 i818 t819 0))] := RowR.cons rfl (RowR.nil)
      refine O_lit (T := TyDone) (rows := [(Done.cells (Done.mk p1 (Result.mk 2 x349 i818 t819 0)))]) (l := [(Done.mk p1 (Result.mk 2 x349 i818 t819 0))]) rfl rfl rfl hR963 rfl rfl rfl rfl rfl rfl rfl rfl (fun v962 => ⟨(Inc.cons Mb2 (Inc.cons Mb3 (Inc.cons Mb5 (Inc.cons Mb6 Inc.nil)))), ?_⟩)
      refine Awq 10 rfl (by kernel_rfl) rfl rfl rfl (Qt_assign rfl)<|Aw_done (by kernel_rfl)<|Pu1<|Pu1<|Pu4<|Re3<|Re3<|Re3<|Re3<|Shift.done<|?_
      exact ⟨_, by exact ⟨rfl, rfl, trivial⟩, v962, [(Done.cells (Done.mk p1 (Result.mk 2 x349 i818 t819 0)))], v955, x942.chans, rs956, v957, x942.waiting, x942.tick, rfl, rfl, rfl, H, hR963, hs958, hs959⟩
    ·skip
     refine id (Ax_mk rfl rfl ?_)
     have hR965 : RowR TyDone K353 [(Done.cells (Done.mk p1 (Result.mk 2 x349 i818 t819 0)))] [(Done.mk p1 (Result.mk 2 x349 i818 t819 0))] := RowR.cons rfl (RowR.nil)
     refine O_lit (T := TyDone) (rows := [(Done.cells (Done.mk p1 (Result.mk 2 x349 i818 t819 0)))]) (l := [(Done.mk p1 (Result.mk 2 x349 i818 t819 0))]) rfl rfl rfl hR965 rfl rfl rfl rfl rfl rfl rfl rfl (fun v964 => ⟨(Inc.cons Mb1 (Inc.cons Mb2 (Inc.cons Mb4 (Inc.cons Mb5 Inc.nil)))), ?_⟩)
     refine Aw_one 4 (by kernel_rfl) (Ax_mk rfl rfl ?_)
     have hs966 := (hp0_chans).mono hK354
     have hs967 := (hp0_waiting).mono hK354
     refine OpW_call rfl Try.call114 rfl rfl (c_M_19z p0 vp0_chans vp0_waiting p4.channel (Chan.mk x341.capacity l821 x341.closed) v820 x942 hx943 _ _ hs966 hs967 hs822) ?_
     rintro _ _ _ - ⟨v968, rs969, v970, rfl, rfl, rfl, hs971, hs972⟩
     refine ⟨(Inc.cons Mb2 (Inc.cons Mb3 (Inc.cons Mb5 (Inc.cons Mb6 Inc.nil)))), ?_⟩
     refine Aw_one 9 (by kernel_rfl) (Ax_mk rfl rfl ?_)
     refine OpW_store (vs := (Desk.cells x942 v968 v970)) (all' := (Desk.cells x942 v968 v970)) rfl rfl rfl rfl rfl (.there (.there (.there (.there .here)))) rfl rfl rfl ⟨(Inc.cons Mb2 (Inc.cons Mb3 (Inc.cons Mb5 (Inc.cons Mb6 Inc.nil)))), ?_⟩
     refine Awq 10 rfl (by kernel_rfl) rfl rfl rfl (Qt_assign rfl)<|Aw_done (by kernel_rfl)<|Pu1<|Pu4<|Re3<|Re3<|Re3<|Re3<|Shift.done<|?_
     exact ⟨_, by exact ⟨rfl, rfl, trivial⟩, v964, [(Done.cells (Done.mk p1 (Result.mk 2 x349 i818 t819 0)))], v968, x942.chans, rs969, v970, x942.waiting, x942.tick, rfl, rfl, rfl, H, hR965, hs971, hs972⟩
   rintro _ _ _ - ⟨v931, rs933, v934, l935, rs937, v938, l939, i941, rfl, rfl, rfl, H, hR932, hR936, hs940⟩
   unfold M_193z at H
   refine Cw_ret ?_
   obtain ⟨ey0, ey1⟩ := inj2 H
   subst y0 y1
   refine ⟨(by first | exact .inl rfl | exact .inr rfl), [(.agg (Desk.cells (Desk.mk l935 l939 i941) v934 v938).toArray), (sv v931)], ⟨(.agg (Desk.cells (Desk.mk l935 l939 i941) v934 v938).toArray), _, rfl, ⟨_, 3, (Desk.cells (Desk.mk l935 l939 i941) v934 v938), rfl, rfl, rfl, rfl, ⟨rfl, Rdc.blk Mb0 rfl⟩, rfl⟩, ⟨(sv v931), _, rfl, rfl, rfl⟩⟩, ?_⟩
   refine Shift.settle (T := TyChan) (.there (.there .here)) hR936 rfl ?_
   intro K973 hK974 hs975
   have hs979 := (hR932).mono hK974
   refine Shift.settle (T := TyDone) (.there .here) hs979 rfl ?_
   intro K976 hK977 hs978
   refine Pu1<|Re1<|Re1<|?_
   have hs980 := (hs975).mono hK977
   have hs981 := ((hs940).mono hK974).mono hK977
   exact Shift.done ⟨v934, v938, v931, rfl, rfl, hs980, hs981, hs978⟩
  ·intro h899
   have h899 := dcd_f (h899)
   have H := iff_ h899 H
   refine Cw_skip<|Cw_seq<|Cw_region<|Ow_q rfl rfl rfl (Qt_fieldAddr (m := 1) rfl rfl rfl rfl rfl)<|Ow_q rfl rfl rfl (Qt_load1 (v := (sv vp0_waiting)) rfl rfl rfl (Rdc.blk Mb4 rfl))<|Ow_q rfl rfl rfl (Qt_move rfl)<|?_
   obtain ⟨x982, hx983, H⟩ := bnd H
   have hs984 := (hp0_waiting).mono hK354
   obtain ⟨r985, hr986, hk987⟩ := Slr.at hs984 hx983
   obtain ⟨v988, v989, rfl, hs990, hs991⟩ := hr986
   refine Ow_q rfl rfl rfl (Q_ix (T := TyWaiter) hs984 hx983 rfl rfl rfl rfl rfl)<|Ow_q rfl rfl rfl (Qt_loadA (m := 8) (cs := (Waiter.cells x982 v988 v989)) rfl rfl rfl rfl ⟨rfl, Rdc.k hk987 rfl⟩)<|?_
   refine Ow_cons rfl (OpW_alloc (cs := (Waiter.cells (Waiter.mk 0 (Op.mk 0 0 0 0 0 [] [])) nilS nilS)) rfl rfl rfl rfl (fun b992 => ?_))
   refine Ow_cons rfl (OpW_store (vs := (Waiter.cells x982 v988 v989)) (all' := (Waiter.cells x982 v988 v989)) rfl rfl rfl rfl rfl .here rfl rfl rfl ?_)
   refine Ow_nil<|Cw_seq<|Cw_region<|Ow_q rfl rfl rfl (Qt_fieldAddr (m := 1) rfl rfl rfl rfl rfl)<|Ow_q rfl rfl rfl (Qt_loadA (m := 7) (cs := (Op.cells x982.op v988 v989)) rfl rfl rfl rfl ⟨rfl, Rdc.blk Mb0 rfl⟩)<|Ow_q rfl rfl rfl (Qt_fieldAddr (m := 1) rfl rfl rfl rfl rfl)<|Ow_q rfl rfl rfl (Qt_load1 (v := (.int .i64 p4.channel)) rfl rfl rfl (Rdc.blk Mb4 rfl))<|?_
   obtain ⟨x993, hx994, H⟩ := bnd H
   refine Ow_cons rfl (OpW_call rfl Try.call115 rfl rfl (c_M_20z x982.op v988 v989 p4.channel true x993 hx994 _ _ hs990 hs991) ?_)
   rintro _ K995 _ hK996 ⟨rfl, rfl⟩
   refine Ow_q rfl rfl rfl (Qt_assign rfl)<|Ow_nil<|Cw_seq<|Cw_region<|Ow_q rfl rfl rfl (Qt_fieldAddr (m := 1) rfl rfl rfl rfl rfl)<|Ow_q rfl rfl rfl (Qt_loadA (m := 7) (cs := (Op.cells x982.op v988 v989)) rfl rfl rfl rfl ⟨rfl, Rdc.blk Mb0 rfl⟩)<|?_
   obtain ⟨x997, hx998, H⟩ := bnd H
   have hs999 := (hs990).mono hK996
   have hs1000 := (hs991).mono hK996
   refine Ow_cons rfl (OpW_call rfl Try.call63 rfl rfl (c_M_7z x982.op v988 v989 x997 hx998 _ _ hs999 hs1000) ?_)
   rintro _ K1002 _ hK1003 ⟨v1001, rfl, rfl, hs1004⟩
   refine Ow_q rfl rfl rfl (Qt_move rfl) ?_
   obtain ⟨x1005, hx1006, H⟩ := bnd H
   obtain ⟨r1007, hr1008, hk1009⟩ := Slr.at hs1004 hx1006
   obtain rfl := hr1008
   refine Ow_q rfl rfl rfl (Q_ix (T := TyCase) hs1004 hx1006 rfl rfl rfl rfl rfl)<|Ow_q rfl rfl rfl (Qt_fieldAddr (m := 2) rfl rfl rfl rfl rfl)<|Ow_q rfl rfl rfl (Qt_load1 (v := (.int .u64 x1005.value)) rfl rfl rfl (Rdc.k hk1009 rfl))<|Ow_q rfl rfl rfl (Qt_assign rfl)<|Ow_nil<|?_
   refine Cw_join (fun env' K' G' => ∃ (i1026 : Int) (t1027 : Bool) (v1028 : SV) (l1029 : List Int), [(1, (.int .i64 p1)), (5, (.pointer (some ((⟨b337, 0, none⟩ : Addr).add 0)))), (9, (.pointer (some ((⟨b339, 0, none⟩ : Addr).add 0)))), (10, (.pointer (some ((⟨b340, 0, none⟩ : Addr).add 0)))), (12, (.pointer (some ((⟨b348, 0, none⟩ : Addr).add 0)))), (14, (.int .i64 x351)), (17, (.pointer (some ((⟨b800, 0, none⟩ : Addr).add 0)))), (18, (.pointer (some ((⟨b992, 0, none⟩ : Addr).add 0)))), (19, (.int .i64 x993))] = env' ∧ (.blk b992 77 (Waiter.cells x982 v988 v989)) :: (.blk b800 25 (Result.cells (Result.mk 2 x349 i1026 t1027 0))) :: (.blk b348 83 (Chan.cells (Chan.mk x341.capacity l1029 x341.closed) v1028)) :: (.blk b340 102 (Desk.cells (Desk.mk [] [] 0) nilS nilS)) :: (.blk b339 73 (Case.cells p4)) :: (.blk b337 102 (Desk.cells p0 vp0_chans vp0_waiting)) :: G = G' ∧ M_69z p1 x351 x993 x982 x349 x341 p4 p0 i1026 t1027 l1029 = some (y0, y1) ∧ Slr Ty.u64 K' (sv v1028) l1029) ?_ ?_
   ·skip
    refine Cw_seq<|Cw_region<|Ow_q rfl rfl rfl (Qt_fieldAddr (m := 3) rfl rfl rfl rfl rfl)<|Ow_q rfl rfl rfl (Qt_load1 (v := (.bool t819)) rfl rfl rfl (Rdc.blk Mb1 rfl))<|Ow_nil<|?_
    refine Cw_cond rfl ?_ ?_
    ·intro h1031
     have H := ift h1031 H
     refine Cw_region<|Ow_q rfl rfl rfl (Qt_fieldAddr (m := 1) rfl rfl rfl rfl rfl)<|Ow_q rfl rfl rfl (Qt_load1 (v := (sv v820)) rfl rfl rfl (Rdc.blk Mb2 rfl))<|?_
     refine Ow.shift (Shift.nilTok1 23 1 (Shift.done ?_))
     obtain ⟨x1032, hx1033, H⟩ := bnd H
     have hs1034 := ((hs822).mono hK996).mono hK1003
     refine Ow_cons rfl (O_appTok (T := Ty.u64) (bytes := 8) (q := 0) rfl rfl rfl (Slr.nil Ty.u64 _) Mb0 rfl (SrcT.sl hs1034) hx1033 rfl rfl rfl rfl rfl rfl rfl rfl (fun v1035 K1036 hK1037 hs1038 => ⟨_, .here, ?_⟩))
     refine Ow_q rfl rfl rfl (Qt_move rfl) ?_
     have hR1040 : RowR Ty.u64 K1036 [[(.int .u64 x1005.value)]] [x1005.value] := RowR.cons rfl (RowR.nil)
     refine Ow_cons rfl (O_lit (T := Ty.u64) (rows := [[(.int .u64 x1005.value)]]) (l := [x1005.value]) rfl rfl rfl hR1040 rfl rfl rfl rfl rfl rfl rfl rfl (fun v1039 => ?_))
     obtain ⟨x1041, hx1042, H⟩ := bnd H
     refine Ow_cons rfl (O_appTok (T := Ty.u64) (bytes := 8) (q := 0) rfl rfl rfl hs1038 Mb1 rfl (SrcT.row Mb0 hR1040 rfl) hx1042 rfl rfl rfl rfl rfl rfl rfl rfl (fun v1043 K1044 hK1045 hs1046 => ⟨_, (.there .here), ?_⟩))
     refine Ow.shift (Re0 (Shift.done ?_))
     refine Ow_q rfl rfl rfl (Qt_fieldAddr (m := 1) rfl rfl rfl rfl rfl) ?_
     refine Ow_cons rfl (OpW_store (vs := [(sv v1043)]) (all' := (Chan.cells (Chan.mk x341.capacity x1041 x341.closed) v1043)) rfl rfl rfl rfl rfl (.there (.there (.there .here))) rfl rfl rfl ?_)
     refine Ow_nil<|Pu6<|Pu6<|Pu6<|Pu6<|Pu6<|Pu6<|Re6<|Shift.done<|?_
     exact ⟨_, by exact ⟨rfl, rfl, rfl, rfl, rfl, rfl, rfl, rfl, rfl, trivial⟩, i818, t819, v1043, x1041, rfl, rfl, H, hs1046⟩
    ·intro h1031
     have H := iff_ (btf h1031) H
     refine Cw_region<|Ow_q rfl rfl rfl (Qt_move rfl)<|Ow_q rfl rfl rfl (Qt_fieldAddr (m := 2) rfl rfl rfl rfl rfl)<|?_
     refine Ow_cons rfl (OpW_store (vs := [(.int .u64 x1005.value)]) (all' := (Result.cells (Result.mk 2 x349 x1005.value t819 0))) rfl rfl rfl rfl rfl (.there .here) rfl rfl rfl ?_)
     refine Ow_q rfl rfl rfl (Qt_fieldAddr (m := 3) rfl rfl rfl rfl rfl) ?_
     refine Ow_cons rfl (OpW_store (vs := [(.bool true)]) (all' := (Result.cells (Result.mk 2 x349 x1005.value true 0))) rfl rfl rfl rfl rfl (.there .here) rfl rfl rfl ?_)
     refine Ow_nil<|Pu5<|Pu5<|Pu5<|Pu5<|Pu5<|Pu5<|?_
     have hs1047 := ((hs822).mono hK996).mono hK1003
     exact Shift.done ⟨_, by exact ⟨rfl, rfl, rfl, rfl, rfl, rfl, rfl, rfl, rfl, trivial⟩, x1005.value, true, v820, l821, rfl, rfl, H, hs1047⟩
   rintro _ K1048 _ hK1049 ⟨i1026, t1027, v1028, l1029, rfl, rfl, H, hs1030⟩
   unfold M_69z at H
   refine Cw_seq ?_
   obtain ⟨x1082, hx1083, H⟩ := bnd H
   obtain ⟨x1092, hx1093, H⟩ := bnd H
   refine Cw_region_any [.blk b992 77 (Waiter.cells x982 v988 v989), .blk b800 25 (Result.cells (Result.mk 2 x349 i1026 t1027 0)), .blk b348 83 (Chan.cells (Chan.mk x341.capacity l1029 x341.closed) v1028), .blk b340 102 (Desk.cells (Desk.mk [] [] 0) nilS nilS), .blk b339 73 (Case.cells p4)] rfl (Inc.cons Mb0 (Inc.cons Mb1 (Inc.cons Mb2 (Inc.cons Mb3 (Inc.cons Mb4 Inc.nil)))))<|Awq 1 rfl (by kernel_rfl) rfl rfl rfl (Qt_move rfl)<|Awq 3 rfl (by kernel_rfl) rfl rfl rfl (Qt_fieldAddr (m := 1) rfl rfl rfl rfl rfl)<|Awq 4 rfl (by kernel_rfl) rfl rfl rfl (Qt_load1 (v := (.int .i64 p4.channel)) rfl rfl rfl (Rdc.blk Mb4 rfl))<|Awq 5 rfl (by kernel_rfl) rfl rfl rfl (Qt_loadA (m := 3) (cs := (Chan.cells (Chan.mk x341.capacity l1029 x341.closed) v1028)) rfl rfl rfl rfl ⟨rfl, Rdc.blk Mb2 rfl⟩)<|?_
   refine Aw_one 0 (by kernel_rfl) (Ax_mk rfl rfl (OpW_of_Qt rfl rfl (Qt_loadA (m := 3) (cs := (Desk.cells p0 vp0_chans vp0_waiting)) rfl rfl rfl rfl ⟨rfl, Rdc.blk Mb5 rfl⟩) ⟨(Inc.cons Mb0 (Inc.cons Mb1 (Inc.cons Mb2 (Inc.cons Mb3 (Inc.cons Mb4 Inc.nil))))), ?_⟩))
   refine Aw_one 2 (by kernel_rfl) (Ax_mk rfl rfl ?_)
   have hs1100 := ((((hp0_chans).mono hK354).mono hK996).mono hK1003).mono hK1049
   have hs1101 := (((hs984).mono hK996).mono hK1003).mono hK1049
   refine OpW_call rfl Try.call117 rfl rfl (c_M_8z p0 vp0_chans vp0_waiting x351 x1082 hx1083 _ _ hs1100 hs1101) ?_
   rintro _ K1104 _ hK1105 ⟨v1102, v1103, rfl, rfl, hs1106, hs1107⟩
   refine ⟨(Inc.cons Mb1 (Inc.cons Mb2 (Inc.cons Mb3 (Inc.cons Mb4 (Inc.cons Mb5 Inc.nil))))), ?_⟩
   refine Aw_one 6 (by kernel_rfl) (Ax_mk rfl rfl ?_)
   have hs1108 := (hs1030).mono hK1105
   refine OpW_call rfl Try.call114 rfl rfl (c_M_19z x1082 v1102 v1103 p4.channel (Chan.mk x341.capacity l1029 x341.closed) v1028 x1092 hx1093 _ _ hs1106 hs1107 hs1108) ?_
   rintro _ _ _ - ⟨v1109, rs1110, v1111, rfl, rfl, rfl, hs1112, hs1113⟩
   refine ⟨(Inc.cons Mb2 (Inc.cons Mb3 (Inc.cons Mb4 (Inc.cons Mb5 (Inc.cons Mb6 Inc.nil))))), ?_⟩
   refine Aw_one 7 (by kernel_rfl) (Ax_mk rfl rfl ?_)
   refine OpW_store (vs := (Desk.cells x1092 v1109 v1111)) (all' := (Desk.cells x1092 v1109 v1111)) rfl rfl rfl rfl rfl (.there (.there (.there (.there (.there (.there (.there .here))))))) rfl rfl rfl ⟨(Inc.cons Mb2 (Inc.cons Mb3 (Inc.cons Mb4 (Inc.cons Mb5 (Inc.cons Mb6 Inc.nil))))), ?_⟩
   refine Aw_done (by kernel_rfl)<|Cw_seq<|?_
   obtain ⟨x1153, hx1154, H⟩ := bnd H
   obtain ⟨x1160, hx1161, H⟩ := bnd H
   refine Cw_region_any [.row (sv v1109) 83 3 rs1110.flatten, .tok 77 8 [(sv v1103)], .blk b992 77 (Waiter.cells x982 v988 v989), .blk b800 25 (Result.cells (Result.mk 2 x349 i1026 t1027 0)), .blk b348 83 (Chan.cells (Chan.mk x341.capacity l1029 x341.closed) v1028), .blk b339 73 (Case.cells p4), .blk b337 102 (Desk.cells x1092 v1109 v1111)] rfl (Inc.cons Mb0 (Inc.cons Mb1 (Inc.cons Mb2 (Inc.cons Mb3 (Inc.cons Mb4 (Inc.cons Mb6 (Inc.cons Mb7 Inc.nil)))))))<|Awq 0 rfl (by kernel_rfl) rfl rfl rfl (Qt_loadA (m := 3) (cs := (Desk.cells x1092 v1109 v1111)) rfl rfl rfl rfl ⟨rfl, Rdc.blk Mb6 rfl⟩)<|Awq 1 rfl (by kernel_rfl) rfl rfl rfl (Qt_move rfl)<|Awq 2 rfl (by kernel_rfl) rfl rfl rfl (Qt_loadA (m := 5) (cs := (Result.cells (Result.mk 2 x349 i1026 t1027 0))) rfl rfl rfl rfl ⟨rfl, Rdc.blk Mb3 rfl⟩)<|Awq 3 rfl (by kernel_rfl) rfl rfl rfl (Qt_build (cs := (Done.cells (Done.mk p1 (Result.mk 2 x349 i1026 t1027 0)))) rfl rfl rfl rfl rfl rfl)<|Awq 5 rfl (by kernel_rfl) rfl rfl rfl (Qt_fieldAddr (m := 0) rfl rfl rfl rfl rfl)<|Awq 6 rfl (by kernel_rfl) rfl rfl rfl (Qt_load1 (v := (.int .i64 x982.thread)) rfl rfl rfl (Rdc.blk Mb2 rfl))<|Awq 7 rfl (by kernel_rfl) rfl rfl rfl (Qt_fieldAddr (m := 1) rfl rfl rfl rfl rfl)<|Awq 8 rfl (by kernel_rfl) rfl rfl rfl (Qt_loadA (m := 7) (cs := (Op.cells x982.op v988 v989)) rfl rfl rfl rfl ⟨rfl, Rdc.blk Mb2 rfl⟩)<|Awq 9 rfl (by kernel_rfl) rfl rfl rfl (Qt_move rfl)<|?_
   refine Aw_two 4 10 (by kernel_rfl) ?_ ?_
   ·skip
    refine id (Ax_mk rfl rfl ?_)
    have hR1167 : RowR TyDone K1104 [(Done.cells (Done.mk p1 (Result.mk 2 x349 i1026 t1027 0)))] [(Done.mk p1 (Result.mk 2 x349 i1026 t1027 0))] := RowR.cons rfl (RowR.nil)
    refine O_lit (T := TyDone) (rows := [(Done.cells (Done.mk p1 (Result.mk 2 x349 i1026 t1027 0)))]) (l := [(Done.mk p1 (Result.mk 2 x349 i1026 t1027 0))]) rfl rfl rfl hR1167 rfl rfl rfl rfl rfl rfl rfl rfl (fun v1166 => ⟨(Inc.cons Mb1 (Inc.cons Mb2 (Inc.cons Mb3 (Inc.cons Mb4 (Inc.cons Mb5 (Inc.cons Mb7 (Inc.cons Mb8 Inc.nil))))))), ?_⟩)
    refine Aw_one 10 (by kernel_rfl) (Ax_mk rfl rfl ?_)
    have hs1168 := (((hs999).mono hK1003).mono hK1049).mono hK1105
    have hs1169 := (((hs1000).mono hK1003).mono hK1049).mono hK1105
    refine OpW_call rfl Try.call116 rfl rfl (c_M_21z x982.op v988 v989 x993 x1153 hx1154 _ _ hs1168 hs1169) ?_
    rintro _ _ _ - ⟨rfl, rfl, rfl⟩
    refine ⟨(Inc.cons Mb1 (Inc.cons Mb2 (Inc.cons Mb3 (Inc.cons Mb4 (Inc.cons Mb5 (Inc.cons Mb7 (Inc.cons Mb8 Inc.nil))))))), ?_⟩
    refine Awq 11 rfl (by kernel_rfl) rfl rfl rfl (Qt_build (cs := (Result.cells (Result.mk 1 x1153 0 false 0))) rfl rfl rfl rfl rfl rfl) ?_
    refine Aw_one 12 (by kernel_rfl) (Ax_mk rfl rfl ?_)
    refine OpW.shift (Shift.settle (T := TyDone) .here hR1167 rfl (fun K1170 hK1171 hs1172 => Shift.done ?_))
    refine OpW_call rfl Try.call118 rfl rfl (c_M_36z [(Done.mk p1 (Result.mk 2 x349 i1026 t1027 0))] v1166 x982.thread (Result.mk 1 x1153 0 false 0) x1160 hx1161 _ _ hs1172) ?_
    rintro _ K1174 _ hK1175 ⟨v1173, rfl, rfl, hs1176⟩
    refine ⟨(Inc.cons Mb2 (Inc.cons Mb3 (Inc.cons Mb4 (Inc.cons Mb5 (Inc.cons Mb6 (Inc.cons Mb8 (Inc.cons Mb9 Inc.nil))))))), ?_⟩
    refine Aw_one 13 (by kernel_rfl) (Ax_mk rfl rfl ?_)
    refine OpW_store (vs := (Desk.cells x1092 v1109 v1111)) (all' := (Desk.cells x1092 v1109 v1111)) rfl rfl rfl rfl rfl (.there (.there (.there (.there (.there (.there (.there .here))))))) rfl rfl rfl ⟨(Inc.cons Mb2 (Inc.cons Mb3 (Inc.cons Mb4 (Inc.cons Mb5 (Inc.cons Mb6 (Inc.cons Mb8 (Inc.cons Mb9 Inc.nil))))))), ?_⟩
    refine Awq 14 rfl (by kernel_rfl) rfl rfl rfl (Qt_assign rfl)<|Aw_done (by kernel_rfl)<|Cw_ret<|?_
    obtain ⟨ey0, ey1⟩ := inj2 H
    subst y0 y1
    refine ⟨(by first | exact .inl rfl | exact .inr rfl), [(.agg (Desk.cells x1092 v1109 v1111).toArray), (sv v1173)], ⟨(.agg (Desk.cells x1092 v1109 v1111).toArray), _, rfl, ⟨_, 3, (Desk.cells x1092 v1109 v1111), rfl, rfl, rfl, rfl, ⟨rfl, Rdc.blk Mb7 rfl⟩, rfl⟩, ⟨(sv v1173), _, rfl, rfl, rfl⟩⟩, ?_⟩
    have hs1180 := ((hs1112).mono hK1171).mono hK1175
    refine Shift.settle (T := TyChan) (.there (.there .here)) hs1180 rfl ?_
    intro K1177 hK1178 hs1179
    refine Re1<|Re1<|Re1<|Re1<|Re1<|Re1<|Re1<|Re1<|Re1<|?_
    have hs1181 := (((hs1113).mono hK1171).mono hK1175).mono hK1178
    have hs1182 := (hs1176).mono hK1178
    exact Shift.done ⟨v1109, v1111, v1173, rfl, rfl, hs1179, hs1181, hs1182⟩
   ·skip
    refine id (Ax_mk rfl rfl ?_)
    have hs1183 := (((hs999).mono hK1003).mono hK1049).mono hK1105
    have hs1184 := (((hs1000).mono hK1003).mono hK1049).mono hK1105
    refine OpW_call rfl Try.call116 rfl rfl (c_M_21z x982.op v988 v989 x993 x1153 hx1154 _ _ hs1183 hs1184) ?_
    rintro _ _ _ - ⟨rfl, rfl, rfl⟩
    refine ⟨(Inc.cons Mb0 (Inc.cons Mb1 (Inc.cons Mb2 (Inc.cons Mb3 (Inc.cons Mb4 (Inc.cons Mb6 (Inc.cons Mb7 Inc.nil))))))), ?_⟩
    refine Awq 11 rfl (by kernel_rfl) rfl rfl rfl (Qt_build (cs := (Result.cells (Result.mk 1 x1153 0 false 0))) rfl rfl rfl rfl rfl rfl) ?_
    refine Aw_one 4 (by kernel_rfl) (Ax_mk rfl rfl ?_)
    have hR1186 : RowR TyDone K1104 [(Done.cells (Done.mk p1 (Result.mk 2 x349 i1026 t1027 0)))] [(Done.mk p1 (Result.mk 2 x349 i1026 t1027 0))] := RowR.cons rfl (RowR.nil)
    refine O_lit (T := TyDone) (rows := [(Done.cells (Done.mk p1 (Result.mk 2 x349 i1026 t1027 0)))]) (l := [(Done.mk p1 (Result.mk 2 x349 i1026 t1027 0))]) rfl rfl rfl hR1186 rfl rfl rfl rfl rfl rfl rfl rfl (fun v1185 => ⟨(Inc.cons Mb1 (Inc.cons Mb2 (Inc.cons Mb3 (Inc.cons Mb4 (Inc.cons Mb5 (Inc.cons Mb7 (Inc.cons Mb8 Inc.nil))))))), ?_⟩)
    refine Aw_one 12 (by kernel_rfl) (Ax_mk rfl rfl ?_)
    refine OpW.shift (Shift.settle (T := TyDone) .here hR1186 rfl (fun K1187 hK1188 hs1189 => Shift.done ?_))
    refine OpW_call rfl Try.call118 rfl rfl (c_M_36z [(Done.mk p1 (Result.mk 2 x349 i1026 t1027 0))] v1185 x982.thread (Result.mk 1 x1153 0 false 0) x1160 hx1161 _ _ hs1189) ?_
    rintro _ K1191 _ hK1192 ⟨v1190, rfl, rfl, hs1193⟩
    refine ⟨(Inc.cons Mb2 (Inc.cons Mb3 (Inc.cons Mb4 (Inc.cons Mb5 (Inc.cons Mb6 (Inc.cons Mb8 (Inc.cons Mb9 Inc.nil))))))), ?_⟩
    refine Aw_one 13 (by kernel_rfl) (Ax_mk rfl rfl ?_)
    refine OpW_store (vs := (Desk.cells x1092 v1109 v1111)) (all' := (Desk.cells x1092 v1109 v1111)) rfl rfl rfl rfl rfl (.there (.there (.there (.there (.there (.there (.there .here))))))) rfl rfl rfl ⟨(Inc.cons Mb2 (Inc.cons Mb3 (Inc.cons Mb4 (Inc.cons Mb5 (Inc.cons Mb6 (Inc.cons Mb8 (Inc.cons Mb9 Inc.nil))))))), ?_⟩
    refine Awq 14 rfl (by kernel_rfl) rfl rfl rfl (Qt_assign rfl)<|Aw_done (by kernel_rfl)<|Cw_ret<|?_
    obtain ⟨ey0, ey1⟩ := inj2 H
    subst y0 y1
    refine ⟨(by first | exact .inl rfl | exact .inr rfl), [(.agg (Desk.cells x1092 v1109 v1111).toArray), (sv v1190)], ⟨(.agg (Desk.cells x1092 v1109 v1111).toArray), _, rfl, ⟨_, 3, (Desk.cells x1092 v1109 v1111), rfl, rfl, rfl, rfl, ⟨rfl, Rdc.blk Mb7 rfl⟩, rfl⟩, ⟨(sv v1190), _, rfl, rfl, rfl⟩⟩, ?_⟩
    have hs1197 := ((hs1112).mono hK1188).mono hK1192
    refine Shift.settle (T := TyChan) (.there (.there .here)) hs1197 rfl ?_
    intro K1194 hK1195 hs1196
    refine Re1<|Re1<|Re1<|Re1<|Re1<|Re1<|Re1<|Re1<|Re1<|?_
    have hs1198 := (((hs1113).mono hK1188).mono hK1192).mono hK1195
    have hs1199 := (hs1193).mono hK1195
    exact Shift.done ⟨v1109, v1111, v1190, rfl, rfl, hs1196, hs1198, hs1199⟩



end Go.Hx

namespace Go.Hx
open Go Go.Proofs
set_option linter.unusedSimpArgs false
set_option linter.unusedVariables false
set_option maxRecDepth 10000
set_option maxHeartbeats 1000000 in
theorem c_M_128z (p0 : Desk) (vp0_chans : SV) (vp0_waiting : SV) (p1 : Int) (p2 : Op) (vp2_cases : SV) (vp2_draws : SV) (y0 : Desk) (y1 : List Done) (y2 : Bool) (H : M_128z p0 p1 p2 = some (y0, y1, y2)) (K : Kp) (G : List Ent) (hp0_chans : Slr TyChan K (sv vp0_chans) p0.chans) (hp0_waiting : Slr TyWaiter K (sv vp0_waiting) p0.waiting) (hp2_cases : Slr TyCase K (sv vp2_cases) p2.cases) (hp2_draws : Slr Ty.i64 K (sv vp2_draws) p2.draws) :
  Fc Try.prog 69 #[(.agg (Desk.cells p0 vp0_chans vp0_waiting).toArray), (.int .i64 p1), (.agg (Op.cells p2 vp2_cases vp2_draws).toArray)] K (G) (fun v K' G' => ∃ (wy0_chans : SV) (wy0_waiting : SV) (wy1 : SV), v = (.tuple #[(.agg (Desk.cells y0 wy0_chans wy0_waiting).toArray), (sv wy1), (.bool y2)]) ∧ (.tok 108 6 [(sv wy1)]) :: G = G' ∧ Slr TyChan K' (sv wy0_chans) y0.chans ∧ Slr TyWaiter K' (sv wy0_waiting) y0.waiting ∧ Slr TyDone K' (sv wy1) y1) := by
 refine Fc_body Try.func69 rfl Try.ntmps69 Try.results69 rfl ?_
 unfold M_128z at H
 refine Cw_seq<|Cw_region<|?_
 refine Ow_cons rfl (OpW_box (cs := (Desk.cells p0 vp0_chans vp0_waiting)) rfl rfl rfl (fun b298 => ?_))
 refine Ow_cons rfl (OpW_box (cs := (Op.cells p2 vp2_cases vp2_draws)) rfl rfl rfl (fun b299 => ?_))
 refine Ow_cons rfl (OpW_alloc (cs := (Desk.cells (Desk.mk [] [] 0) nilS nilS)) rfl rfl rfl rfl (fun b300 => ?_))
 refine Ow_q rfl rfl rfl (Qt_assign rfl)<|Ow_q rfl rfl rfl (Qt_assign rfl)<|Ow_nil<|Cw_seq<|Cw_seq<|Cw_region<|Ow_q rfl rfl rfl (Qt_fieldAddr (m := 0) rfl rfl rfl rfl rfl)<|Ow_q rfl rfl rfl (Qt_load1 (v := (.int .i64 p2.kind)) rfl rfl rfl (Rdc.blk Mb1 rfl))<|Ow_nil<|Cw_block<|?_
 refine Cw_seq<|Cw_region<|Ow_q rfl rfl rfl (Qt_cmp rfl rfl rfl)<|Ow_q rfl rfl rfl (Qt_assign rfl)<|Ow_nil<|?_
 refine Cw_cond rfl ?_ ?_
 ·intro h338
  have h338 := dcd_t (h338)
  have H := ift h338 H
  refine Cw_seq<|Cw_region<|Ow_q rfl rfl rfl (Qt_loadA (m := 3) (cs := (Desk.cells p0 vp0_chans vp0_waiting)) rfl rfl rfl rfl ⟨rfl, Rdc.blk Mb2 rfl⟩)<|Ow_q rfl rfl rfl (Qt_move rfl)<|Ow_q rfl rfl rfl (Qt_loadA (m := 7) (cs := (Op.cells p2 vp2_cases vp2_draws)) rfl rfl rfl rfl ⟨rfl, Rdc.blk Mb1 rfl⟩)<|?_
  obtain ⟨x339, x340, hx341, H⟩ := bnd2 H
  refine Ow_cons rfl (OpW_call rfl Try.call101 rfl rfl (c_M_115z p0 vp0_chans vp0_waiting p1 p2 vp2_cases vp2_draws x339 x340 hx341 _ _ hp0_chans hp0_waiting hp2_cases hp2_draws) ?_)
  rintro _ K345 _ hK346 ⟨v342, v343, v344, rfl, rfl, hs347, hs348, hs349⟩
  refine Ow_q rfl rfl rfl (Qt_move rfl)<|Ow_q rfl rfl rfl (Qt_extract rfl rfl)<|Ow_q rfl rfl rfl (Qt_extract rfl rfl)<|?_
  refine Ow_cons rfl (OpW_alloc (cs := (Desk.cells (Desk.mk [] [] 0) nilS nilS)) rfl rfl rfl rfl (fun b350 => ?_))
  refine Ow_cons rfl (OpW_store (vs := (Desk.cells x339 v342 v343)) (all' := (Desk.cells x339 v342 v343)) rfl rfl rfl rfl rfl .here rfl rfl rfl ?_)
  refine Ow_q rfl rfl rfl (Qt_assign rfl)<|Ow_nil<|Cw_seq<|Cw_region<|Ow_q rfl rfl rfl (Qt_loadA (m := 3) (cs := (Desk.cells x339 v342 v343)) rfl rfl rfl rfl ⟨rfl, Rdc.blk Mb0 rfl⟩)<|Ow_q rfl rfl rfl (Qt_move rfl)<|?_
  refine Ow_cons rfl (OpW_store (vs := (Desk.cells x339 v342 v343)) (all' := (Desk.cells x339 v342 v343)) rfl rfl rfl rfl rfl (.there (.there .here)) rfl rfl rfl ?_)
  refine Ow_q rfl rfl rfl (Qt_assign rfl)<|Ow_q rfl rfl rfl (Qt_assign rfl)<|Ow_nil<|Cw_ret<|?_
  obtain ⟨ey0, ey1, ey2⟩ := inj3 H
  subst y0 y1 y2
  refine ⟨(by first | exact .inl rfl | exact .inr rfl), [(.agg (Desk.cells x339 v342 v343).toArray), (sv v344), (.bool false)], ⟨(.agg (Desk.cells x339 v342 v343).toArray), _, rfl, ⟨_, 3, (Desk.cells x339 v342 v343), rfl, rfl, rfl, rfl, ⟨rfl, Rdc.blk Mb2 rfl⟩, rfl⟩, ⟨(sv v344), _, rfl, rfl, ⟨(.bool false), _, rfl, rfl, rfl⟩⟩⟩, ?_⟩
  refine Pu1<|Re1<|Re1<|Re1<|Re1<|Shift.done<|?_
  exact ⟨v342, v343, v344, rfl, rfl, hs347, hs348, hs349⟩
 ·intro h338
  have h338 := dcd_f (h338)
  have H := iff_ h338 H
  refine Cw_join (fun env' K' G' => ∃ (t352 : Bool), [(1, (.int .i64 p1)), (3, (.pointer (some ((⟨b298, 0, none⟩ : Addr).add 0)))), (5, (.pointer (some ((⟨b299, 0, none⟩ : Addr).add 0)))), (6, (.pointer (some ((⟨b300, 0, none⟩ : Addr).add 0)))), (28, (.bool t352))] = env' ∧ K = K' ∧ (.blk b300 102 (Desk.cells (Desk.mk [] [] 0) nilS nilS)) :: (.blk b299 38 (Op.cells p2 vp2_cases vp2_draws)) :: (.blk b298 102 (Desk.cells p0 vp0_chans vp0_waiting)) :: G = G' ∧ M_41z p1 p2 p0 t352 = some (y0, y1, y2)) ?_ ?_
  ·skip
   refine Cw_seq<|Cw_region<|Ow_q rfl rfl rfl (Qt_cmp rfl rfl rfl)<|Ow_q rfl rfl rfl (Qt_assign rfl)<|Ow_nil<|?_
   refine Cw_cond rfl ?_ ?_
   ·intro h353
    have h353 := dcd_t (h353)
    have H := ift h353 H
    refine Cw_skip<|Pu2<|Pu2<|Pu2<|Shift.done<|?_
    exact ⟨_, by exact ⟨rfl, rfl, rfl, rfl, rfl, trivial⟩, (dcd (p2.kind = 5)), rfl, rfl, rfl, H⟩
   ·intro h353
    have h353 := dcd_f (h353)
    have H := iff_ h353 H
    refine Cw_region<|Ow_q rfl rfl rfl (Qt_cmp rfl rfl rfl)<|Ow_q rfl rfl rfl (Qt_assign rfl)<|Ow_nil<|Pu2<|Pu2<|Pu2<|Shift.done<|?_
    exact ⟨_, by exact ⟨rfl, rfl, rfl, rfl, rfl, trivial⟩, (dcd (p2.kind = 6)), rfl, rfl, rfl, H⟩
  rintro _ _ _ - ⟨t352, rfl, rfl, rfl, H⟩
  unfold M_41z at H
  refine Cw_cond rfl ?_ ?_
  ·intro h354
   have H := ift h354 H
   refine Cw_seq<|Cw_region<|Ow_q rfl rfl rfl (Qt_assign rfl)<|Ow_nil<|?_
   refine Cw_join (fun env' K' G' => ∃ (i373 : Int), [(1, (.int .i64 p1)), (3, (.pointer (some ((⟨b298, 0, none⟩ : Addr).add 0)))), (6, (.pointer (some ((⟨b300, 0, none⟩ : Addr).add 0)))), (11, (.int .i64 i373))] = env' ∧ K = K' ∧ (.blk b300 102 (Desk.cells (Desk.mk [] [] 0) nilS nilS)) :: (.blk b298 102 (Desk.cells p0 vp0_chans vp0_waiting)) :: G = G' ∧ M_70z p1 p0 i373 = some (y0, y1, y2)) ?_ ?_
   ·skip
    refine Cw_join (fun env' K' G' => ∃ (t375 : Bool), [(1, (.int .i64 p1)), (3, (.pointer (some ((⟨b298, 0, none⟩ : Addr).add 0)))), (5, (.pointer (some ((⟨b299, 0, none⟩ : Addr).add 0)))), (6, (.pointer (some ((⟨b300, 0, none⟩ : Addr).add 0)))), (11, (.int .i64 0)), (41, (.bool t375))] = env' ∧ K = K' ∧ (.blk b300 102 (Desk.cells (Desk.mk [] [] 0) nilS nilS)) :: (.blk b299 38 (Op.cells p2 vp2_cases vp2_draws)) :: (.blk b298 102 (Desk.cells p0 vp0_chans vp0_waiting)) :: G = G' ∧ M_127z p1 p2 p0 t375 = some (y0, y1, y2)) ?_ ?_
    ·skip
     refine Cw_region<|Ow_q rfl rfl rfl (Qt_fieldAddr (m := 2) rfl rfl rfl rfl rfl)<|Ow_q rfl rfl rfl (Qt_load1 (v := (.int .i64 p2.channel)) rfl rfl rfl (Rdc.blk Mb1 rfl))<|Ow_q rfl rfl rfl (Qt_cmp rfl rfl rfl)<|Ow_q rfl rfl rfl (Qt_move rfl)<|?_
     refine Ow_caseG rfl rfl rfl ?_ ?_
     ·intro h376
      have h376 := dcd_t (h376)
      have H := ift h376 H
      refine Ow_qw rfl rfl rfl rfl rfl rfl (Qt_fieldAddr (m := 2) rfl rfl rfl rfl rfl)<|Ow_qw rfl rfl rfl rfl rfl rfl (Qt_load1 (v := (.int .i64 p2.channel)) rfl rfl rfl (Rdc.blk Mb1 rfl))<|Ow_qw rfl rfl rfl rfl rfl rfl (Qt_fieldAddr (m := 0) rfl rfl rfl rfl rfl)<|Ow_qw rfl rfl rfl rfl rfl rfl (Qt_load1 (v := (sv vp0_chans)) rfl rfl rfl (Rdc.blk Mb2 rfl))<|Ow_qw rfl rfl rfl rfl rfl rfl (Q_len (T := TyChan) hp0_chans rfl rfl)<|Ow_qw rfl rfl rfl rfl rfl rfl (Qt_cmp rfl rfl rfl)<|Ow_q rfl rfl rfl (Qt_pick_t rfl rfl)<|Ow_nil<|Pu2<|Pu2<|?_
      refine Pu2<|Shift.done<|?_
      exact ⟨_, by exact ⟨rfl, rfl, rfl, rfl, rfl, rfl, trivial⟩, (dcd (p2.channel < (p0.chans.length : Int))), rfl, rfl, rfl, H⟩
     ·intro h376
      have h376 := dcd_f (h376)
      have H := iff_ h376 H
      refine Ow_pass rfl rfl rfl rfl rfl rfl rfl<|Ow_pass rfl rfl rfl rfl rfl rfl rfl<|Ow_pass rfl rfl rfl rfl rfl rfl rfl<|Ow_pass rfl rfl rfl rfl rfl rfl rfl<|Ow_pass rfl rfl rfl rfl rfl rfl rfl<|Ow_pass rfl rfl rfl rfl rfl rfl rfl<|Ow_q rfl rfl rfl (Qt_pick_f rfl rfl)<|Ow_nil<|Pu2<|Pu2<|?_
      refine Pu2<|Shift.done<|?_
      exact ⟨_, by exact ⟨rfl, rfl, rfl, rfl, rfl, rfl, trivial⟩, false, rfl, rfl, rfl, H⟩
    rintro _ _ _ - ⟨t375, rfl, rfl, rfl, H⟩
    unfold M_127z at H
    refine Cw_cond rfl ?_ ?_
    ·intro h377
     have H := ift h377 H
     refine Cw_seq<|Cw_region<|Ow_q rfl rfl rfl (Qt_fieldAddr (m := 0) rfl rfl rfl rfl rfl)<|Ow_q rfl rfl rfl (Qt_load1 (v := (sv vp0_chans)) rfl rfl rfl (Rdc.blk Mb2 rfl))<|Ow_q rfl rfl rfl (Qt_fieldAddr (m := 2) rfl rfl rfl rfl rfl)<|Ow_q rfl rfl rfl (Qt_load1 (v := (.int .i64 p2.channel)) rfl rfl rfl (Rdc.blk Mb1 rfl))<|?_
     obtain ⟨x378, hx379, H⟩ := bnd H
     obtain ⟨r380, hr381, hk382⟩ := Slr.at hp0_chans hx379
     obtain ⟨v383, rfl, hs384⟩ := hr381
     refine Ow_q rfl rfl rfl (Q_ix (T := TyChan) hp0_chans hx379 rfl rfl rfl rfl rfl)<|Ow_q rfl rfl rfl (Qt_fieldAddr (m := 1) rfl rfl rfl rfl rfl)<|Ow_q rfl rfl rfl (Qt_load1 (v := (sv v383)) rfl rfl rfl (Rdc.k hk382 rfl))<|Ow_q rfl rfl rfl (Q_len (T := Ty.u64) hs384 rfl rfl)<|Ow_q rfl rfl rfl (Qt_assign rfl)<|Ow_nil<|Cw_seq<|Cw_region<|Ow_q rfl rfl rfl (Qt_fieldAddr (m := 0) rfl rfl rfl rfl rfl)<|Ow_q rfl rfl rfl (Qt_load1 (v := (.int .i64 p2.kind)) rfl rfl rfl (Rdc.blk Mb1 rfl))<|?_
     refine Ow_q rfl rfl rfl (Qt_cmp rfl rfl rfl)<|Ow_nil<|?_
     refine Cw_cond rfl ?_ ?_
     ·intro h385
      have h385 := dcd_t (h385)
      have H := ift h385 H
      refine Cw_region<|Ow_q rfl rfl rfl (Qt_fieldAddr (m := 0) rfl rfl rfl rfl rfl)<|Ow_q rfl rfl rfl (Qt_load1 (v := (sv vp0_chans)) rfl rfl rfl (Rdc.blk Mb2 rfl))<|Ow_q rfl rfl rfl (Qt_fieldAddr (m := 2) rfl rfl rfl rfl rfl)<|Ow_q rfl rfl rfl (Qt_load1 (v := (.int .i64 p2.channel)) rfl rfl rfl (Rdc.blk Mb1 rfl))<|?_
      obtain ⟨x386, hx387, H⟩ := bnd H
      obtain ⟨r388, hr389, hk390⟩ := Slr.at hp0_chans hx387
      obtain ⟨v391, rfl, hs392⟩ := hr389
      refine Ow_q rfl rfl rfl (Q_ix (T := TyChan) hp0_chans hx387 rfl rfl rfl rfl rfl)<|Ow_q rfl rfl rfl (Qt_fieldAddr (m := 0) rfl rfl rfl rfl rfl)<|Ow_q rfl rfl rfl (Qt_load1 (v := (.int .i64 x386.capacity)) rfl rfl rfl (Rdc.k hk390 rfl))<|Ow_q rfl rfl rfl (Qt_assign rfl)<|Ow_nil<|Pu2<|Pu1<|Re2<|Shift.done<|?_
      exact ⟨_, by exact ⟨rfl, rfl, rfl, rfl, trivial⟩, x386.capacity, rfl, rfl, rfl, H⟩
     ·intro h385
      have h385 := dcd_f (h385)
      have H := iff_ h385 H
      refine Cw_skip<|Pu2<|Pu1<|Re2<|Shift.done<|?_
      exact ⟨_, by exact ⟨rfl, rfl, rfl, rfl, trivial⟩, (x378.buffer.length : Int), rfl, rfl, rfl, H⟩
    ·intro h377
     have H := iff_ (btf h377) H
     refine Cw_skip<|Pu2<|Pu1<|Re2<|Shift.done<|?_
     exact ⟨_, by exact ⟨rfl, rfl, rfl, rfl, trivial⟩, 0, rfl, rfl, rfl, H⟩
   rintro _ _ _ - ⟨i373, rfl, rfl, rfl, H⟩
   unfold M_70z at H
   refine Cw_seq<|Cw_region<|Ow_q rfl rfl rfl (Qt_loadA (m := 3) (cs := (Desk.cells p0 vp0_chans vp0_waiting)) rfl rfl rfl rfl ⟨rfl, Rdc.blk Mb1 rfl⟩)<|Ow_q rfl rfl rfl (Qt_move rfl)<|Ow_q rfl rfl rfl (Qt_move rfl)<|Ow_q rfl rfl rfl (Qt_build (cs := (Result.cells (Result.mk 7 (-1) 0 false i373))) rfl rfl rfl rfl rfl rfl)<|Ow_q rfl rfl rfl (Qt_build (cs := (Done.cells (Done.mk p1 (Result.mk 7 (-1) 0 false i373)))) rfl rfl rfl rfl rfl rfl)<|?_
   have hR394 : RowR TyDone K [(Done.cells (Done.mk p1 (Result.mk 7 (-1) 0 false i373)))] [(Done.mk p1 (Result.mk 7 (-1) 0 false i373))] := RowR.cons rfl (RowR.nil)
   refine Ow_cons rfl (O_lit (T := TyDone) (rows := [(Done.cells (Done.mk p1 (Result.mk 7 (-1) 0 false i373)))]) (l := [(Done.mk p1 (Result.mk 7 (-1) 0 false i373))]) rfl rfl rfl hR394 rfl rfl rfl rfl rfl rfl rfl rfl (fun v393 => ?_))
   refine Ow_cons rfl (OpW_store (vs := (Desk.cells p0 vp0_chans vp0_waiting)) (all' := (Desk.cells p0 vp0_chans vp0_waiting)) rfl rfl rfl rfl rfl (.there .here) rfl rfl rfl ?_)
   refine Ow_q rfl rfl rfl (Qt_assign rfl)<|Ow_q rfl rfl rfl (Qt_assign rfl)<|Ow_nil<|Cw_ret<|?_
   obtain ⟨ey0, ey1, ey2⟩ := inj3 H
   subst y0 y1 y2
   refine ⟨(by first | exact .inl rfl | exact .inr rfl), [(.agg (Desk.cells p0 vp0_chans vp0_waiting).toArray), (sv v393), (.bool false)], ⟨(.agg (Desk.cells p0 vp0_chans vp0_waiting).toArray), _, rfl, ⟨_, 3, (Desk.cells p0 vp0_chans vp0_waiting), rfl, rfl, rfl, rfl, ⟨rfl, Rdc.blk Mb1 rfl⟩, rfl⟩, ⟨(sv v393), _, rfl, rfl, ⟨(.bool false), _, rfl, rfl, rfl⟩⟩⟩, ?_⟩
   refine Shift.settle (T := TyDone) .here hR394 rfl ?_
   intro K395 hK396 hs397
   refine Re1<|Re1<|?_
   have hs398 := (hp0_chans).mono hK396
   have hs399 := (hp0_waiting).mono hK396
   exact Shift.done ⟨vp0_chans, vp0_waiting, v393, rfl, rfl, hs398, hs399, hs397⟩
  ·intro h354
   have H := iff_ (btf h354) H
   refine Cw_skip<|Cw_seq<|Cw_region<|Ow_q rfl rfl rfl (Qt_assign rfl)<|Ow_nil<|?_
   refine Cw_join (fun env' K' G' => ∃ (i434 : Int), [(1, (.int .i64 p1)), (3, (.pointer (some ((⟨b298, 0, none⟩ : Addr).add 0)))), (5, (.pointer (some ((⟨b299, 0, none⟩ : Addr).add 0)))), (6, (.pointer (some ((⟨b300, 0, none⟩ : Addr).add 0)))), (12, (.int .i64 i434))] = env' ∧ (.blk b300 102 (Desk.cells (Desk.mk [] [] 0) nilS nilS)) :: (.blk b299 38 (Op.cells p2 vp2_cases vp2_draws)) :: (.blk b298 102 (Desk.cells p0 vp0_chans vp0_waiting)) :: G = G' ∧ M_40z p1 p2 p0 i434 = some (y0, y1, y2)) ?_ ?_
   ·skip
    refine Cw_seq<|Cw_region<|Ow_q rfl rfl rfl (Qt_fieldAddr (m := 0) rfl rfl rfl rfl rfl)<|Ow_q rfl rfl rfl (Qt_load1 (v := (.int .i64 p2.kind)) rfl rfl rfl (Rdc.blk Mb1 rfl))<|Ow_q rfl rfl rfl (Qt_cmp rfl rfl rfl)<|Ow_nil<|?_
    refine Cw_cond rfl ?_ ?_
    ·intro h435
     have h435 := dcd_t (h435)
     have H := ift h435 H
     refine Cw_region<|Ow_q rfl rfl rfl (Qt_loadA (m := 3) (cs := (Desk.cells p0 vp0_chans vp0_waiting)) rfl rfl rfl rfl ⟨rfl, Rdc.blk Mb2 rfl⟩)<|Ow_q rfl rfl rfl (Qt_move rfl)<|Ow_q rfl rfl rfl (Qt_loadA (m := 7) (cs := (Op.cells p2 vp2_cases vp2_draws)) rfl rfl rfl rfl ⟨rfl, Rdc.blk Mb1 rfl⟩)<|?_
     obtain ⟨x436, hx437, H⟩ := bnd H
     refine Ow_cons rfl (OpW_call rfl Try.call102 rfl rfl (c_M_125z p0 vp0_chans vp0_waiting p1 p2 vp2_cases vp2_draws x436 hx437 _ _ hp0_chans hp0_waiting hp2_cases hp2_draws) ?_)
     rintro _ K438 _ hK439 ⟨rfl, rfl⟩
     refine Ow_q rfl rfl rfl (Qt_assign rfl)<|Ow_nil<|Pu2<|Pu2<|Pu2<|Shift.done<|?_
     exact ⟨_, by exact ⟨rfl, rfl, rfl, rfl, rfl, trivial⟩, x436, rfl, rfl, H⟩
    ·intro h435
     have h435 := dcd_f (h435)
     have H := iff_ h435 H
     refine Cw_seq ?_
     obtain ⟨x468, hx469, H⟩ := bnd H
     obtain ⟨x474, hx475, H⟩ := bnd H
     obtain ⟨x479, hx480, H⟩ := bnd H
     refine Cw_region_any [.blk b300 102 (Desk.cells (Desk.mk [] [] 0) nilS nilS), .blk b299 38 (Op.cells p2 vp2_cases vp2_draws), .blk b298 102 (Desk.cells p0 vp0_chans vp0_waiting)] rfl (Inc.cons Mb0 (Inc.cons Mb1 (Inc.cons Mb2 Inc.nil)))<|Awq 0 rfl (by kernel_rfl) rfl rfl rfl (Qt_loadA (m := 3) (cs := (Desk.cells p0 vp0_chans vp0_waiting)) rfl rfl rfl rfl ⟨rfl, Rdc.blk Mb2 rfl⟩)<|Awq 1 rfl (by kernel_rfl) rfl rfl rfl (Qt_move rfl)<|Awq 2 rfl (by kernel_rfl) rfl rfl rfl (Qt_loadA (m := 7) (cs := (Op.cells p2 vp2_cases vp2_draws)) rfl rfl rfl rfl ⟨rfl, Rdc.blk Mb1 rfl⟩)<|?_
     refine Aw_one 3 (by kernel_rfl) (Ax_mk rfl rfl ?_)
     refine OpW_call rfl Try.call63 rfl rfl (c_M_7z p2 vp2_cases vp2_draws x468 hx469 _ _ hp2_cases hp2_draws) ?_
     rintro _ K486 _ hK487 ⟨v485, rfl, rfl, hs488⟩
     refine ⟨(Inc.cons Mb0 (Inc.cons Mb1 (Inc.cons Mb2 Inc.nil))), ?_⟩
     obtain ⟨r489, hr490, hk491⟩ := Slr.at hs488 hx475
     obtain rfl := hr490
     refine Aw_one 4 (by kernel_rfl) (Ax_mk rfl rfl (OpW_of_Qt rfl rfl (Q_ix (T := TyCase) hs488 hx475 rfl rfl rfl rfl rfl) ⟨(Inc.cons Mb0 (Inc.cons Mb1 (Inc.cons Mb2 Inc.nil))), ?_⟩))
     refine Aw_one 5 (by kernel_rfl) (Ax_mk rfl rfl (OpW_of_Qt rfl rfl (Qt_loadA (m := 3) (cs := (Case.cells x474)) rfl rfl rfl rfl ⟨rfl, Rdc.k hk491 rfl⟩) ⟨(Inc.cons Mb0 (Inc.cons Mb1 (Inc.cons Mb2 Inc.nil))), ?_⟩))
     refine Aw_one 6 (by kernel_rfl) (Ax_mk rfl rfl ?_)
     have hs492 := (hp0_chans).mono hK487
     have hs493 := (hp0_waiting).mono hK487
     refine OpW_call rfl Try.call103 rfl rfl (c_M_68z p0 vp0_chans vp0_waiting p1 x474 x479 hx480 _ _ hs492 hs493) ?_
     rintro _ K494 _ hK495 ⟨rfl, rfl⟩
     refine ⟨(Inc.cons Mb0 (Inc.cons Mb1 (Inc.cons Mb2 Inc.nil))), ?_⟩
     refine Aw_done (by kernel_rfl) ?_
     refine Cw_cond rfl ?_ ?_
     ·intro h496
      have H := ift h496 H
      refine Cw_region<|Ow_q rfl rfl rfl (Qt_assign rfl)<|Ow_nil<|Pu2<|Pu2<|Pu2<|Shift.done<|?_
      exact ⟨_, by exact ⟨rfl, rfl, rfl, rfl, rfl, trivial⟩, 0, rfl, rfl, H⟩
     ·intro h496
      have H := iff_ (btf h496) H
      refine Cw_skip<|Pu2<|Pu2<|Pu2<|Shift.done<|?_
      exact ⟨_, by exact ⟨rfl, rfl, rfl, rfl, rfl, trivial⟩, (-1), rfl, rfl, H⟩
   rintro _ K497 _ hK498 ⟨i434, rfl, rfl, H⟩
   unfold M_40z at H
   refine Cw_seq<|Cw_seq<|Cw_region<|Ow_q rfl rfl rfl (Qt_move rfl)<|Ow_q rfl rfl rfl (Qt_cmp rfl rfl rfl)<|Ow_nil<|?_
   refine Cw_cond rfl ?_ ?_
   ·intro h628
    have h628 := dcd_t (h628)
    have H := ift h628 H
    refine Cw_join (fun env' K' G' => ∃ (b744 : Nat) (v745 : SV) (l746 : List Done) (v748 : SV) (l749 : List Chan) (v751 : SV) (l752 : List Waiter) (i754 : Int), [(6, (.pointer (some ((⟨b300, 0, none⟩ : Addr).add 0)))), (13, (.pointer (some ((⟨b744, 0, none⟩ : Addr).add 0)))), (14, (sv v745))] = env' ∧ (.blk b744 102 (Desk.cells (Desk.mk l749 l752 i754) v748 v751)) :: (.blk b300 102 (Desk.cells (Desk.mk [] [] 0) nilS nilS)) :: (.tok 108 6 [(sv v745)]) :: G = G' ∧ M_194z l746 l749 l752 i754 = some (y0, y1, y2) ∧ Slr TyDone K' (sv v745) l746 ∧ Slr TyChan K' (sv v748) l749 ∧ Slr TyWaiter K' (sv v751) l752) ?_ ?_
    ·skip
     obtain ⟨x755, hx756, H⟩ := bnd H
     obtain ⟨x763, hx764, H⟩ := bnd H
     obtain ⟨x768, x769, hx770, H⟩ := bnd2 H
     refine Cw_region_any [.blk b300 102 (Desk.cells (Desk.mk [] [] 0) nilS nilS), .blk b299 38 (Op.cells p2 vp2_cases vp2_draws), .blk b298 102 (Desk.cells p0 vp0_chans vp0_waiting)] rfl (Inc.cons Mb0 (Inc.cons Mb1 (Inc.cons Mb2 Inc.nil)))<|Awq 0 rfl (by kernel_rfl) rfl rfl rfl (Qt_loadA (m := 3) (cs := (Desk.cells p0 vp0_chans vp0_waiting)) rfl rfl rfl rfl ⟨rfl, Rdc.blk Mb2 rfl⟩)<|Awq 1 rfl (by kernel_rfl) rfl rfl rfl (Qt_move rfl)<|Awq 2 rfl (by kernel_rfl) rfl rfl rfl (Qt_loadA (m := 7) (cs := (Op.cells p2 vp2_cases vp2_draws)) rfl rfl rfl rfl ⟨rfl, Rdc.blk Mb1 rfl⟩)<|Awq 3 rfl (by kernel_rfl) rfl rfl rfl (Qt_move rfl)<|Awq 4 rfl (by kernel_rfl) rfl rfl rfl (Qt_loadA (m := 7) (cs := (Op.cells p2 vp2_cases vp2_draws)) rfl rfl rfl rfl ⟨rfl, Rdc.blk Mb1 rfl⟩)<|Awq 6 rfl (by kernel_rfl) rfl rfl rfl (Qt_move rfl)<|?_
     refine Aw_two 5 13 (by kernel_rfl) ?_ ?_
     ·skip
      refine id (Ax_mk rfl rfl ?_)
      have hs784 := (hp2_cases).mono hK498
      have hs785 := (hp2_draws).mono hK498
      refine OpW_call rfl Try.call63 rfl rfl (c_M_7z p2 vp2_cases vp2_draws x755 hx756 _ _ hs784 hs785) ?_
      rintro _ K787 _ hK788 ⟨v786, rfl, rfl, hs789⟩
      refine ⟨(Inc.cons Mb0 (Inc.cons Mb1 (Inc.cons Mb2 Inc.nil))), ?_⟩
      refine Aw_two 7 13 (by kernel_rfl) ?_ ?_
      ·skip
       obtain ⟨r790, hr791, hk792⟩ := Slr.at hs789 hx764
       obtain rfl := hr791
       refine id (Ax_mk rfl rfl (OpW_of_Qt rfl rfl (Q_ix (T := TyCase) hs789 hx764 rfl rfl rfl rfl rfl) ⟨(Inc.cons Mb0 (Inc.cons Mb1 (Inc.cons Mb2 Inc.nil))), ?_⟩))
       refine Aw_two 8 13 (by kernel_rfl) ?_ ?_
       ·skip
        refine id (Ax_mk rfl rfl (OpW_of_Qt rfl rfl (Qt_loadA (m := 3) (cs := (Case.cells x763)) rfl rfl rfl rfl ⟨rfl, Rdc.k hk792 rfl⟩) ⟨(Inc.cons Mb0 (Inc.cons Mb1 (Inc.cons Mb2 Inc.nil))), ?_⟩))
        refine Aw_two 9 13 (by kernel_rfl) ?_ ?_
        ·skip
         refine id (Ax_mk rfl rfl ?_)
         have hs793 := ((hp0_chans).mono hK498).mono hK788
         have hs794 := ((hp0_waiting).mono hK498).mono hK788
         have hs795 := (hs784).mono hK788
         have hs796 := (hs785).mono hK788
         refine OpW_call rfl Try.call104 rfl rfl (c_M_126z p0 vp0_chans vp0_waiting p1 p2 vp2_cases vp2_draws i434 x763 x768 x769 hx770 _ _ hs793 hs794 hs795 hs796) ?_
         rintro _ K800 _ hK801 ⟨v797, v798, v799, rfl, rfl, hs802, hs803, hs804⟩
         refine ⟨(Inc.cons Mb1 (Inc.cons Mb2 (Inc.cons Mb3 Inc.nil))), ?_⟩
         refine Awq 10 rfl (by kernel_rfl) rfl rfl rfl (Qt_move rfl)<|Awq 11 rfl (by kernel_rfl) rfl rfl rfl (Qt_extract rfl rfl)<|Awq 12 rfl (by kernel_rfl) rfl rfl rfl (Qt_extract rfl rfl)<|?_
         refine Aw_one 13 (by kernel_rfl) (Ax_mk rfl rfl ?_)
         refine OpW_alloc (cs := (Desk.cells (Desk.mk [] [] 0) nilS nilS)) rfl rfl rfl rfl (fun b805 => ⟨(Inc.cons Mb2 (Inc.cons Mb3 (Inc.cons Mb4 Inc.nil))), ?_⟩)
         refine Aw_one 14 (by kernel_rfl) (Ax_mk rfl rfl ?_)
         refine OpW_store (vs := (Desk.cells x768 v797 v798)) (all' := (Desk.cells x768 v797 v798)) rfl rfl rfl rfl rfl .here rfl rfl rfl ⟨(Inc.cons Mb2 (Inc.cons Mb3 (Inc.cons Mb4 Inc.nil))), ?_⟩
         refine Awq 15 rfl (by kernel_rfl) rfl rfl rfl (Qt_assign rfl)<|Aw_done (by kernel_rfl)<|Pu1<|Pu2<|Pu2<|Re3<|Re3<|Shift.done<|?_
         exact ⟨_, by exact ⟨rfl, rfl, rfl, trivial⟩, b805, v799, x769, v797, x768.chans, v798, x768.waiting, x768.tick, rfl, rfl, H, hs804, hs802, hs803⟩
        ·skip
         refine id (Ax_mk rfl rfl ?_)
         refine OpW_alloc (cs := (Desk.cells (Desk.mk [] [] 0) nilS nilS)) rfl rfl rfl rfl (fun b806 => ⟨(Inc.cons Mb1 (Inc.cons Mb2 (Inc.cons Mb3 Inc.nil))), ?_⟩)
         refine Aw_one 9 (by kernel_rfl) (Ax_mk rfl rfl ?_)
         have hs807 := ((hp0_chans).mono hK498).mono hK788
         have hs808 := ((hp0_waiting).mono hK498).mono hK788
         have hs809 := (hs784).mono hK788
         have hs810 := (hs785).mono hK788
         refine OpW_call rfl Try.call104 rfl rfl (c_M_126z p0 vp0_chans vp0_waiting p1 p2 vp2_cases vp2_draws i434 x763 x768 x769 hx770 _ _ hs807 hs808 hs809 hs810) ?_
         rintro _ K814 _ hK815 ⟨v811, v812, v813, rfl, rfl, hs816, hs817, hs818⟩
         refine ⟨(Inc.cons Mb2 (Inc.cons Mb3 (Inc.cons Mb4 Inc.nil))), ?_⟩
         refine Awq 10 rfl (by kernel_rfl) rfl rfl rfl (Qt_move rfl)<|Awq 11 rfl (by kernel_rfl) rfl rfl rfl (Qt_extract rfl rfl)<|Awq 12 rfl (by kernel_rfl) rfl rfl rfl (Qt_extract rfl rfl)<|?_
         refine Aw_one 14 (by kernel_rfl) (Ax_mk rfl rfl ?_)
         refine OpW_store (vs := (Desk.cells x768 v811 v812)) (all' := (Desk.cells x768 v811 v812)) rfl rfl rfl rfl rfl (.there .here) rfl rfl rfl ⟨(Inc.cons Mb2 (Inc.cons Mb3 (Inc.cons Mb4 Inc.nil))), ?_⟩
         refine Awq 15 rfl (by kernel_rfl) rfl rfl rfl (Qt_assign rfl)<|Aw_done (by kernel_rfl)<|Pu2<|Pu2<|Re3<|Re3<|Shift.done<|?_
         exact ⟨_, by exact ⟨rfl, rfl, rfl, trivial⟩, b806, v813, x769, v811, x768.chans, v812, x768.waiting, x768.tick, rfl, rfl, H, hs818, hs816, hs817⟩
       ·skip
        refine id (Ax_mk rfl rfl ?_)
        refine OpW_alloc (cs := (Desk.cells (Desk.mk [] [] 0) nilS nilS)) rfl rfl rfl rfl (fun b819 => ⟨(Inc.cons Mb1 (Inc.cons Mb2 (Inc.cons Mb3 Inc.nil))), ?_⟩)
        refine Aw_one 8 (by kernel_rfl) (Ax_mk rfl rfl (OpW_of_Qt rfl rfl (Qt_loadA (m := 3) (cs := (Case.cells x763)) rfl rfl rfl rfl ⟨rfl, Rdc.k hk792 rfl⟩) ⟨(Inc.cons Mb1 (Inc.cons Mb2 (Inc.cons Mb3 Inc.nil))), ?_⟩))
        refine Aw_one 9 (by kernel_rfl) (Ax_mk rfl rfl ?_)
        have hs820 := ((hp0_chans).mono hK498).mono hK788
        have hs821 := ((hp0_waiting).mono hK498).mono hK788
        have hs822 := (hs784).mono hK788
        have hs823 := (hs785).mono hK788
        refine OpW_call rfl Try.call104 rfl rfl (c_M_126z p0 vp0_chans vp0_waiting p1 p2 vp2_cases vp2_draws i434 x763 x768 x769 hx770 _ _ hs820 hs821 hs822 hs823) ?_
        rintro _ K827 _ hK828 ⟨v824, v825, v826, rfl, rfl, hs829, hs830, hs831⟩
        refine ⟨(Inc.cons Mb2 (Inc.cons Mb3 (Inc.cons Mb4 Inc.nil))), ?_⟩
        refine Awq 10 rfl (by kernel_rfl) rfl rfl rfl (Qt_move rfl)<|Awq 11 rfl (by kernel_rfl) rfl rfl rfl (Qt_extract rfl rfl)<|Awq 12 rfl (by kernel_rfl) rfl rfl rfl (Qt_extract rfl rfl)<|?_
        refine Aw_one 14 (by kernel_rfl) (Ax_mk rfl rfl ?_)
        refine OpW_store (vs := (Desk.cells x768 v824 v825)) (all' := (Desk.cells x768 v824 v825)) rfl rfl rfl rfl rfl (.there .here) rfl rfl rfl ⟨(Inc.cons Mb2 (Inc.cons Mb3 (Inc.cons Mb4 Inc.nil))), ?_⟩
        refine Awq 15 rfl (by kernel_rfl) rfl rfl rfl (Qt_assign rfl)<|Aw_done (by kernel_rfl)<|Pu2<|Pu2<|Re3<|Re3<|Shift.done<|?_
        exact ⟨_, by exact ⟨rfl, rfl, rfl, trivial⟩, b819, v826, x769, v824, x768.chans, v825, x768.waiting, x768.tick, rfl, rfl, H, hs831, hs829, hs830⟩
      ·skip
       refine id (Ax_mk rfl rfl ?_)
       refine OpW_alloc (cs := (Desk.cells (Desk.mk [] [] 0) nilS nilS)) rfl rfl rfl rfl (fun b832 => ⟨(Inc.cons Mb1 (Inc.cons Mb2 (Inc.cons Mb3 Inc.nil))), ?_⟩)
       obtain ⟨r833, hr834, hk835⟩ := Slr.at hs789 hx764
       obtain rfl := hr834
       refine Aw_one 7 (by kernel_rfl) (Ax_mk rfl rfl (OpW_of_Qt rfl rfl (Q_ix (T := TyCase) hs789 hx764 rfl rfl rfl rfl rfl) ⟨(Inc.cons Mb1 (Inc.cons Mb2 (Inc.cons Mb3 Inc.nil))), ?_⟩))
       refine Aw_one 8 (by kernel_rfl) (Ax_mk rfl rfl (OpW_of_Qt rfl rfl (Qt_loadA (m := 3) (cs := (Case.cells x763)) rfl rfl rfl rfl ⟨rfl, Rdc.k hk835 rfl⟩) ⟨(Inc.cons Mb1 (Inc.cons Mb2 (Inc.cons Mb3 Inc.nil))), ?_⟩))
       refine Aw_one 9 (by kernel_rfl) (Ax_mk rfl rfl ?_)
       have hs836 := ((hp0_chans).mono hK498).mono hK788
       have hs837 := ((hp0_waiting).mono hK498).mono hK788
       have hs838 := (hs784).mono hK788
       have hs839 := (hs785).mono hK788
       refine OpW_call rfl Try.call104 rfl rfl (c_M_126z p0 vp0_chans vp0_waiting p1 p2 vp2_cases vp2_draws i434 x763 x768 x769 hx770 _ _ hs836 hs837 hs838 hs839) ?_
       rintro _ K843 _ hK844 ⟨v840, v841, v842, rfl, rfl, hs845, hs846, hs847⟩
       refine ⟨(Inc.cons Mb2 (Inc.cons Mb3 (Inc.cons Mb4 Inc.nil))), ?_⟩
       refine Awq 10 rfl (by kernel_rfl) rfl rfl rfl (Qt_move rfl)<|Awq 11 rfl (by kernel_rfl) rfl rfl rfl (Qt_extract rfl rfl)<|Awq 12 rfl (by kernel_rfl) rfl rfl rfl (Qt_extract rfl rfl)<|?_
       refine Aw_one 14 (by kernel_rfl) (Ax_mk rfl rfl ?_)
       refine OpW_store (vs := (Desk.cells x768 v840 v841)) (all' := (Desk.cells x768 v840 v841)) rfl rfl rfl rfl rfl (.there .here) rfl rfl rfl ⟨(Inc.cons Mb2 (Inc.cons Mb3 (Inc.cons Mb4 Inc.nil))), ?_⟩
       refine Awq 15 rfl (by kernel_rfl) rfl rfl rfl (Qt_assign rfl)<|Aw_done (by kernel_rfl)<|Pu2<|Pu2<|Re3<|Re3<|Shift.done<|?_
       exact ⟨_, by exact ⟨rfl, rfl, rfl, trivial⟩, b832, v842, x769, v840, x768.chans, v841, x768.waiting, x768.tick, rfl, rfl, H, hs847, hs845, hs846⟩
     ·skip
      refine id (Ax_mk rfl rfl ?_)
      refine OpW_alloc (cs := (Desk.cells (Desk.mk [] [] 0) nilS nilS)) rfl rfl rfl rfl (fun b848 => ⟨(Inc.cons Mb1 (Inc.cons Mb2 (Inc.cons Mb3 Inc.nil))), ?_⟩)
      refine Aw_one 5 (by kernel_rfl) (Ax_mk rfl rfl ?_)
      have hs849 := (hp2_cases).mono hK498
      have hs850 := (hp2_draws).mono hK498
      refine OpW_call rfl Try.call63 rfl rfl (c_M_7z p2 vp2_cases vp2_draws x755 hx756 _ _ hs849 hs850) ?_
      rintro _ K852 _ hK853 ⟨v851, rfl, rfl, hs854⟩
      refine ⟨(Inc.cons Mb1 (Inc.cons Mb2 (Inc.cons Mb3 Inc.nil))), ?_⟩
      obtain ⟨r855, hr856, hk857⟩ := Slr.at hs854 hx764
      obtain rfl := hr856
      refine Aw_one 7 (by kernel_rfl) (Ax_mk rfl rfl (OpW_of_Qt rfl rfl (Q_ix (T := TyCase) hs854 hx764 rfl rfl rfl rfl rfl) ⟨(Inc.cons Mb1 (Inc.cons Mb2 (Inc.cons Mb3 Inc.nil))), ?_⟩))
      refine Aw_one 8 (by kernel_rfl) (Ax_mk rfl rfl (OpW_of_Qt rfl rfl (Qt_loadA (m := 3) (cs := (Case.cells x763)) rfl rfl rfl rfl ⟨rfl, Rdc.k hk857 rfl⟩) ⟨(Inc.cons Mb1 (Inc.cons Mb2 (Inc.cons Mb3 Inc.nil))), ?_⟩))
      refine Aw_one 9 (by kernel_rfl) (Ax_mk rfl rfl ?_)
      have hs858 := ((hp0_chans).mono hK498).mono hK853
      have hs859 := ((hp0_waiting).mono hK498).mono hK853
      have hs860 := (hs849).mono hK853
      have hs861 := (hs850).mono hK853
      refine OpW_call rfl Try.call104 rfl rfl (c_M_126z p0 vp0_chans vp0_waiting p1 p2 vp2_cases vp2_draws i434 x763 x768 x769 hx770 _ _ hs858 hs859 hs860 hs861) ?_
      rintro _ K865 _ hK866 ⟨v862, v863, v864, rfl, rfl, hs867, hs868, hs869⟩
      refine ⟨(Inc.cons Mb2 (Inc.cons Mb3 (Inc.cons Mb4 Inc.nil))), ?_⟩
      refine Awq 10 rfl (by kernel_rfl) rfl rfl rfl (Qt_move rfl)<|Awq 11 rfl (by kernel_rfl) rfl rfl rfl (Qt_extract rfl rfl)<|Awq 12 rfl (by kernel_rfl) rfl rfl rfl (Qt_extract rfl rfl)<|?_
      refine Aw_one 14 (by kernel_rfl) (Ax_mk rfl rfl ?_)
      refine OpW_store (vs := (Desk.cells x768 v862 v863)) (all' := (Desk.cells x768 v862 v863)) rfl rfl rfl rfl rfl (.there .here) rfl rfl rfl ⟨(Inc.cons Mb2 (Inc.cons Mb3 (Inc.cons Mb4 Inc.nil))), ?_⟩
      refine Awq 15 rfl (by kernel_rfl) rfl rfl rfl (Qt_assign rfl)<|Aw_done (by kernel_rfl)<|Pu2<|Pu2<|Re3<|Re3<|Shift.done<|?_
      exact ⟨_, by exact ⟨rfl, rfl, rfl, trivial⟩, b848, v864, x769, v862, x768.chans, v863, x768.waiting, x768.tick, rfl, rfl, H, hs869, hs867, hs868⟩
    rintro _ K870 _ hK871 ⟨b744, v745, l746, v748, l749, v751, l752, i754, rfl, rfl, H, hs747, hs750, hs753⟩
    unfold M_194z at H
    refine Cw_seq<|Cw_region<|Ow_q rfl rfl rfl (Qt_loadA (m := 3) (cs := (Desk.cells (Desk.mk l749 l752 i754) v748 v751)) rfl rfl rfl rfl ⟨rfl, Rdc.blk Mb0 rfl⟩)<|Ow_q rfl rfl rfl (Qt_move rfl)<|?_
    refine Ow_cons rfl (OpW_store (vs := (Desk.cells (Desk.mk l749 l752 i754) v748 v751)) (all' := (Desk.cells (Desk.mk l749 l752 i754) v748 v751)) rfl rfl rfl rfl rfl (.there .here) rfl rfl rfl ?_)
    refine Ow_q rfl rfl rfl (Qt_assign rfl)<|Ow_q rfl rfl rfl (Qt_assign rfl)<|Ow_nil<|Cw_ret<|?_
    obtain ⟨ey0, ey1, ey2⟩ := inj3 H
    subst y0 y1 y2
    refine ⟨(by first | exact .inl rfl | exact .inr rfl), [(.agg (Desk.cells (Desk.mk l749 l752 i754) v748 v751).toArray), (sv v745), (.bool false)], ⟨(.agg (Desk.cells (Desk.mk l749 l752 i754) v748 v751).toArray), _, rfl, ⟨_, 3, (Desk.cells (Desk.mk l749 l752 i754) v748 v751), rfl, rfl, rfl, rfl, ⟨rfl, Rdc.blk Mb1 rfl⟩, rfl⟩, ⟨(sv v745), _, rfl, rfl, ⟨(.bool false), _, rfl, rfl, rfl⟩⟩⟩, ?_⟩
    refine Pu2<|Re1<|Re1<|Shift.done<|?_
    exact ⟨v748, v751, v745, rfl, rfl, hs750, hs753, hs747⟩
   ·intro h628
    have h628 := dcd_f (h628)
    have H := iff_ h628 H
    refine Cw_skip<|Cw_seq<|Cw_seq<|Cw_region<|Ow_q rfl rfl rfl (Qt_fieldAddr (m := 1) rfl rfl rfl rfl rfl)<|Ow_q rfl rfl rfl (Qt_load1 (v := (.int .i64 p2.mode)) rfl rfl rfl (Rdc.blk Mb1 rfl))<|Ow_q rfl rfl rfl (Qt_cmp rfl rfl rfl)<|Ow_nil<|?_
    refine Cw_cond rfl ?_ ?_
    ·intro h875
     have h875 := dcd_t (h875)
     have H := ift h875 H
     refine Cw_seq<|Cw_region<|Ow_q rfl rfl rfl (Qt_loadA (m := 3) (cs := (Desk.cells p0 vp0_chans vp0_waiting)) rfl rfl rfl rfl ⟨rfl, Rdc.blk Mb2 rfl⟩)<|Ow_q rfl rfl rfl (Qt_move rfl)<|Ow_q rfl rfl rfl (Qt_build (cs := (Result.cells (Result.mk 3 (-1) 0 false 0))) rfl rfl rfl rfl rfl rfl)<|Ow_q rfl rfl rfl (Qt_build (cs := (Done.cells (Done.mk p1 (Result.mk 3 (-1) 0 false 0)))) rfl rfl rfl rfl rfl rfl)<|?_
     have hR877 : RowR TyDone K497 [(Done.cells (Done.mk p1 (Result.mk 3 (-1) 0 false 0)))] [(Done.mk p1 (Result.mk 3 (-1) 0 false 0))] := RowR.cons rfl (RowR.nil)
     refine Ow_cons rfl (O_lit (T := TyDone) (rows := [(Done.cells (Done.mk p1 (Result.mk 3 (-1) 0 false 0)))]) (l := [(Done.mk p1 (Result.mk 3 (-1) 0 false 0))]) rfl rfl rfl hR877 rfl rfl rfl rfl rfl rfl rfl rfl (fun v876 => ?_))
     refine Ow_cons rfl (OpW_store (vs := (Desk.cells p0 vp0_chans vp0_waiting)) (all' := (Desk.cells p0 vp0_chans vp0_waiting)) rfl rfl rfl rfl rfl (.there .here) rfl rfl rfl ?_)
     refine Ow_q rfl rfl rfl (Qt_assign rfl)<|Ow_q rfl rfl rfl (Qt_assign rfl)<|Ow_nil<|Cw_ret<|?_
     obtain ⟨ey0, ey1, ey2⟩ := inj3 H
     subst y0 y1 y2
     refine ⟨(by first | exact .inl rfl | exact .inr rfl), [(.agg (Desk.cells p0 vp0_chans vp0_waiting).toArray), (sv v876), (.bool false)], ⟨(.agg (Desk.cells p0 vp0_chans vp0_waiting).toArray), _, rfl, ⟨_, 3, (Desk.cells p0 vp0_chans vp0_waiting), rfl, rfl, rfl, rfl, ⟨rfl, Rdc.blk Mb1 rfl⟩, rfl⟩, ⟨(sv v876), _, rfl, rfl, ⟨(.bool false), _, rfl, rfl, rfl⟩⟩⟩, ?_⟩
     refine Shift.settle (T := TyDone) .here hR877 rfl ?_
     intro K878 hK879 hs880
     refine Re1<|Re1<|Re1<|?_
     have hs881 := ((hp0_chans).mono hK498).mono hK879
     have hs882 := ((hp0_waiting).mono hK498).mono hK879
     exact Shift.done ⟨vp0_chans, vp0_waiting, v876, rfl, rfl, hs881, hs882, hs880⟩
    ·intro h875
     have h875 := dcd_f (h875)
     have H := iff_ h875 H
     refine Cw_skip<|Cw_seq<|?_
     refine Cw_join (fun env' K' G' => ∃ (t889 : Bool), [(1, (.int .i64 p1)), (3, (.pointer (some ((⟨b298, 0, none⟩ : Addr).add 0)))), (5, (.pointer (some ((⟨b299, 0, none⟩ : Addr).add 0)))), (6, (.pointer (some ((⟨b300, 0, none⟩ : Addr).add 0)))), (114, (.bool t889))] = env' ∧ K497 = K' ∧ (.blk b300 102 (Desk.cells (Desk.mk [] [] 0) nilS nilS)) :: (.blk b299 38 (Op.cells p2 vp2_cases vp2_draws)) :: (.blk b298 102 (Desk.cells p0 vp0_chans vp0_waiting)) :: G = G' ∧ M_71z p1 p2 p0 t889 = some (y0, y1, y2)) ?_ ?_
     ·skip
      refine Cw_region<|Ow_q rfl rfl rfl (Qt_fieldAddr (m := 1) rfl rfl rfl rfl rfl)<|Ow_q rfl rfl rfl (Qt_load1 (v := (.int .i64 p2.mode)) rfl rfl rfl (Rdc.blk Mb1 rfl))<|Ow_q rfl rfl rfl (Qt_cmp rfl rfl rfl)<|Ow_q rfl rfl rfl (Qt_move rfl)<|?_
      refine Ow_caseG rfl rfl rfl ?_ ?_
      ·intro h890
       have h890 := dcd_t (h890)
       have H := ift h890 H
       refine Ow_qw rfl rfl rfl rfl rfl rfl (Qt_fieldAddr (m := 4) rfl rfl rfl rfl rfl)<|Ow_qw rfl rfl rfl rfl rfl rfl (Qt_load1 (v := (.int .i64 p2.deadline)) rfl rfl rfl (Rdc.blk Mb1 rfl))<|Ow_qw rfl rfl rfl rfl rfl rfl (Qt_fieldAddr (m := 2) rfl rfl rfl rfl rfl)<|Ow_qw rfl rfl rfl rfl rfl rfl (Qt_load1 (v := (.int .i64 p0.tick)) rfl rfl rfl (Rdc.blk Mb2 rfl))<|Ow_qw rfl rfl rfl rfl rfl rfl (Qt_cmp rfl rfl rfl)<|Ow_q rfl rfl rfl (Qt_pick_t rfl rfl)<|Ow_nil<|Pu2<|Pu2<|Pu2<|?_
       exact Shift.done ⟨_, by exact ⟨rfl, rfl, rfl, rfl, rfl, trivial⟩, (dcd (p2.deadline ≤ p0.tick)), rfl, rfl, rfl, H⟩
      ·intro h890
       have h890 := dcd_f (h890)
       have H := iff_ h890 H
       refine Ow_pass rfl rfl rfl rfl rfl rfl rfl<|Ow_pass rfl rfl rfl rfl rfl rfl rfl<|Ow_pass rfl rfl rfl rfl rfl rfl rfl<|Ow_pass rfl rfl rfl rfl rfl rfl rfl<|Ow_pass rfl rfl rfl rfl rfl rfl rfl<|Ow_q rfl rfl rfl (Qt_pick_f rfl rfl)<|Ow_nil<|Pu2<|Pu2<|Pu2<|?_
       exact Shift.done ⟨_, by exact ⟨rfl, rfl, rfl, rfl, rfl, trivial⟩, false, rfl, rfl, rfl, H⟩
     rintro _ _ _ - ⟨t889, rfl, rfl, rfl, H⟩
     unfold M_71z at H
     refine Cw_cond rfl ?_ ?_
     ·intro h891
      have H := ift h891 H
      refine Cw_seq<|Cw_region<|Ow_q rfl rfl rfl (Qt_loadA (m := 3) (cs := (Desk.cells p0 vp0_chans vp0_waiting)) rfl rfl rfl rfl ⟨rfl, Rdc.blk Mb2 rfl⟩)<|Ow_q rfl rfl rfl (Qt_move rfl)<|Ow_q rfl rfl rfl (Qt_build (cs := (Result.cells (Result.mk 4 (-1) 0 false 0))) rfl rfl rfl rfl rfl rfl)<|Ow_q rfl rfl rfl (Qt_build (cs := (Done.cells (Done.mk p1 (Result.mk 4 (-1) 0 false 0)))) rfl rfl rfl rfl rfl rfl)<|?_
      have hR893 : RowR TyDone K497 [(Done.cells (Done.mk p1 (Result.mk 4 (-1) 0 false 0)))] [(Done.mk p1 (Result.mk 4 (-1) 0 false 0))] := RowR.cons rfl (RowR.nil)
      refine Ow_cons rfl (O_lit (T := TyDone) (rows := [(Done.cells (Done.mk p1 (Result.mk 4 (-1) 0 false 0)))]) (l := [(Done.mk p1 (Result.mk 4 (-1) 0 false 0))]) rfl rfl rfl hR893 rfl rfl rfl rfl rfl rfl rfl rfl (fun v892 => ?_))
      refine Ow_cons rfl (OpW_store (vs := (Desk.cells p0 vp0_chans vp0_waiting)) (all' := (Desk.cells p0 vp0_chans vp0_waiting)) rfl rfl rfl rfl rfl (.there .here) rfl rfl rfl ?_)
      refine Ow_q rfl rfl rfl (Qt_assign rfl)<|Ow_q rfl rfl rfl (Qt_assign rfl)<|Ow_nil<|Cw_ret<|?_
      obtain ⟨ey0, ey1, ey2⟩ := inj3 H
      subst y0 y1 y2
      refine ⟨(by first | exact .inl rfl | exact .inr rfl), [(.agg (Desk.cells p0 vp0_chans vp0_waiting).toArray), (sv v892), (.bool false)], ⟨(.agg (Desk.cells p0 vp0_chans vp0_waiting).toArray), _, rfl, ⟨_, 3, (Desk.cells p0 vp0_chans vp0_waiting), rfl, rfl, rfl, rfl, ⟨rfl, Rdc.blk Mb1 rfl⟩, rfl⟩, ⟨(sv v892), _, rfl, rfl, ⟨(.bool false), _, rfl, rfl, rfl⟩⟩⟩, ?_⟩
      refine Shift.settle (T := TyDone) .here hR893 rfl ?_
      intro K894 hK895 hs896
      refine Re1<|Re1<|Re1<|?_
      have hs897 := ((hp0_chans).mono hK498).mono hK895
      have hs898 := ((hp0_waiting).mono hK498).mono hK895
      exact Shift.done ⟨vp0_chans, vp0_waiting, v892, rfl, rfl, hs897, hs898, hs896⟩
     ·intro h891
      have H := iff_ (btf h891) H
      refine Cw_skip ?_
      refine Cw_join (fun env' K' G' => ∃ (v957 : SV) (l958 : List Waiter), [(3, (.pointer (some ((⟨b298, 0, none⟩ : Addr).add 0)))), (6, (.pointer (some ((⟨b300, 0, none⟩ : Addr).add 0))))] = env' ∧ (.blk b300 102 (Desk.cells (Desk.mk [] [] 0) nilS nilS)) :: (.blk b298 102 (Desk.cells (Desk.mk p0.chans l958 p0.tick) vp0_chans v957)) :: (.tok 77 8 [(sv v957)]) :: G = G' ∧ M_195z p0 l958 = some (y0, y1, y2) ∧ Slr TyWaiter K' (sv v957) l958) ?_ ?_
      ·skip
       obtain ⟨x960, hx961, H⟩ := bnd H
       obtain ⟨x971, hx972, H⟩ := bnd H
       refine Cw_region_any [.blk b300 102 (Desk.cells (Desk.mk [] [] 0) nilS nilS), .blk b299 38 (Op.cells p2 vp2_cases vp2_draws)] rfl (Inc.cons Mb0 (Inc.cons Mb1 Inc.nil))<|Awq 0 rfl (by kernel_rfl) rfl rfl rfl (Qt_fieldAddr (m := 1) rfl rfl rfl rfl rfl)<|Awq 3 rfl (by kernel_rfl) rfl rfl rfl (Qt_move rfl)<|Awq 4 rfl (by kernel_rfl) rfl rfl rfl (Qt_loadA (m := 7) (cs := (Op.cells p2 vp2_cases vp2_draws)) rfl rfl rfl rfl ⟨rfl, Rdc.blk Mb1 rfl⟩)<|Awq 5 rfl (by kernel_rfl) rfl rfl rfl (Qt_build (cs := (Waiter.cells (Waiter.mk p1 p2) vp2_cases vp2_draws)) rfl rfl rfl rfl rfl rfl)<|?_
       refine Aw_two 1 6 (by kernel_rfl) ?_ ?_
       ·skip
        refine id (Ax_mk rfl rfl (OpW_of_Qt rfl rfl (Qt_load1 (v := (sv vp0_waiting)) rfl rfl rfl (Rdc.blk Mb2 rfl)) ⟨(Inc.cons Mb0 (Inc.cons Mb1 Inc.nil)), ?_⟩))
        refine Aw_two 2 6 (by kernel_rfl) ?_ ?_
        ·skip
         refine id (Ax_mk rfl rfl ?_)
         refine OpW.shift (Shift.nilTok1 77 8 (Shift.done ?_))
         have hs977 := (hp0_waiting).mono hK498
         refine O_appTok (T := TyWaiter) (bytes := 96) (q := 0) rfl rfl rfl (Slr.nil TyWaiter _) Mb0 rfl (SrcT.sl hs977) hx961 rfl rfl rfl rfl rfl rfl rfl rfl (fun v978 K979 hK980 hs981 => ⟨_, .here, ⟨(Inc.cons Mb1 (Inc.cons Mb2 Inc.nil)), ?_⟩⟩)
         refine Aw_one 6 (by kernel_rfl) (Ax_mk rfl rfl ?_)
         have hs984 := ((hp2_cases).mono hK498).mono hK980
         have hs985 := ((hp2_draws).mono hK498).mono hK980
         have hR983 : RowR TyWaiter K979 [(Waiter.cells (Waiter.mk p1 p2) vp2_cases vp2_draws)] [(Waiter.mk p1 p2)] := RowR.cons ⟨vp2_cases, vp2_draws, rfl, hs984, hs985⟩ (RowR.nil)
         refine O_lit (T := TyWaiter) (rows := [(Waiter.cells (Waiter.mk p1 p2) vp2_cases vp2_draws)]) (l := [(Waiter.mk p1 p2)]) rfl rfl rfl hR983 rfl rfl rfl rfl rfl rfl rfl rfl (fun v982 => ⟨(Inc.cons Mb2 (Inc.cons Mb3 Inc.nil)), ?_⟩)
         refine Aw_one 7 (by kernel_rfl) (Ax_mk rfl rfl ?_)
         refine O_appTok (T := TyWaiter) (bytes := 96) (q := 0) rfl rfl rfl hs981 Mb1 rfl (SrcT.row Mb0 hR983 rfl) hx972 rfl rfl rfl rfl rfl rfl rfl rfl (fun v986 K987 hK988 hs989 => ⟨_, (.there .here), ⟨(Inc.cons Mb2 (Inc.cons Mb3 Inc.nil)), ?_⟩⟩)
         refine Aw.shift (Re0 (Shift.done ⟨(Inc.cons Mb1 (Inc.cons Mb2 Inc.nil)), ?_⟩))
         refine Awq 8 rfl (by kernel_rfl) rfl rfl rfl (Qt_fieldAddr (m := 1) rfl rfl rfl rfl rfl) ?_
         refine Aw_one 9 (by kernel_rfl) (Ax_mk rfl rfl ?_)
         refine OpW_store (vs := [(sv v986)]) (all' := (Desk.cells (Desk.mk p0.chans x971 p0.tick) vp0_chans v986)) rfl rfl rfl rfl rfl (.there (.there (.there .here))) rfl rfl rfl ⟨(Inc.cons Mb1 (Inc.cons Mb2 Inc.nil)), ?_⟩
         refine Aw_done (by kernel_rfl)<|Pu3<|Pu2<|Re3<|Shift.done<|?_
         exact ⟨_, by exact ⟨rfl, rfl, trivial⟩, v986, x971, rfl, rfl, H, hs989⟩
        ·skip
         refine id (Ax_mk rfl rfl ?_)
         have hs992 := (hp2_cases).mono hK498
         have hs993 := (hp2_draws).mono hK498
         have hR991 : RowR TyWaiter K497 [(Waiter.cells (Waiter.mk p1 p2) vp2_cases vp2_draws)] [(Waiter.mk p1 p2)] := RowR.cons ⟨vp2_cases, vp2_draws, rfl, hs992, hs993⟩ (RowR.nil)
         refine O_lit (T := TyWaiter) (rows := [(Waiter.cells (Waiter.mk p1 p2) vp2_cases vp2_draws)]) (l := [(Waiter.mk p1 p2)]) rfl rfl rfl hR991 rfl rfl rfl rfl rfl rfl rfl rfl (fun v990 => ⟨(Inc.cons Mb1 (Inc.cons Mb2 Inc.nil)), ?_⟩)
         refine Aw_one 2 (by kernel_rfl) (Ax_mk rfl rfl ?_)
         refine OpW.shift (Shift.nilTok1 77 8 (Shift.done ?_))
         have hs994 := (hp0_waiting).mono hK498
         refine O_appTok (T := TyWaiter) (bytes := 96) (q := 0) rfl rfl rfl (Slr.nil TyWaiter _) Mb0 rfl (SrcT.sl hs994) hx961 rfl rfl rfl rfl rfl rfl rfl rfl (fun v995 K996 hK997 hs998 => ⟨_, .here, ⟨(Inc.cons Mb2 (Inc.cons Mb3 Inc.nil)), ?_⟩⟩)
         refine Aw_one 7 (by kernel_rfl) (Ax_mk rfl rfl ?_)
         have hs999 := (hR991).mono hK997
         refine O_appTok (T := TyWaiter) (bytes := 96) (q := 0) rfl rfl rfl hs998 Mb0 rfl (SrcT.row Mb1 hs999 rfl) hx972 rfl rfl rfl rfl rfl rfl rfl rfl (fun v1000 K1001 hK1002 hs1003 => ⟨_, .here, ⟨(Inc.cons Mb2 (Inc.cons Mb3 Inc.nil)), ?_⟩⟩)
         refine Aw.shift (Re1 (Shift.done ⟨(Inc.cons Mb1 (Inc.cons Mb2 Inc.nil)), ?_⟩))
         refine Awq 8 rfl (by kernel_rfl) rfl rfl rfl (Qt_fieldAddr (m := 1) rfl rfl rfl rfl rfl) ?_
         refine Aw_one 9 (by kernel_rfl) (Ax_mk rfl rfl ?_)
         refine OpW_store (vs := [(sv v1000)]) (all' := (Desk.cells (Desk.mk p0.chans x971 p0.tick) vp0_chans v1000)) rfl rfl rfl rfl rfl (.there (.there (.there .here))) rfl rfl rfl ⟨(Inc.cons Mb1 (Inc.cons Mb2 Inc.nil)), ?_⟩
         refine Aw_done (by kernel_rfl)<|Pu3<|Pu2<|Re3<|Shift.done<|?_
         exact ⟨_, by exact ⟨rfl, rfl, trivial⟩, v1000, x971, rfl, rfl, H, hs1003⟩
       ·skip
        refine id (Ax_mk rfl rfl ?_)
        have hs1006 := (hp2_cases).mono hK498
        have hs1007 := (hp2_draws).mono hK498
        have hR1005 : RowR TyWaiter K497 [(Waiter.cells (Waiter.mk p1 p2) vp2_cases vp2_draws)] [(Waiter.mk p1 p2)] := RowR.cons ⟨vp2_cases, vp2_draws, rfl, hs1006, hs1007⟩ (RowR.nil)
        refine O_lit (T := TyWaiter) (rows := [(Waiter.cells (Waiter.mk p1 p2) vp2_cases vp2_draws)]) (l := [(Waiter.mk p1 p2)]) rfl rfl rfl hR1005 rfl rfl rfl rfl rfl rfl rfl rfl (fun v1004 => ⟨(Inc.cons Mb1 (Inc.cons Mb2 Inc.nil)), ?_⟩)
        refine Aw_one 1 (by kernel_rfl) (Ax_mk rfl rfl (OpW_of_Qt rfl rfl (Qt_load1 (v := (sv vp0_waiting)) rfl rfl rfl (Rdc.blk Mb3 rfl)) ⟨(Inc.cons Mb1 (Inc.cons Mb2 Inc.nil)), ?_⟩))
        refine Aw_one 2 (by kernel_rfl) (Ax_mk rfl rfl ?_)
        refine OpW.shift (Shift.nilTok1 77 8 (Shift.done ?_))
        have hs1008 := (hp0_waiting).mono hK498
        refine O_appTok (T := TyWaiter) (bytes := 96) (q := 0) rfl rfl rfl (Slr.nil TyWaiter _) Mb0 rfl (SrcT.sl hs1008) hx961 rfl rfl rfl rfl rfl rfl rfl rfl (fun v1009 K1010 hK1011 hs1012 => ⟨_, .here, ⟨(Inc.cons Mb2 (Inc.cons Mb3 Inc.nil)), ?_⟩⟩)
        refine Aw_one 7 (by kernel_rfl) (Ax_mk rfl rfl ?_)
        have hs1013 := (hR1005).mono hK1011
        refine O_appTok (T := TyWaiter) (bytes := 96) (q := 0) rfl rfl rfl hs1012 Mb0 rfl (SrcT.row Mb1 hs1013 rfl) hx972 rfl rfl rfl rfl rfl rfl rfl rfl (fun v1014 K1015 hK1016 hs1017 => ⟨_, .here, ⟨(Inc.cons Mb2 (Inc.cons Mb3 Inc.nil)), ?_⟩⟩)
        refine Aw.shift (Re1 (Shift.done ⟨(Inc.cons Mb1 (Inc.cons Mb2 Inc.nil)), ?_⟩))
        refine Awq 8 rfl (by kernel_rfl) rfl rfl rfl (Qt_fieldAddr (m := 1) rfl rfl rfl rfl rfl) ?_
        refine Aw_one 9 (by kernel_rfl) (Ax_mk rfl rfl ?_)
        refine OpW_store (vs := [(sv v1014)]) (all' := (Desk.cells (Desk.mk p0.chans x971 p0.tick) vp0_chans v1014)) rfl rfl rfl rfl rfl (.there (.there (.there .here))) rfl rfl rfl ⟨(Inc.cons Mb1 (Inc.cons Mb2 Inc.nil)), ?_⟩
        refine Aw_done (by kernel_rfl)<|Pu3<|Pu2<|Re3<|Shift.done<|?_
        exact ⟨_, by exact ⟨rfl, rfl, trivial⟩, v1014, x971, rfl, rfl, H, hs1017⟩
      rintro _ K1018 _ hK1019 ⟨v957, l958, rfl, rfl, H, hs959⟩
      unfold M_195z at H
      refine Cw_seq<|Cw_region<|Ow_q rfl rfl rfl (Qt_loadA (m := 3) (cs := (Desk.cells (Desk.mk p0.chans l958 p0.tick) vp0_chans v957)) rfl rfl rfl rfl ⟨rfl, Rdc.blk Mb1 rfl⟩)<|?_
      refine Ow_cons rfl (OpW_store (vs := (Desk.cells (Desk.mk p0.chans l958 p0.tick) vp0_chans v957)) (all' := (Desk.cells (Desk.mk p0.chans l958 p0.tick) vp0_chans v957)) rfl rfl rfl rfl rfl .here rfl rfl rfl ?_)
      refine Ow_q rfl rfl rfl (Qt_assign rfl)<|Ow_q rfl rfl rfl (Qt_assign rfl)<|Ow_nil<|Cw_ret<|?_
      obtain ⟨ey0, ey1, ey2⟩ := inj3 H
      subst y0 y1 y2
      refine ⟨(by first | exact .inl rfl | exact .inr rfl), [(.agg (Desk.cells (Desk.mk p0.chans l958 p0.tick) vp0_chans v957).toArray), (sv nilS), (.bool true)], ⟨(.agg (Desk.cells (Desk.mk p0.chans l958 p0.tick) vp0_chans v957).toArray), _, rfl, ⟨_, 3, (Desk.cells (Desk.mk p0.chans l958 p0.tick) vp0_chans v957), rfl, rfl, rfl, rfl, ⟨rfl, Rdc.blk Mb0 rfl⟩, rfl⟩, ⟨(sv nilS), _, rfl, rfl, ⟨(.bool true), _, rfl, rfl, rfl⟩⟩⟩, ?_⟩
      refine Shift.nilTok1 108 6<|Re1<|Re1<|Re1<|?_
      have hs1020 := ((hp0_chans).mono hK498).mono hK1019
      exact Shift.done ⟨vp0_chans, v957, nilS, rfl, rfl, hs1020, hs959, (Slr.nil TyDone _)⟩



end Go.Hx
