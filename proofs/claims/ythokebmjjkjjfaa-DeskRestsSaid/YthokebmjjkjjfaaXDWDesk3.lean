/- Printed by program. -/
import Derived.Test.YthokebmjjkjjfaaXDM
import Derived.Test.YthokebmjjkjjfaaXDWSlices
import Derived.Test.YthokebmjjkjjfaaXDWModel
namespace Go.Hx
open Go Go.Proofs
set_option linter.unusedSimpArgs false
set_option linter.unusedVariables false
set_option maxRecDepth 10000
set_option maxHeartbeats 1000000 in
theorem c_M_107z (p0 : Desk) (vp0_chans : SV) (vp0_waiting : SV) (p1 : Int) (p2 : Case) (y0 : Int) (H : M_107z p0 p1 p2 = some y0) (K : Kp) (G : List Ent) (hp0_chans : Slr TyChan K (sv vp0_chans) p0.chans) (hp0_waiting : Slr TyWaiter K (sv vp0_waiting) p0.waiting) :
  Fc Try.prog 40 #[(.agg (Desk.cells p0 vp0_chans vp0_waiting).toArray), (.int .i64 p1), (.agg (Case.cells p2).toArray)] K (G) (fun v K' G' => v = (.int .i64 y0) ∧ G = G') := by
 refine Fc_body Try.func40 rfl Try.ntmps40 Try.results40 rfl ?_
 unfold M_107z at H
 refine Cw_seq ?_
 refine Cw_region ?_
 refine Ow_cons rfl (OpW_box (cs := (Desk.cells p0 vp0_chans vp0_waiting)) rfl rfl rfl (fun b11 => ?_))
 refine Ow_cons rfl (OpW_box (cs := [(.int .i64 p1)]) rfl rfl rfl (fun b12 => ?_))
 refine Ow_cons rfl (OpW_box (cs := (Case.cells p2)) rfl rfl rfl (fun b13 => ?_))
 refine Ow_q rfl rfl rfl (Qt_assign rfl) ?_
 refine Ow_nil ?_
 refine Cw_seq ?_
 refine Cw_seq ?_
 refine Cw_region ?_
 refine Ow_q rfl rfl rfl (Qt_loadA (m := 3) (cs := (Desk.cells p0 vp0_chans vp0_waiting)) rfl rfl rfl rfl ⟨rfl, Rdc.blk (.tail _ (.tail _ (.head _))) rfl⟩) ?_
 refine Ow_q rfl rfl rfl (Qt_fieldAddr (m := 1) rfl rfl rfl rfl rfl) ?_
 refine Ow_q rfl rfl rfl (Qt_load1 (v := (.int .i64 p2.channel)) rfl rfl rfl (Rdc.blk (.head _) rfl)) ?_
 obtain ⟨x17, hx18, H⟩ := bnd H
 refine Ow_cons rfl (OpW_call rfl Try.call45 rfl rfl (c_M_29z p0 vp0_chans vp0_waiting p2.channel x17 hx18 _ _ hp0_chans hp0_waiting) ?_)
 rintro _ _ _ - ⟨rfl, rfl, rfl⟩
 refine Ow_q rfl rfl rfl (Qt_not rfl) ?_
 refine Ow_nil ?_
 refine Cw_cond rfl ?_ ?_
 ·intro h19
  have h19 := nt_t (h19)
  have H := iff_ (btf h19) H
  refine Cw_seq ?_
  refine Cw_region ?_
  refine Ow_q rfl rfl rfl (Qt_assign rfl) ?_
  refine Ow_nil ?_
  refine Cw_ret ?_
  obtain ey0 := inj1 H
  subst y0
  refine ⟨(by first | exact .inl rfl | exact .inr rfl), [(.int .i64 (-1))], ⟨(.int .i64 (-1)), _, rfl, rfl, rfl⟩, ?_⟩
  refine Re0 ?_
  refine Re0 ?_
  refine Re0 ?_
  refine Shift.done ?_
  exact ⟨rfl, rfl⟩
 ·intro h19
  have h19 := nt_f (h19)
  have H := ift h19 H
  refine Cw_skip ?_
  refine Cw_seq ?_
  refine Cw_region ?_
  refine Ow_q rfl rfl rfl (Qt_fieldAddr (m := 1) rfl rfl rfl rfl rfl) ?_
  refine Ow_q rfl rfl rfl (Qt_load1 (v := (sv vp0_waiting)) rfl rfl rfl (Rdc.blk (.tail _ (.tail _ (.head _))) rfl)) ?_
  refine Ow_q rfl rfl rfl (Qt_makeFunc rfl rfl) ?_
  obtain ⟨x20, hx21, H⟩ := bnd H
  refine Ow.shift (Pu1 (Shift.done ?_))
  refine Ow.shift (Pu1 (Shift.done ?_))
  refine Ow_cons rfl (OpW_call rfl Try.call68 rfl rfl (c_M_106z p0.waiting vp0_waiting b13 p2 b12 p1 x20 hx21 _ _ hp0_waiting) ?_)
  rintro _ K22 _ hK23 ⟨rfl, rfl⟩
  refine Ow_q rfl rfl rfl (Qt_assign rfl) ?_
  refine Ow_nil ?_
  refine Cw_ret ?_
  obtain ey0 := inj1 H
  subst y0
  refine ⟨(by first | exact .inl rfl | exact .inr rfl), [(.int .i64 x20)], ⟨(.int .i64 x20), _, rfl, rfl, rfl⟩, ?_⟩
  refine Re0 ?_
  refine Re0 ?_
  refine Re0 ?_
  refine Shift.done ?_
  exact ⟨rfl, rfl⟩

set_option maxHeartbeats 1000000 in
theorem c_M_63z (p0 : Desk) (vp0_chans : SV) (vp0_waiting : SV) (p1 : Int) (p2 : Case) (y0 : Bool) (H : M_63z p0 p1 p2 = some y0) (K : Kp) (G : List Ent) (hp0_chans : Slr TyChan K (sv vp0_chans) p0.chans) (hp0_waiting : Slr TyWaiter K (sv vp0_waiting) p0.waiting) :
  Fc Try.prog 16 #[(.agg (Desk.cells p0 vp0_chans vp0_waiting).toArray), (.int .i64 p1), (.agg (Case.cells p2).toArray)] K (G) (fun v K' G' => v = (.bool y0) ∧ G = G') := by
 refine Fc_body Try.func16 rfl Try.ntmps16 Try.results16 rfl ?_
 unfold M_63z at H
 refine Cw_seq ?_
 refine Cw_region ?_
 refine Ow_cons rfl (OpW_box (cs := (Desk.cells p0 vp0_chans vp0_waiting)) rfl rfl rfl (fun b10 => ?_))
 refine Ow_cons rfl (OpW_box (cs := (Case.cells p2)) rfl rfl rfl (fun b11 => ?_))
 refine Ow_q rfl rfl rfl (Qt_assign rfl) ?_
 refine Ow_nil ?_
 refine Cw_seq ?_
 refine Cw_region ?_
 refine Ow_q rfl rfl rfl (Qt_fieldAddr (m := 0) rfl rfl rfl rfl rfl) ?_
 refine Ow_q rfl rfl rfl (Qt_load1 (v := (sv vp0_chans)) rfl rfl rfl (Rdc.blk (.tail _ (.head _)) rfl)) ?_
 refine Ow_q rfl rfl rfl (Qt_loadA (m := 3) (cs := (Case.cells p2)) rfl rfl rfl rfl ⟨rfl, Rdc.blk (.head _) rfl⟩) ?_
 obtain ⟨x19, hx20, H⟩ := bnd H
 refine Ow_cons rfl (OpW_call rfl Try.call39 rfl rfl (c_M_34z p0.chans vp0_chans p2 x19 hx20 _ _ hp0_chans) ?_)
 rintro _ _ _ - ⟨rfl, rfl, rfl⟩
 refine Ow_q rfl rfl rfl (Qt_move rfl) ?_
 refine Ow_caseG rfl rfl rfl ?_ ?_
 ·intro h21
  have H := ift h21 H
  refine Ow_pass rfl rfl rfl rfl rfl rfl rfl ?_
  refine Ow_pass rfl rfl rfl rfl rfl rfl rfl ?_
  refine Ow_pass rfl rfl rfl rfl rfl rfl rfl ?_
  refine Ow_pass rfl rfl rfl rfl rfl rfl rfl ?_
  refine Ow_pass rfl rfl rfl rfl rfl rfl rfl ?_
  refine Ow_q rfl rfl rfl (Qt_pick_t rfl rfl) ?_
  refine Ow_q rfl rfl rfl (Qt_assign rfl) ?_
  refine Ow_nil ?_
  refine Cw_ret ?_
  obtain ey0 := inj1 H
  subst y0
  refine ⟨(by first | exact .inl rfl | exact .inr rfl), [(.bool true)], ⟨(.bool true), _, rfl, rfl, rfl⟩, ?_⟩
  refine Re0 ?_
  refine Re0 ?_
  refine Shift.done ?_
  exact ⟨rfl, rfl⟩
 ·intro h21
  have H := iff_ (btf h21) H
  refine Ow_qw rfl rfl rfl rfl rfl rfl (Qt_loadA (m := 3) (cs := (Desk.cells p0 vp0_chans vp0_waiting)) rfl rfl rfl rfl ⟨rfl, Rdc.blk (.tail _ (.head _)) rfl⟩) ?_
  refine Ow_qw rfl rfl rfl rfl rfl rfl (Qt_move rfl) ?_
  refine Ow_qw rfl rfl rfl rfl rfl rfl (Qt_loadA (m := 3) (cs := (Case.cells p2)) rfl rfl rfl rfl ⟨rfl, Rdc.blk (.head _) rfl⟩) ?_
  obtain ⟨x22, hx23, H⟩ := bnd H
  refine Ow_want rfl rfl rfl rfl (OpW_call rfl Try.call40 rfl rfl (c_M_107z p0 vp0_chans vp0_waiting p1 p2 x22 hx23 _ _ hp0_chans hp0_waiting) ?_)
  rintro _ K24 _ hK25 ⟨rfl, rfl⟩
  refine Ow_qw rfl rfl rfl rfl rfl rfl (Qt_cmp rfl rfl rfl) ?_
  refine Ow_q rfl rfl rfl (Qt_pick_f rfl rfl) ?_
  refine Ow_q rfl rfl rfl (Qt_assign rfl) ?_
  refine Ow_nil ?_
  refine Cw_ret ?_
  obtain ey0 := inj1 H
  subst y0
  refine ⟨(by first | exact .inl rfl | exact .inr rfl), [(.bool (dcd (x22 ≥ 0)))], ⟨(.bool (dcd (x22 ≥ 0))), _, rfl, rfl, rfl⟩, ?_⟩
  refine Re0 ?_
  refine Re0 ?_
  refine Shift.done ?_
  exact ⟨rfl, rfl⟩

set_option maxHeartbeats 1000000 in
theorem c_M_109z (p0 : Desk) (vp0_chans : SV) (vp0_waiting : SV) (p1 : Int) (p2 : Op) (vp2_cases : SV) (vp2_draws : SV) (y0 : Int) (H : M_109z p0 p1 p2 = some y0) (K : Kp) (G : List Ent) (hp0_chans : Slr TyChan K (sv vp0_chans) p0.chans) (hp0_waiting : Slr TyWaiter K (sv vp0_waiting) p0.waiting) (hp2_cases : Slr TyCase K (sv vp2_cases) p2.cases) (hp2_draws : Slr Ty.i64 K (sv vp2_draws) p2.draws) :
  Fc Try.prog 18 #[(.agg (Desk.cells p0 vp0_chans vp0_waiting).toArray), (.int .i64 p1), (.agg (Op.cells p2 vp2_cases vp2_draws).toArray)] K (G) (fun v K' G' => v = (.int .i64 y0) ∧ G = G') := by
 refine Fc_body Try.func18 rfl Try.ntmps18 Try.results18 rfl ?_
 unfold M_109z at H
 refine Cw_seq ?_
 refine Cw_region ?_
 refine Ow_cons rfl (OpW_box (cs := (Desk.cells p0 vp0_chans vp0_waiting)) rfl rfl rfl (fun b74 => ?_))
 refine Ow_cons rfl (OpW_box (cs := (Op.cells p2 vp2_cases vp2_draws)) rfl rfl rfl (fun b75 => ?_))
 refine Ow_q rfl rfl rfl (Qt_assign rfl) ?_
 refine Ow_nil ?_
 refine Cw_join (fun env' K' G' => [] = env' ∧ G = G' ∧ M_156z = some y0) ?_ ?_
 ·skip
  refine Cw_seq ?_
  refine Cw_region ?_
  refine Ow_q rfl rfl rfl (Qt_loadA (m := 7) (cs := (Op.cells p2 vp2_cases vp2_draws)) rfl rfl rfl rfl ⟨rfl, Rdc.blk (.head _) rfl⟩) ?_
  obtain ⟨x145, hx146, H⟩ := bnd H
  refine Ow_cons rfl (OpW_call rfl Try.call43 rfl rfl (c_M_104z p2 vp2_cases vp2_draws x145 hx146 _ _ hp2_cases hp2_draws) ?_)
  rintro _ K149 _ hK150 ⟨v147, rs148, rfl, rfl, hs151⟩
  refine Ow_q rfl rfl rfl (Q_lenR (T := Ty.i64) (.head _) hs151 rfl rfl rfl) ?_
  refine Ow_q rfl rfl rfl (Qt_move rfl) ?_
  refine Ow_nil ?_
  refine Cw_block ?_
  refine Cw_loopM (fun n214 env' K' G' => ∃ (i213 : Int), [(1, (.int .i64 p1)), (3, (.pointer (some ((⟨b74, 0, none⟩ : Addr).add 0)))), (5, (.pointer (some ((⟨b75, 0, none⟩ : Addr).add 0)))), (10, (sv v147)), (11, (.int .i64 (x145.length : Int))), (12, (.int .i64 i213))] = env' ∧ (.blk b75 41 (Op.cells p2 vp2_cases vp2_draws)) :: (.blk b74 34 (Desk.cells p0 vp0_chans vp0_waiting)) :: (.row (sv v147) 3 1 rs148.flatten) :: G = G' ∧ lp1 (M_108z p1 x145 p2 p0) n214 i213 = some y0) BIG ?_ ?_
  ·skip
   refine Pu2 ?_
   refine Pu2 ?_
   refine Shift.done ?_
   exact ⟨_, by exact ⟨rfl, rfl, rfl, rfl, rfl, rfl, trivial⟩, 0, rfl, rfl, H⟩
  rintro n214 _ K215 _ hK216 ⟨i213, rfl, rfl, H⟩
  obtain ⟨m217, k218, rfl, hkk219, H⟩ := lps1 H
  unfold M_108z at H
  refine Cw_seq ?_
  refine Cw_region ?_
  refine Ow_q rfl rfl rfl (Qt_cmp rfl rfl rfl) ?_
  refine Ow_nil ?_
  refine Cw_seq ?_
  refine Cw_cond rfl ?_ ?_
  ·intro h221
   have h221 := dcd_t (h221)
   have H := ift h221 H
   refine Cw_skip ?_
   refine Cw_seq ?_
   refine Cw_block ?_
   refine Cw_seq ?_
   refine Cw_region ?_
   obtain ⟨x249, hx250, H⟩ := bnd H
   have hs251 := (hs151).mono hK216
   obtain ⟨r252, hq253, hr254⟩ := RowR.at hs251 hx250
   obtain rfl := hr254
   refine Ow_q rfl rfl rfl (Q_ixR (T := Ty.i64) (.tail _ (.tail _ (.head _))) hs251 hq253 (getI_ix hx250).1 rfl rfl rfl rfl rfl) ?_
   refine Ow_q rfl rfl rfl (Qt_load1 (v := (.int .i64 x249)) rfl rfl rfl (Rd_row (T := Ty.i64) (.tail _ (.tail _ (.head _))) hs251 hq253 rfl rfl)) ?_
   refine Ow_q rfl rfl rfl (Qt_assign rfl) ?_
   refine Ow_nil ?_
   refine Cw_seq ?_
   obtain ⟨x255, hx256, H⟩ := bnd H
   obtain ⟨x261, hx262, H⟩ := bnd H
   refine Cw_region_any [.blk b75 41 (Op.cells p2 vp2_cases vp2_draws), .blk b74 34 (Desk.cells p0 vp0_chans vp0_waiting), .row (sv v147) 3 1 rs148.flatten] rfl (Inc.cons (.head _) (Inc.cons (.tail _ (.head _)) (Inc.cons (.tail _ (.tail _ (.head _))) Inc.nil))) ?_
   refine Awq 0 rfl (by kernel_rfl) rfl rfl rfl (Qt_loadA (m := 3) (cs := (Desk.cells p0 vp0_chans vp0_waiting)) rfl rfl rfl rfl ⟨rfl, Rdc.blk (.tail _ (.head _)) rfl⟩) ?_
   refine Awq 1 rfl (by kernel_rfl) rfl rfl rfl (Qt_move rfl) ?_
   refine Awq 2 rfl (by kernel_rfl) rfl rfl rfl (Qt_fieldAddr (m := 5) rfl rfl rfl rfl rfl) ?_
   refine Awq 3 rfl (by kernel_rfl) rfl rfl rfl (Qt_load1 (v := (sv vp2_cases)) rfl rfl rfl (Rdc.blk (.head _) rfl)) ?_
   refine Awq 4 rfl (by kernel_rfl) rfl rfl rfl (Qt_move rfl) ?_
   have hs267 := ((hp2_cases).mono hK150).mono hK216
   obtain ⟨r268, hr269, hk270⟩ := Slr.at hs267 hx256
   obtain rfl := hr269
   refine Awq 5 rfl (by kernel_rfl) rfl rfl rfl (Q_ix (T := TyCase) hs267 hx256 rfl rfl rfl rfl rfl) ?_
   refine Awq 6 rfl (by kernel_rfl) rfl rfl rfl (Qt_loadA (m := 3) (cs := (Case.cells x255)) rfl rfl rfl rfl ⟨rfl, Rdc.k hk270 rfl⟩) ?_
   refine Aw_one 7 (by kernel_rfl) (Ax_mk rfl rfl ?_)
   have hs271 := ((hp0_chans).mono hK150).mono hK216
   have hs272 := ((hp0_waiting).mono hK150).mono hK216
   refine OpW_call rfl Try.call16 rfl rfl (c_M_63z p0 vp0_chans vp0_waiting p1 x255 x261 hx262 _ _ hs271 hs272) ?_
   rintro _ K273 _ hK274 ⟨rfl, rfl⟩
   refine ⟨(Inc.cons (.head _) (Inc.cons (.tail _ (.head _)) (Inc.cons (.tail _ (.tail _ (.head _))) Inc.nil))), ?_⟩
   refine Aw_done (by kernel_rfl) ?_
   refine Cw_cond rfl ?_ ?_
   ·intro h275
    have H := ift h275 H
    refine Cw_seq ?_
    refine Cw_region ?_
    refine Ow_q rfl rfl rfl (Qt_move rfl) ?_
    refine Ow_q rfl rfl rfl (Qt_assign rfl) ?_
    refine Ow_nil ?_
    refine Cw_ret ?_
    obtain ey0 := inj1 H
    subst y0
    refine ⟨(by first | exact .inl rfl | exact .inr rfl), [(.int .i64 x249)], ⟨(.int .i64 x249), _, rfl, rfl, rfl⟩, ?_⟩
    refine Re0 ?_
    refine Re0 ?_
    refine Re0 ?_
    refine Shift.done ?_
    exact ⟨rfl, rfl⟩
   ·intro h275
    have H := iff_ (btf h275) H
    refine Cw_skip ?_
    refine Cw_region ?_
    refine Ow_q rfl rfl rfl (Qt_arith (e := wI (i213 + 1)) rfl rfl rfl rfl) ?_
    refine Ow_q rfl rfl rfl (Qt_move rfl) ?_
    refine Ow_nil ?_
    refine Pu2 ?_
    refine Pu2 ?_
    refine Pu2 ?_
    refine Shift.done ?_
    exact ⟨_, by exact ⟨rfl, rfl, rfl, rfl, rfl, rfl, trivial⟩, _, Nat.lt_succ_self _, (wI (i213 + 1)), rfl, rfl, (hkk219 ▸ H)⟩
  ·intro h221
   have h221 := dcd_f (h221)
   have H := iff_ h221 H
   refine Cw_exit ?_
   refine Re0 ?_
   refine Re0 ?_
   refine Re0 ?_
   refine Shift.done ?_
   exact ⟨[], trivial, rfl, rfl, H⟩
 rintro _ K276 _ hK277 ⟨rfl, rfl, H⟩
 unfold M_156z at H
 refine Cw_seq ?_
 refine Cw_region ?_
 refine Ow_q rfl rfl rfl (Qt_assign rfl) ?_
 refine Ow_nil ?_
 refine Cw_ret ?_
 obtain ey0 := inj1 H
 subst y0
 refine ⟨(by first | exact .inl rfl | exact .inr rfl), [(.int .i64 (-1))], ⟨(.int .i64 (-1)), _, rfl, rfl, rfl⟩, ?_⟩
 refine Shift.done ?_
 exact ⟨rfl, rfl⟩

set_option maxHeartbeats 1000000 in
theorem c_M_110z (p0 : Desk) (vp0_chans : SV) (rsp0_chans : List (List Value)) (vp0_waiting : SV) (rsp0_waiting : List (List Value)) (p1 : Int) (y0 : Bool) (H : M_110z p0 p1 = some y0) (K : Kp) (G : List Ent) (hp0_chans : RowR TyChan K rsp0_chans p0.chans) (hp0_waiting : RowR TyWaiter K rsp0_waiting p0.waiting) :
  Fc Try.prog 45 #[(.agg (Desk.cells p0 vp0_chans vp0_waiting).toArray), (.int .i64 p1)] K ((.row (sv vp0_chans) 71 3 rsp0_chans.flatten) :: (.row (sv vp0_waiting) 52 8 rsp0_waiting.flatten) :: G) (fun v K' G' => v = (.bool y0) ∧ K = K' ∧ (.row (sv vp0_chans) 71 3 rsp0_chans.flatten) :: (.row (sv vp0_waiting) 52 8 rsp0_waiting.flatten) :: G = G') := by
 refine Fc_body Try.func45 rfl Try.ntmps45 Try.results45 rfl ?_
 unfold M_110z at H
 refine Cw_seq ?_
 refine Cw_region ?_
 refine Ow_cons rfl (OpW_box (cs := (Desk.cells p0 vp0_chans vp0_waiting)) rfl rfl rfl (fun b3 => ?_))
 refine Ow_q rfl rfl rfl (Qt_assign rfl) ?_
 refine Ow_nil ?_
 refine Cw_seq ?_
 refine Cw_region ?_
 refine Ow_q rfl rfl rfl (Qt_move rfl) ?_
 refine Ow_q rfl rfl rfl (Qt_cmp rfl rfl rfl) ?_
 refine Ow_q rfl rfl rfl (Qt_move rfl) ?_
 refine Ow_caseG rfl rfl rfl ?_ ?_
 ·intro h5
  have h5 := dcd_t (h5)
  have H := ift h5 H
  refine Ow_qw rfl rfl rfl rfl rfl rfl (Qt_move rfl) ?_
  refine Ow_qw rfl rfl rfl rfl rfl rfl (Qt_fieldAddr (m := 0) rfl rfl rfl rfl rfl) ?_
  refine Ow_qw rfl rfl rfl rfl rfl rfl (Qt_load1 (v := (sv vp0_chans)) rfl rfl rfl (Rdc.blk (.head _) rfl)) ?_
  refine Ow_qw rfl rfl rfl rfl rfl rfl (Q_lenR (T := TyChan) (.tail _ (.head _)) hp0_chans rfl rfl rfl) ?_
  refine Ow_qw rfl rfl rfl rfl rfl rfl (Qt_cmp rfl rfl rfl) ?_
  refine Ow_q rfl rfl rfl (Qt_pick_t rfl rfl) ?_
  refine Ow_q rfl rfl rfl (Qt_assign rfl) ?_
  refine Ow_nil ?_
  refine Cw_ret ?_
  obtain ey0 := inj1 H
  subst y0
  refine ⟨(by first | exact .inl rfl | exact .inr rfl), [(.bool (dcd (p1 < (p0.chans.length : Int))))], ⟨(.bool (dcd (p1 < (p0.chans.length : Int)))), _, rfl, rfl, rfl⟩, ?_⟩
  refine Pu2 ?_
  refine Pu2 ?_
  refine Re2 ?_
  refine Shift.done ?_
  exact ⟨rfl, rfl, rfl⟩
 ·intro h5
  have h5 := dcd_f (h5)
  have H := iff_ h5 H
  refine Ow_pass rfl rfl rfl rfl rfl rfl rfl ?_
  refine Ow_pass rfl rfl rfl rfl rfl rfl rfl ?_
  refine Ow_pass rfl rfl rfl rfl rfl rfl rfl ?_
  refine Ow_pass rfl rfl rfl rfl rfl rfl rfl ?_
  refine Ow_pass rfl rfl rfl rfl rfl rfl rfl ?_
  refine Ow_q rfl rfl rfl (Qt_pick_f rfl rfl) ?_
  refine Ow_q rfl rfl rfl (Qt_assign rfl) ?_
  refine Ow_nil ?_
  refine Cw_ret ?_
  obtain ey0 := inj1 H
  subst y0
  refine ⟨(by first | exact .inl rfl | exact .inr rfl), [(.bool false)], ⟨(.bool false), _, rfl, rfl, rfl⟩, ?_⟩
  refine Pu2 ?_
  refine Pu2 ?_
  refine Re2 ?_
  refine Shift.done ?_
  exact ⟨rfl, rfl, rfl⟩

set_option maxHeartbeats 1000000 in
theorem c_M_64z (p0 : Desk) (vp0_chans : SV) (rsp0_chans : List (List Value)) (vp0_waiting : SV) (rsp0_waiting : List (List Value)) (p1 : Int) (p2 : Case) (y0 : Int) (H : M_64z p0 p1 p2 = some y0) (K : Kp) (G : List Ent) (hp0_chans : RowR TyChan K rsp0_chans p0.chans) (hp0_waiting : RowR TyWaiter K rsp0_waiting p0.waiting) :
  Fc Try.prog 40 #[(.agg (Desk.cells p0 vp0_chans vp0_waiting).toArray), (.int .i64 p1), (.agg (Case.cells p2).toArray)] K ((.row (sv vp0_chans) 71 3 rsp0_chans.flatten) :: (.row (sv vp0_waiting) 52 8 rsp0_waiting.flatten) :: G) (fun v K' G' => v = (.int .i64 y0) ∧ (.row (sv vp0_chans) 71 3 rsp0_chans.flatten) :: (.row (sv vp0_waiting) 52 8 rsp0_waiting.flatten) :: G = G') := by
 refine Fc_body Try.func40 rfl Try.ntmps40 Try.results40 rfl ?_
 unfold M_64z at H
 refine Cw_seq ?_
 refine Cw_region ?_
 refine Ow_cons rfl (OpW_box (cs := (Desk.cells p0 vp0_chans vp0_waiting)) rfl rfl rfl (fun b11 => ?_))
 refine Ow_cons rfl (OpW_box (cs := [(.int .i64 p1)]) rfl rfl rfl (fun b12 => ?_))
 refine Ow_cons rfl (OpW_box (cs := (Case.cells p2)) rfl rfl rfl (fun b13 => ?_))
 refine Ow_q rfl rfl rfl (Qt_assign rfl) ?_
 refine Ow_nil ?_
 refine Cw_seq ?_
 refine Cw_seq ?_
 refine Cw_region ?_
 refine Ow_q rfl rfl rfl (Qt_loadA (m := 3) (cs := (Desk.cells p0 vp0_chans vp0_waiting)) rfl rfl rfl rfl ⟨rfl, Rdc.blk (.tail _ (.tail _ (.head _))) rfl⟩) ?_
 refine Ow_q rfl rfl rfl (Qt_fieldAddr (m := 1) rfl rfl rfl rfl rfl) ?_
 refine Ow_q rfl rfl rfl (Qt_load1 (v := (.int .i64 p2.channel)) rfl rfl rfl (Rdc.blk (.head _) rfl)) ?_
 obtain ⟨x17, hx18, H⟩ := bnd H
 refine Ow.shift (Pu4 (Shift.done ?_))
 refine Ow.shift (Pu4 (Shift.done ?_))
 refine Ow_cons rfl (OpW_call rfl Try.call45 rfl rfl (c_M_110z p0 vp0_chans rsp0_chans vp0_waiting rsp0_waiting p2.channel x17 hx18 _ _ hp0_chans hp0_waiting) ?_)
 rintro _ _ _ - ⟨rfl, rfl, rfl⟩
 refine Ow_q rfl rfl rfl (Qt_not rfl) ?_
 refine Ow_nil ?_
 refine Cw_cond rfl ?_ ?_
 ·intro h19
  have h19 := nt_t (h19)
  have H := iff_ (btf h19) H
  refine Cw_seq ?_
  refine Cw_region ?_
  refine Ow_q rfl rfl rfl (Qt_assign rfl) ?_
  refine Ow_nil ?_
  refine Cw_ret ?_
  obtain ey0 := inj1 H
  subst y0
  refine ⟨(by first | exact .inl rfl | exact .inr rfl), [(.int .i64 (-1))], ⟨(.int .i64 (-1)), _, rfl, rfl, rfl⟩, ?_⟩
  refine Pu1 ?_
  refine Pu1 ?_
  refine Re2 ?_
  refine Re2 ?_
  refine Re2 ?_
  refine Shift.done ?_
  exact ⟨rfl, rfl⟩
 ·intro h19
  have h19 := nt_f (h19)
  have H := ift h19 H
  refine Cw_skip ?_
  refine Cw_seq ?_
  refine Cw_region ?_
  refine Ow_q rfl rfl rfl (Qt_fieldAddr (m := 1) rfl rfl rfl rfl rfl) ?_
  refine Ow_q rfl rfl rfl (Qt_load1 (v := (sv vp0_waiting)) rfl rfl rfl (Rdc.blk (.tail _ (.tail _ (.tail _ (.tail _ (.head _))))) rfl)) ?_
  refine Ow_q rfl rfl rfl (Qt_makeFunc rfl rfl) ?_
  obtain ⟨x20, hx21, H⟩ := bnd H
  refine Ow.shift (Pu3 (Shift.done ?_))
  refine Ow.shift (Pu3 (Shift.done ?_))
  refine Ow.shift (Pu3 (Shift.done ?_))
  refine Ow_cons rfl (OpW_call rfl Try.call68 rfl rfl (c_M_112z p0.waiting vp0_waiting rsp0_waiting b13 p2 b12 p1 x20 hx21 _ _ hp0_waiting) ?_)
  rintro _ K22 _ hK23 ⟨rfl, rfl⟩
  refine Ow_q rfl rfl rfl (Qt_assign rfl) ?_
  refine Ow_nil ?_
  refine Cw_ret ?_
  obtain ey0 := inj1 H
  subst y0
  refine ⟨(by first | exact .inl rfl | exact .inr rfl), [(.int .i64 x20)], ⟨(.int .i64 x20), _, rfl, rfl, rfl⟩, ?_⟩
  refine Pu2 ?_
  refine Pu3 ?_
  refine Re2 ?_
  refine Re2 ?_
  refine Re2 ?_
  refine Shift.done ?_
  exact ⟨rfl, rfl⟩

set_option maxHeartbeats 1000000 in
theorem c_M_65z (bp0 : Nat) (p0 : Desk_work) (vp0_desk_chans : SV) (rsp0_desk_chans : List (List Value)) (vp0_desk_waiting : SV) (rsp0_desk_waiting : List (List Value)) (vp0_done : SV) (rsp0_done : List (List Value)) (p1 : Int) (p2 : Int) (y0 : Int) (z0_waiting : List Waiter) (z0_done : List Done) (H : M_65z p0 p1 p2 = some (y0, z0_waiting, z0_done)) (K : Kp) (G : List Ent) (hp0_desk_chans : RowR TyChan K rsp0_desk_chans p0.desk.chans) (hp0_desk_waiting : RowR TyWaiter K rsp0_desk_waiting p0.desk.waiting) (hp0_done : RowR TyDone K rsp0_done p0.done) :
  Fc Try.prog 78 #[(.pointer (some ((⟨bp0, 0, none⟩ : Addr).add 0))), (.int .i64 p1), (.int .i64 p2)] K ((.blk bp0 92 (Desk_work.cells p0 vp0_desk_chans vp0_desk_waiting vp0_done)) :: (.row (sv vp0_desk_chans) 71 3 rsp0_desk_chans.flatten) :: (.row (sv vp0_desk_waiting) 52 8 rsp0_desk_waiting.flatten) :: (.row (sv vp0_done) 75 6 rsp0_done.flatten) :: G) (fun v K' G' => ∃ (wz0_waiting : SV) (rswz0_waiting : List (List Value)) (wz0_done : SV) (rswz0_done : List (List Value)), v = (.int .u64 y0) ∧ (.blk bp0 92 (Desk_work.cells (Desk_work.mk (Desk.mk p0.desk.chans z0_waiting p0.desk.tick) z0_done) vp0_desk_chans wz0_waiting wz0_done)) :: (.row (sv wz0_waiting) 52 8 rswz0_waiting.flatten) :: (.row (sv wz0_done) 75 6 rswz0_done.flatten) :: (.row (sv vp0_desk_chans) 71 3 rsp0_desk_chans.flatten) :: G = G' ∧ RowR TyWaiter K' rswz0_waiting z0_waiting ∧ RowR TyDone K' rswz0_done z0_done) := by
 refine Fc_body Try.func78 rfl Try.ntmps78 Try.results78 rfl ?_
 unfold M_65z at H
 refine Cw_seq ?_
 refine Cw_region ?_
 refine Ow_q rfl rfl rfl (Qt_assign rfl) ?_
 refine Ow_nil ?_
 refine Cw_seq ?_
 refine Cw_region ?_
 refine Ow_q rfl rfl rfl (Qt_move rfl) ?_
 refine Ow_q rfl rfl rfl (Qt_nilCheck rfl) ?_
 refine Ow_q rfl rfl rfl (Qt_fieldAddr (m := 0) rfl rfl rfl rfl rfl) ?_
 refine Ow_q rfl rfl rfl (Qt_fieldAddr (m := 1) rfl rfl rfl rfl rfl) ?_
 refine Ow_q rfl rfl rfl (Qt_load1 (v := (sv vp0_desk_waiting)) rfl rfl rfl (Rdc.blk (.head _) rfl)) ?_
 refine Ow_q rfl rfl rfl (Qt_move rfl) ?_
 obtain ⟨x43, hx44, H⟩ := bnd H
 obtain ⟨r45, hq46, hr47⟩ := RowR.at hp0_desk_waiting hx44
 obtain ⟨v48, v49, rfl, hs50, hs51⟩ := hr47
 refine Ow_q rfl rfl rfl (Q_ixR (T := TyWaiter) (.tail _ (.tail _ (.head _))) hp0_desk_waiting hq46 (getI_ix hx44).1 rfl rfl rfl rfl rfl) ?_
 refine Ow_q rfl rfl rfl (Qt_fieldAddr (m := 1) rfl rfl rfl rfl rfl) ?_
 refine Ow_q rfl rfl rfl (Qt_loadA (m := 7) (cs := (Op.cells x43.op v48 v49)) rfl rfl rfl rfl ⟨rfl, Rd_row (T := TyWaiter) (.tail _ (.tail _ (.head _))) hp0_desk_waiting hq46 rfl rfl⟩) ?_
 refine Ow_cons rfl (OpW_alloc (cs := (Op.cells (Op.mk 0 0 0 0 0 [] []) nilS nilS)) rfl rfl rfl rfl (fun b52 => ?_))
 refine Ow_cons rfl (OpW_store (vs := (Op.cells x43.op v48 v49)) (all' := (Op.cells x43.op v48 v49)) rfl rfl rfl rfl rfl .here rfl rfl rfl ?_)
 refine Ow_nil ?_
 refine Cw_seq ?_
 refine Cw_region ?_
 refine Ow_q rfl rfl rfl (Qt_loadA (m := 7) (cs := (Op.cells x43.op v48 v49)) rfl rfl rfl rfl ⟨rfl, Rdc.blk (.head _) rfl⟩) ?_
 refine Ow_q rfl rfl rfl (Qt_move rfl) ?_
 obtain ⟨x53, x54, hx55, H⟩ := bnd2 H
 refine Ow_cons rfl (OpW_call rfl Try.call70 rfl rfl (c_M_17z x43.op v48 v49 p2 true x53 x54 hx55 _ _ hs50 hs51) ?_)
 rintro _ K56 _ hK57 ⟨rfl, rfl⟩
 refine Ow_q rfl rfl rfl (Qt_move rfl) ?_
 refine Ow_q rfl rfl rfl (Qt_extract rfl rfl) ?_
 refine Ow_q rfl rfl rfl (Qt_extract rfl rfl) ?_
 refine Ow_q rfl rfl rfl (Qt_assign rfl) ?_
 refine Ow_q rfl rfl rfl (Qt_assign rfl) ?_
 refine Ow_nil ?_
 refine Cw_seq ?_
 refine Cw_region ?_
 refine Ow_q rfl rfl rfl (Qt_loadA (m := 7) (cs := (Op.cells x43.op v48 v49)) rfl rfl rfl rfl ⟨rfl, Rdc.blk (.head _) rfl⟩) ?_
 obtain ⟨x58, hx59, H⟩ := bnd H
 have hs60 := (hs50).mono hK57
 have hs61 := (hs51).mono hK57
 refine Ow_cons rfl (OpW_call rfl Try.call49 rfl rfl (c_M_30z x43.op v48 v49 x58 hx59 _ _ hs60 hs61) ?_)
 rintro _ K63 _ hK64 ⟨v62, rfl, rfl, hs65⟩
 refine Ow_q rfl rfl rfl (Qt_move rfl) ?_
 obtain ⟨x66, hx67, H⟩ := bnd H
 obtain ⟨r68, hr69, hk70⟩ := Slr.at hs65 hx67
 obtain rfl := hr69
 refine Ow_q rfl rfl rfl (Q_ix (T := TyCase) hs65 hx67 rfl rfl rfl rfl rfl) ?_
 refine Ow_q rfl rfl rfl (Qt_fieldAddr (m := 2) rfl rfl rfl rfl rfl) ?_
 refine Ow_q rfl rfl rfl (Qt_load1 (v := (.int .u64 x66.value)) rfl rfl rfl (Rdc.k hk70 rfl)) ?_
 refine Ow_q rfl rfl rfl (Qt_assign rfl) ?_
 refine Ow_nil ?_
 refine Cw_seq ?_
 refine Cw_region ?_
 refine Ow_q rfl rfl rfl (Qt_move rfl) ?_
 refine Ow_q rfl rfl rfl (Qt_move rfl) ?_
 refine Ow_q rfl rfl rfl (Qt_move rfl) ?_
 refine Ow_q rfl rfl rfl (Qt_build (cs := (Result.cells (Result.mk 1 0 0 false 0))) rfl rfl rfl rfl rfl rfl) ?_
 obtain ⟨x71, x72, hx73, H⟩ := bnd2 H
 refine Ow.shift (Pu4 (Shift.done ?_))
 refine Ow.shift (Pu4 (Shift.done ?_))
 refine Ow.shift (Pu4 (Shift.done ?_))
 refine Ow.shift (Pu4 (Shift.done ?_))
 have hs74 := ((hp0_desk_chans).mono hK57).mono hK64
 have hs75 := ((hp0_desk_waiting).mono hK57).mono hK64
 have hs76 := ((hp0_done).mono hK57).mono hK64
 refine Ow_cons rfl (OpW_call rfl Try.call76 rfl rfl (c_M_32z bp0 p0 vp0_desk_chans rsp0_desk_chans vp0_desk_waiting rsp0_desk_waiting vp0_done rsp0_done p1 x53 (Result.mk 1 0 0 false 0) x71 x72 hx73 _ _ hs74 hs75 hs76) ?_)
 rintro _ K81 _ hK82 ⟨v77, rs78, v79, rs80, rfl, rfl, hs83, hs84⟩
 refine Ow_nil ?_
 refine Cw_seq ?_
 refine Cw_region ?_
 refine Ow_q rfl rfl rfl (Qt_move rfl) ?_
 refine Ow_q rfl rfl rfl (Qt_assign rfl) ?_
 refine Ow_nil ?_
 refine Cw_ret ?_
 obtain ⟨ey0, ez0_waiting, ez0_done⟩ := inj3 H
 subst y0 z0_waiting z0_done
 refine ⟨(by first | exact .inl rfl | exact .inr rfl), [(.int .u64 x66.value)], ⟨(.int .u64 x66.value), _, rfl, rfl, rfl⟩, ?_⟩
 refine Pu3 ?_
 refine Pu3 ?_
 refine Pu3 ?_
 refine Pu3 ?_
 refine Re4 ?_
 refine Shift.done ?_
 exact ⟨v77, rs78, v79, rs80, rfl, rfl, hs83, hs84⟩

set_option maxHeartbeats 1000000 in
theorem c_M_21z (bp0 : Nat) (p0 : Desk_work) (vp0_desk_chans : SV) (rsp0_desk_chans : List (List Value)) (vp0_desk_waiting : SV) (rsp0_desk_waiting : List (List Value)) (vp0_done : SV) (rsp0_done : List (List Value)) (p1 : Int) (p2 : Case) (y0 : Result) (z0_chans : List Chan) (z0_waiting : List Waiter) (z0_done : List Done) (H : M_21z p0 p1 p2 = some (y0, z0_chans, z0_waiting, z0_done)) (K : Kp) (G : List Ent) (hp0_desk_chans : RowR TyChan K rsp0_desk_chans p0.desk.chans) (hp0_desk_waiting : RowR TyWaiter K rsp0_desk_waiting p0.desk.waiting) (hp0_done : RowR TyDone K rsp0_done p0.done) :
  Fc Try.prog 48 #[(.pointer (some ((⟨bp0, 0, none⟩ : Addr).add 0))), (.int .i64 p1), (.agg (Case.cells p2).toArray)] K ((.blk bp0 92 (Desk_work.cells p0 vp0_desk_chans vp0_desk_waiting vp0_done)) :: (.row (sv vp0_desk_chans) 71 3 rsp0_desk_chans.flatten) :: (.row (sv vp0_desk_waiting) 52 8 rsp0_desk_waiting.flatten) :: (.row (sv vp0_done) 75 6 rsp0_done.flatten) :: G) (fun v K' G' => ∃ (wz0_chans : SV) (rswz0_chans : List (List Value)) (wz0_waiting : SV) (rswz0_waiting : List (List Value)) (wz0_done : SV) (rswz0_done : List (List Value)), v = (.agg (Result.cells y0).toArray) ∧ (.blk bp0 92 (Desk_work.cells (Desk_work.mk (Desk.mk z0_chans z0_waiting p0.desk.tick) z0_done) wz0_chans wz0_waiting wz0_done)) :: (.row (sv wz0_chans) 71 3 rswz0_chans.flatten) :: (.row (sv wz0_waiting) 52 8 rswz0_waiting.flatten) :: (.row (sv wz0_done) 75 6 rswz0_done.flatten) :: G = G' ∧ RowR TyChan K' rswz0_chans z0_chans ∧ RowR TyWaiter K' rswz0_waiting z0_waiting ∧ RowR TyDone K' rswz0_done z0_done) := by
 refine Fc_body Try.func48 rfl Try.ntmps48 Try.results48 rfl ?_
 unfold M_21z at H
 refine Cw_seq ?_
 refine Cw_region ?_
 refine Ow_cons rfl (OpW_box (cs := (Case.cells p2)) rfl rfl rfl (fun b269 => ?_))
 refine Ow_cons rfl (OpW_alloc (cs := (Result.cells (Result.mk 0 0 0 false 0))) rfl rfl rfl rfl (fun b270 => ?_))
 refine Ow_nil ?_
 refine Cw_seq ?_
 obtain ⟨x271, hx272, H⟩ := bnd H
 refine Cw_region_any [.blk b270 73 (Result.cells (Result.mk 0 0 0 false 0)), .blk b269 45 (Case.cells p2), .blk bp0 92 (Desk_work.cells p0 vp0_desk_chans vp0_desk_waiting vp0_done), .row (sv vp0_desk_chans) 71 3 rsp0_desk_chans.flatten, .row (sv vp0_desk_waiting) 52 8 rsp0_desk_waiting.flatten, .row (sv vp0_done) 75 6 rsp0_done.flatten] rfl (Inc.cons (.head _) (Inc.cons (.tail _ (.head _)) (Inc.cons (.tail _ (.tail _ (.head _))) (Inc.cons (.tail _ (.tail _ (.tail _ (.head _)))) (Inc.cons (.tail _ (.tail _ (.tail _ (.tail _ (.head _))))) (Inc.cons (.tail _ (.tail _ (.tail _ (.tail _ (.tail _ (.head _)))))) Inc.nil)))))) ?_
 refine Awq 0 rfl (by kernel_rfl) rfl rfl rfl (Qt_move rfl) ?_
 refine Awq 1 rfl (by kernel_rfl) rfl rfl rfl (Qt_nilCheck rfl) ?_
 refine Awq 2 rfl (by kernel_rfl) rfl rfl rfl (Qt_fieldAddr (m := 0) rfl rfl rfl rfl rfl) ?_
 refine Awq 3 rfl (by kernel_rfl) rfl rfl rfl (Qt_fieldAddr (m := 0) rfl rfl rfl rfl rfl) ?_
 refine Awq 4 rfl (by kernel_rfl) rfl rfl rfl (Qt_load1 (v := (sv vp0_desk_chans)) rfl rfl rfl (Rdc.blk (.tail _ (.tail _ (.head _))) rfl)) ?_
 refine Awq 5 rfl (by kernel_rfl) rfl rfl rfl (Qt_fieldAddr (m := 1) rfl rfl rfl rfl rfl) ?_
 refine Awq 6 rfl (by kernel_rfl) rfl rfl rfl (Qt_load1 (v := (.int .i64 p2.channel)) rfl rfl rfl (Rdc.blk (.tail _ (.head _)) rfl)) ?_
 obtain ⟨r278, hq279, hr280⟩ := RowR.at hp0_desk_chans hx272
 obtain ⟨v281, rfl, hs282⟩ := hr280
 refine Awq 7 rfl (by kernel_rfl) rfl rfl rfl (Q_ixR (T := TyChan) (.tail _ (.tail _ (.tail _ (.head _)))) hp0_desk_chans hq279 (getI_ix hx272).1 rfl rfl rfl rfl rfl) ?_
 refine Awq 8 rfl (by kernel_rfl) rfl rfl rfl (Qt_assign rfl) ?_
 refine Aw_done (by kernel_rfl) ?_
 refine Cw_seq ?_
 obtain ⟨x283, hx284, H⟩ := bnd H
 refine Cw_region_any [.blk b270 73 (Result.cells (Result.mk 0 0 0 false 0)), .blk b269 45 (Case.cells p2), .blk bp0 92 (Desk_work.cells p0 vp0_desk_chans vp0_desk_waiting vp0_done), .row (sv vp0_desk_chans) 71 3 rsp0_desk_chans.flatten, .row (sv vp0_desk_waiting) 52 8 rsp0_desk_waiting.flatten, .row (sv vp0_done) 75 6 rsp0_done.flatten] rfl (Inc.cons (.head _) (Inc.cons (.tail _ (.head _)) (Inc.cons (.tail _ (.tail _ (.head _))) (Inc.cons (.tail _ (.tail _ (.tail _ (.head _)))) (Inc.cons (.tail _ (.tail _ (.tail _ (.tail _ (.head _))))) (Inc.cons (.tail _ (.tail _ (.tail _ (.tail _ (.tail _ (.head _)))))) Inc.nil)))))) ?_
 refine Awq 0 rfl (by kernel_rfl) rfl rfl rfl (Qt_move rfl) ?_
 refine Awq 1 rfl (by kernel_rfl) rfl rfl rfl (Qt_nilCheck rfl) ?_
 refine Awq 2 rfl (by kernel_rfl) rfl rfl rfl (Qt_fieldAddr (m := 0) rfl rfl rfl rfl rfl) ?_
 refine Awq 3 rfl (by kernel_rfl) rfl rfl rfl (Qt_loadA (m := 3) (cs := (Desk.cells p0.desk vp0_desk_chans vp0_desk_waiting)) rfl rfl rfl rfl ⟨rfl, Rdc.blk (.tail _ (.tail _ (.head _))) rfl⟩) ?_
 refine Awq 4 rfl (by kernel_rfl) rfl rfl rfl (Qt_move rfl) ?_
 refine Awq 5 rfl (by kernel_rfl) rfl rfl rfl (Qt_loadA (m := 3) (cs := (Case.cells p2)) rfl rfl rfl rfl ⟨rfl, Rdc.blk (.tail _ (.head _)) rfl⟩) ?_
 refine Aw_one 6 (by kernel_rfl) (Ax_mk rfl rfl ?_)
 refine OpW.shift (Pu4 (Shift.done ?_))
 refine OpW.shift (Pu4 (Shift.done ?_))
 refine OpW_call rfl Try.call40 rfl rfl (c_M_64z p0.desk vp0_desk_chans rsp0_desk_chans vp0_desk_waiting rsp0_desk_waiting p1 p2 x283 hx284 _ _ hp0_desk_chans hp0_desk_waiting) ?_
 rintro _ K287 _ hK288 ⟨rfl, rfl⟩
 refine ⟨(Inc.cons (.tail _ (.tail _ (.head _))) (Inc.cons (.tail _ (.tail _ (.tail _ (.head _)))) (Inc.cons (.tail _ (.tail _ (.tail _ (.tail _ (.head _))))) (Inc.cons (.head _) (Inc.cons (.tail _ (.head _)) (Inc.cons (.tail _ (.tail _ (.tail _ (.tail _ (.tail _ (.head _)))))) Inc.nil)))))), ?_⟩
 refine Awq 7 rfl (by kernel_rfl) rfl rfl rfl (Qt_assign rfl) ?_
 refine Aw_done (by kernel_rfl) ?_
 refine Cw_seq ?_
 refine Cw_block ?_
 refine Cw_join (fun env' K' G' => ∃ (t539 : Bool), [(0, (.pointer (some ((⟨bp0, 0, none⟩ : Addr).add 0)))), (5, (.pointer (some ((⟨b269, 0, none⟩ : Addr).add 0)))), (6, (.pointer (some ((⟨b270, 0, none⟩ : Addr).add 0)))), (7, (.pointer (some ((elA (sv vp0_desk_chans) p2.channel.toNat 3).add 0)))), (8, (.int .i64 x283)), (27, (.bool t539))] = env' ∧ K287 = K' ∧ (.blk bp0 92 (Desk_work.cells p0 vp0_desk_chans vp0_desk_waiting vp0_done)) :: (.blk b270 73 (Result.cells (Result.mk 0 0 0 false 0))) :: (.blk b269 45 (Case.cells p2)) :: (.row (sv vp0_desk_chans) 71 3 rsp0_desk_chans.flatten) :: (.row (sv vp0_desk_waiting) 52 8 rsp0_desk_waiting.flatten) :: (.row (sv vp0_done) 75 6 rsp0_done.flatten) :: G = G' ∧ M_3z x271 p2 x283 p0 t539 = some (y0, z0_chans, z0_waiting, z0_done)) ?_ ?_
 ·skip
  refine Cw_region ?_
  refine Ow_q rfl rfl rfl (Qt_fieldAddr (m := 0) rfl rfl rfl rfl rfl) ?_
  refine Ow_q rfl rfl rfl (Qt_load1 (v := (.bool p2.send)) rfl rfl rfl (Rdc.blk (.tail _ (.tail _ (.tail _ (.head _)))) rfl)) ?_
  refine Ow_q rfl rfl rfl (Qt_move rfl) ?_
  refine Ow_caseG rfl rfl rfl ?_ ?_
  ·intro h540
   have H := ift h540 H
   refine Ow_qw rfl rfl rfl rfl rfl rfl (Qt_move rfl) ?_
   refine Ow_qw rfl rfl rfl rfl rfl rfl (Qt_nilCheck rfl) ?_
   refine Ow_qw rfl rfl rfl rfl rfl rfl (Qt_fieldAddr (m := 2) rfl rfl rfl rfl rfl) ?_
   have hs541 := (hp0_desk_chans).mono hK288
   refine Ow_qw rfl rfl rfl rfl rfl rfl (Qt_load1 (v := (.bool x271.closed)) rfl rfl rfl (Rd_row (T := TyChan) (.head _) hs541 hq279 rfl rfl)) ?_
   refine Ow_q rfl rfl rfl (Qt_pick_t rfl rfl) ?_
   refine Ow_q rfl rfl rfl (Qt_assign rfl) ?_
   refine Ow_nil ?_
   refine Pu5 ?_
   refine Pu2 ?_
   refine Pu2 ?_
   refine Pu4 ?_
   refine Pu4 ?_
   refine Pu5 ?_
   refine Shift.done ?_
   exact ⟨_, by exact ⟨rfl, rfl, rfl, rfl, rfl, rfl, trivial⟩, x271.closed, rfl, rfl, rfl, H⟩
  ·intro h540
   have H := iff_ (btf h540) H
   refine Ow_pass rfl rfl rfl rfl rfl rfl rfl ?_
   refine Ow_pass rfl rfl rfl rfl rfl rfl rfl ?_
   refine Ow_pass rfl rfl rfl rfl rfl rfl rfl ?_
   refine Ow_pass rfl rfl rfl rfl rfl rfl rfl ?_
   refine Ow_q rfl rfl rfl (Qt_pick_f rfl rfl) ?_
   refine Ow_q rfl rfl rfl (Qt_assign rfl) ?_
   refine Ow_nil ?_
   refine Pu5 ?_
   refine Pu2 ?_
   refine Pu2 ?_
   refine Pu4 ?_
   refine Pu4 ?_
   refine Pu5 ?_
   refine Shift.done ?_
   exact ⟨_, by exact ⟨rfl, rfl, rfl, rfl, rfl, rfl, trivial⟩, false, rfl, rfl, rfl, H⟩
 rintro _ _ _ - ⟨t539, rfl, rfl, rfl, H⟩
 unfold M_3z at H
 refine Cw_cond rfl ?_ ?_
 ·intro h542
  have H := ift h542 H
  refine Cw_seq ?_
  refine Cw_region ?_
  refine Ow_q rfl rfl rfl (Qt_build (cs := (Result.cells (Result.mk 5 0 0 false 0))) rfl rfl rfl rfl rfl rfl) ?_
  refine Ow_cons rfl (OpW_store (vs := (Result.cells (Result.mk 5 0 0 false 0))) (all' := (Result.cells (Result.mk 5 0 0 false 0))) rfl rfl rfl rfl rfl (.there .here) rfl rfl rfl ?_)
  refine Ow_nil ?_
  refine Cw_ret ?_
  obtain ⟨ey0, ez0_chans, ez0_waiting, ez0_done⟩ := inj4 H
  subst y0 z0_chans z0_waiting z0_done
  refine ⟨(by first | exact .inl rfl | exact .inr rfl), [(.agg (Result.cells (Result.mk 5 0 0 false 0)).toArray)], ⟨(.agg (Result.cells (Result.mk 5 0 0 false 0)).toArray), _, rfl, ⟨_, 5, (Result.cells (Result.mk 5 0 0 false 0)), rfl, rfl, rfl, rfl, ⟨rfl, Rdc.blk (.tail _ (.head _)) rfl⟩, rfl⟩, rfl⟩, ?_⟩
  refine Pu5 ?_
  refine Pu5 ?_
  refine Pu5 ?_
  refine Pu3 ?_
  refine Re4 ?_
  refine Re4 ?_
  have hs543 := (hp0_desk_chans).mono hK288
  have hs544 := (hp0_desk_waiting).mono hK288
  have hs545 := (hp0_done).mono hK288
  refine Shift.done ?_
  exact ⟨vp0_desk_chans, rsp0_desk_chans, vp0_desk_waiting, rsp0_desk_waiting, vp0_done, rsp0_done, rfl, rfl, hs543, hs544, hs545⟩
 ·intro h542
  have H := iff_ (btf h542) H
  refine Cw_join (fun env' K' G' => ∃ (t547 : Bool), [(0, (.pointer (some ((⟨bp0, 0, none⟩ : Addr).add 0)))), (5, (.pointer (some ((⟨b269, 0, none⟩ : Addr).add 0)))), (6, (.pointer (some ((⟨b270, 0, none⟩ : Addr).add 0)))), (7, (.pointer (some ((elA (sv vp0_desk_chans) p2.channel.toNat 3).add 0)))), (8, (.int .i64 x283)), (37, (.bool t547))] = env' ∧ K287 = K' ∧ (.blk bp0 92 (Desk_work.cells p0 vp0_desk_chans vp0_desk_waiting vp0_done)) :: (.blk b270 73 (Result.cells (Result.mk 0 0 0 false 0))) :: (.blk b269 45 (Case.cells p2)) :: (.row (sv vp0_desk_chans) 71 3 rsp0_desk_chans.flatten) :: (.row (sv vp0_desk_waiting) 52 8 rsp0_desk_waiting.flatten) :: (.row (sv vp0_done) 75 6 rsp0_done.flatten) :: G = G' ∧ M_20z x271 p2 x283 p0 t547 = some (y0, z0_chans, z0_waiting, z0_done)) ?_ ?_
  ·skip
   refine Cw_region ?_
   refine Ow_q rfl rfl rfl (Qt_fieldAddr (m := 0) rfl rfl rfl rfl rfl) ?_
   refine Ow_q rfl rfl rfl (Qt_load1 (v := (.bool p2.send)) rfl rfl rfl (Rdc.blk (.tail _ (.tail _ (.head _))) rfl)) ?_
   refine Ow_q rfl rfl rfl (Qt_move rfl) ?_
   refine Ow_caseG rfl rfl rfl ?_ ?_
   ·intro h548
    have H := ift h548 H
    refine Ow_qw rfl rfl rfl rfl rfl rfl (Qt_move rfl) ?_
    refine Ow_qw rfl rfl rfl rfl rfl rfl (Qt_cmp rfl rfl rfl) ?_
    refine Ow_q rfl rfl rfl (Qt_pick_t rfl rfl) ?_
    refine Ow_q rfl rfl rfl (Qt_assign rfl) ?_
    refine Ow_nil ?_
    refine Pu5 ?_
    refine Pu5 ?_
    refine Pu5 ?_
    refine Pu5 ?_
    refine Pu5 ?_
    refine Pu5 ?_
    refine Shift.done ?_
    exact ⟨_, by exact ⟨rfl, rfl, rfl, rfl, rfl, rfl, trivial⟩, (dcd (x283 ≥ 0)), rfl, rfl, rfl, H⟩
   ·intro h548
    have H := iff_ (btf h548) H
    refine Ow_pass rfl rfl rfl rfl rfl rfl rfl ?_
    refine Ow_pass rfl rfl rfl rfl rfl rfl rfl ?_
    refine Ow_q rfl rfl rfl (Qt_pick_f rfl rfl) ?_
    refine Ow_q rfl rfl rfl (Qt_assign rfl) ?_
    refine Ow_nil ?_
    refine Pu5 ?_
    refine Pu5 ?_
    refine Pu5 ?_
    refine Pu5 ?_
    refine Pu5 ?_
    refine Pu5 ?_
    refine Shift.done ?_
    exact ⟨_, by exact ⟨rfl, rfl, rfl, rfl, rfl, rfl, trivial⟩, false, rfl, rfl, rfl, H⟩
  rintro _ _ _ - ⟨t547, rfl, rfl, rfl, H⟩
  unfold M_20z at H
  refine Cw_cond rfl ?_ ?_
  ·intro h549
   have H := ift h549 H
   refine Cw_seq ?_
   obtain ⟨x550, hx551, H⟩ := bnd H
   obtain ⟨x560, x561, hx562, H⟩ := bnd2 H
   refine Cw_region_any [.blk bp0 92 (Desk_work.cells p0 vp0_desk_chans vp0_desk_waiting vp0_done), .blk b270 73 (Result.cells (Result.mk 0 0 0 false 0)), .blk b269 45 (Case.cells p2), .row (sv vp0_desk_chans) 71 3 rsp0_desk_chans.flatten, .row (sv vp0_desk_waiting) 52 8 rsp0_desk_waiting.flatten, .row (sv vp0_done) 75 6 rsp0_done.flatten] rfl (Inc.cons (.head _) (Inc.cons (.tail _ (.head _)) (Inc.cons (.tail _ (.tail _ (.head _))) (Inc.cons (.tail _ (.tail _ (.tail _ (.head _)))) (Inc.cons (.tail _ (.tail _ (.tail _ (.tail _ (.head _))))) (Inc.cons (.tail _ (.tail _ (.tail _ (.tail _ (.tail _ (.head _)))))) Inc.nil)))))) ?_
   refine Awq 0 rfl (by kernel_rfl) rfl rfl rfl (Qt_move rfl) ?_
   refine Awq 1 rfl (by kernel_rfl) rfl rfl rfl (Qt_nilCheck rfl) ?_
   refine Awq 2 rfl (by kernel_rfl) rfl rfl rfl (Qt_fieldAddr (m := 0) rfl rfl rfl rfl rfl) ?_
   refine Awq 3 rfl (by kernel_rfl) rfl rfl rfl (Qt_fieldAddr (m := 1) rfl rfl rfl rfl rfl) ?_
   refine Awq 4 rfl (by kernel_rfl) rfl rfl rfl (Qt_load1 (v := (sv vp0_desk_waiting)) rfl rfl rfl (Rdc.blk (.head _) rfl)) ?_
   refine Awq 5 rfl (by kernel_rfl) rfl rfl rfl (Qt_move rfl) ?_
   have hs565 := (hp0_desk_waiting).mono hK288
   obtain ⟨r566, hq567, hr568⟩ := RowR.at hs565 hx551
   obtain ⟨v569, v570, rfl, hs571, hs572⟩ := hr568
   refine Awq 6 rfl (by kernel_rfl) rfl rfl rfl (Q_ixR (T := TyWaiter) (.tail _ (.tail _ (.tail _ (.tail _ (.head _))))) hs565 hq567 (getI_ix hx551).1 rfl rfl rfl rfl rfl) ?_
   refine Awq 7 rfl (by kernel_rfl) rfl rfl rfl (Qt_fieldAddr (m := 1) rfl rfl rfl rfl rfl) ?_
   refine Awq 8 rfl (by kernel_rfl) rfl rfl rfl (Qt_loadA (m := 7) (cs := (Op.cells x550.op v569 v570)) rfl rfl rfl rfl ⟨rfl, Rd_row (T := TyWaiter) (.tail _ (.tail _ (.tail _ (.tail _ (.head _))))) hs565 hq567 rfl rfl⟩) ?_
   refine Awq 9 rfl (by kernel_rfl) rfl rfl rfl (Qt_fieldAddr (m := 1) rfl rfl rfl rfl rfl) ?_
   refine Awq 10 rfl (by kernel_rfl) rfl rfl rfl (Qt_load1 (v := (.int .i64 p2.channel)) rfl rfl rfl (Rdc.blk (.tail _ (.tail _ (.head _))) rfl)) ?_
   refine Aw_one 11 (by kernel_rfl) (Ax_mk rfl rfl ?_)
   refine OpW_call rfl Try.call70 rfl rfl (c_M_17z x550.op v569 v570 p2.channel false x560 x561 hx562 _ _ hs571 hs572) ?_
   rintro _ K573 _ hK574 ⟨rfl, rfl⟩
   refine ⟨(Inc.cons (.head _) (Inc.cons (.tail _ (.head _)) (Inc.cons (.tail _ (.tail _ (.head _))) (Inc.cons (.tail _ (.tail _ (.tail _ (.head _)))) (Inc.cons (.tail _ (.tail _ (.tail _ (.tail _ (.head _))))) (Inc.cons (.tail _ (.tail _ (.tail _ (.tail _ (.tail _ (.head _)))))) Inc.nil)))))), ?_⟩
   refine Awq 12 rfl (by kernel_rfl) rfl rfl rfl (Qt_move rfl) ?_
   refine Awq 13 rfl (by kernel_rfl) rfl rfl rfl (Qt_extract rfl rfl) ?_
   refine Awq 14 rfl (by kernel_rfl) rfl rfl rfl (Qt_extract rfl rfl) ?_
   refine Awq 15 rfl (by kernel_rfl) rfl rfl rfl (Qt_assign rfl) ?_
   refine Awq 16 rfl (by kernel_rfl) rfl rfl rfl (Qt_assign rfl) ?_
   refine Aw_done (by kernel_rfl) ?_
   refine Cw_seq ?_
   refine Cw_region ?_
   refine Ow_q rfl rfl rfl (Qt_move rfl) ?_
   refine Ow_q rfl rfl rfl (Qt_move rfl) ?_
   refine Ow_q rfl rfl rfl (Qt_move rfl) ?_
   refine Ow_q rfl rfl rfl (Qt_fieldAddr (m := 2) rfl rfl rfl rfl rfl) ?_
   refine Ow_q rfl rfl rfl (Qt_load1 (v := (.int .u64 p2.value)) rfl rfl rfl (Rdc.blk (.tail _ (.tail _ (.head _))) rfl)) ?_
   refine Ow_q rfl rfl rfl (Qt_build (cs := (Result.cells (Result.mk 2 0 p2.value true 0))) rfl rfl rfl rfl rfl rfl) ?_
   obtain ⟨x575, x576, hx577, H⟩ := bnd2 H
   refine Ow.shift (Pu5 (Shift.done ?_))
   refine Ow.shift (Pu5 (Shift.done ?_))
   refine Ow.shift (Pu5 (Shift.done ?_))
   refine Ow.shift (Pu3 (Shift.done ?_))
   have hs578 := ((hp0_desk_chans).mono hK288).mono hK574
   have hs579 := (hs565).mono hK574
   have hs580 := ((hp0_done).mono hK288).mono hK574
   refine Ow_cons rfl (OpW_call rfl Try.call76 rfl rfl (c_M_32z bp0 p0 vp0_desk_chans rsp0_desk_chans vp0_desk_waiting rsp0_desk_waiting vp0_done rsp0_done x283 x560 (Result.mk 2 0 p2.value true 0) x575 x576 hx577 _ _ hs578 hs579 hs580) ?_)
   rintro _ K585 _ hK586 ⟨v581, rs582, v583, rs584, rfl, rfl, hs587, hs588⟩
   refine Ow_nil ?_
   refine Cw_seq ?_
   refine Cw_region ?_
   refine Ow_q rfl rfl rfl (Qt_build (cs := (Result.cells (Result.mk 1 0 0 false 0))) rfl rfl rfl rfl rfl rfl) ?_
   refine Ow_cons rfl (OpW_store (vs := (Result.cells (Result.mk 1 0 0 false 0))) (all' := (Result.cells (Result.mk 1 0 0 false 0))) rfl rfl rfl rfl rfl (.there (.there (.there (.there .here)))) rfl rfl rfl ?_)
   refine Ow_nil ?_
   refine Cw_ret ?_
   obtain ⟨ey0, ez0_chans, ez0_waiting, ez0_done⟩ := inj4 H
   subst y0 z0_chans z0_waiting z0_done
   refine ⟨(by first | exact .inl rfl | exact .inr rfl), [(.agg (Result.cells (Result.mk 1 0 0 false 0)).toArray)], ⟨(.agg (Result.cells (Result.mk 1 0 0 false 0)).toArray), _, rfl, ⟨_, 5, (Result.cells (Result.mk 1 0 0 false 0)), rfl, rfl, rfl, rfl, ⟨rfl, Rdc.blk (.tail _ (.tail _ (.tail _ (.tail _ (.head _))))) rfl⟩, rfl⟩, rfl⟩, ?_⟩
   refine Pu2 ?_
   refine Pu2 ?_
   refine Pu3 ?_
   refine Pu3 ?_
   refine Re4 ?_
   refine Re4 ?_
   have hs589 := (hs578).mono hK586
   refine Shift.done ?_
   exact ⟨vp0_desk_chans, rsp0_desk_chans, v581, rs582, v583, rs584, rfl, rfl, hs589, hs587, hs588⟩
  ·intro h549
   have H := iff_ (btf h549) H
   refine Cw_seq ?_
   refine Cw_region ?_
   refine Ow_q rfl rfl rfl (Qt_fieldAddr (m := 0) rfl rfl rfl rfl rfl) ?_
   refine Ow_q rfl rfl rfl (Qt_load1 (v := (.bool p2.send)) rfl rfl rfl (Rdc.blk (.tail _ (.tail _ (.head _))) rfl)) ?_
   refine Ow_q rfl rfl rfl (Qt_assign rfl) ?_
   refine Ow_nil ?_
   refine Cw_cond rfl ?_ ?_
   ·intro h590
    have H := ift h590 H
    refine Cw_join (fun env' K' G' => ∃ (l658 : List Chan) (rs660 : List (List Value)), [(6, (.pointer (some ((⟨b270, 0, none⟩ : Addr).add 0))))] = env' ∧ (.blk bp0 92 (Desk_work.cells (Desk_work.mk (Desk.mk l658 p0.desk.waiting p0.desk.tick) p0.done) vp0_desk_chans vp0_desk_waiting vp0_done)) :: (.blk b270 73 (Result.cells (Result.mk 0 0 0 false 0))) :: (.row (sv vp0_desk_chans) 71 3 rs660.flatten) :: (.row (sv vp0_desk_waiting) 52 8 rsp0_desk_waiting.flatten) :: (.row (sv vp0_done) 75 6 rsp0_done.flatten) :: G = G' ∧ M_206z p0 l658 = some (y0, z0_chans, z0_waiting, z0_done) ∧ RowR TyChan K' rs660 l658) ?_ ?_
    ·skip
     obtain ⟨x662, hx663, H⟩ := bnd H
     obtain ⟨x670, hx671, H⟩ := bnd H
     refine Cw_region_any [.blk b270 73 (Result.cells (Result.mk 0 0 0 false 0)), .blk b269 45 (Case.cells p2), .row (sv vp0_desk_waiting) 52 8 rsp0_desk_waiting.flatten, .row (sv vp0_done) 75 6 rsp0_done.flatten] rfl (Inc.cons (.tail _ (.head _)) (Inc.cons (.tail _ (.tail _ (.head _))) (Inc.cons (.tail _ (.tail _ (.tail _ (.tail _ (.head _))))) (Inc.cons (.tail _ (.tail _ (.tail _ (.tail _ (.tail _ (.head _)))))) Inc.nil)))) ?_
     refine Awq 0 rfl (by kernel_rfl) rfl rfl rfl (Qt_move rfl) ?_
     refine Awq 1 rfl (by kernel_rfl) rfl rfl rfl (Qt_move rfl) ?_
     refine Awq 2 rfl (by kernel_rfl) rfl rfl rfl (Qt_nilCheck rfl) ?_
     refine Awq 3 rfl (by kernel_rfl) rfl rfl rfl (Qt_fieldAddr (m := 1) rfl rfl rfl rfl rfl) ?_
     refine Awq 6 rfl (by kernel_rfl) rfl rfl rfl (Qt_fieldAddr (m := 2) rfl rfl rfl rfl rfl) ?_
     refine Awq 7 rfl (by kernel_rfl) rfl rfl rfl (Qt_load1 (v := (.int .u64 p2.value)) rfl rfl rfl (Rdc.blk (.tail _ (.head _)) rfl)) ?_
     refine Aw_two 4 8 (by kernel_rfl) ?_ ?_
     ·skip
      have hs681 := (hp0_desk_chans).mono hK288
      refine id (Ax_mk rfl rfl (OpW_of_Qt rfl rfl (Qt_load1 (v := (sv v281)) rfl rfl rfl (Rd_row (T := TyChan) (.tail _ (.tail _ (.tail _ (.head _)))) hs681 hq279 rfl rfl)) ⟨(Inc.cons (.tail _ (.head _)) (Inc.cons (.tail _ (.tail _ (.head _))) (Inc.cons (.tail _ (.tail _ (.tail _ (.tail _ (.head _))))) (Inc.cons (.tail _ (.tail _ (.tail _ (.tail _ (.tail _ (.head _)))))) Inc.nil)))), ?_⟩))
      refine Aw_two 5 8 (by kernel_rfl) ?_ ?_
      ·skip
       refine id (Ax_mk rfl rfl ?_)
       have hs682 := (hs282).mono hK288
       refine OpW_call rfl Try.call77 rfl rfl (c_M_19z x271.buffer v281 x662 hx663 _ _ hs682) ?_
       rintro _ _ _ - ⟨v683, rs684, rfl, rfl, rfl, hs685⟩
       refine ⟨(Inc.cons (.tail _ (.tail _ (.head _))) (Inc.cons (.tail _ (.tail _ (.tail _ (.head _)))) (Inc.cons (.tail _ (.tail _ (.tail _ (.tail _ (.tail _ (.head _)))))) (Inc.cons (.tail _ (.tail _ (.tail _ (.tail _ (.tail _ (.tail _ (.head _))))))) Inc.nil)))), ?_⟩
       refine Aw_one 8 (by kernel_rfl) (Ax_mk rfl rfl ?_)
       have hR687 : RowR Ty.u64 K287 [[(.int .u64 p2.value)]] [p2.value] := RowR.cons rfl (RowR.nil)
       refine O_lit (T := Ty.u64) (rows := [[(.int .u64 p2.value)]]) (l := [p2.value]) rfl rfl rfl hR687 rfl rfl rfl rfl rfl rfl rfl rfl (fun v686 => ⟨(Inc.cons (.tail _ (.tail _ (.tail _ (.head _)))) (Inc.cons (.tail _ (.tail _ (.tail _ (.tail _ (.head _))))) (Inc.cons (.tail _ (.tail _ (.tail _ (.tail _ (.tail _ (.tail _ (.head _))))))) (Inc.cons (.tail _ (.tail _ (.tail _ (.tail _ (.tail _ (.tail _ (.tail _ (.head _)))))))) Inc.nil)))), ?_⟩)
       refine Aw_one 9 (by kernel_rfl) (Ax_mk rfl rfl ?_)
       refine O_appRow (T := Ty.u64) (bytes := 8) rfl rfl rfl (.tail _ (.head _)) hs685 (SrcT.row (.head _) hR687 rfl) hx671 rfl rfl rfl rfl rfl rfl rfl rfl (fun v688 rs689 hR690 => ⟨_, (.there .here), ⟨(Inc.cons (.tail _ (.tail _ (.tail _ (.head _)))) (Inc.cons (.tail _ (.tail _ (.tail _ (.tail _ (.head _))))) (Inc.cons (.tail _ (.tail _ (.tail _ (.tail _ (.tail _ (.tail _ (.head _))))))) (Inc.cons (.tail _ (.tail _ (.tail _ (.tail _ (.tail _ (.tail _ (.tail _ (.head _)))))))) Inc.nil)))), ?_⟩⟩)
       refine Aw.shift (Re0 (Shift.done ⟨(Inc.cons (.tail _ (.tail _ (.head _))) (Inc.cons (.tail _ (.tail _ (.tail _ (.head _)))) (Inc.cons (.tail _ (.tail _ (.tail _ (.tail _ (.tail _ (.head _)))))) (Inc.cons (.tail _ (.tail _ (.tail _ (.tail _ (.tail _ (.tail _ (.head _))))))) Inc.nil)))), ?_⟩))
       refine Awq 10 rfl (by kernel_rfl) rfl rfl rfl (Qt_nilCheck rfl) ?_
       refine Awq 11 rfl (by kernel_rfl) rfl rfl rfl (Qt_fieldAddr (m := 1) rfl rfl rfl rfl rfl) ?_
       refine Aw_one 12 (by kernel_rfl) (Ax_mk rfl rfl ?_)
       refine OpW.shift (Shift.settle (T := Ty.u64) .here hR690 rfl (fun K691 hK692 hs693 => Shift.done ?_))
       have hs694 := (hs681).mono hK692
       refine O_storeR (T := TyChan) (vs := [(sv v688)]) (r' := (Chan.cells (Chan.mk x271.capacity x670 x271.closed) v688)) (l' := (setI p0.desk.chans p2.channel (Chan.mk x271.capacity x670 x271.closed))) rfl rfl rfl rfl rfl (.there (.there (.there (.there .here)))) hs694 hq279 rfl rfl rfl (RowR.set p2.channel hs694 ⟨v688, rfl, hs693⟩) (fun hR695 => ⟨(Inc.cons (.tail _ (.tail _ (.head _))) (Inc.cons (.tail _ (.tail _ (.tail _ (.head _)))) (Inc.cons (.tail _ (.tail _ (.tail _ (.tail _ (.tail _ (.head _)))))) (Inc.cons (.tail _ (.tail _ (.tail _ (.tail _ (.tail _ (.tail _ (.head _))))))) Inc.nil)))), ?_⟩)
       have hE696 := set_at hq279 (v := (Chan.cells (Chan.mk x271.capacity x670 x271.closed) v688))
       refine Aw_done (by kernel_rfl) ?_
       refine Pu6 ?_
       refine Pu6 ?_
       refine Pu6 ?_
       refine Pu5 ?_
       refine Pu5 ?_
       refine Re5 ?_
       refine Re5 ?_
       refine Shift.done ?_
       exact ⟨_, by exact ⟨rfl, trivial⟩, (setI p0.desk.chans p2.channel (Chan.mk x271.capacity x670 x271.closed)), (rsp0_desk_chans.set p2.channel.toNat (Chan.cells (Chan.mk x271.capacity x670 x271.closed) v688)), rfl, rfl, H, hR695⟩
      ·skip
       refine id (Ax_mk rfl rfl ?_)
       have hR698 : RowR Ty.u64 K287 [[(.int .u64 p2.value)]] [p2.value] := RowR.cons rfl (RowR.nil)
       refine O_lit (T := Ty.u64) (rows := [[(.int .u64 p2.value)]]) (l := [p2.value]) rfl rfl rfl hR698 rfl rfl rfl rfl rfl rfl rfl rfl (fun v697 => ⟨(Inc.cons (.tail _ (.tail _ (.head _))) (Inc.cons (.tail _ (.tail _ (.tail _ (.head _)))) (Inc.cons (.tail _ (.tail _ (.tail _ (.tail _ (.tail _ (.head _)))))) (Inc.cons (.tail _ (.tail _ (.tail _ (.tail _ (.tail _ (.tail _ (.head _))))))) Inc.nil)))), ?_⟩)
       refine Aw_one 5 (by kernel_rfl) (Ax_mk rfl rfl ?_)
       have hs699 := (hs282).mono hK288
       refine OpW_call rfl Try.call77 rfl rfl (c_M_19z x271.buffer v281 x662 hx663 _ _ hs699) ?_
       rintro _ _ _ - ⟨v700, rs701, rfl, rfl, rfl, hs702⟩
       refine ⟨(Inc.cons (.tail _ (.tail _ (.tail _ (.head _)))) (Inc.cons (.tail _ (.tail _ (.tail _ (.tail _ (.head _))))) (Inc.cons (.tail _ (.tail _ (.tail _ (.tail _ (.tail _ (.tail _ (.head _))))))) (Inc.cons (.tail _ (.tail _ (.tail _ (.tail _ (.tail _ (.tail _ (.tail _ (.head _)))))))) Inc.nil)))), ?_⟩
       refine Aw_one 9 (by kernel_rfl) (Ax_mk rfl rfl ?_)
       refine O_appRow (T := Ty.u64) (bytes := 8) rfl rfl rfl (.head _) hs702 (SrcT.row (.tail _ (.head _)) hR698 rfl) hx671 rfl rfl rfl rfl rfl rfl rfl rfl (fun v703 rs704 hR705 => ⟨_, .here, ⟨(Inc.cons (.tail _ (.tail _ (.tail _ (.head _)))) (Inc.cons (.tail _ (.tail _ (.tail _ (.tail _ (.head _))))) (Inc.cons (.tail _ (.tail _ (.tail _ (.tail _ (.tail _ (.tail _ (.head _))))))) (Inc.cons (.tail _ (.tail _ (.tail _ (.tail _ (.tail _ (.tail _ (.tail _ (.head _)))))))) Inc.nil)))), ?_⟩⟩)
       refine Aw.shift (Re1 (Shift.done ⟨(Inc.cons (.tail _ (.tail _ (.head _))) (Inc.cons (.tail _ (.tail _ (.tail _ (.head _)))) (Inc.cons (.tail _ (.tail _ (.tail _ (.tail _ (.tail _ (.head _)))))) (Inc.cons (.tail _ (.tail _ (.tail _ (.tail _ (.tail _ (.tail _ (.head _))))))) Inc.nil)))), ?_⟩))
       refine Awq 10 rfl (by kernel_rfl) rfl rfl rfl (Qt_nilCheck rfl) ?_
       refine Awq 11 rfl (by kernel_rfl) rfl rfl rfl (Qt_fieldAddr (m := 1) rfl rfl rfl rfl rfl) ?_
       refine Aw_one 12 (by kernel_rfl) (Ax_mk rfl rfl ?_)
       refine OpW.shift (Shift.settle (T := Ty.u64) .here hR705 rfl (fun K706 hK707 hs708 => Shift.done ?_))
       have hs709 := (hs681).mono hK707
       refine O_storeR (T := TyChan) (vs := [(sv v703)]) (r' := (Chan.cells (Chan.mk x271.capacity x670 x271.closed) v703)) (l' := (setI p0.desk.chans p2.channel (Chan.mk x271.capacity x670 x271.closed))) rfl rfl rfl rfl rfl (.there (.there (.there (.there .here)))) hs709 hq279 rfl rfl rfl (RowR.set p2.channel hs709 ⟨v703, rfl, hs708⟩) (fun hR710 => ⟨(Inc.cons (.tail _ (.tail _ (.head _))) (Inc.cons (.tail _ (.tail _ (.tail _ (.head _)))) (Inc.cons (.tail _ (.tail _ (.tail _ (.tail _ (.tail _ (.head _)))))) (Inc.cons (.tail _ (.tail _ (.tail _ (.tail _ (.tail _ (.tail _ (.head _))))))) Inc.nil)))), ?_⟩)
       have hE711 := set_at hq279 (v := (Chan.cells (Chan.mk x271.capacity x670 x271.closed) v703))
       refine Aw_done (by kernel_rfl) ?_
       refine Pu6 ?_
       refine Pu6 ?_
       refine Pu6 ?_
       refine Pu5 ?_
       refine Pu5 ?_
       refine Re5 ?_
       refine Re5 ?_
       refine Shift.done ?_
       exact ⟨_, by exact ⟨rfl, trivial⟩, (setI p0.desk.chans p2.channel (Chan.mk x271.capacity x670 x271.closed)), (rsp0_desk_chans.set p2.channel.toNat (Chan.cells (Chan.mk x271.capacity x670 x271.closed) v703)), rfl, rfl, H, hR710⟩
     ·skip
      refine id (Ax_mk rfl rfl ?_)
      have hR713 : RowR Ty.u64 K287 [[(.int .u64 p2.value)]] [p2.value] := RowR.cons rfl (RowR.nil)
      refine O_lit (T := Ty.u64) (rows := [[(.int .u64 p2.value)]]) (l := [p2.value]) rfl rfl rfl hR713 rfl rfl rfl rfl rfl rfl rfl rfl (fun v712 => ⟨(Inc.cons (.tail _ (.tail _ (.head _))) (Inc.cons (.tail _ (.tail _ (.tail _ (.head _)))) (Inc.cons (.tail _ (.tail _ (.tail _ (.tail _ (.tail _ (.head _)))))) (Inc.cons (.tail _ (.tail _ (.tail _ (.tail _ (.tail _ (.tail _ (.head _))))))) Inc.nil)))), ?_⟩)
      have hs714 := (hp0_desk_chans).mono hK288
      refine Aw_one 4 (by kernel_rfl) (Ax_mk rfl rfl (OpW_of_Qt rfl rfl (Qt_load1 (v := (sv v281)) rfl rfl rfl (Rd_row (T := TyChan) (.tail _ (.tail _ (.tail _ (.tail _ (.head _))))) hs714 hq279 rfl rfl)) ⟨(Inc.cons (.tail _ (.tail _ (.head _))) (Inc.cons (.tail _ (.tail _ (.tail _ (.head _)))) (Inc.cons (.tail _ (.tail _ (.tail _ (.tail _ (.tail _ (.head _)))))) (Inc.cons (.tail _ (.tail _ (.tail _ (.tail _ (.tail _ (.tail _ (.head _))))))) Inc.nil)))), ?_⟩))
      refine Aw_one 5 (by kernel_rfl) (Ax_mk rfl rfl ?_)
      have hs715 := (hs282).mono hK288
      refine OpW_call rfl Try.call77 rfl rfl (c_M_19z x271.buffer v281 x662 hx663 _ _ hs715) ?_
      rintro _ _ _ - ⟨v716, rs717, rfl, rfl, rfl, hs718⟩
      refine ⟨(Inc.cons (.tail _ (.tail _ (.tail _ (.head _)))) (Inc.cons (.tail _ (.tail _ (.tail _ (.tail _ (.head _))))) (Inc.cons (.tail _ (.tail _ (.tail _ (.tail _ (.tail _ (.tail _ (.head _))))))) (Inc.cons (.tail _ (.tail _ (.tail _ (.tail _ (.tail _ (.tail _ (.tail _ (.head _)))))))) Inc.nil)))), ?_⟩
      refine Aw_one 9 (by kernel_rfl) (Ax_mk rfl rfl ?_)
      refine O_appRow (T := Ty.u64) (bytes := 8) rfl rfl rfl (.head _) hs718 (SrcT.row (.tail _ (.head _)) hR713 rfl) hx671 rfl rfl rfl rfl rfl rfl rfl rfl (fun v719 rs720 hR721 => ⟨_, .here, ⟨(Inc.cons (.tail _ (.tail _ (.tail _ (.head _)))) (Inc.cons (.tail _ (.tail _ (.tail _ (.tail _ (.head _))))) (Inc.cons (.tail _ (.tail _ (.tail _ (.tail _ (.tail _ (.tail _ (.head _))))))) (Inc.cons (.tail _ (.tail _ (.tail _ (.tail _ (.tail _ (.tail _ (.tail _ (.head _)))))))) Inc.nil)))), ?_⟩⟩)
      refine Aw.shift (Re1 (Shift.done ⟨(Inc.cons (.tail _ (.tail _ (.head _))) (Inc.cons (.tail _ (.tail _ (.tail _ (.head _)))) (Inc.cons (.tail _ (.tail _ (.tail _ (.tail _ (.tail _ (.head _)))))) (Inc.cons (.tail _ (.tail _ (.tail _ (.tail _ (.tail _ (.tail _ (.head _))))))) Inc.nil)))), ?_⟩))
      refine Awq 10 rfl (by kernel_rfl) rfl rfl rfl (Qt_nilCheck rfl) ?_
      refine Awq 11 rfl (by kernel_rfl) rfl rfl rfl (Qt_fieldAddr (m := 1) rfl rfl rfl rfl rfl) ?_
      refine Aw_one 12 (by kernel_rfl) (Ax_mk rfl rfl ?_)
      refine OpW.shift (Shift.settle (T := Ty.u64) .here hR721 rfl (fun K722 hK723 hs724 => Shift.done ?_))
      have hs725 := (hs714).mono hK723
      refine O_storeR (T := TyChan) (vs := [(sv v719)]) (r' := (Chan.cells (Chan.mk x271.capacity x670 x271.closed) v719)) (l' := (setI p0.desk.chans p2.channel (Chan.mk x271.capacity x670 x271.closed))) rfl rfl rfl rfl rfl (.there (.there (.there (.there .here)))) hs725 hq279 rfl rfl rfl (RowR.set p2.channel hs725 ⟨v719, rfl, hs724⟩) (fun hR726 => ⟨(Inc.cons (.tail _ (.tail _ (.head _))) (Inc.cons (.tail _ (.tail _ (.tail _ (.head _)))) (Inc.cons (.tail _ (.tail _ (.tail _ (.tail _ (.tail _ (.head _)))))) (Inc.cons (.tail _ (.tail _ (.tail _ (.tail _ (.tail _ (.tail _ (.head _))))))) Inc.nil)))), ?_⟩)
      have hE727 := set_at hq279 (v := (Chan.cells (Chan.mk x271.capacity x670 x271.closed) v719))
      refine Aw_done (by kernel_rfl) ?_
      refine Pu6 ?_
      refine Pu6 ?_
      refine Pu6 ?_
      refine Pu5 ?_
      refine Pu5 ?_
      refine Re5 ?_
      refine Re5 ?_
      refine Shift.done ?_
      exact ⟨_, by exact ⟨rfl, trivial⟩, (setI p0.desk.chans p2.channel (Chan.mk x271.capacity x670 x271.closed)), (rsp0_desk_chans.set p2.channel.toNat (Chan.cells (Chan.mk x271.capacity x670 x271.closed) v719)), rfl, rfl, H, hR726⟩
    rintro _ K728 _ hK729 ⟨l658, rs660, rfl, rfl, H, hR659⟩
    unfold M_206z at H
    refine Cw_seq ?_
    refine Cw_region ?_
    refine Ow_q rfl rfl rfl (Qt_build (cs := (Result.cells (Result.mk 1 0 0 false 0))) rfl rfl rfl rfl rfl rfl) ?_
    refine Ow_cons rfl (OpW_store (vs := (Result.cells (Result.mk 1 0 0 false 0))) (all' := (Result.cells (Result.mk 1 0 0 false 0))) rfl rfl rfl rfl rfl (.there .here) rfl rfl rfl ?_)
    refine Ow_nil ?_
    refine Cw_ret ?_
    obtain ⟨ey0, ez0_chans, ez0_waiting, ez0_done⟩ := inj4 H
    subst y0 z0_chans z0_waiting z0_done
    refine ⟨(by first | exact .inl rfl | exact .inr rfl), [(.agg (Result.cells (Result.mk 1 0 0 false 0)).toArray)], ⟨(.agg (Result.cells (Result.mk 1 0 0 false 0)).toArray), _, rfl, ⟨_, 5, (Result.cells (Result.mk 1 0 0 false 0)), rfl, rfl, rfl, rfl, ⟨rfl, Rdc.blk (.tail _ (.head _)) rfl⟩, rfl⟩, rfl⟩, ?_⟩
    refine Pu4 ?_
    refine Pu4 ?_
    refine Pu4 ?_
    refine Pu3 ?_
    refine Re4 ?_
    have hs730 := ((hp0_desk_waiting).mono hK288).mono hK729
    have hs731 := ((hp0_done).mono hK288).mono hK729
    refine Shift.done ?_
    exact ⟨vp0_desk_chans, rs660, vp0_desk_waiting, rsp0_desk_waiting, vp0_done, rsp0_done, rfl, rfl, hR659, hs730, hs731⟩
   ·intro h590
    have H := iff_ (btf h590) H
    refine Cw_seq ?_
    refine Cw_region ?_
    refine Ow_q rfl rfl rfl (Qt_move rfl) ?_
    refine Ow_q rfl rfl rfl (Qt_nilCheck rfl) ?_
    refine Ow_q rfl rfl rfl (Qt_fieldAddr (m := 1) rfl rfl rfl rfl rfl) ?_
    have hs732 := (hp0_desk_chans).mono hK288
    refine Ow_q rfl rfl rfl (Qt_load1 (v := (sv v281)) rfl rfl rfl (Rd_row (T := TyChan) (.tail _ (.tail _ (.tail _ (.head _)))) hs732 hq279 rfl rfl)) ?_
    have hs733 := (hs282).mono hK288
    refine Ow_q rfl rfl rfl (Q_len (T := Ty.u64) hs733 rfl rfl) ?_
    refine Ow_q rfl rfl rfl (Qt_cmp rfl rfl rfl) ?_
    refine Ow_q rfl rfl rfl (Qt_assign rfl) ?_
    refine Ow_nil ?_
    refine Cw_cond rfl ?_ ?_
    ·intro h734
     have h734 := dcd_t (h734)
     have H := ift h734 H
     refine Cw_seq ?_
     refine Cw_region ?_
     refine Ow_q rfl rfl rfl (Qt_move rfl) ?_
     refine Ow_q rfl rfl rfl (Qt_nilCheck rfl) ?_
     refine Ow_q rfl rfl rfl (Qt_fieldAddr (m := 1) rfl rfl rfl rfl rfl) ?_
     refine Ow_q rfl rfl rfl (Qt_load1 (v := (sv v281)) rfl rfl rfl (Rd_row (T := TyChan) (.tail _ (.tail _ (.tail _ (.head _)))) hs732 hq279 rfl rfl)) ?_
     obtain ⟨x735, hx736, H⟩ := bnd H
     obtain ⟨r737, hr738, hk739⟩ := Slr.at hs733 hx736
     obtain rfl := hr738
     refine Ow_q rfl rfl rfl (Q_ix (T := Ty.u64) hs733 hx736 rfl rfl rfl rfl rfl) ?_
     refine Ow_q rfl rfl rfl (Qt_load1 (v := (.int .u64 x735)) rfl rfl rfl (Rdc.k hk739 rfl)) ?_
     refine Ow_q rfl rfl rfl (Qt_assign rfl) ?_
     refine Ow_nil ?_
     refine Cw_seq ?_
     refine Cw_region ?_
     refine Ow_q rfl rfl rfl (Qt_move rfl) ?_
     refine Ow_q rfl rfl rfl (Qt_move rfl) ?_
     refine Ow_q rfl rfl rfl (Qt_nilCheck rfl) ?_
     refine Ow_q rfl rfl rfl (Qt_fieldAddr (m := 1) rfl rfl rfl rfl rfl) ?_
     refine Ow_q rfl rfl rfl (Qt_load1 (v := (sv v281)) rfl rfl rfl (Rd_row (T := TyChan) (.tail _ (.tail _ (.tail _ (.head _)))) hs732 hq279 rfl rfl)) ?_
     obtain ⟨x740, hx741, H⟩ := bnd H
     have hs742 := Slr.cutL hs733 hx741
     refine Ow_q rfl rfl rfl (Q_cutL (T := Ty.u64) hs733 hx741 rfl rfl rfl rfl rfl) ?_
     obtain ⟨x743, hx744, H⟩ := bnd H
     refine Ow_cons rfl (OpW_call rfl Try.call77 rfl rfl (c_M_19z x740 (cutS v281 1 ((1 : Int).toNat) x271.buffer.length) x743 hx744 _ _ hs742) ?_)
     rintro _ _ _ - ⟨v745, rs746, rfl, rfl, rfl, hs747⟩
     refine Ow_q rfl rfl rfl (Qt_nilCheck rfl) ?_
     refine Ow_q rfl rfl rfl (Qt_fieldAddr (m := 1) rfl rfl rfl rfl rfl) ?_
     refine Ow.shift (Shift.settle (T := Ty.u64) .here hs747 rfl (fun K748 hK749 hs750 => Shift.done ?_))
     have hs751 := (hs732).mono hK749
     refine Ow_cons rfl (O_storeR (T := TyChan) (vs := [(sv v745)]) (r' := (Chan.cells (Chan.mk x271.capacity x743 x271.closed) v745)) (l' := (setI p0.desk.chans p2.channel (Chan.mk x271.capacity x743 x271.closed))) rfl rfl rfl rfl rfl (.there (.there (.there (.there .here)))) hs751 hq279 rfl rfl rfl (RowR.set p2.channel hs751 ⟨v745, rfl, hs750⟩) (fun hR752 => ?_))
     have hE753 := set_at hq279 (v := (Chan.cells (Chan.mk x271.capacity x743 x271.closed) v745))
     refine Ow_nil ?_
     refine Cw_join (fun env' K' G' => ∃ (l833 : List Chan) (rs835 : List (List Value)) (v836 : SV) (l837 : List Waiter) (rs839 : List (List Value)) (v840 : SV) (l841 : List Done) (rs843 : List (List Value)), [(6, (.pointer (some ((⟨b270, 0, none⟩ : Addr).add 0)))), (11, (.int .u64 x735))] = env' ∧ (.blk bp0 92 (Desk_work.cells (Desk_work.mk (Desk.mk l833 l837 p0.desk.tick) l841) vp0_desk_chans v836 v840)) :: (.blk b270 73 (Result.cells (Result.mk 0 0 0 false 0))) :: (.row (sv vp0_desk_chans) 71 3 rs835.flatten) :: (.row (sv v836) 52 8 rs839.flatten) :: (.row (sv v840) 75 6 rs843.flatten) :: G = G' ∧ M_113z x735 p0 l833 l837 l841 = some (y0, z0_chans, z0_waiting, z0_done) ∧ RowR TyChan K' rs835 l833 ∧ RowR TyWaiter K' rs839 l837 ∧ RowR TyDone K' rs843 l841) ?_ ?_
     ·skip
      refine Cw_seq ?_
      refine Cw_region ?_
      refine Ow_q rfl rfl rfl (Qt_move rfl) ?_
      refine Ow_q rfl rfl rfl (Qt_cmp rfl rfl rfl) ?_
      refine Ow_nil ?_
      refine Cw_cond rfl ?_ ?_
      ·intro h844
       have h844 := dcd_t (h844)
       have H := ift h844 H
       obtain ⟨x845, x846, x847, hx848, H⟩ := bnd3 H
       obtain ⟨x861, hx862, H⟩ := bnd H
       refine Cw_region_any [.blk b270 73 (Result.cells (Result.mk 0 0 0 false 0)), .blk b269 45 (Case.cells p2)] rfl (Inc.cons (.tail _ (.tail _ (.head _))) (Inc.cons (.tail _ (.tail _ (.tail _ (.head _)))) Inc.nil)) ?_
       refine Awq 0 rfl (by kernel_rfl) rfl rfl rfl (Qt_move rfl) ?_
       refine Awq 1 rfl (by kernel_rfl) rfl rfl rfl (Qt_move rfl) ?_
       refine Awq 2 rfl (by kernel_rfl) rfl rfl rfl (Qt_nilCheck rfl) ?_
       refine Awq 3 rfl (by kernel_rfl) rfl rfl rfl (Qt_fieldAddr (m := 1) rfl rfl rfl rfl rfl) ?_
       refine Awq 5 rfl (by kernel_rfl) rfl rfl rfl (Qt_move rfl) ?_
       refine Awq 6 rfl (by kernel_rfl) rfl rfl rfl (Qt_move rfl) ?_
       refine Awq 7 rfl (by kernel_rfl) rfl rfl rfl (Qt_fieldAddr (m := 1) rfl rfl rfl rfl rfl) ?_
       refine Awq 8 rfl (by kernel_rfl) rfl rfl rfl (Qt_load1 (v := (.int .i64 p2.channel)) rfl rfl rfl (Rdc.blk (.tail _ (.head _)) rfl)) ?_
       refine Aw_two 4 9 (by kernel_rfl) ?_ ?_
       ·skip
        refine id (Ax_mk rfl rfl (OpW_of_Qt rfl rfl (Qt_load1 (v := (sv v745)) rfl rfl rfl (Rd_row (T := TyChan) (.tail _ (.tail _ (.tail _ (.tail _ (.head _))))) hR752 hE753 rfl rfl)) ⟨(Inc.cons (.tail _ (.tail _ (.head _))) (Inc.cons (.tail _ (.tail _ (.tail _ (.head _)))) Inc.nil)), ?_⟩))
        refine Aw_one 9 (by kernel_rfl) (Ax_mk rfl rfl ?_)
        refine OpW.shift (Pu6 (Shift.done ?_))
        refine OpW.shift (Pu6 (Shift.done ?_))
        refine OpW.shift (Pu6 (Shift.done ?_))
        refine OpW.shift (Pu4 (Shift.done ?_))
        have hs871 := ((hp0_desk_waiting).mono hK288).mono hK749
        have hs872 := ((hp0_done).mono hK288).mono hK749
        refine OpW_call rfl Try.call78 rfl rfl (c_M_65z bp0 (Desk_work.mk (Desk.mk (setI p0.desk.chans p2.channel (Chan.mk x271.capacity x743 x271.closed)) p0.desk.waiting p0.desk.tick) p0.done) vp0_desk_chans (rsp0_desk_chans.set p2.channel.toNat (Chan.cells (Chan.mk x271.capacity x743 x271.closed) v745)) vp0_desk_waiting rsp0_desk_waiting vp0_done rsp0_done x283 p2.channel x845 x846 x847 hx848 _ _ hR752 hs871 hs872) ?_
        rintro _ K877 _ hK878 ⟨v873, rs874, v875, rs876, rfl, rfl, hs879, hs880⟩
        refine ⟨(Inc.cons (.tail _ (.tail _ (.tail _ (.tail _ (.tail _ (.head _)))))) (Inc.cons (.tail _ (.tail _ (.tail _ (.tail _ (.tail _ (.tail _ (.head _))))))) Inc.nil)), ?_⟩
        refine Aw_one 10 (by kernel_rfl) (Ax_mk rfl rfl ?_)
        have hR882 : RowR Ty.u64 K877 [[(.int .u64 x845)]] [x845] := RowR.cons rfl (RowR.nil)
        refine O_lit (T := Ty.u64) (rows := [[(.int .u64 x845)]]) (l := [x845]) rfl rfl rfl hR882 rfl rfl rfl rfl rfl rfl rfl rfl (fun v881 => ⟨(Inc.cons (.tail _ (.tail _ (.tail _ (.tail _ (.tail _ (.tail _ (.head _))))))) (Inc.cons (.tail _ (.tail _ (.tail _ (.tail _ (.tail _ (.tail _ (.tail _ (.head _)))))))) Inc.nil)), ?_⟩)
        refine Aw_one 11 (by kernel_rfl) (Ax_mk rfl rfl ?_)
        have hs887 := (hs750).mono hK878
        refine O_appTok (T := Ty.u64) (bytes := 8) (q := 0) rfl rfl rfl hs887 (.tail _ (.tail _ (.tail _ (.tail _ (.tail _ (.head _)))))) rfl (SrcT.row (.head _) hR882 rfl) hx862 rfl rfl rfl rfl rfl rfl rfl rfl (fun v883 K884 hK885 hs886 => ⟨_, (.there (.there (.there (.there (.there .here))))), ⟨(Inc.cons (.tail _ (.tail _ (.tail _ (.tail _ (.tail _ (.tail _ (.head _))))))) (Inc.cons (.tail _ (.tail _ (.tail _ (.tail _ (.tail _ (.tail _ (.tail _ (.head _)))))))) Inc.nil)), ?_⟩⟩)
        refine Aw.shift (Re0 (Shift.done ⟨(Inc.cons (.tail _ (.tail _ (.tail _ (.tail _ (.tail _ (.head _)))))) (Inc.cons (.tail _ (.tail _ (.tail _ (.tail _ (.tail _ (.tail _ (.head _))))))) Inc.nil)), ?_⟩))
        refine Awq 12 rfl (by kernel_rfl) rfl rfl rfl (Qt_nilCheck rfl) ?_
        refine Awq 13 rfl (by kernel_rfl) rfl rfl rfl (Qt_fieldAddr (m := 1) rfl rfl rfl rfl rfl) ?_
        refine Aw_one 14 (by kernel_rfl) (Ax_mk rfl rfl ?_)
        have hs888 := ((hR752).mono hK878).mono hK885
        refine O_storeR (T := TyChan) (vs := [(sv v883)]) (r' := (Chan.cells (Chan.mk x271.capacity x861 x271.closed) v883)) (l' := (setI (setI p0.desk.chans p2.channel (Chan.mk x271.capacity x743 x271.closed)) p2.channel (Chan.mk x271.capacity x861 x271.closed))) rfl rfl rfl rfl rfl (.there (.there (.there .here))) hs888 hE753 rfl rfl rfl (RowR.set p2.channel hs888 ⟨v883, rfl, hs886⟩) (fun hR889 => ⟨(Inc.cons (.tail _ (.tail _ (.tail _ (.tail _ (.tail _ (.head _)))))) (Inc.cons (.tail _ (.tail _ (.tail _ (.tail _ (.tail _ (.tail _ (.head _))))))) Inc.nil)), ?_⟩)
        have hE890 := set_at hE753 (v := (Chan.cells (Chan.mk x271.capacity x861 x271.closed) v883))
        refine Aw_done (by kernel_rfl) ?_
        refine Pu2 ?_
        refine Pu2 ?_
        refine Pu3 ?_
        refine Pu5 ?_
        refine Pu4 ?_
        refine Re5 ?_
        refine Re5 ?_
        have hs891 := (hs879).mono hK885
        have hs892 := (hs880).mono hK885
        refine Shift.done ?_
        exact ⟨_, by exact ⟨rfl, rfl, trivial⟩, (setI (setI p0.desk.chans p2.channel (Chan.mk x271.capacity x743 x271.closed)) p2.channel (Chan.mk x271.capacity x861 x271.closed)), ((rsp0_desk_chans.set p2.channel.toNat (Chan.cells (Chan.mk x271.capacity x743 x271.closed) v745)).set p2.channel.toNat (Chan.cells (Chan.mk x271.capacity x861 x271.closed) v883)), v873, x846, rs874, v875, x847, rs876, rfl, rfl, H, hR889, hs891, hs892⟩
       ·skip
        refine id (Ax_mk rfl rfl ?_)
        refine OpW.shift (Pu6 (Shift.done ?_))
        refine OpW.shift (Pu6 (Shift.done ?_))
        refine OpW.shift (Pu6 (Shift.done ?_))
        refine OpW.shift (Pu4 (Shift.done ?_))
        have hs893 := ((hp0_desk_waiting).mono hK288).mono hK749
        have hs894 := ((hp0_done).mono hK288).mono hK749
        refine OpW_call rfl Try.call78 rfl rfl (c_M_65z bp0 (Desk_work.mk (Desk.mk (setI p0.desk.chans p2.channel (Chan.mk x271.capacity x743 x271.closed)) p0.desk.waiting p0.desk.tick) p0.done) vp0_desk_chans (rsp0_desk_chans.set p2.channel.toNat (Chan.cells (Chan.mk x271.capacity x743 x271.closed) v745)) vp0_desk_waiting rsp0_desk_waiting vp0_done rsp0_done x283 p2.channel x845 x846 x847 hx848 _ _ hR752 hs893 hs894) ?_
        rintro _ K899 _ hK900 ⟨v895, rs896, v897, rs898, rfl, rfl, hs901, hs902⟩
        refine ⟨(Inc.cons (.tail _ (.tail _ (.tail _ (.tail _ (.tail _ (.head _)))))) (Inc.cons (.tail _ (.tail _ (.tail _ (.tail _ (.tail _ (.tail _ (.head _))))))) Inc.nil)), ?_⟩
        refine Aw_two 4 10 (by kernel_rfl) ?_ ?_
        ·skip
         have hs903 := (hR752).mono hK900
         refine id (Ax_mk rfl rfl (OpW_of_Qt rfl rfl (Qt_load1 (v := (sv v745)) rfl rfl rfl (Rd_row (T := TyChan) (.tail _ (.tail _ (.tail _ (.head _)))) hs903 hE753 rfl rfl)) ⟨(Inc.cons (.tail _ (.tail _ (.tail _ (.tail _ (.tail _ (.head _)))))) (Inc.cons (.tail _ (.tail _ (.tail _ (.tail _ (.tail _ (.tail _ (.head _))))))) Inc.nil)), ?_⟩))
         refine Aw_one 10 (by kernel_rfl) (Ax_mk rfl rfl ?_)
         have hR905 : RowR Ty.u64 K899 [[(.int .u64 x845)]] [x845] := RowR.cons rfl (RowR.nil)
         refine O_lit (T := Ty.u64) (rows := [[(.int .u64 x845)]]) (l := [x845]) rfl rfl rfl hR905 rfl rfl rfl rfl rfl rfl rfl rfl (fun v904 => ⟨(Inc.cons (.tail _ (.tail _ (.tail _ (.tail _ (.tail _ (.tail _ (.head _))))))) (Inc.cons (.tail _ (.tail _ (.tail _ (.tail _ (.tail _ (.tail _ (.tail _ (.head _)))))))) Inc.nil)), ?_⟩)
         refine Aw_one 11 (by kernel_rfl) (Ax_mk rfl rfl ?_)
         have hs910 := (hs750).mono hK900
         refine O_appTok (T := Ty.u64) (bytes := 8) (q := 0) rfl rfl rfl hs910 (.tail _ (.tail _ (.tail _ (.tail _ (.tail _ (.head _)))))) rfl (SrcT.row (.head _) hR905 rfl) hx862 rfl rfl rfl rfl rfl rfl rfl rfl (fun v906 K907 hK908 hs909 => ⟨_, (.there (.there (.there (.there (.there .here))))), ⟨(Inc.cons (.tail _ (.tail _ (.tail _ (.tail _ (.tail _ (.tail _ (.head _))))))) (Inc.cons (.tail _ (.tail _ (.tail _ (.tail _ (.tail _ (.tail _ (.tail _ (.head _)))))))) Inc.nil)), ?_⟩⟩)
         refine Aw.shift (Re0 (Shift.done ⟨(Inc.cons (.tail _ (.tail _ (.tail _ (.tail _ (.tail _ (.head _)))))) (Inc.cons (.tail _ (.tail _ (.tail _ (.tail _ (.tail _ (.tail _ (.head _))))))) Inc.nil)), ?_⟩))
         refine Awq 12 rfl (by kernel_rfl) rfl rfl rfl (Qt_nilCheck rfl) ?_
         refine Awq 13 rfl (by kernel_rfl) rfl rfl rfl (Qt_fieldAddr (m := 1) rfl rfl rfl rfl rfl) ?_
         refine Aw_one 14 (by kernel_rfl) (Ax_mk rfl rfl ?_)
         have hs911 := (hs903).mono hK908
         refine O_storeR (T := TyChan) (vs := [(sv v906)]) (r' := (Chan.cells (Chan.mk x271.capacity x861 x271.closed) v906)) (l' := (setI (setI p0.desk.chans p2.channel (Chan.mk x271.capacity x743 x271.closed)) p2.channel (Chan.mk x271.capacity x861 x271.closed))) rfl rfl rfl rfl rfl (.there (.there (.there .here))) hs911 hE753 rfl rfl rfl (RowR.set p2.channel hs911 ⟨v906, rfl, hs909⟩) (fun hR912 => ⟨(Inc.cons (.tail _ (.tail _ (.tail _ (.tail _ (.tail _ (.head _)))))) (Inc.cons (.tail _ (.tail _ (.tail _ (.tail _ (.tail _ (.tail _ (.head _))))))) Inc.nil)), ?_⟩)
         have hE913 := set_at hE753 (v := (Chan.cells (Chan.mk x271.capacity x861 x271.closed) v906))
         refine Aw_done (by kernel_rfl) ?_
         refine Pu2 ?_
         refine Pu2 ?_
         refine Pu3 ?_
         refine Pu5 ?_
         refine Pu4 ?_
         refine Re5 ?_
         refine Re5 ?_
         have hs914 := (hs901).mono hK908
         have hs915 := (hs902).mono hK908
         refine Shift.done ?_
         exact ⟨_, by exact ⟨rfl, rfl, trivial⟩, (setI (setI p0.desk.chans p2.channel (Chan.mk x271.capacity x743 x271.closed)) p2.channel (Chan.mk x271.capacity x861 x271.closed)), ((rsp0_desk_chans.set p2.channel.toNat (Chan.cells (Chan.mk x271.capacity x743 x271.closed) v745)).set p2.channel.toNat (Chan.cells (Chan.mk x271.capacity x861 x271.closed) v906)), v895, x846, rs896, v897, x847, rs898, rfl, rfl, H, hR912, hs914, hs915⟩
        ·skip
         refine id (Ax_mk rfl rfl ?_)
         have hR917 : RowR Ty.u64 K899 [[(.int .u64 x845)]] [x845] := RowR.cons rfl (RowR.nil)
         refine O_lit (T := Ty.u64) (rows := [[(.int .u64 x845)]]) (l := [x845]) rfl rfl rfl hR917 rfl rfl rfl rfl rfl rfl rfl rfl (fun v916 => ⟨(Inc.cons (.tail _ (.tail _ (.tail _ (.tail _ (.tail _ (.tail _ (.head _))))))) (Inc.cons (.tail _ (.tail _ (.tail _ (.tail _ (.tail _ (.tail _ (.tail _ (.head _)))))))) Inc.nil)), ?_⟩)
         have hs918 := (hR752).mono hK900
         refine Aw_one 4 (by kernel_rfl) (Ax_mk rfl rfl (OpW_of_Qt rfl rfl (Qt_load1 (v := (sv v745)) rfl rfl rfl (Rd_row (T := TyChan) (.tail _ (.tail _ (.tail _ (.tail _ (.head _))))) hs918 hE753 rfl rfl)) ⟨(Inc.cons (.tail _ (.tail _ (.tail _ (.tail _ (.tail _ (.tail _ (.head _))))))) (Inc.cons (.tail _ (.tail _ (.tail _ (.tail _ (.tail _ (.tail _ (.tail _ (.head _)))))))) Inc.nil)), ?_⟩))
         refine Aw_one 11 (by kernel_rfl) (Ax_mk rfl rfl ?_)
         have hs923 := (hs750).mono hK900
         refine O_appTok (T := Ty.u64) (bytes := 8) (q := 0) rfl rfl rfl hs923 (.tail _ (.tail _ (.tail _ (.tail _ (.tail _ (.head _)))))) rfl (SrcT.row (.head _) hR917 rfl) hx862 rfl rfl rfl rfl rfl rfl rfl rfl (fun v919 K920 hK921 hs922 => ⟨_, (.there (.there (.there (.there (.there .here))))), ⟨(Inc.cons (.tail _ (.tail _ (.tail _ (.tail _ (.tail _ (.tail _ (.head _))))))) (Inc.cons (.tail _ (.tail _ (.tail _ (.tail _ (.tail _ (.tail _ (.tail _ (.head _)))))))) Inc.nil)), ?_⟩⟩)
         refine Aw.shift (Re0 (Shift.done ⟨(Inc.cons (.tail _ (.tail _ (.tail _ (.tail _ (.tail _ (.head _)))))) (Inc.cons (.tail _ (.tail _ (.tail _ (.tail _ (.tail _ (.tail _ (.head _))))))) Inc.nil)), ?_⟩))
         refine Awq 12 rfl (by kernel_rfl) rfl rfl rfl (Qt_nilCheck rfl) ?_
         refine Awq 13 rfl (by kernel_rfl) rfl rfl rfl (Qt_fieldAddr (m := 1) rfl rfl rfl rfl rfl) ?_
         refine Aw_one 14 (by kernel_rfl) (Ax_mk rfl rfl ?_)
         have hs924 := (hs918).mono hK921
         refine O_storeR (T := TyChan) (vs := [(sv v919)]) (r' := (Chan.cells (Chan.mk x271.capacity x861 x271.closed) v919)) (l' := (setI (setI p0.desk.chans p2.channel (Chan.mk x271.capacity x743 x271.closed)) p2.channel (Chan.mk x271.capacity x861 x271.closed))) rfl rfl rfl rfl rfl (.there (.there (.there .here))) hs924 hE753 rfl rfl rfl (RowR.set p2.channel hs924 ⟨v919, rfl, hs922⟩) (fun hR925 => ⟨(Inc.cons (.tail _ (.tail _ (.tail _ (.tail _ (.tail _ (.head _)))))) (Inc.cons (.tail _ (.tail _ (.tail _ (.tail _ (.tail _ (.tail _ (.head _))))))) Inc.nil)), ?_⟩)
         have hE926 := set_at hE753 (v := (Chan.cells (Chan.mk x271.capacity x861 x271.closed) v919))
         refine Aw_done (by kernel_rfl) ?_
         refine Pu2 ?_
         refine Pu2 ?_
         refine Pu3 ?_
         refine Pu5 ?_
         refine Pu4 ?_
         refine Re5 ?_
         refine Re5 ?_
         have hs927 := (hs901).mono hK921
         have hs928 := (hs902).mono hK921
         refine Shift.done ?_
         exact ⟨_, by exact ⟨rfl, rfl, trivial⟩, (setI (setI p0.desk.chans p2.channel (Chan.mk x271.capacity x743 x271.closed)) p2.channel (Chan.mk x271.capacity x861 x271.closed)), ((rsp0_desk_chans.set p2.channel.toNat (Chan.cells (Chan.mk x271.capacity x743 x271.closed) v745)).set p2.channel.toNat (Chan.cells (Chan.mk x271.capacity x861 x271.closed) v919)), v895, x846, rs896, v897, x847, rs898, rfl, rfl, H, hR925, hs927, hs928⟩
      ·intro h844
       have h844 := dcd_f (h844)
       have H := iff_ h844 H
       refine Cw_skip ?_
       refine Pu6 ?_
       refine Pu6 ?_
       refine Pu6 ?_
       refine Pu5 ?_
       refine Pu5 ?_
       refine Re5 ?_
       refine Re5 ?_
       have hs929 := ((hp0_desk_waiting).mono hK288).mono hK749
       have hs930 := ((hp0_done).mono hK288).mono hK749
       refine Shift.done ?_
       exact ⟨_, by exact ⟨rfl, rfl, trivial⟩, (setI p0.desk.chans p2.channel (Chan.mk x271.capacity x743 x271.closed)), (rsp0_desk_chans.set p2.channel.toNat (Chan.cells (Chan.mk x271.capacity x743 x271.closed) v745)), vp0_desk_waiting, p0.desk.waiting, rsp0_desk_waiting, vp0_done, p0.done, rsp0_done, rfl, rfl, H, hR752, hs929, hs930⟩
     rintro _ K931 _ hK932 ⟨l833, rs835, v836, l837, rs839, v840, l841, rs843, rfl, rfl, H, hR834, hR838, hR842⟩
     unfold M_113z at H
     refine Cw_seq ?_
     refine Cw_region ?_
     refine Ow_q rfl rfl rfl (Qt_move rfl) ?_
     refine Ow_q rfl rfl rfl (Qt_build (cs := (Result.cells (Result.mk 2 0 x735 true 0))) rfl rfl rfl rfl rfl rfl) ?_
     refine Ow_cons rfl (OpW_store (vs := (Result.cells (Result.mk 2 0 x735 true 0))) (all' := (Result.cells (Result.mk 2 0 x735 true 0))) rfl rfl rfl rfl rfl (.there .here) rfl rfl rfl ?_)
     refine Ow_nil ?_
     refine Cw_ret ?_
     obtain ⟨ey0, ez0_chans, ez0_waiting, ez0_done⟩ := inj4 H
     subst y0 z0_chans z0_waiting z0_done
     refine ⟨(by first | exact .inl rfl | exact .inr rfl), [(.agg (Result.cells (Result.mk 2 0 x735 true 0)).toArray)], ⟨(.agg (Result.cells (Result.mk 2 0 x735 true 0)).toArray), _, rfl, ⟨_, 5, (Result.cells (Result.mk 2 0 x735 true 0)), rfl, rfl, rfl, rfl, ⟨rfl, Rdc.blk (.tail _ (.head _)) rfl⟩, rfl⟩, rfl⟩, ?_⟩
     refine Pu4 ?_
     refine Pu4 ?_
     refine Pu4 ?_
     refine Pu3 ?_
     refine Re4 ?_
     refine Shift.done ?_
     exact ⟨vp0_desk_chans, rs835, v836, rs839, v840, rs843, rfl, rfl, hR834, hR838, hR842⟩
    ·intro h734
     have h734 := dcd_f (h734)
     have H := iff_ h734 H
     refine Cw_seq ?_
     refine Cw_region ?_
     refine Ow_q rfl rfl rfl (Qt_move rfl) ?_
     refine Ow_q rfl rfl rfl (Qt_cmp rfl rfl rfl) ?_
     refine Ow_q rfl rfl rfl (Qt_assign rfl) ?_
     refine Ow_nil ?_
     refine Cw_cond rfl ?_ ?_
     ·intro h933
      have h933 := dcd_t (h933)
      have H := ift h933 H
      refine Cw_seq ?_
      refine Cw_region ?_
      refine Ow_q rfl rfl rfl (Qt_move rfl) ?_
      refine Ow_q rfl rfl rfl (Qt_move rfl) ?_
      refine Ow_q rfl rfl rfl (Qt_fieldAddr (m := 1) rfl rfl rfl rfl rfl) ?_
      refine Ow_q rfl rfl rfl (Qt_load1 (v := (.int .i64 p2.channel)) rfl rfl rfl (Rdc.blk (.tail _ (.tail _ (.head _))) rfl)) ?_
      obtain ⟨x934, x935, x936, hx937, H⟩ := bnd3 H
      refine Ow.shift (Pu5 (Shift.done ?_))
      refine Ow.shift (Pu5 (Shift.done ?_))
      refine Ow.shift (Pu5 (Shift.done ?_))
      refine Ow.shift (Pu3 (Shift.done ?_))
      have hs938 := (hp0_desk_waiting).mono hK288
      have hs939 := (hp0_done).mono hK288
      refine Ow_cons rfl (OpW_call rfl Try.call78 rfl rfl (c_M_65z bp0 p0 vp0_desk_chans rsp0_desk_chans vp0_desk_waiting rsp0_desk_waiting vp0_done rsp0_done x283 p2.channel x934 x935 x936 hx937 _ _ hs732 hs938 hs939) ?_)
      rintro _ K944 _ hK945 ⟨v940, rs941, v942, rs943, rfl, rfl, hs946, hs947⟩
      refine Ow_q rfl rfl rfl (Qt_build (cs := (Result.cells (Result.mk 2 0 x934 true 0))) rfl rfl rfl rfl rfl rfl) ?_
      refine Ow_cons rfl (OpW_store (vs := (Result.cells (Result.mk 2 0 x934 true 0))) (all' := (Result.cells (Result.mk 2 0 x934 true 0))) rfl rfl rfl rfl rfl (.there (.there (.there (.there .here)))) rfl rfl rfl ?_)
      refine Ow_nil ?_
      refine Cw_ret ?_
      obtain ⟨ey0, ez0_chans, ez0_waiting, ez0_done⟩ := inj4 H
      subst y0 z0_chans z0_waiting z0_done
      refine ⟨(by first | exact .inl rfl | exact .inr rfl), [(.agg (Result.cells (Result.mk 2 0 x934 true 0)).toArray)], ⟨(.agg (Result.cells (Result.mk 2 0 x934 true 0)).toArray), _, rfl, ⟨_, 5, (Result.cells (Result.mk 2 0 x934 true 0)), rfl, rfl, rfl, rfl, ⟨rfl, Rdc.blk (.tail _ (.tail _ (.tail _ (.tail _ (.head _))))) rfl⟩, rfl⟩, rfl⟩, ?_⟩
      refine Pu2 ?_
      refine Pu2 ?_
      refine Pu3 ?_
      refine Pu3 ?_
      refine Re4 ?_
      refine Re4 ?_
      have hs948 := (hs732).mono hK945
      refine Shift.done ?_
      exact ⟨vp0_desk_chans, rsp0_desk_chans, v940, rs941, v942, rs943, rfl, rfl, hs948, hs946, hs947⟩
     ·intro h933
      have h933 := dcd_f (h933)
      have H := iff_ h933 H
      refine Cw_skip ?_
      refine Cw_seq ?_
      refine Cw_region ?_
      refine Ow_q rfl rfl rfl (Qt_build (cs := (Result.cells (Result.mk 2 0 0 false 0))) rfl rfl rfl rfl rfl rfl) ?_
      refine Ow_cons rfl (OpW_store (vs := (Result.cells (Result.mk 2 0 0 false 0))) (all' := (Result.cells (Result.mk 2 0 0 false 0))) rfl rfl rfl rfl rfl (.there .here) rfl rfl rfl ?_)
      refine Ow_nil ?_
      refine Cw_ret ?_
      obtain ⟨ey0, ez0_chans, ez0_waiting, ez0_done⟩ := inj4 H
      subst y0 z0_chans z0_waiting z0_done
      refine ⟨(by first | exact .inl rfl | exact .inr rfl), [(.agg (Result.cells (Result.mk 2 0 0 false 0)).toArray)], ⟨(.agg (Result.cells (Result.mk 2 0 0 false 0)).toArray), _, rfl, ⟨_, 5, (Result.cells (Result.mk 2 0 0 false 0)), rfl, rfl, rfl, rfl, ⟨rfl, Rdc.blk (.tail _ (.head _)) rfl⟩, rfl⟩, rfl⟩, ?_⟩
      refine Pu5 ?_
      refine Pu5 ?_
      refine Pu5 ?_
      refine Pu3 ?_
      refine Re4 ?_
      refine Re4 ?_
      have hs949 := (hp0_desk_waiting).mono hK288
      have hs950 := (hp0_done).mono hK288
      refine Shift.done ?_
      exact ⟨vp0_desk_chans, rsp0_desk_chans, vp0_desk_waiting, rsp0_desk_waiting, vp0_done, rsp0_done, rfl, rfl, hs732, hs949, hs950⟩



end Go.Hx

namespace Go.Hx
open Go Go.Proofs
set_option linter.unusedSimpArgs false
set_option linter.unusedVariables false
set_option maxRecDepth 10000
set_option maxHeartbeats 1000000 in
theorem c_M_desk_Do (p0 : Desk) (vp0_chans : SV) (vp0_waiting : SV) (p1 : Int) (p2 : Op) (vp2_cases : SV) (vp2_draws : SV) (y0 : Desk) (y1 : List Done) (y2 : Bool) (H : M_desk_Do p0 p1 p2 = some (y0, y1, y2)) (K : Kp) (G : List Ent) (hp0_chans : Slr TyChan K (sv vp0_chans) p0.chans) (hp0_waiting : Slr TyWaiter K (sv vp0_waiting) p0.waiting) (hp2_cases : Slr TyCase K (sv vp2_cases) p2.cases) (hp2_draws : Slr Ty.i64 K (sv vp2_draws) p2.draws) :
  Fc Try.prog 22 #[(.agg (Desk.cells p0 vp0_chans vp0_waiting).toArray), (.int .i64 p1), (.agg (Op.cells p2 vp2_cases vp2_draws).toArray)] K (G) (fun v K' G' => ∃ (wy0_chans : SV) (rswy0_chans : List (List Value)) (wy0_waiting : SV) (rswy0_waiting : List (List Value)) (wy1 : SV) (rswy1 : List (List Value)), v = (.tuple #[(.agg (Desk.cells y0 wy0_chans wy0_waiting).toArray), (sv wy1), (.bool y2)]) ∧ (.row (sv wy0_chans) 71 3 rswy0_chans.flatten) :: (.row (sv wy0_waiting) 52 8 rswy0_waiting.flatten) :: (.row (sv wy1) 75 6 rswy1.flatten) :: G = G' ∧ RowR TyChan K' rswy0_chans y0.chans ∧ RowR TyWaiter K' rswy0_waiting y0.waiting ∧ RowR TyDone K' rswy1 y1) := by
 refine Fc_body Try.func22 rfl Try.ntmps22 Try.results22 rfl ?_
 unfold M_desk_Do at H
 refine Cw_seq ?_
 refine Cw_region ?_
 refine Ow_cons rfl (OpW_box (cs := (Desk.cells p0 vp0_chans vp0_waiting)) rfl rfl rfl (fun b187 => ?_))
 refine Ow_cons rfl (OpW_box (cs := (Op.cells p2 vp2_cases vp2_draws)) rfl rfl rfl (fun b188 => ?_))
 refine Ow_cons rfl (OpW_alloc (cs := (Desk.cells (Desk.mk [] [] 0) nilS nilS)) rfl rfl rfl rfl (fun b189 => ?_))
 refine Ow_q rfl rfl rfl (Qt_assign rfl) ?_
 refine Ow_q rfl rfl rfl (Qt_assign rfl) ?_
 refine Ow_nil ?_
 refine Cw_seq ?_
 refine Cw_region ?_
 refine Ow_q rfl rfl rfl (Qt_loadA (m := 3) (cs := (Desk.cells p0 vp0_chans vp0_waiting)) rfl rfl rfl rfl ⟨rfl, Rdc.blk (.tail _ (.tail _ (.head _))) rfl⟩) ?_
 obtain ⟨x190, hx191, H⟩ := bnd H
 refine Ow_cons rfl (OpW_call rfl Try.call44 rfl rfl (c_M_57z p0 vp0_chans vp0_waiting x190 hx191 _ _ hp0_chans hp0_waiting) ?_)
 rintro _ _ _ - ⟨b192, v193, rs194, v195, rs196, v197, rs198, rfl, rfl, rfl, hs199, hs200, hs201⟩
 refine Ow_q rfl rfl rfl (Qt_assign rfl) ?_
 refine Ow_nil ?_
 refine Cw_seq ?_
 refine Cw_region ?_
 refine Ow_q rfl rfl rfl (Qt_build (cs := (Result.cells (Result.mk 0 (-1) 0 false 0))) rfl rfl rfl rfl rfl rfl) ?_
 refine Ow_cons rfl (OpW_alloc (cs := (Result.cells (Result.mk 0 0 0 false 0))) rfl rfl rfl rfl (fun b202 => ?_))
 refine Ow_cons rfl (OpW_store (vs := (Result.cells (Result.mk 0 (-1) 0 false 0))) (all' := (Result.cells (Result.mk 0 (-1) 0 false 0))) rfl rfl rfl rfl rfl .here rfl rfl rfl ?_)
 refine Ow_nil ?_
 refine Cw_join (fun env' K' G' => ∃ (i347 : Int) (i348 : Int) (i349 : Int) (t350 : Bool) (i351 : Int) (v352 : SV) (l353 : List Chan) (rs355 : List (List Value)) (v356 : SV) (l357 : List Waiter) (rs359 : List (List Value)) (v360 : SV) (l361 : List Done) (rs363 : List (List Value)), [(1, (.int .i64 p1)), (6, (.pointer (some ((⟨b189, 0, none⟩ : Addr).add 0)))), (9, (.pointer (some ((⟨b192, 0, none⟩ : Addr).add 0)))), (10, (.pointer (some ((⟨b202, 0, none⟩ : Addr).add 0))))] = env' ∧ (.blk b202 73 (Result.cells (Result.mk i347 i348 i349 t350 i351))) :: (.blk b192 92 (Desk_work.cells (Desk_work.mk (Desk.mk l353 l357 x190.desk.tick) l361) v352 v356 v360)) :: (.blk b189 34 (Desk.cells (Desk.mk [] [] 0) nilS nilS)) :: (.row (sv v352) 71 3 rs355.flatten) :: (.row (sv v356) 52 8 rs359.flatten) :: (.row (sv v360) 75 6 rs363.flatten) :: G = G' ∧ M_4z p1 x190 i347 i348 i349 t350 i351 l353 l357 l361 = some (y0, y1, y2) ∧ RowR TyChan K' rs355 l353 ∧ RowR TyWaiter K' rs359 l357 ∧ RowR TyDone K' rs363 l361) ?_ ?_
 ·skip
  refine Cw_seq ?_
  refine Cw_region ?_
  refine Ow_q rfl rfl rfl (Qt_fieldAddr (m := 0) rfl rfl rfl rfl rfl) ?_
  refine Ow_q rfl rfl rfl (Qt_load1 (v := (.int .i64 p2.kind)) rfl rfl rfl (Rdc.blk (.tail _ (.tail _ (.tail _ (.tail _ (.tail _ (.tail _ (.head _))))))) rfl)) ?_
  refine Ow_nil ?_
  refine Cw_block ?_
  refine Cw_seq ?_
  refine Cw_region ?_
  refine Ow_q rfl rfl rfl (Qt_cmp rfl rfl rfl) ?_
  refine Ow_q rfl rfl rfl (Qt_assign rfl) ?_
  refine Ow_nil ?_
  refine Cw_cond rfl ?_ ?_
  ·intro h364
   have h364 := dcd_t (h364)
   have H := ift h364 H
   refine Cw_seq ?_
   refine Cw_region ?_
   refine Ow_q rfl rfl rfl (Qt_fieldAddr (m := 0) rfl rfl rfl rfl rfl) ?_
   refine Ow_cons rfl (OpW_store (vs := [(.int .i64 5)]) (all' := (Result.cells (Result.mk 5 (-1) 0 false 0))) rfl rfl rfl rfl rfl .here rfl rfl rfl ?_)
   refine Ow_nil ?_
   refine Cw_join (fun env' K' G' => ∃ (t375 : Bool), [(1, (.int .i64 p1)), (5, (.pointer (some ((⟨b188, 0, none⟩ : Addr).add 0)))), (6, (.pointer (some ((⟨b189, 0, none⟩ : Addr).add 0)))), (9, (.pointer (some ((⟨b192, 0, none⟩ : Addr).add 0)))), (10, (.pointer (some ((⟨b202, 0, none⟩ : Addr).add 0)))), (101, (.bool t375))] = env' ∧ K = K' ∧ (.blk b202 73 (Result.cells (Result.mk 5 (-1) 0 false 0))) :: (.blk b192 92 (Desk_work.cells x190 v193 v195 v197)) :: (.blk b189 34 (Desk.cells (Desk.mk [] [] 0) nilS nilS)) :: (.blk b188 41 (Op.cells p2 vp2_cases vp2_draws)) :: (.row (sv v193) 71 3 rs194.flatten) :: (.row (sv v195) 52 8 rs196.flatten) :: (.row (sv v197) 75 6 rs198.flatten) :: G = G' ∧ M_66z p1 x190 p2 t375 = some (y0, y1, y2)) ?_ ?_
   ·skip
    refine Cw_region ?_
    refine Ow_q rfl rfl rfl (Qt_loadA (m := 3) (cs := (Desk.cells p0 vp0_chans vp0_waiting)) rfl rfl rfl rfl ⟨rfl, Rdc.blk (.tail _ (.tail _ (.tail _ (.tail _ (.tail _ (.tail _ (.tail _ (.head _)))))))) rfl⟩) ?_
    refine Ow_q rfl rfl rfl (Qt_fieldAddr (m := 2) rfl rfl rfl rfl rfl) ?_
    refine Ow_q rfl rfl rfl (Qt_load1 (v := (.int .i64 p2.channel)) rfl rfl rfl (Rdc.blk (.tail _ (.tail _ (.tail _ (.tail _ (.tail _ (.tail _ (.head _))))))) rfl)) ?_
    obtain ⟨x376, hx377, H⟩ := bnd H
    refine Ow_cons rfl (OpW_call rfl Try.call45 rfl rfl (c_M_29z p0 vp0_chans vp0_waiting p2.channel x376 hx377 _ _ hp0_chans hp0_waiting) ?_)
    rintro _ _ _ - ⟨rfl, rfl, rfl⟩
    refine Ow_q rfl rfl rfl (Qt_move rfl) ?_
    refine Ow_caseG rfl rfl rfl ?_ ?_
    ·intro h378
     have H := ift h378 H
     refine Ow_qw rfl rfl rfl rfl rfl rfl (Qt_fieldAddr (m := 0) rfl rfl rfl rfl rfl) ?_
     refine Ow_qw rfl rfl rfl rfl rfl rfl (Qt_load1 (v := (sv vp0_chans)) rfl rfl rfl (Rdc.blk (.tail _ (.tail _ (.tail _ (.tail _ (.tail _ (.tail _ (.tail _ (.head _)))))))) rfl)) ?_
     refine Ow_qw rfl rfl rfl rfl rfl rfl (Qt_fieldAddr (m := 2) rfl rfl rfl rfl rfl) ?_
     refine Ow_qw rfl rfl rfl rfl rfl rfl (Qt_load1 (v := (.int .i64 p2.channel)) rfl rfl rfl (Rdc.blk (.tail _ (.tail _ (.tail _ (.tail _ (.tail _ (.tail _ (.head _))))))) rfl)) ?_
     obtain ⟨x379, hx380, H⟩ := bnd H
     obtain ⟨r381, hr382, hk383⟩ := Slr.at hp0_chans hx380
     obtain ⟨v384, rfl, hs385⟩ := hr382
     refine Ow_qw rfl rfl rfl rfl rfl rfl (Q_ix (T := TyChan) hp0_chans hx380 rfl rfl rfl rfl rfl) ?_
     refine Ow_qw rfl rfl rfl rfl rfl rfl (Qt_fieldAddr (m := 2) rfl rfl rfl rfl rfl) ?_
     refine Ow_qw rfl rfl rfl rfl rfl rfl (Qt_load1 (v := (.bool x379.closed)) rfl rfl rfl (Rdc.k hk383 rfl)) ?_
     refine Ow_qw rfl rfl rfl rfl rfl rfl (Qt_not rfl) ?_
     refine Ow_q rfl rfl rfl (Qt_pick_t rfl rfl) ?_
     refine Ow_nil ?_
     refine Pu4 ?_
     refine Pu4 ?_
     refine Pu4 ?_
     refine Pu6 ?_
     refine Pu6 ?_
     refine Pu6 ?_
     refine Pu6 ?_
     refine Re7 ?_
     refine Shift.done ?_
     exact ⟨_, by exact ⟨rfl, rfl, rfl, rfl, rfl, rfl, trivial⟩, (!(x379.closed)), rfl, rfl, rfl, H⟩
    ·intro h378
     have H := iff_ (btf h378) H
     refine Ow_pass rfl rfl rfl rfl rfl rfl rfl ?_
     refine Ow_pass rfl rfl rfl rfl rfl rfl rfl ?_
     refine Ow_pass rfl rfl rfl rfl rfl rfl rfl ?_
     refine Ow_pass rfl rfl rfl rfl rfl rfl rfl ?_
     refine Ow_pass rfl rfl rfl rfl rfl rfl rfl ?_
     refine Ow_pass rfl rfl rfl rfl rfl rfl rfl ?_
     refine Ow_pass rfl rfl rfl rfl rfl rfl rfl ?_
     refine Ow_pass rfl rfl rfl rfl rfl rfl rfl ?_
     refine Ow_q rfl rfl rfl (Qt_pick_f rfl rfl) ?_
     refine Ow_nil ?_
     refine Pu4 ?_
     refine Pu4 ?_
     refine Pu4 ?_
     refine Pu6 ?_
     refine Pu6 ?_
     refine Pu6 ?_
     refine Pu6 ?_
     refine Re7 ?_
     refine Shift.done ?_
     exact ⟨_, by exact ⟨rfl, rfl, rfl, rfl, rfl, rfl, trivial⟩, false, rfl, rfl, rfl, H⟩
   rintro _ _ _ - ⟨t375, rfl, rfl, rfl, H⟩
   unfold M_66z at H
   refine Cw_cond rfl ?_ ?_
   ·intro h386
    have H := ift h386 H
    refine Cw_seq ?_
    refine Cw_region ?_
    refine Ow_q rfl rfl rfl (Qt_move rfl) ?_
    refine Ow_q rfl rfl rfl (Qt_fieldAddr (m := 2) rfl rfl rfl rfl rfl) ?_
    refine Ow_q rfl rfl rfl (Qt_load1 (v := (.int .i64 p2.channel)) rfl rfl rfl (Rdc.blk (.tail _ (.tail _ (.tail _ (.head _)))) rfl)) ?_
    obtain ⟨x387, x388, x389, hx390, H⟩ := bnd3 H
    refine Ow.shift (Pu6 (Shift.done ?_))
    refine Ow.shift (Pu6 (Shift.done ?_))
    refine Ow.shift (Pu6 (Shift.done ?_))
    refine Ow.shift (Pu4 (Shift.done ?_))
    refine Ow_cons rfl (OpW_call rfl Try.call46 rfl rfl (c_M_100z b192 x190 v193 rs194 v195 rs196 v197 rs198 p2.channel x387 x388 x389 hx390 _ _ hs199 hs200 hs201) ?_)
    rintro _ K397 _ hK398 ⟨v391, rs392, v393, rs394, v395, rs396, rfl, rfl, hs399, hs400, hs401⟩
    refine Ow_nil ?_
    refine Cw_region ?_
    refine Ow_q rfl rfl rfl (Qt_fieldAddr (m := 0) rfl rfl rfl rfl rfl) ?_
    refine Ow_cons rfl (OpW_store (vs := [(.int .i64 6)]) (all' := (Result.cells (Result.mk 6 (-1) 0 false 0))) rfl rfl rfl rfl rfl (.there (.there (.there (.there .here)))) rfl rfl rfl ?_)
    refine Ow_nil ?_
    refine Pu3 ?_
    refine Pu3 ?_
    refine Pu3 ?_
    refine Pu5 ?_
    refine Pu4 ?_
    refine Pu5 ?_
    refine Re6 ?_
    refine Shift.done ?_
    exact ⟨_, by exact ⟨rfl, rfl, rfl, rfl, trivial⟩, 6, (-1), 0, false, 0, v391, x387, rs392, v393, x388, rs394, v395, x389, rs396, rfl, rfl, H, hs399, hs400, hs401⟩
   ·intro h386
    have H := iff_ (btf h386) H
    refine Cw_skip ?_
    refine Pu6 ?_
    refine Pu6 ?_
    refine Pu6 ?_
    refine Pu5 ?_
    refine Pu5 ?_
    refine Pu5 ?_
    refine Re6 ?_
    refine Shift.done ?_
    exact ⟨_, by exact ⟨rfl, rfl, rfl, rfl, trivial⟩, 5, (-1), 0, false, 0, v193, x190.desk.chans, rs194, v195, x190.desk.waiting, rs196, v197, x190.done, rs198, rfl, rfl, H, hs199, hs200, hs201⟩
  ·intro h364
   have h364 := dcd_f (h364)
   have H := iff_ h364 H
   refine Cw_join (fun env' K' G' => ∃ (t403 : Bool), [(1, (.int .i64 p1)), (3, (.pointer (some ((⟨b187, 0, none⟩ : Addr).add 0)))), (5, (.pointer (some ((⟨b188, 0, none⟩ : Addr).add 0)))), (6, (.pointer (some ((⟨b189, 0, none⟩ : Addr).add 0)))), (9, (.pointer (some ((⟨b192, 0, none⟩ : Addr).add 0)))), (10, (.pointer (some ((⟨b202, 0, none⟩ : Addr).add 0)))), (107, (.bool t403))] = env' ∧ K = K' ∧ (.blk b202 73 (Result.cells (Result.mk 0 (-1) 0 false 0))) :: (.blk b192 92 (Desk_work.cells x190 v193 v195 v197)) :: (.blk b189 34 (Desk.cells (Desk.mk [] [] 0) nilS nilS)) :: (.blk b188 41 (Op.cells p2 vp2_cases vp2_draws)) :: (.blk b187 34 (Desk.cells p0 vp0_chans vp0_waiting)) :: (.row (sv v193) 71 3 rs194.flatten) :: (.row (sv v195) 52 8 rs196.flatten) :: (.row (sv v197) 75 6 rs198.flatten) :: G = G' ∧ M_35z p1 x190 p2 p0 t403 = some (y0, y1, y2)) ?_ ?_
   ·skip
    refine Cw_seq ?_
    refine Cw_region ?_
    refine Ow_q rfl rfl rfl (Qt_cmp rfl rfl rfl) ?_
    refine Ow_q rfl rfl rfl (Qt_assign rfl) ?_
    refine Ow_nil ?_
    refine Cw_cond rfl ?_ ?_
    ·intro h404
     have h404 := dcd_t (h404)
     have H := ift h404 H
     refine Cw_skip ?_
     refine Pu4 ?_
     refine Pu4 ?_
     refine Pu4 ?_
     refine Pu7 ?_
     refine Pu7 ?_
     refine Pu7 ?_
     refine Pu7 ?_
     refine Pu7 ?_
     refine Shift.done ?_
     exact ⟨_, by exact ⟨rfl, rfl, rfl, rfl, rfl, rfl, rfl, trivial⟩, (dcd (p2.kind = 5)), rfl, rfl, rfl, H⟩
    ·intro h404
     have h404 := dcd_f (h404)
     have H := iff_ h404 H
     refine Cw_region ?_
     refine Ow_q rfl rfl rfl (Qt_cmp rfl rfl rfl) ?_
     refine Ow_q rfl rfl rfl (Qt_assign rfl) ?_
     refine Ow_nil ?_
     refine Pu4 ?_
     refine Pu4 ?_
     refine Pu4 ?_
     refine Pu7 ?_
     refine Pu7 ?_
     refine Pu7 ?_
     refine Pu7 ?_
     refine Pu7 ?_
     refine Shift.done ?_
     exact ⟨_, by exact ⟨rfl, rfl, rfl, rfl, rfl, rfl, rfl, trivial⟩, (dcd (p2.kind = 6)), rfl, rfl, rfl, H⟩
   rintro _ _ _ - ⟨t403, rfl, rfl, rfl, H⟩
   unfold M_35z at H
   refine Cw_cond rfl ?_ ?_
   ·intro h405
    have H := ift h405 H
    refine Cw_seq ?_
    refine Cw_region ?_
    refine Ow_q rfl rfl rfl (Qt_fieldAddr (m := 0) rfl rfl rfl rfl rfl) ?_
    refine Ow_cons rfl (OpW_store (vs := [(.int .i64 7)]) (all' := (Result.cells (Result.mk 7 (-1) 0 false 0))) rfl rfl rfl rfl rfl .here rfl rfl rfl ?_)
    refine Ow_nil ?_
    refine Cw_seq ?_
    refine Cw_region ?_
    refine Ow_q rfl rfl rfl (Qt_loadA (m := 3) (cs := (Desk.cells p0 vp0_chans vp0_waiting)) rfl rfl rfl rfl ⟨rfl, Rdc.blk (.tail _ (.tail _ (.tail _ (.tail _ (.head _))))) rfl⟩) ?_
    refine Ow_q rfl rfl rfl (Qt_fieldAddr (m := 2) rfl rfl rfl rfl rfl) ?_
    refine Ow_q rfl rfl rfl (Qt_load1 (v := (.int .i64 p2.channel)) rfl rfl rfl (Rdc.blk (.tail _ (.tail _ (.tail _ (.head _)))) rfl)) ?_
    obtain ⟨x406, hx407, H⟩ := bnd H
    refine Ow_cons rfl (OpW_call rfl Try.call45 rfl rfl (c_M_29z p0 vp0_chans vp0_waiting p2.channel x406 hx407 _ _ hp0_chans hp0_waiting) ?_)
    rintro _ _ _ - ⟨rfl, rfl, rfl⟩
    refine Ow_nil ?_
    refine Cw_cond rfl ?_ ?_
    ·intro h408
     have H := ift h408 H
     refine Cw_seq ?_
     refine Cw_region ?_
     refine Ow_q rfl rfl rfl (Qt_fieldAddr (m := 0) rfl rfl rfl rfl rfl) ?_
     refine Ow_q rfl rfl rfl (Qt_load1 (v := (sv vp0_chans)) rfl rfl rfl (Rdc.blk (.tail _ (.tail _ (.tail _ (.tail _ (.head _))))) rfl)) ?_
     refine Ow_q rfl rfl rfl (Qt_fieldAddr (m := 2) rfl rfl rfl rfl rfl) ?_
     refine Ow_q rfl rfl rfl (Qt_load1 (v := (.int .i64 p2.channel)) rfl rfl rfl (Rdc.blk (.tail _ (.tail _ (.tail _ (.head _)))) rfl)) ?_
     obtain ⟨x409, hx410, H⟩ := bnd H
     obtain ⟨r411, hr412, hk413⟩ := Slr.at hp0_chans hx410
     obtain ⟨v414, rfl, hs415⟩ := hr412
     refine Ow_q rfl rfl rfl (Q_ix (T := TyChan) hp0_chans hx410 rfl rfl rfl rfl rfl) ?_
     refine Ow_q rfl rfl rfl (Qt_fieldAddr (m := 0) rfl rfl rfl rfl rfl) ?_
     refine Ow_q rfl rfl rfl (Qt_load1 (v := (.int .i64 x409.capacity)) rfl rfl rfl (Rdc.k hk413 rfl)) ?_
     refine Ow_q rfl rfl rfl (Qt_fieldAddr (m := 4) rfl rfl rfl rfl rfl) ?_
     refine Ow_cons rfl (OpW_store (vs := [(.int .i64 x409.capacity)]) (all' := (Result.cells (Result.mk 7 (-1) 0 false x409.capacity))) rfl rfl rfl rfl rfl .here rfl rfl rfl ?_)
     refine Ow_nil ?_
     refine Cw_seq ?_
     refine Cw_region ?_
     refine Ow_q rfl rfl rfl (Qt_fieldAddr (m := 0) rfl rfl rfl rfl rfl) ?_
     refine Ow_q rfl rfl rfl (Qt_load1 (v := (.int .i64 p2.kind)) rfl rfl rfl (Rdc.blk (.tail _ (.tail _ (.tail _ (.head _)))) rfl)) ?_
     refine Ow_q rfl rfl rfl (Qt_cmp rfl rfl rfl) ?_
     refine Ow_nil ?_
     refine Cw_cond rfl ?_ ?_
     ·intro h416
      have h416 := dcd_t (h416)
      have H := ift h416 H
      refine Cw_region ?_
      refine Ow_q rfl rfl rfl (Qt_fieldAddr (m := 0) rfl rfl rfl rfl rfl) ?_
      refine Ow_q rfl rfl rfl (Qt_load1 (v := (sv vp0_chans)) rfl rfl rfl (Rdc.blk (.tail _ (.tail _ (.tail _ (.tail _ (.head _))))) rfl)) ?_
      refine Ow_q rfl rfl rfl (Qt_fieldAddr (m := 2) rfl rfl rfl rfl rfl) ?_
      refine Ow_q rfl rfl rfl (Qt_load1 (v := (.int .i64 p2.channel)) rfl rfl rfl (Rdc.blk (.tail _ (.tail _ (.tail _ (.head _)))) rfl)) ?_
      obtain ⟨x417, hx418, H⟩ := bnd H
      obtain ⟨r419, hr420, hk421⟩ := Slr.at hp0_chans hx418
      obtain ⟨v422, rfl, hs423⟩ := hr420
      refine Ow_q rfl rfl rfl (Q_ix (T := TyChan) hp0_chans hx418 rfl rfl rfl rfl rfl) ?_
      refine Ow_q rfl rfl rfl (Qt_fieldAddr (m := 1) rfl rfl rfl rfl rfl) ?_
      refine Ow_q rfl rfl rfl (Qt_load1 (v := (sv v422)) rfl rfl rfl (Rdc.k hk421 rfl)) ?_
      refine Ow_q rfl rfl rfl (Q_len (T := Ty.u64) hs423 rfl rfl) ?_
      refine Ow_q rfl rfl rfl (Qt_fieldAddr (m := 4) rfl rfl rfl rfl rfl) ?_
      refine Ow_cons rfl (OpW_store (vs := [(.int .i64 (x417.buffer.length : Int))]) (all' := (Result.cells (Result.mk 7 (-1) 0 false (x417.buffer.length : Int)))) rfl rfl rfl rfl rfl .here rfl rfl rfl ?_)
      refine Ow_nil ?_
      refine Pu7 ?_
      refine Pu7 ?_
      refine Pu7 ?_
      refine Pu5 ?_
      refine Pu5 ?_
      refine Pu5 ?_
      refine Re6 ?_
      refine Re6 ?_
      refine Shift.done ?_
      exact ⟨_, by exact ⟨rfl, rfl, rfl, rfl, trivial⟩, 7, (-1), 0, false, (x417.buffer.length : Int), v193, x190.desk.chans, rs194, v195, x190.desk.waiting, rs196, v197, x190.done, rs198, rfl, rfl, H, hs199, hs200, hs201⟩
     ·intro h416
      have h416 := dcd_f (h416)
      have H := iff_ h416 H
      refine Cw_skip ?_
      refine Pu7 ?_
      refine Pu7 ?_
      refine Pu7 ?_
      refine Pu5 ?_
      refine Pu5 ?_
      refine Pu5 ?_
      refine Re6 ?_
      refine Re6 ?_
      refine Shift.done ?_
      exact ⟨_, by exact ⟨rfl, rfl, rfl, rfl, trivial⟩, 7, (-1), 0, false, x409.capacity, v193, x190.desk.chans, rs194, v195, x190.desk.waiting, rs196, v197, x190.done, rs198, rfl, rfl, H, hs199, hs200, hs201⟩
    ·intro h408
     have H := iff_ (btf h408) H
     refine Cw_skip ?_
     refine Pu7 ?_
     refine Pu7 ?_
     refine Pu7 ?_
     refine Pu5 ?_
     refine Pu5 ?_
     refine Pu5 ?_
     refine Re6 ?_
     refine Re6 ?_
     refine Shift.done ?_
     exact ⟨_, by exact ⟨rfl, rfl, rfl, rfl, trivial⟩, 7, (-1), 0, false, 0, v193, x190.desk.chans, rs194, v195, x190.desk.waiting, rs196, v197, x190.done, rs198, rfl, rfl, H, hs199, hs200, hs201⟩
   ·intro h405
    have H := iff_ (btf h405) H
    refine Cw_seq ?_
    refine Cw_region ?_
    refine Ow_q rfl rfl rfl (Qt_loadA (m := 3) (cs := (Desk.cells p0 vp0_chans vp0_waiting)) rfl rfl rfl rfl ⟨rfl, Rdc.blk (.tail _ (.tail _ (.tail _ (.tail _ (.head _))))) rfl⟩) ?_
    refine Ow_q rfl rfl rfl (Qt_move rfl) ?_
    refine Ow_q rfl rfl rfl (Qt_loadA (m := 7) (cs := (Op.cells p2 vp2_cases vp2_draws)) rfl rfl rfl rfl ⟨rfl, Rdc.blk (.tail _ (.tail _ (.tail _ (.head _)))) rfl⟩) ?_
    obtain ⟨x424, hx425, H⟩ := bnd H
    refine Ow_cons rfl (OpW_call rfl Try.call18 rfl rfl (c_M_109z p0 vp0_chans vp0_waiting p1 p2 vp2_cases vp2_draws x424 hx425 _ _ hp0_chans hp0_waiting hp2_cases hp2_draws) ?_)
    rintro _ K426 _ hK427 ⟨rfl, rfl⟩
    refine Ow_q rfl rfl rfl (Qt_assign rfl) ?_
    refine Ow_nil ?_
    refine Cw_join (fun env' K' G' => ∃ (i445 : Int), [(1, (.int .i64 p1)), (3, (.pointer (some ((⟨b187, 0, none⟩ : Addr).add 0)))), (5, (.pointer (some ((⟨b188, 0, none⟩ : Addr).add 0)))), (6, (.pointer (some ((⟨b189, 0, none⟩ : Addr).add 0)))), (9, (.pointer (some ((⟨b192, 0, none⟩ : Addr).add 0)))), (10, (.pointer (some ((⟨b202, 0, none⟩ : Addr).add 0)))), (11, (.int .i64 i445))] = env' ∧ (.blk b202 73 (Result.cells (Result.mk 0 (-1) 0 false 0))) :: (.blk b192 92 (Desk_work.cells x190 v193 v195 v197)) :: (.blk b189 34 (Desk.cells (Desk.mk [] [] 0) nilS nilS)) :: (.blk b188 41 (Op.cells p2 vp2_cases vp2_draws)) :: (.blk b187 34 (Desk.cells p0 vp0_chans vp0_waiting)) :: (.row (sv v193) 71 3 rs194.flatten) :: (.row (sv v195) 52 8 rs196.flatten) :: (.row (sv v197) 75 6 rs198.flatten) :: G = G' ∧ M_68z p1 x190 p2 p0 i445 = some (y0, y1, y2)) ?_ ?_
    ·skip
     refine Cw_seq ?_
     refine Cw_region ?_
     refine Ow_q rfl rfl rfl (Qt_loadA (m := 7) (cs := (Op.cells p2 vp2_cases vp2_draws)) rfl rfl rfl rfl ⟨rfl, Rdc.blk (.tail _ (.tail _ (.tail _ (.head _)))) rfl⟩) ?_
     obtain ⟨x446, x447, hx448, H⟩ := bnd2 H
     have hs449 := (hp2_cases).mono hK427
     have hs450 := (hp2_draws).mono hK427
     refine Ow_cons rfl (OpW_call rfl Try.call47 rfl rfl (c_M_6z p2 vp2_cases vp2_draws x446 x447 hx448 _ _ hs449 hs450) ?_)
     rintro _ _ _ - ⟨rfl, rfl, rfl⟩
     refine Ow_q rfl rfl rfl (Qt_move rfl) ?_
     refine Ow_q rfl rfl rfl (Qt_extract rfl rfl) ?_
     refine Ow_q rfl rfl rfl (Qt_extract rfl rfl) ?_
     refine Ow_cons rfl (OpW_alloc (cs := (Case.cells (Case.mk false 0 0))) rfl rfl rfl rfl (fun b451 => ?_))
     refine Ow_cons rfl (OpW_store (vs := (Case.cells x446)) (all' := (Case.cells x446)) rfl rfl rfl rfl rfl .here rfl rfl rfl ?_)
     refine Ow_q rfl rfl rfl (Qt_assign rfl) ?_
     refine Ow_nil ?_
     refine Cw_join (fun env' K' G' => ∃ (t459 : Bool), [(1, (.int .i64 p1)), (3, (.pointer (some ((⟨b187, 0, none⟩ : Addr).add 0)))), (5, (.pointer (some ((⟨b188, 0, none⟩ : Addr).add 0)))), (6, (.pointer (some ((⟨b189, 0, none⟩ : Addr).add 0)))), (9, (.pointer (some ((⟨b192, 0, none⟩ : Addr).add 0)))), (10, (.pointer (some ((⟨b202, 0, none⟩ : Addr).add 0)))), (11, (.int .i64 x424)), (34, (.bool t459))] = env' ∧ (.blk b202 73 (Result.cells (Result.mk 0 (-1) 0 false 0))) :: (.blk b192 92 (Desk_work.cells x190 v193 v195 v197)) :: (.blk b189 34 (Desk.cells (Desk.mk [] [] 0) nilS nilS)) :: (.blk b188 41 (Op.cells p2 vp2_cases vp2_draws)) :: (.blk b187 34 (Desk.cells p0 vp0_chans vp0_waiting)) :: (.row (sv v193) 71 3 rs194.flatten) :: (.row (sv v195) 52 8 rs196.flatten) :: (.row (sv v197) 75 6 rs198.flatten) :: G = G' ∧ M_69z p1 x424 x190 p2 p0 t459 = some (y0, y1, y2)) ?_ ?_
     ·skip
      refine Cw_region ?_
      refine Ow_q rfl rfl rfl (Qt_move rfl) ?_
      refine Ow_q rfl rfl rfl (Qt_move rfl) ?_
      refine Ow_caseG rfl rfl rfl ?_ ?_
      ·intro h460
       have H := ift h460 H
       refine Ow_qw rfl rfl rfl rfl rfl rfl (Qt_loadA (m := 3) (cs := (Desk.cells p0 vp0_chans vp0_waiting)) rfl rfl rfl rfl ⟨rfl, Rdc.blk (.tail _ (.tail _ (.tail _ (.tail _ (.tail _ (.head _)))))) rfl⟩) ?_
       refine Ow_qw rfl rfl rfl rfl rfl rfl (Qt_move rfl) ?_
       refine Ow_qw rfl rfl rfl rfl rfl rfl (Qt_loadA (m := 3) (cs := (Case.cells x446)) rfl rfl rfl rfl ⟨rfl, Rdc.blk (.head _) rfl⟩) ?_
       obtain ⟨x461, hx462, H⟩ := bnd H
       have hs463 := (hp0_chans).mono hK427
       have hs464 := (hp0_waiting).mono hK427
       refine Ow_want rfl rfl rfl rfl (OpW_call rfl Try.call16 rfl rfl (c_M_63z p0 vp0_chans vp0_waiting p1 x446 x461 hx462 _ _ hs463 hs464) ?_)
       rintro _ K465 _ hK466 ⟨rfl, rfl⟩
       refine Ow_q rfl rfl rfl (Qt_pick_t rfl rfl) ?_
       refine Ow_nil ?_
       refine Pu8 ?_
       refine Pu8 ?_
       refine Pu8 ?_
       refine Pu8 ?_
       refine Pu8 ?_
       refine Pu8 ?_
       refine Pu8 ?_
       refine Pu8 ?_
       refine Re8 ?_
       refine Shift.done ?_
       exact ⟨_, by exact ⟨rfl, rfl, rfl, rfl, rfl, rfl, rfl, rfl, trivial⟩, x461, rfl, rfl, H⟩
      ·intro h460
       have H := iff_ (btf h460) H
       refine Ow_pass rfl rfl rfl rfl rfl rfl rfl ?_
       refine Ow_pass rfl rfl rfl rfl rfl rfl rfl ?_
       refine Ow_pass rfl rfl rfl rfl rfl rfl rfl ?_
       refine Ow_pass rfl rfl rfl rfl rfl rfl rfl ?_
       refine Ow_q rfl rfl rfl (Qt_pick_f rfl rfl) ?_
       refine Ow_nil ?_
       refine Pu8 ?_
       refine Pu8 ?_
       refine Pu8 ?_
       refine Pu8 ?_
       refine Pu8 ?_
       refine Pu8 ?_
       refine Pu8 ?_
       refine Pu8 ?_
       refine Re8 ?_
       refine Shift.done ?_
       exact ⟨_, by exact ⟨rfl, rfl, rfl, rfl, rfl, rfl, rfl, rfl, trivial⟩, false, rfl, rfl, H⟩
     rintro _ K467 _ hK468 ⟨t459, rfl, rfl, H⟩
     unfold M_69z at H
     refine Cw_cond rfl ?_ ?_
     ·intro h469
      have H := ift h469 H
      refine Cw_region ?_
      refine Ow_q rfl rfl rfl (Qt_assign rfl) ?_
      refine Ow_nil ?_
      refine Pu7 ?_
      refine Pu7 ?_
      refine Pu7 ?_
      refine Pu7 ?_
      refine Pu7 ?_
      refine Pu7 ?_
      refine Pu7 ?_
      refine Pu7 ?_
      refine Shift.done ?_
      exact ⟨_, by exact ⟨rfl, rfl, rfl, rfl, rfl, rfl, rfl, trivial⟩, 0, rfl, rfl, H⟩
     ·intro h469
      have H := iff_ (btf h469) H
      refine Cw_skip ?_
      refine Pu7 ?_
      refine Pu7 ?_
      refine Pu7 ?_
      refine Pu7 ?_
      refine Pu7 ?_
      refine Pu7 ?_
      refine Pu7 ?_
      refine Pu7 ?_
      refine Shift.done ?_
      exact ⟨_, by exact ⟨rfl, rfl, rfl, rfl, rfl, rfl, rfl, trivial⟩, x424, rfl, rfl, H⟩
    rintro _ K470 _ hK471 ⟨i445, rfl, rfl, H⟩
    unfold M_68z at H
    refine Cw_block ?_
    refine Cw_seq ?_
    refine Cw_region ?_
    refine Ow_q rfl rfl rfl (Qt_move rfl) ?_
    refine Ow_q rfl rfl rfl (Qt_cmp rfl rfl rfl) ?_
    refine Ow_q rfl rfl rfl (Qt_assign rfl) ?_
    refine Ow_nil ?_
    refine Cw_cond rfl ?_ ?_
    ·intro h472
     have h472 := dcd_t (h472)
     have H := ift h472 H
     refine Cw_seq ?_
     refine Cw_region ?_
     refine Ow_q rfl rfl rfl (Qt_move rfl) ?_
     refine Ow_q rfl rfl rfl (Qt_move rfl) ?_
     refine Ow_q rfl rfl rfl (Qt_loadA (m := 7) (cs := (Op.cells p2 vp2_cases vp2_draws)) rfl rfl rfl rfl ⟨rfl, Rdc.blk (.tail _ (.tail _ (.tail _ (.head _)))) rfl⟩) ?_
     obtain ⟨x473, hx474, H⟩ := bnd H
     have hs475 := ((hp2_cases).mono hK427).mono hK471
     have hs476 := ((hp2_draws).mono hK427).mono hK471
     refine Ow_cons rfl (OpW_call rfl Try.call49 rfl rfl (c_M_30z p2 vp2_cases vp2_draws x473 hx474 _ _ hs475 hs476) ?_)
     rintro _ K478 _ hK479 ⟨v477, rfl, rfl, hs480⟩
     refine Ow_q rfl rfl rfl (Qt_move rfl) ?_
     obtain ⟨x481, hx482, H⟩ := bnd H
     obtain ⟨r483, hr484, hk485⟩ := Slr.at hs480 hx482
     obtain rfl := hr484
     refine Ow_q rfl rfl rfl (Q_ix (T := TyCase) hs480 hx482 rfl rfl rfl rfl rfl) ?_
     refine Ow_q rfl rfl rfl (Qt_loadA (m := 3) (cs := (Case.cells x481)) rfl rfl rfl rfl ⟨rfl, Rdc.k hk485 rfl⟩) ?_
     obtain ⟨x486, x487, x488, x489, hx490, H⟩ := bnd4 H
     refine Ow.shift (Pu7 (Shift.done ?_))
     refine Ow.shift (Pu7 (Shift.done ?_))
     refine Ow.shift (Pu7 (Shift.done ?_))
     refine Ow.shift (Pu4 (Shift.done ?_))
     have hs491 := (((hs199).mono hK427).mono hK471).mono hK479
     have hs492 := (((hs200).mono hK427).mono hK471).mono hK479
     have hs493 := (((hs201).mono hK427).mono hK471).mono hK479
     refine Ow_cons rfl (OpW_call rfl Try.call48 rfl rfl (c_M_21z b192 x190 v193 rs194 v195 rs196 v197 rs198 p1 x481 x486 x487 x488 x489 hx490 _ _ hs491 hs492 hs493) ?_)
     rintro _ K500 _ hK501 ⟨v494, rs495, v496, rs497, v498, rs499, rfl, rfl, hs502, hs503, hs504⟩
     refine Ow_cons rfl (OpW_store (vs := (Result.cells x486)) (all' := (Result.cells x486)) rfl rfl rfl rfl rfl (.there (.there (.there (.there .here)))) rfl rfl rfl ?_)
     refine Ow_nil ?_
     refine Cw_region ?_
     refine Ow_q rfl rfl rfl (Qt_loadA (m := 7) (cs := (Op.cells p2 vp2_cases vp2_draws)) rfl rfl rfl rfl ⟨rfl, Rdc.blk (.tail _ (.tail _ (.tail _ (.tail _ (.tail _ (.tail _ (.head _))))))) rfl⟩) ?_
     refine Ow_q rfl rfl rfl (Qt_move rfl) ?_
     obtain ⟨x505, hx506, H⟩ := bnd H
     have hs507 := ((hs475).mono hK479).mono hK501
     have hs508 := ((hs476).mono hK479).mono hK501
     refine Ow_cons rfl (OpW_call rfl Try.call50 rfl rfl (c_M_58z p2 vp2_cases vp2_draws i445 x505 hx506 _ _ hs507 hs508) ?_)
     rintro _ _ _ - ⟨rfl, rfl, rfl⟩
     refine Ow_q rfl rfl rfl (Qt_fieldAddr (m := 1) rfl rfl rfl rfl rfl) ?_
     refine Ow_cons rfl (OpW_store (vs := [(.int .i64 x505)]) (all' := (Result.cells (Result.mk x486.kind x505 x486.value x486.ok x486.number))) rfl rfl rfl rfl rfl (.there (.there (.there (.there .here)))) rfl rfl rfl ?_)
     refine Ow_nil ?_
     refine Pu3 ?_
     refine Pu3 ?_
     refine Pu3 ?_
     refine Pu5 ?_
     refine Pu4 ?_
     refine Pu5 ?_
     refine Re6 ?_
     refine Re6 ?_
     refine Shift.done ?_
     exact ⟨_, by exact ⟨rfl, rfl, rfl, rfl, trivial⟩, x486.kind, x505, x486.value, x486.ok, x486.number, v494, x487, rs495, v496, x488, rs497, v498, x489, rs499, rfl, rfl, H, hs502, hs503, hs504⟩
    ·intro h472
     have h472 := dcd_f (h472)
     have H := iff_ h472 H
     refine Cw_seq ?_
     refine Cw_region ?_
     refine Ow_q rfl rfl rfl (Qt_fieldAddr (m := 1) rfl rfl rfl rfl rfl) ?_
     refine Ow_q rfl rfl rfl (Qt_load1 (v := (.int .i64 p2.mode)) rfl rfl rfl (Rdc.blk (.tail _ (.tail _ (.tail _ (.head _)))) rfl)) ?_
     refine Ow_q rfl rfl rfl (Qt_cmp rfl rfl rfl) ?_
     refine Ow_q rfl rfl rfl (Qt_assign rfl) ?_
     refine Ow_nil ?_
     refine Cw_cond rfl ?_ ?_
     ·intro h509
      have h509 := dcd_t (h509)
      have H := ift h509 H
      refine Cw_region ?_
      refine Ow_q rfl rfl rfl (Qt_fieldAddr (m := 0) rfl rfl rfl rfl rfl) ?_
      refine Ow_cons rfl (OpW_store (vs := [(.int .i64 3)]) (all' := (Result.cells (Result.mk 3 (-1) 0 false 0))) rfl rfl rfl rfl rfl .here rfl rfl rfl ?_)
      refine Ow_nil ?_
      refine Pu7 ?_
      refine Pu7 ?_
      refine Pu7 ?_
      refine Pu5 ?_
      refine Pu5 ?_
      refine Pu5 ?_
      refine Re6 ?_
      refine Re6 ?_
      have hs510 := ((hs199).mono hK427).mono hK471
      have hs511 := ((hs200).mono hK427).mono hK471
      have hs512 := ((hs201).mono hK427).mono hK471
      refine Shift.done ?_
      exact ⟨_, by exact ⟨rfl, rfl, rfl, rfl, trivial⟩, 3, (-1), 0, false, 0, v193, x190.desk.chans, rs194, v195, x190.desk.waiting, rs196, v197, x190.done, rs198, rfl, rfl, H, hs510, hs511, hs512⟩
     ·intro h509
      have h509 := dcd_f (h509)
      have H := iff_ h509 H
      refine Cw_join (fun env' K' G' => ∃ (t514 : Bool), [(1, (.int .i64 p1)), (5, (.pointer (some ((⟨b188, 0, none⟩ : Addr).add 0)))), (6, (.pointer (some ((⟨b189, 0, none⟩ : Addr).add 0)))), (9, (.pointer (some ((⟨b192, 0, none⟩ : Addr).add 0)))), (10, (.pointer (some ((⟨b202, 0, none⟩ : Addr).add 0)))), (73, (.bool t514))] = env' ∧ K470 = K' ∧ (.blk b202 73 (Result.cells (Result.mk 0 (-1) 0 false 0))) :: (.blk b192 92 (Desk_work.cells x190 v193 v195 v197)) :: (.blk b189 34 (Desk.cells (Desk.mk [] [] 0) nilS nilS)) :: (.blk b188 41 (Op.cells p2 vp2_cases vp2_draws)) :: (.row (sv v193) 71 3 rs194.flatten) :: (.row (sv v195) 52 8 rs196.flatten) :: (.row (sv v197) 75 6 rs198.flatten) :: G = G' ∧ M_67z p1 x190 p2 t514 = some (y0, y1, y2)) ?_ ?_
      ·skip
       refine Cw_region ?_
       refine Ow_q rfl rfl rfl (Qt_fieldAddr (m := 1) rfl rfl rfl rfl rfl) ?_
       refine Ow_q rfl rfl rfl (Qt_load1 (v := (.int .i64 p2.mode)) rfl rfl rfl (Rdc.blk (.tail _ (.tail _ (.tail _ (.head _)))) rfl)) ?_
       refine Ow_q rfl rfl rfl (Qt_cmp rfl rfl rfl) ?_
       refine Ow_q rfl rfl rfl (Qt_move rfl) ?_
       refine Ow_caseG rfl rfl rfl ?_ ?_
       ·intro h515
        have h515 := dcd_t (h515)
        have H := ift h515 H
        refine Ow_qw rfl rfl rfl rfl rfl rfl (Qt_fieldAddr (m := 4) rfl rfl rfl rfl rfl) ?_
        refine Ow_qw rfl rfl rfl rfl rfl rfl (Qt_load1 (v := (.int .i64 p2.deadline)) rfl rfl rfl (Rdc.blk (.tail _ (.tail _ (.tail _ (.head _)))) rfl)) ?_
        refine Ow_qw rfl rfl rfl rfl rfl rfl (Qt_fieldAddr (m := 2) rfl rfl rfl rfl rfl) ?_
        refine Ow_qw rfl rfl rfl rfl rfl rfl (Qt_load1 (v := (.int .i64 p0.tick)) rfl rfl rfl (Rdc.blk (.tail _ (.tail _ (.tail _ (.tail _ (.head _))))) rfl)) ?_
        refine Ow_qw rfl rfl rfl rfl rfl rfl (Qt_cmp rfl rfl rfl) ?_
        refine Ow_q rfl rfl rfl (Qt_pick_t rfl rfl) ?_
        refine Ow_q rfl rfl rfl (Qt_assign rfl) ?_
        refine Ow_nil ?_
        refine Pu7 ?_
        refine Pu7 ?_
        refine Pu7 ?_
        refine Pu6 ?_
        refine Pu6 ?_
        refine Pu6 ?_
        refine Pu6 ?_
        refine Re7 ?_
        refine Shift.done ?_
        exact ⟨_, by exact ⟨rfl, rfl, rfl, rfl, rfl, rfl, trivial⟩, (dcd (p2.deadline ≤ p0.tick)), rfl, rfl, rfl, H⟩
       ·intro h515
        have h515 := dcd_f (h515)
        have H := iff_ h515 H
        refine Ow_pass rfl rfl rfl rfl rfl rfl rfl ?_
        refine Ow_pass rfl rfl rfl rfl rfl rfl rfl ?_
        refine Ow_pass rfl rfl rfl rfl rfl rfl rfl ?_
        refine Ow_pass rfl rfl rfl rfl rfl rfl rfl ?_
        refine Ow_pass rfl rfl rfl rfl rfl rfl rfl ?_
        refine Ow_q rfl rfl rfl (Qt_pick_f rfl rfl) ?_
        refine Ow_q rfl rfl rfl (Qt_assign rfl) ?_
        refine Ow_nil ?_
        refine Pu7 ?_
        refine Pu7 ?_
        refine Pu7 ?_
        refine Pu6 ?_
        refine Pu6 ?_
        refine Pu6 ?_
        refine Pu6 ?_
        refine Re7 ?_
        refine Shift.done ?_
        exact ⟨_, by exact ⟨rfl, rfl, rfl, rfl, rfl, rfl, trivial⟩, false, rfl, rfl, rfl, H⟩
      rintro _ _ _ - ⟨t514, rfl, rfl, rfl, H⟩
      unfold M_67z at H
      refine Cw_cond rfl ?_ ?_
      ·intro h516
       have H := ift h516 H
       refine Cw_region ?_
       refine Ow_q rfl rfl rfl (Qt_fieldAddr (m := 0) rfl rfl rfl rfl rfl) ?_
       refine Ow_cons rfl (OpW_store (vs := [(.int .i64 4)]) (all' := (Result.cells (Result.mk 4 (-1) 0 false 0))) rfl rfl rfl rfl rfl .here rfl rfl rfl ?_)
       refine Ow_nil ?_
       refine Pu6 ?_
       refine Pu6 ?_
       refine Pu6 ?_
       refine Pu5 ?_
       refine Pu5 ?_
       refine Pu5 ?_
       refine Re6 ?_
       have hs517 := ((hs199).mono hK427).mono hK471
       have hs518 := ((hs200).mono hK427).mono hK471
       have hs519 := ((hs201).mono hK427).mono hK471
       refine Shift.done ?_
       exact ⟨_, by exact ⟨rfl, rfl, rfl, rfl, trivial⟩, 4, (-1), 0, false, 0, v193, x190.desk.chans, rs194, v195, x190.desk.waiting, rs196, v197, x190.done, rs198, rfl, rfl, H, hs517, hs518, hs519⟩
      ·intro h516
       have H := iff_ (btf h516) H
       refine Cw_join (fun env' K' G' => ∃ (v546 : SV) (l547 : List Waiter) (rs549 : List (List Value)), [(6, (.pointer (some ((⟨b189, 0, none⟩ : Addr).add 0)))), (9, (.pointer (some ((⟨b192, 0, none⟩ : Addr).add 0))))] = env' ∧ K470 = K' ∧ (.blk b192 92 (Desk_work.cells (Desk_work.mk (Desk.mk x190.desk.chans l547 x190.desk.tick) x190.done) v193 v546 v197)) :: (.blk b189 34 (Desk.cells (Desk.mk [] [] 0) nilS nilS)) :: (.row (sv v546) 52 8 rs549.flatten) :: (.row (sv v193) 71 3 rs194.flatten) :: (.row (sv v197) 75 6 rs198.flatten) :: G = G' ∧ M_207z x190 l547 = some (y0, y1, y2) ∧ RowR TyWaiter K' rs549 l547) ?_ ?_
       ·skip
        obtain ⟨x554, hx555, H⟩ := bnd H
        refine Cw_region_any [.blk b202 73 (Result.cells (Result.mk 0 (-1) 0 false 0)), .blk b189 34 (Desk.cells (Desk.mk [] [] 0) nilS nilS), .blk b188 41 (Op.cells p2 vp2_cases vp2_draws), .row (sv v193) 71 3 rs194.flatten, .row (sv v197) 75 6 rs198.flatten] rfl (Inc.cons (.head _) (Inc.cons (.tail _ (.tail _ (.head _))) (Inc.cons (.tail _ (.tail _ (.tail _ (.head _)))) (Inc.cons (.tail _ (.tail _ (.tail _ (.tail _ (.head _))))) (Inc.cons (.tail _ (.tail _ (.tail _ (.tail _ (.tail _ (.tail _ (.head _))))))) Inc.nil))))) ?_
        refine Awq 0 rfl (by kernel_rfl) rfl rfl rfl (Qt_move rfl) ?_
        refine Awq 1 rfl (by kernel_rfl) rfl rfl rfl (Qt_move rfl) ?_
        refine Awq 2 rfl (by kernel_rfl) rfl rfl rfl (Qt_nilCheck rfl) ?_
        refine Awq 3 rfl (by kernel_rfl) rfl rfl rfl (Qt_fieldAddr (m := 0) rfl rfl rfl rfl rfl) ?_
        refine Awq 4 rfl (by kernel_rfl) rfl rfl rfl (Qt_fieldAddr (m := 1) rfl rfl rfl rfl rfl) ?_
        refine Awq 6 rfl (by kernel_rfl) rfl rfl rfl (Qt_move rfl) ?_
        refine Awq 7 rfl (by kernel_rfl) rfl rfl rfl (Qt_loadA (m := 7) (cs := (Op.cells p2 vp2_cases vp2_draws)) rfl rfl rfl rfl ⟨rfl, Rdc.blk (.tail _ (.tail _ (.head _))) rfl⟩) ?_
        refine Awq 8 rfl (by kernel_rfl) rfl rfl rfl (Qt_build (cs := (Waiter.cells (Waiter.mk p1 p2) vp2_cases vp2_draws)) rfl rfl rfl rfl rfl rfl) ?_
        refine Aw_two 5 9 (by kernel_rfl) ?_ ?_
        ·skip
         refine id (Ax_mk rfl rfl (OpW_of_Qt rfl rfl (Qt_load1 (v := (sv v195)) rfl rfl rfl (Rdc.blk (.tail _ (.head _)) rfl)) ⟨(Inc.cons (.head _) (Inc.cons (.tail _ (.tail _ (.head _))) (Inc.cons (.tail _ (.tail _ (.tail _ (.head _)))) (Inc.cons (.tail _ (.tail _ (.tail _ (.tail _ (.head _))))) (Inc.cons (.tail _ (.tail _ (.tail _ (.tail _ (.tail _ (.tail _ (.head _))))))) Inc.nil))))), ?_⟩))
         refine Aw_one 9 (by kernel_rfl) (Ax_mk rfl rfl ?_)
         have hs562 := ((hp2_cases).mono hK427).mono hK471
         have hs563 := ((hp2_draws).mono hK427).mono hK471
         have hR561 : RowR TyWaiter K470 [(Waiter.cells (Waiter.mk p1 p2) vp2_cases vp2_draws)] [(Waiter.mk p1 p2)] := RowR.cons ⟨vp2_cases, vp2_draws, rfl, hs562, hs563⟩ (RowR.nil)
         refine O_lit (T := TyWaiter) (rows := [(Waiter.cells (Waiter.mk p1 p2) vp2_cases vp2_draws)]) (l := [(Waiter.mk p1 p2)]) rfl rfl rfl hR561 rfl rfl rfl rfl rfl rfl rfl rfl (fun v560 => ⟨(Inc.cons (.tail _ (.head _)) (Inc.cons (.tail _ (.tail _ (.tail _ (.head _)))) (Inc.cons (.tail _ (.tail _ (.tail _ (.tail _ (.head _))))) (Inc.cons (.tail _ (.tail _ (.tail _ (.tail _ (.tail _ (.head _)))))) (Inc.cons (.tail _ (.tail _ (.tail _ (.tail _ (.tail _ (.tail _ (.tail _ (.head _)))))))) Inc.nil))))), ?_⟩)
         refine Aw_one 10 (by kernel_rfl) (Ax_mk rfl rfl ?_)
         have hs567 := ((hs200).mono hK427).mono hK471
         refine O_appRow (T := TyWaiter) (bytes := 96) rfl rfl rfl (.tail _ (.tail _ (.tail _ (.tail _ (.tail _ (.tail _ (.head _))))))) hs567 (SrcT.row (.head _) hR561 rfl) hx555 rfl rfl rfl rfl rfl rfl rfl rfl (fun v564 rs565 hR566 => ⟨_, (.there (.there (.there (.there (.there (.there .here)))))), ⟨(Inc.cons (.tail _ (.head _)) (Inc.cons (.tail _ (.tail _ (.tail _ (.head _)))) (Inc.cons (.tail _ (.tail _ (.tail _ (.tail _ (.head _))))) (Inc.cons (.tail _ (.tail _ (.tail _ (.tail _ (.tail _ (.head _)))))) (Inc.cons (.tail _ (.tail _ (.tail _ (.tail _ (.tail _ (.tail _ (.tail _ (.head _)))))))) Inc.nil))))), ?_⟩⟩)
         refine Aw.shift (Re0 (Shift.done ⟨(Inc.cons (.head _) (Inc.cons (.tail _ (.tail _ (.head _))) (Inc.cons (.tail _ (.tail _ (.tail _ (.head _)))) (Inc.cons (.tail _ (.tail _ (.tail _ (.tail _ (.head _))))) (Inc.cons (.tail _ (.tail _ (.tail _ (.tail _ (.tail _ (.tail _ (.head _))))))) Inc.nil))))), ?_⟩))
         refine Awq 11 rfl (by kernel_rfl) rfl rfl rfl (Qt_nilCheck rfl) ?_
         refine Awq 12 rfl (by kernel_rfl) rfl rfl rfl (Qt_fieldAddr (m := 0) rfl rfl rfl rfl rfl) ?_
         refine Awq 13 rfl (by kernel_rfl) rfl rfl rfl (Qt_fieldAddr (m := 1) rfl rfl rfl rfl rfl) ?_
         refine Aw_one 14 (by kernel_rfl) (Ax_mk rfl rfl ?_)
         refine OpW_store (vs := [(sv v564)]) (all' := (Desk_work.cells (Desk_work.mk (Desk.mk x190.desk.chans x554 x190.desk.tick) x190.done) v193 v564 v197)) rfl rfl rfl rfl rfl (.there .here) rfl rfl rfl ⟨(Inc.cons (.head _) (Inc.cons (.tail _ (.tail _ (.head _))) (Inc.cons (.tail _ (.tail _ (.tail _ (.head _)))) (Inc.cons (.tail _ (.tail _ (.tail _ (.tail _ (.head _))))) (Inc.cons (.tail _ (.tail _ (.tail _ (.tail _ (.tail _ (.tail _ (.head _))))))) Inc.nil))))), ?_⟩
         refine Aw_done (by kernel_rfl) ?_
         refine Pu6 ?_
         refine Pu5 ?_
         refine Pu6 ?_
         refine Pu5 ?_
         refine Pu5 ?_
         refine Re5 ?_
         refine Re5 ?_
         refine Shift.done ?_
         exact ⟨_, by exact ⟨rfl, rfl, trivial⟩, v564, x554, rs565, rfl, rfl, rfl, H, hR566⟩
        ·skip
         refine id (Ax_mk rfl rfl ?_)
         have hs570 := ((hp2_cases).mono hK427).mono hK471
         have hs571 := ((hp2_draws).mono hK427).mono hK471
         have hR569 : RowR TyWaiter K470 [(Waiter.cells (Waiter.mk p1 p2) vp2_cases vp2_draws)] [(Waiter.mk p1 p2)] := RowR.cons ⟨vp2_cases, vp2_draws, rfl, hs570, hs571⟩ (RowR.nil)
         refine O_lit (T := TyWaiter) (rows := [(Waiter.cells (Waiter.mk p1 p2) vp2_cases vp2_draws)]) (l := [(Waiter.mk p1 p2)]) rfl rfl rfl hR569 rfl rfl rfl rfl rfl rfl rfl rfl (fun v568 => ⟨(Inc.cons (.tail _ (.head _)) (Inc.cons (.tail _ (.tail _ (.tail _ (.head _)))) (Inc.cons (.tail _ (.tail _ (.tail _ (.tail _ (.head _))))) (Inc.cons (.tail _ (.tail _ (.tail _ (.tail _ (.tail _ (.head _)))))) (Inc.cons (.tail _ (.tail _ (.tail _ (.tail _ (.tail _ (.tail _ (.tail _ (.head _)))))))) Inc.nil))))), ?_⟩)
         refine Aw_one 5 (by kernel_rfl) (Ax_mk rfl rfl (OpW_of_Qt rfl rfl (Qt_load1 (v := (sv v195)) rfl rfl rfl (Rdc.blk (.tail _ (.tail _ (.head _))) rfl)) ⟨(Inc.cons (.tail _ (.head _)) (Inc.cons (.tail _ (.tail _ (.tail _ (.head _)))) (Inc.cons (.tail _ (.tail _ (.tail _ (.tail _ (.head _))))) (Inc.cons (.tail _ (.tail _ (.tail _ (.tail _ (.tail _ (.head _)))))) (Inc.cons (.tail _ (.tail _ (.tail _ (.tail _ (.tail _ (.tail _ (.tail _ (.head _)))))))) Inc.nil))))), ?_⟩))
         refine Aw_one 10 (by kernel_rfl) (Ax_mk rfl rfl ?_)
         have hs575 := ((hs200).mono hK427).mono hK471
         refine O_appRow (T := TyWaiter) (bytes := 96) rfl rfl rfl (.tail _ (.tail _ (.tail _ (.tail _ (.tail _ (.tail _ (.head _))))))) hs575 (SrcT.row (.head _) hR569 rfl) hx555 rfl rfl rfl rfl rfl rfl rfl rfl (fun v572 rs573 hR574 => ⟨_, (.there (.there (.there (.there (.there (.there .here)))))), ⟨(Inc.cons (.tail _ (.head _)) (Inc.cons (.tail _ (.tail _ (.tail _ (.head _)))) (Inc.cons (.tail _ (.tail _ (.tail _ (.tail _ (.head _))))) (Inc.cons (.tail _ (.tail _ (.tail _ (.tail _ (.tail _ (.head _)))))) (Inc.cons (.tail _ (.tail _ (.tail _ (.tail _ (.tail _ (.tail _ (.tail _ (.head _)))))))) Inc.nil))))), ?_⟩⟩)
         refine Aw.shift (Re0 (Shift.done ⟨(Inc.cons (.head _) (Inc.cons (.tail _ (.tail _ (.head _))) (Inc.cons (.tail _ (.tail _ (.tail _ (.head _)))) (Inc.cons (.tail _ (.tail _ (.tail _ (.tail _ (.head _))))) (Inc.cons (.tail _ (.tail _ (.tail _ (.tail _ (.tail _ (.tail _ (.head _))))))) Inc.nil))))), ?_⟩))
         refine Awq 11 rfl (by kernel_rfl) rfl rfl rfl (Qt_nilCheck rfl) ?_
         refine Awq 12 rfl (by kernel_rfl) rfl rfl rfl (Qt_fieldAddr (m := 0) rfl rfl rfl rfl rfl) ?_
         refine Awq 13 rfl (by kernel_rfl) rfl rfl rfl (Qt_fieldAddr (m := 1) rfl rfl rfl rfl rfl) ?_
         refine Aw_one 14 (by kernel_rfl) (Ax_mk rfl rfl ?_)
         refine OpW_store (vs := [(sv v572)]) (all' := (Desk_work.cells (Desk_work.mk (Desk.mk x190.desk.chans x554 x190.desk.tick) x190.done) v193 v572 v197)) rfl rfl rfl rfl rfl (.there .here) rfl rfl rfl ⟨(Inc.cons (.head _) (Inc.cons (.tail _ (.tail _ (.head _))) (Inc.cons (.tail _ (.tail _ (.tail _ (.head _)))) (Inc.cons (.tail _ (.tail _ (.tail _ (.tail _ (.head _))))) (Inc.cons (.tail _ (.tail _ (.tail _ (.tail _ (.tail _ (.tail _ (.head _))))))) Inc.nil))))), ?_⟩
         refine Aw_done (by kernel_rfl) ?_
         refine Pu6 ?_
         refine Pu5 ?_
         refine Pu6 ?_
         refine Pu5 ?_
         refine Pu5 ?_
         refine Re5 ?_
         refine Re5 ?_
         refine Shift.done ?_
         exact ⟨_, by exact ⟨rfl, rfl, trivial⟩, v572, x554, rs573, rfl, rfl, rfl, H, hR574⟩
       rintro _ _ _ - ⟨v546, l547, rs549, rfl, rfl, rfl, H, hR548⟩
       unfold M_207z at H
       refine Cw_seq ?_
       refine Cw_region ?_
       refine Ow_q rfl rfl rfl (Qt_move rfl) ?_
       refine Ow_q rfl rfl rfl (Qt_nilCheck rfl) ?_
       refine Ow_q rfl rfl rfl (Qt_fieldAddr (m := 0) rfl rfl rfl rfl rfl) ?_
       refine Ow_q rfl rfl rfl (Qt_loadA (m := 3) (cs := (Desk.cells (Desk.mk x190.desk.chans l547 x190.desk.tick) v193 v546)) rfl rfl rfl rfl ⟨rfl, Rdc.blk (.head _) rfl⟩) ?_
       refine Ow_cons rfl (OpW_store (vs := (Desk.cells (Desk.mk x190.desk.chans l547 x190.desk.tick) v193 v546)) (all' := (Desk.cells (Desk.mk x190.desk.chans l547 x190.desk.tick) v193 v546)) rfl rfl rfl rfl rfl (.there .here) rfl rfl rfl ?_)
       refine Ow_q rfl rfl rfl (Qt_assign rfl) ?_
       refine Ow_q rfl rfl rfl (Qt_assign rfl) ?_
       refine Ow_nil ?_
       refine Cw_ret ?_
       obtain ⟨ey0, ey1, ey2⟩ := inj3 H
       subst y0 y1 y2
       refine ⟨(by first | exact .inl rfl | exact .inr rfl), [(.agg (Desk.cells (Desk.mk x190.desk.chans l547 x190.desk.tick) v193 v546).toArray), (sv nilS), (.bool true)], ⟨(.agg (Desk.cells (Desk.mk x190.desk.chans l547 x190.desk.tick) v193 v546).toArray), _, rfl, ⟨_, 3, (Desk.cells (Desk.mk x190.desk.chans l547 x190.desk.tick) v193 v546), rfl, rfl, rfl, rfl, ⟨rfl, Rdc.blk (.tail _ (.head _)) rfl⟩, rfl⟩, ⟨(sv nilS), _, rfl, rfl, ⟨(.bool true), _, rfl, rfl, rfl⟩⟩⟩, ?_⟩
       have hR576 : RowR TyDone K470 [] [] := RowR.nil
       refine Shift.nilRow 75 6 ?_
       refine Pu3 ?_
       refine Pu4 ?_
       refine Re3 ?_
       refine Re3 ?_
       refine Re3 ?_
       have hs577 := ((hs199).mono hK427).mono hK471
       refine Shift.done ?_
       exact ⟨v193, rs194, v546, rs549, nilS, ([] : List (List Value)), rfl, rfl, hs577, hR548, hR576⟩
 rintro _ K578 _ hK579 ⟨i347, i348, i349, t350, i351, v352, l353, rs355, v356, l357, rs359, v360, l361, rs363, rfl, rfl, H, hR354, hR358, hR362⟩
 unfold M_4z at H
 refine Cw_seq ?_
 refine Cw_region ?_
 refine Ow_q rfl rfl rfl (Qt_move rfl) ?_
 refine Ow_q rfl rfl rfl (Qt_move rfl) ?_
 refine Ow_q rfl rfl rfl (Qt_loadA (m := 5) (cs := (Result.cells (Result.mk i347 i348 i349 t350 i351))) rfl rfl rfl rfl ⟨rfl, Rdc.blk (.head _) rfl⟩) ?_
 obtain ⟨x580, hx581, H⟩ := bnd H
 refine Ow.shift (Pu5 (Shift.done ?_))
 refine Ow.shift (Pu5 (Shift.done ?_))
 refine Ow.shift (Pu5 (Shift.done ?_))
 refine Ow.shift (Pu4 (Shift.done ?_))
 refine Ow_cons rfl (OpW_call rfl Try.call51 rfl rfl (c_M_31z b192 (Desk_work.mk (Desk.mk l353 l357 x190.desk.tick) l361) v352 rs355 v356 rs359 v360 rs363 p1 (Result.mk i347 i348 i349 t350 i351) x580 hx581 _ _ hR354 hR358 hR362) ?_)
 rintro _ K584 _ hK585 ⟨v582, rs583, rfl, rfl, hs586⟩
 refine Ow_nil ?_
 refine Cw_seq ?_
 refine Cw_region_any [.blk b192 92 (Desk_work.cells (Desk_work.mk (Desk.mk l353 l357 x190.desk.tick) x580) v352 v356 v582), .row (sv v582) 75 6 rs583.flatten, .row (sv v352) 71 3 rs355.flatten, .row (sv v356) 52 8 rs359.flatten, .blk b202 73 (Result.cells (Result.mk i347 i348 i349 t350 i351))] rfl (Inc.cons (.head _) (Inc.cons (.tail _ (.head _)) (Inc.cons (.tail _ (.tail _ (.head _))) (Inc.cons (.tail _ (.tail _ (.tail _ (.head _)))) (Inc.cons (.tail _ (.tail _ (.tail _ (.tail _ (.head _))))) Inc.nil))))) ?_
 refine Awq 0 rfl (by kernel_rfl) rfl rfl rfl (Qt_move rfl) ?_
 refine Awq 1 rfl (by kernel_rfl) rfl rfl rfl (Qt_nilCheck rfl) ?_
 refine Awq 2 rfl (by kernel_rfl) rfl rfl rfl (Qt_fieldAddr (m := 0) rfl rfl rfl rfl rfl) ?_
 refine Awq 3 rfl (by kernel_rfl) rfl rfl rfl (Qt_loadA (m := 3) (cs := (Desk.cells (Desk.mk l353 l357 x190.desk.tick) v352 v356)) rfl rfl rfl rfl ⟨rfl, Rdc.blk (.head _) rfl⟩) ?_
 refine Awq 4 rfl (by kernel_rfl) rfl rfl rfl (Qt_move rfl) ?_
 refine Awq 5 rfl (by kernel_rfl) rfl rfl rfl (Qt_nilCheck rfl) ?_
 refine Awq 6 rfl (by kernel_rfl) rfl rfl rfl (Qt_fieldAddr (m := 3) rfl rfl rfl rfl rfl) ?_
 refine Awq 7 rfl (by kernel_rfl) rfl rfl rfl (Qt_load1 (v := (sv v582)) rfl rfl rfl (Rdc.blk (.head _) rfl)) ?_
 refine Aw_one 8 (by kernel_rfl) (Ax_mk rfl rfl ?_)
 refine OpW_store (vs := (Desk.cells (Desk.mk l353 l357 x190.desk.tick) v352 v356)) (all' := (Desk.cells (Desk.mk l353 l357 x190.desk.tick) v352 v356)) rfl rfl rfl rfl rfl (.there (.there (.there (.there (.there .here))))) rfl rfl rfl ⟨(Inc.cons (.head _) (Inc.cons (.tail _ (.head _)) (Inc.cons (.tail _ (.tail _ (.head _))) (Inc.cons (.tail _ (.tail _ (.tail _ (.head _)))) (Inc.cons (.tail _ (.tail _ (.tail _ (.tail _ (.head _))))) Inc.nil))))), ?_⟩
 refine Awq 9 rfl (by kernel_rfl) rfl rfl rfl (Qt_assign rfl) ?_
 refine Awq 10 rfl (by kernel_rfl) rfl rfl rfl (Qt_assign rfl) ?_
 refine Aw_done (by kernel_rfl) ?_
 refine Cw_ret ?_
 obtain ⟨ey0, ey1, ey2⟩ := inj3 H
 subst y0 y1 y2
 refine ⟨(by first | exact .inl rfl | exact .inr rfl), [(.agg (Desk.cells (Desk.mk l353 l357 x190.desk.tick) v352 v356).toArray), (sv v582), (.bool false)], ⟨(.agg (Desk.cells (Desk.mk l353 l357 x190.desk.tick) v352 v356).toArray), _, rfl, ⟨_, 3, (Desk.cells (Desk.mk l353 l357 x190.desk.tick) v352 v356), rfl, rfl, rfl, rfl, ⟨rfl, Rdc.blk (.tail _ (.tail _ (.tail _ (.tail _ (.tail _ (.head _)))))) rfl⟩, rfl⟩, ⟨(sv v582), _, rfl, rfl, ⟨(.bool false), _, rfl, rfl, rfl⟩⟩⟩, ?_⟩
 refine Pu1 ?_
 refine Pu3 ?_
 refine Pu3 ?_
 refine Re3 ?_
 refine Re3 ?_
 refine Re3 ?_
 have hs587 := (hR354).mono hK585
 have hs588 := (hR358).mono hK585
 refine Shift.done ?_
 exact ⟨v352, rs355, v356, rs359, v582, rs583, rfl, rfl, hs587, hs588, hs586⟩



end Go.Hx

namespace Go.Hx
open Go Go.Proofs
set_option linter.unusedSimpArgs false
set_option linter.unusedVariables false
set_option maxRecDepth 10000
set_option maxHeartbeats 1000000 in
theorem c_M_130z (p0 : Memory) (vp0_words : SV) (vp0_lists : SV) (p1 : Int) (y0 : Memory) (H : M_130z p0 p1 = some y0) (K : Kp) (G : List Ent) (hp0_words : Slr Ty.u64 K (sv vp0_words) p0.words) (hp0_lists : Slr (Ty.sl Ty.i64) K (sv vp0_lists) p0.lists) :
  Fc Try.prog 59 #[(.agg (Memory.cells p0 vp0_words vp0_lists).toArray), (.int .i64 p1)] K (G) (fun v K' G' => ∃ (wy0_words : SV) (wy0_lists : SV), v = (.agg (Memory.cells y0 wy0_words wy0_lists).toArray) ∧ K = K' ∧ G = G' ∧ Slr Ty.u64 K' (sv wy0_words) y0.words ∧ Slr (Ty.sl Ty.i64) K' (sv wy0_lists) y0.lists) := by
 refine Fc_body Try.func59 rfl Try.ntmps59 Try.results59 rfl ?_
 unfold M_130z at H
 refine Cw_seq ?_
 refine Cw_region ?_
 refine Ow_cons rfl (OpW_box (cs := (Memory.cells p0 vp0_words vp0_lists)) rfl rfl rfl (fun b8 => ?_))
 refine Ow_cons rfl (OpW_alloc (cs := (Memory.cells (Memory.mk [] [] 0) nilS nilS)) rfl rfl rfl rfl (fun b9 => ?_))
 refine Ow_nil ?_
 refine Cw_seq ?_
 refine Cw_seq ?_
 refine Cw_region ?_
 refine Ow_q rfl rfl rfl (Qt_move rfl) ?_
 refine Ow_q rfl rfl rfl (Qt_cmp rfl rfl rfl) ?_
 refine Ow_nil ?_
 refine Cw_cond rfl ?_ ?_
 ·intro h11
  have h11 := dcd_t (h11)
  have H := ift h11 H
  refine Cw_seq ?_
  refine Cw_region ?_
  refine Ow_q rfl rfl rfl (Qt_loadA (m := 3) (cs := (Memory.cells p0 vp0_words vp0_lists)) rfl rfl rfl rfl ⟨rfl, Rdc.blk (.tail _ (.head _)) rfl⟩) ?_
  refine Ow_cons rfl (OpW_store (vs := (Memory.cells p0 vp0_words vp0_lists)) (all' := (Memory.cells p0 vp0_words vp0_lists)) rfl rfl rfl rfl rfl .here rfl rfl rfl ?_)
  refine Ow_nil ?_
  refine Cw_ret ?_
  obtain ey0 := inj1 H
  subst y0
  refine ⟨(by first | exact .inl rfl | exact .inr rfl), [(.agg (Memory.cells p0 vp0_words vp0_lists).toArray)], ⟨(.agg (Memory.cells p0 vp0_words vp0_lists).toArray), _, rfl, ⟨_, 3, (Memory.cells p0 vp0_words vp0_lists), rfl, rfl, rfl, rfl, ⟨rfl, Rdc.blk (.head _) rfl⟩, rfl⟩, rfl⟩, ?_⟩
  refine Re0 ?_
  refine Re0 ?_
  refine Shift.done ?_
  exact ⟨vp0_words, vp0_lists, rfl, rfl, rfl, hp0_words, hp0_lists⟩
 ·intro h11
  have h11 := dcd_f (h11)
  have H := iff_ h11 H
  refine Cw_skip ?_
  refine Cw_seq ?_
  refine Cw_region ?_
  refine Ow_q rfl rfl rfl (Qt_fieldAddr (m := 2) rfl rfl rfl rfl rfl) ?_
  refine Ow_q rfl rfl rfl (Qt_load1 (v := (.int .i64 p0.tick)) rfl rfl rfl (Rdc.blk (.tail _ (.head _)) rfl)) ?_
  refine Ow_q rfl rfl rfl (Qt_move rfl) ?_
  refine Ow_q rfl rfl rfl (Qt_arith (e := wI (p0.tick + p1)) rfl rfl rfl rfl) ?_
  refine Ow_q rfl rfl rfl (Qt_assign rfl) ?_
  refine Ow_nil ?_
  refine Cw_join (fun env' K' G' => ∃ (i13 : Int) (i14 : Int) (i15 : Int), [(2, (.pointer (some ((⟨b8, 0, none⟩ : Addr).add 0)))), (4, (.pointer (some ((⟨b9, 0, none⟩ : Addr).add 0)))), (5, (.int .i64 i13))] = env' ∧ K = K' ∧ (.blk b9 102 (Memory.cells (Memory.mk [] [] i14) nilS nilS)) :: (.blk b8 102 (Memory.cells (Memory.mk p0.words p0.lists i15) vp0_words vp0_lists)) :: G = G' ∧ M_129z p0 i13 i14 i15 = some y0) ?_ ?_
  ·skip
   refine Cw_seq ?_
   refine Cw_region ?_
   refine Ow_q rfl rfl rfl (Qt_move rfl) ?_
   refine Ow_q rfl rfl rfl (Qt_fieldAddr (m := 2) rfl rfl rfl rfl rfl) ?_
   refine Ow_q rfl rfl rfl (Qt_load1 (v := (.int .i64 p0.tick)) rfl rfl rfl (Rdc.blk (.tail _ (.head _)) rfl)) ?_
   refine Ow_q rfl rfl rfl (Qt_cmp rfl rfl rfl) ?_
   refine Ow_nil ?_
   refine Cw_cond rfl ?_ ?_
   ·intro h16
    have h16 := dcd_t (h16)
    have H := ift h16 H
    refine Cw_region ?_
    refine Ow_q rfl rfl rfl (Qt_assign rfl) ?_
    refine Ow_nil ?_
    refine Pu1 ?_
    refine Pu1 ?_
    refine Shift.done ?_
    exact ⟨_, by exact ⟨rfl, rfl, rfl, trivial⟩, 1099511627776, 0, p0.tick, rfl, rfl, rfl, H⟩
   ·intro h16
    have h16 := dcd_f (h16)
    have H := iff_ h16 H
    refine Cw_skip ?_
    refine Pu1 ?_
    refine Pu1 ?_
    refine Shift.done ?_
    exact ⟨_, by exact ⟨rfl, rfl, rfl, trivial⟩, (wI (p0.tick + p1)), 0, p0.tick, rfl, rfl, rfl, H⟩
  rintro _ _ _ - ⟨i13, i14, i15, rfl, rfl, rfl, H⟩
  unfold M_129z at H
  refine Cw_seq ?_
  refine Cw_region ?_
  refine Ow_q rfl rfl rfl (Qt_move rfl) ?_
  refine Ow_q rfl rfl rfl (Qt_min2 rfl rfl) ?_
  refine Ow_q rfl rfl rfl (Qt_fieldAddr (m := 2) rfl rfl rfl rfl rfl) ?_
  refine Ow_cons rfl (OpW_store (vs := [(.int .i64 (if 1099511627776 < i13 then 1099511627776 else i13))]) (all' := (Memory.cells (Memory.mk p0.words p0.lists (if 1099511627776 < i13 then 1099511627776 else i13)) vp0_words vp0_lists)) rfl rfl rfl rfl rfl (.there .here) rfl rfl rfl ?_)
  refine Ow_nil ?_
  refine Cw_seq ?_
  refine Cw_region ?_
  refine Ow_q rfl rfl rfl (Qt_loadA (m := 3) (cs := (Memory.cells (Memory.mk p0.words p0.lists (if 1099511627776 < i13 then 1099511627776 else i13)) vp0_words vp0_lists)) rfl rfl rfl rfl ⟨rfl, Rdc.blk (.tail _ (.head _)) rfl⟩) ?_
  refine Ow_cons rfl (OpW_store (vs := (Memory.cells (Memory.mk p0.words p0.lists (if 1099511627776 < i13 then 1099511627776 else i13)) vp0_words vp0_lists)) (all' := (Memory.cells (Memory.mk p0.words p0.lists (if 1099511627776 < i13 then 1099511627776 else i13)) vp0_words vp0_lists)) rfl rfl rfl rfl rfl .here rfl rfl rfl ?_)
  refine Ow_nil ?_
  refine Cw_ret ?_
  obtain ey0 := inj1 H
  subst y0
  refine ⟨(by first | exact .inl rfl | exact .inr rfl), [(.agg (Memory.cells (Memory.mk p0.words p0.lists (if 1099511627776 < i13 then 1099511627776 else i13)) vp0_words vp0_lists).toArray)], ⟨(.agg (Memory.cells (Memory.mk p0.words p0.lists (if 1099511627776 < i13 then 1099511627776 else i13)) vp0_words vp0_lists).toArray), _, rfl, ⟨_, 3, (Memory.cells (Memory.mk p0.words p0.lists (if 1099511627776 < i13 then 1099511627776 else i13)) vp0_words vp0_lists), rfl, rfl, rfl, rfl, ⟨rfl, Rdc.blk (.head _) rfl⟩, rfl⟩, rfl⟩, ?_⟩
  refine Re0 ?_
  refine Re0 ?_
  refine Shift.done ?_
  exact ⟨vp0_words, vp0_lists, rfl, rfl, rfl, hp0_words, hp0_lists⟩



end Go.Hx

namespace Go.Hx
open Go Go.Proofs
set_option linter.unusedSimpArgs false
set_option linter.unusedVariables false
set_option maxRecDepth 10000
set_option maxHeartbeats 1000000 in
theorem c_M_132z (p0 : Desk) (vp0_chans : SV) (vp0_waiting : SV) (p1 : Int) (y0 : Desk) (y1 : List Done) (H : M_132z p0 p1 = some (y0, y1)) (K : Kp) (G : List Ent) (hp0_chans : Slr TyChan K (sv vp0_chans) p0.chans) (hp0_waiting : Slr TyWaiter K (sv vp0_waiting) p0.waiting) :
  Fc Try.prog 31 #[(.agg (Desk.cells p0 vp0_chans vp0_waiting).toArray), (.int .i64 p1)] K (G) (fun v K' G' => ∃ (wy0_chans : SV) (rswy0_chans : List (List Value)) (wy0_waiting : SV) (rswy0_waiting : List (List Value)) (wy1 : SV) (rswy1 : List (List Value)), v = (.tuple #[(.agg (Desk.cells y0 wy0_chans wy0_waiting).toArray), (sv wy1)]) ∧ (.row (sv wy0_chans) 71 3 rswy0_chans.flatten) :: (.row (sv wy0_waiting) 52 8 rswy0_waiting.flatten) :: (.row (sv wy1) 75 6 rswy1.flatten) :: G = G' ∧ RowR TyChan K' rswy0_chans y0.chans ∧ RowR TyWaiter K' rswy0_waiting y0.waiting ∧ RowR TyDone K' rswy1 y1) := by
 refine Fc_body Try.func31 rfl Try.ntmps31 Try.results31 rfl ?_
 unfold M_132z at H
 refine Cw_seq ?_
 refine Cw_region ?_
 refine Ow_cons rfl (OpW_box (cs := (Desk.cells p0 vp0_chans vp0_waiting)) rfl rfl rfl (fun b158 => ?_))
 refine Ow_cons rfl (OpW_alloc (cs := (Desk.cells (Desk.mk [] [] 0) nilS nilS)) rfl rfl rfl rfl (fun b159 => ?_))
 refine Ow_q rfl rfl rfl (Qt_assign rfl) ?_
 refine Ow_nil ?_
 refine Cw_seq ?_
 refine Cw_region ?_
 refine Ow_q rfl rfl rfl (Qt_loadA (m := 3) (cs := (Desk.cells p0 vp0_chans vp0_waiting)) rfl rfl rfl rfl ⟨rfl, Rdc.blk (.tail _ (.head _)) rfl⟩) ?_
 obtain ⟨x160, hx161, H⟩ := bnd H
 refine Ow_cons rfl (OpW_call rfl Try.call44 rfl rfl (c_M_57z p0 vp0_chans vp0_waiting x160 hx161 _ _ hp0_chans hp0_waiting) ?_)
 rintro _ _ _ - ⟨b162, v163, rs164, v165, rs166, v167, rs168, rfl, rfl, rfl, hs169, hs170, hs171⟩
 refine Ow_q rfl rfl rfl (Qt_assign rfl) ?_
 refine Ow_nil ?_
 refine Cw_seq ?_
 refine Cw_region ?_
 refine Ow_q rfl rfl rfl (Qt_move rfl) ?_
 refine Ow_q rfl rfl rfl (Qt_fieldAddr (m := 2) rfl rfl rfl rfl rfl) ?_
 refine Ow_q rfl rfl rfl (Qt_load1 (v := (.int .i64 p0.tick)) rfl rfl rfl (Rdc.blk (.tail _ (.tail _ (.tail _ (.tail _ (.tail _ (.head _)))))) rfl)) ?_
 refine Ow_q rfl rfl rfl (Qt_build (cs := (Memory.cells (Memory.mk [] [] p0.tick) nilS nilS)) rfl rfl rfl rfl rfl rfl) ?_
 refine Ow_q rfl rfl rfl (Qt_move rfl) ?_
 obtain ⟨x172, hx173, H⟩ := bnd H
 refine Ow_cons rfl (OpW_call rfl Try.call59 rfl rfl (c_M_130z (Memory.mk [] [] p0.tick) nilS nilS p1 x172 hx173 _ _ (Slr.nil Ty.u64 _) (Slr.nil (Ty.sl Ty.i64) _)) ?_)
 rintro _ _ _ - ⟨v174, v175, rfl, rfl, rfl, hs176, hs177⟩
 refine Ow_q rfl rfl rfl (Qt_field (v := (.int .i64 x172.tick)) rfl rfl rfl rfl rfl) ?_
 refine Ow_q rfl rfl rfl (Qt_nilCheck rfl) ?_
 refine Ow_q rfl rfl rfl (Qt_fieldAddr (m := 0) rfl rfl rfl rfl rfl) ?_
 refine Ow_q rfl rfl rfl (Qt_fieldAddr (m := 2) rfl rfl rfl rfl rfl) ?_
 refine Ow_cons rfl (OpW_store (vs := [(.int .i64 x172.tick)]) (all' := (Desk_work.cells (Desk_work.mk (Desk.mk x160.desk.chans x160.desk.waiting x172.tick) x160.done) v163 v165 v167)) rfl rfl rfl rfl rfl .here rfl rfl rfl ?_)
 refine Ow_nil ?_
 refine Cw_seq ?_
 refine Cw_region ?_
 refine Ow_q rfl rfl rfl (Qt_move rfl) ?_
 refine Ow_q rfl rfl rfl (Qt_nilCheck rfl) ?_
 refine Ow_q rfl rfl rfl (Qt_fieldAddr (m := 0) rfl rfl rfl rfl rfl) ?_
 refine Ow_q rfl rfl rfl (Qt_fieldAddr (m := 1) rfl rfl rfl rfl rfl) ?_
 refine Ow_cons rfl (OpW_store (vs := [(sv nilS)]) (all' := (Desk_work.cells (Desk_work.mk (Desk.mk x160.desk.chans [] x172.tick) x160.done) v163 nilS v167)) rfl rfl rfl rfl rfl .here rfl rfl rfl ?_)
 refine Ow_nil ?_
 refine Cw_join (fun env' K' G' => ∃ (v305 : SV) (l306 : List Waiter) (rs308 : List (List Value)) (v309 : SV) (l310 : List Done) (rs312 : List (List Value)), [(4, (.pointer (some ((⟨b159, 0, none⟩ : Addr).add 0)))), (6, (.pointer (some ((⟨b162, 0, none⟩ : Addr).add 0))))] = env' ∧ (.blk b162 92 (Desk_work.cells (Desk_work.mk (Desk.mk x160.desk.chans l306 x172.tick) l310) v163 v305 v309)) :: (.blk b159 34 (Desk.cells (Desk.mk [] [] 0) nilS nilS)) :: (.row (sv v305) 52 8 rs308.flatten) :: (.row (sv v309) 75 6 rs312.flatten) :: (.row (sv v163) 71 3 rs164.flatten) :: G = G' ∧ M_182z x160 x172 l306 l310 = some (y0, y1) ∧ RowR TyWaiter K' rs308 l306 ∧ RowR TyDone K' rs312 l310) ?_ ?_
 ·skip
  refine Cw_seq ?_
  refine Cw_region ?_
  refine Ow_q rfl rfl rfl (Qt_fieldAddr (m := 1) rfl rfl rfl rfl rfl) ?_
  refine Ow_q rfl rfl rfl (Qt_load1 (v := (sv vp0_waiting)) rfl rfl rfl (Rdc.blk (.tail _ (.tail _ (.tail _ (.tail _ (.tail _ (.head _)))))) rfl)) ?_
  refine Ow_q rfl rfl rfl (Q_len (T := TyWaiter) hp0_waiting rfl rfl) ?_
  refine Ow_q rfl rfl rfl (Qt_move rfl) ?_
  refine Ow_nil ?_
  refine Cw_block ?_
  refine Cw_loopM (fun n440 env' K' G' => ∃ (i431 : Int) (v432 : SV) (l433 : List Waiter) (rs435 : List (List Value)) (v436 : SV) (l437 : List Done) (rs439 : List (List Value)), [(4, (.pointer (some ((⟨b159, 0, none⟩ : Addr).add 0)))), (6, (.pointer (some ((⟨b162, 0, none⟩ : Addr).add 0)))), (26, (sv vp0_waiting)), (27, (.int .i64 (p0.waiting.length : Int))), (28, (.int .i64 i431))] = env' ∧ (.blk b162 92 (Desk_work.cells (Desk_work.mk (Desk.mk x160.desk.chans l433 x172.tick) l437) v163 v432 v436)) :: (.blk b159 34 (Desk.cells (Desk.mk [] [] 0) nilS nilS)) :: (.row (sv v432) 52 8 rs435.flatten) :: (.row (sv v436) 75 6 rs439.flatten) :: (.row (sv v163) 71 3 rs164.flatten) :: G = G' ∧ lp3 (M_183z p0 x160 x172) n440 i431 l433 l437 = some (y0, y1) ∧ RowR TyWaiter K' rs435 l433 ∧ RowR TyDone K' rs439 l437) BIG ?_ ?_
  ·skip
   have hR441 : RowR TyWaiter K [] [] := RowR.nil
   refine Shift.nilRow 52 8 ?_
   refine Pu2 ?_
   refine Pu4 ?_
   refine Pu2 ?_
   refine Pu5 ?_
   refine Pu4 ?_
   refine Re5 ?_
   refine Re5 ?_
   refine Shift.done ?_
   exact ⟨_, by exact ⟨rfl, rfl, rfl, rfl, rfl, trivial⟩, 0, nilS, ([] : List Waiter), ([] : List (List Value)), v167, x160.done, rs168, rfl, rfl, H, hR441, hs171⟩
  rintro n440 _ K442 _ hK443 ⟨i431, v432, l433, rs435, v436, l437, rs439, rfl, rfl, H, hR434, hR438⟩
  obtain ⟨m444, k445, rfl, hkk446, H⟩ := lps3 H
  unfold M_183z at H
  refine Cw_seq ?_
  refine Cw_region ?_
  refine Ow_q rfl rfl rfl (Qt_cmp rfl rfl rfl) ?_
  refine Ow_nil ?_
  refine Cw_seq ?_
  refine Cw_cond rfl ?_ ?_
  ·intro h448
   have h448 := dcd_t (h448)
   have H := ift h448 H
   refine Cw_skip ?_
   refine Cw_join (fun env' K' G' => ∃ (v488 : SV) (l489 : List Waiter) (rs491 : List (List Value)) (v492 : SV) (l493 : List Done) (rs495 : List (List Value)), [(4, (.pointer (some ((⟨b159, 0, none⟩ : Addr).add 0)))), (6, (.pointer (some ((⟨b162, 0, none⟩ : Addr).add 0)))), (26, (sv vp0_waiting)), (27, (.int .i64 (p0.waiting.length : Int))), (28, (.int .i64 i431))] = env' ∧ (.blk b162 92 (Desk_work.cells (Desk_work.mk (Desk.mk x160.desk.chans l489 x172.tick) l493) v163 v488 v492)) :: (.blk b159 34 (Desk.cells (Desk.mk [] [] 0) nilS nilS)) :: (.row (sv v488) 52 8 rs491.flatten) :: (.row (sv v492) 75 6 rs495.flatten) :: (.row (sv v163) 71 3 rs164.flatten) :: G = G' ∧ M_131z p0 i431 x160 x172 k445 l489 l493 = some (y0, y1) ∧ RowR TyWaiter K' rs491 l489 ∧ RowR TyDone K' rs495 l493) ?_ ?_
   ·skip
    refine Cw_block ?_
    refine Cw_seq ?_
    refine Cw_region ?_
    obtain ⟨x496, hx497, H⟩ := bnd H
    have hs498 := (hp0_waiting).mono hK443
    obtain ⟨r499, hr500, hk501⟩ := Slr.at hs498 hx497
    obtain ⟨v502, v503, rfl, hs504, hs505⟩ := hr500
    refine Ow_q rfl rfl rfl (Q_ix (T := TyWaiter) hs498 hx497 rfl rfl rfl rfl rfl) ?_
    refine Ow_q rfl rfl rfl (Qt_loadA (m := 8) (cs := (Waiter.cells x496 v502 v503)) rfl rfl rfl rfl ⟨rfl, Rdc.k hk501 rfl⟩) ?_
    refine Ow_cons rfl (OpW_alloc (cs := (Waiter.cells (Waiter.mk 0 (Op.mk 0 0 0 0 0 [] [])) nilS nilS)) rfl rfl rfl rfl (fun b506 => ?_))
    refine Ow_cons rfl (OpW_store (vs := (Waiter.cells x496 v502 v503)) (all' := (Waiter.cells x496 v502 v503)) rfl rfl rfl rfl rfl .here rfl rfl rfl ?_)
    refine Ow_nil ?_
    refine Cw_join (fun env' K' G' => ∃ (t508 : Bool), [(4, (.pointer (some ((⟨b159, 0, none⟩ : Addr).add 0)))), (6, (.pointer (some ((⟨b162, 0, none⟩ : Addr).add 0)))), (8, (.pointer (some ((⟨b506, 0, none⟩ : Addr).add 0)))), (26, (sv vp0_waiting)), (27, (.int .i64 (p0.waiting.length : Int))), (28, (.int .i64 i431)), (46, (.bool t508))] = env' ∧ K442 = K' ∧ (.blk b506 52 (Waiter.cells x496 v502 v503)) :: (.blk b162 92 (Desk_work.cells (Desk_work.mk (Desk.mk x160.desk.chans l433 x172.tick) l437) v163 v432 v436)) :: (.blk b159 34 (Desk.cells (Desk.mk [] [] 0) nilS nilS)) :: (.row (sv v432) 52 8 rs435.flatten) :: (.row (sv v436) 75 6 rs439.flatten) :: (.row (sv v163) 71 3 rs164.flatten) :: G = G' ∧ M_79z p0 i431 x496 x160 l433 x172 l437 k445 t508 = some (y0, y1)) ?_ ?_
    ·skip
     rcases bool_ct (dcd (x496.op.mode = 2)) with hb_ | hb_ <;> revert hb_
     ·intro h509
      have h509 := dcd_t (h509)
      have H := ift h509 H
      refine Cw_region_any [.blk b506 52 (Waiter.cells x496 v502 v503), .blk b162 92 (Desk_work.cells (Desk_work.mk (Desk.mk x160.desk.chans l433 x172.tick) l437) v163 v432 v436), .blk b159 34 (Desk.cells (Desk.mk [] [] 0) nilS nilS), .row (sv v432) 52 8 rs435.flatten, .row (sv v436) 75 6 rs439.flatten, .row (sv v163) 71 3 rs164.flatten] rfl (Inc.cons (.head _) (Inc.cons (.tail _ (.head _)) (Inc.cons (.tail _ (.tail _ (.head _))) (Inc.cons (.tail _ (.tail _ (.tail _ (.head _)))) (Inc.cons (.tail _ (.tail _ (.tail _ (.tail _ (.head _))))) (Inc.cons (.tail _ (.tail _ (.tail _ (.tail _ (.tail _ (.head _)))))) Inc.nil)))))) ?_
      refine Awq 0 rfl (by kernel_rfl) rfl rfl rfl (Qt_fieldAddr (m := 1) rfl rfl rfl rfl rfl) ?_
      refine Awq 1 rfl (by kernel_rfl) rfl rfl rfl (Qt_fieldAddr (m := 2) rfl rfl rfl rfl rfl) ?_
      refine Awq 2 rfl (by kernel_rfl) rfl rfl rfl (Qt_load1 (v := (.int .i64 x496.op.mode)) rfl rfl rfl (Rdc.blk (.head _) rfl)) ?_
      refine Awq 3 rfl (by kernel_rfl) rfl rfl rfl (Qt_cmp rfl rfl rfl) ?_
      refine Awq 4 rfl (by kernel_rfl) rfl rfl rfl (Qt_move rfl) ?_
      refine Aw.known (d := 36) rfl (dcd_pos h509) ?_
      refine Aw_qw 5 rfl (by kernel_rfl) (by kernel_rfl) (by kernel_rfl) rfl rfl rfl rfl rfl rfl (Qt_fieldAddr (m := 1) rfl rfl rfl rfl rfl) ?_
      refine Aw_qw 6 rfl (by kernel_rfl) (by kernel_rfl) (by kernel_rfl) rfl rfl rfl rfl rfl rfl (Qt_fieldAddr (m := 5) rfl rfl rfl rfl rfl) ?_
      refine Aw_qw 7 rfl (by kernel_rfl) (by kernel_rfl) (by kernel_rfl) rfl rfl rfl rfl rfl rfl (Qt_load1 (v := (.int .i64 x496.op.deadline)) rfl rfl rfl (Rdc.blk (.head _) rfl)) ?_
      refine Aw_qw 8 rfl (by kernel_rfl) (by kernel_rfl) (by kernel_rfl) rfl rfl rfl rfl rfl rfl (Qt_move rfl) ?_
      refine Aw_qw 9 rfl (by kernel_rfl) (by kernel_rfl) (by kernel_rfl) rfl rfl rfl rfl rfl rfl (Qt_nilCheck rfl) ?_
      refine Aw_qw 10 rfl (by kernel_rfl) (by kernel_rfl) (by kernel_rfl) rfl rfl rfl rfl rfl rfl (Qt_fieldAddr (m := 0) rfl rfl rfl rfl rfl) ?_
      refine Aw_qw 11 rfl (by kernel_rfl) (by kernel_rfl) (by kernel_rfl) rfl rfl rfl rfl rfl rfl (Qt_fieldAddr (m := 2) rfl rfl rfl rfl rfl) ?_
      refine Aw_qw 12 rfl (by kernel_rfl) (by kernel_rfl) (by kernel_rfl) rfl rfl rfl rfl rfl rfl (Qt_load1 (v := (.int .i64 x172.tick)) rfl rfl rfl (Rdc.blk (.tail _ (.head _)) rfl)) ?_
      refine Aw_qw 13 rfl (by kernel_rfl) (by kernel_rfl) (by kernel_rfl) rfl rfl rfl rfl rfl rfl (Qt_cmp rfl rfl rfl) ?_
      refine Awq 14 rfl (by kernel_rfl) rfl rfl rfl (Qt_pick_t rfl rfl) ?_
      refine Aw_done (by kernel_rfl) ?_
      refine Pu5 ?_
      refine Pu5 ?_
      refine Pu5 ?_
      refine Pu5 ?_
      refine Pu5 ?_
      refine Pu5 ?_
      refine Shift.done ?_
      exact ⟨_, by exact ⟨rfl, rfl, rfl, rfl, rfl, rfl, rfl, trivial⟩, (dcd (x496.op.deadline ≤ x172.tick)), rfl, rfl, rfl, H⟩
     ·intro h509
      have h509 := dcd_f (h509)
      have H := iff_ h509 H
      refine Cw_region_any [.blk b506 52 (Waiter.cells x496 v502 v503), .blk b162 92 (Desk_work.cells (Desk_work.mk (Desk.mk x160.desk.chans l433 x172.tick) l437) v163 v432 v436), .blk b159 34 (Desk.cells (Desk.mk [] [] 0) nilS nilS), .row (sv v432) 52 8 rs435.flatten, .row (sv v436) 75 6 rs439.flatten, .row (sv v163) 71 3 rs164.flatten] rfl (Inc.cons (.head _) (Inc.cons (.tail _ (.head _)) (Inc.cons (.tail _ (.tail _ (.head _))) (Inc.cons (.tail _ (.tail _ (.tail _ (.head _)))) (Inc.cons (.tail _ (.tail _ (.tail _ (.tail _ (.head _))))) (Inc.cons (.tail _ (.tail _ (.tail _ (.tail _ (.tail _ (.head _)))))) Inc.nil)))))) ?_
      refine Awq 0 rfl (by kernel_rfl) rfl rfl rfl (Qt_fieldAddr (m := 1) rfl rfl rfl rfl rfl) ?_
      refine Awq 1 rfl (by kernel_rfl) rfl rfl rfl (Qt_fieldAddr (m := 2) rfl rfl rfl rfl rfl) ?_
      refine Awq 2 rfl (by kernel_rfl) rfl rfl rfl (Qt_load1 (v := (.int .i64 x496.op.mode)) rfl rfl rfl (Rdc.blk (.head _) rfl)) ?_
      refine Awq 3 rfl (by kernel_rfl) rfl rfl rfl (Qt_cmp rfl rfl rfl) ?_
      refine Awq 4 rfl (by kernel_rfl) rfl rfl rfl (Qt_move rfl) ?_
      refine Aw.known (d := 36) rfl (dcd_neg h509) ?_
      refine Aw_pass 5 rfl (by kernel_rfl) (by kernel_rfl) (by kernel_rfl) rfl rfl rfl rfl rfl rfl rfl ?_
      refine Aw_pass 6 rfl (by kernel_rfl) (by kernel_rfl) (by kernel_rfl) rfl rfl rfl rfl rfl rfl rfl ?_
      refine Aw_pass 7 rfl (by kernel_rfl) (by kernel_rfl) (by kernel_rfl) rfl rfl rfl rfl rfl rfl rfl ?_
      refine Aw_pass 8 rfl (by kernel_rfl) (by kernel_rfl) (by kernel_rfl) rfl rfl rfl rfl rfl rfl rfl ?_
      refine Aw_pass 9 rfl (by kernel_rfl) (by kernel_rfl) (by kernel_rfl) rfl rfl rfl rfl rfl rfl rfl ?_
      refine Aw_pass 10 rfl (by kernel_rfl) (by kernel_rfl) (by kernel_rfl) rfl rfl rfl rfl rfl rfl rfl ?_
      refine Aw_pass 11 rfl (by kernel_rfl) (by kernel_rfl) (by kernel_rfl) rfl rfl rfl rfl rfl rfl rfl ?_
      refine Aw_pass 12 rfl (by kernel_rfl) (by kernel_rfl) (by kernel_rfl) rfl rfl rfl rfl rfl rfl rfl ?_
      refine Aw_pass 13 rfl (by kernel_rfl) (by kernel_rfl) (by kernel_rfl) rfl rfl rfl rfl rfl rfl rfl ?_
      refine Awq 14 rfl (by kernel_rfl) rfl rfl rfl (Qt_pick_f rfl rfl) ?_
      refine Aw_done (by kernel_rfl) ?_
      refine Pu5 ?_
      refine Pu5 ?_
      refine Pu5 ?_
      refine Pu5 ?_
      refine Pu5 ?_
      refine Pu5 ?_
      refine Shift.done ?_
      exact ⟨_, by exact ⟨rfl, rfl, rfl, rfl, rfl, rfl, rfl, trivial⟩, false, rfl, rfl, rfl, H⟩
    rintro _ _ _ - ⟨t508, rfl, rfl, rfl, H⟩
    unfold M_79z at H
    refine Cw_cond rfl ?_ ?_
    ·intro h510
     have H := ift h510 H
     refine Cw_region ?_
     refine Ow_q rfl rfl rfl (Qt_move rfl) ?_
     refine Ow_q rfl rfl rfl (Qt_fieldAddr (m := 0) rfl rfl rfl rfl rfl) ?_
     refine Ow_q rfl rfl rfl (Qt_load1 (v := (.int .i64 x496.thread)) rfl rfl rfl (Rdc.blk (.head _) rfl)) ?_
     refine Ow_q rfl rfl rfl (Qt_build (cs := (Result.cells (Result.mk 4 (-1) 0 false 0))) rfl rfl rfl rfl rfl rfl) ?_
     obtain ⟨x511, hx512, H⟩ := bnd H
     refine Ow.shift (Pu4 (Shift.done ?_))
     refine Ow.shift (Pu4 (Shift.done ?_))
     refine Ow.shift (Pu5 (Shift.done ?_))
     refine Ow.shift (Pu4 (Shift.done ?_))
     have hs513 := (hs169).mono hK443
     refine Ow_cons rfl (OpW_call rfl Try.call51 rfl rfl (c_M_31z b162 (Desk_work.mk (Desk.mk x160.desk.chans l433 x172.tick) l437) v163 rs164 v432 rs435 v436 rs439 x496.thread (Result.mk 4 (-1) 0 false 0) x511 hx512 _ _ hs513 hR434 hR438) ?_)
     rintro _ K516 _ hK517 ⟨v514, rs515, rfl, rfl, hs518⟩
     refine Ow_nil ?_
     refine Pu2 ?_
     refine Pu2 ?_
     refine Pu3 ?_
     refine Pu5 ?_
     refine Pu4 ?_
     refine Re5 ?_
     have hs519 := (hR434).mono hK517
     refine Shift.done ?_
     exact ⟨_, by exact ⟨rfl, rfl, rfl, rfl, rfl, trivial⟩, v432, l433, rs435, v514, x511, rs515, rfl, rfl, H, hs519, hs518⟩
    ·intro h510
     have H := iff_ (btf h510) H
     obtain ⟨x522, hx523, H⟩ := bnd H
     refine Cw_region_any [.blk b506 52 (Waiter.cells x496 v502 v503), .blk b159 34 (Desk.cells (Desk.mk [] [] 0) nilS nilS), .row (sv v436) 75 6 rs439.flatten, .row (sv v163) 71 3 rs164.flatten] rfl (Inc.cons (.head _) (Inc.cons (.tail _ (.tail _ (.head _))) (Inc.cons (.tail _ (.tail _ (.tail _ (.tail _ (.head _))))) (Inc.cons (.tail _ (.tail _ (.tail _ (.tail _ (.tail _ (.head _)))))) Inc.nil)))) ?_
     refine Awq 0 rfl (by kernel_rfl) rfl rfl rfl (Qt_move rfl) ?_
     refine Awq 1 rfl (by kernel_rfl) rfl rfl rfl (Qt_move rfl) ?_
     refine Awq 2 rfl (by kernel_rfl) rfl rfl rfl (Qt_nilCheck rfl) ?_
     refine Awq 3 rfl (by kernel_rfl) rfl rfl rfl (Qt_fieldAddr (m := 0) rfl rfl rfl rfl rfl) ?_
     refine Awq 4 rfl (by kernel_rfl) rfl rfl rfl (Qt_fieldAddr (m := 1) rfl rfl rfl rfl rfl) ?_
     refine Awq 6 rfl (by kernel_rfl) rfl rfl rfl (Qt_loadA (m := 8) (cs := (Waiter.cells x496 v502 v503)) rfl rfl rfl rfl ⟨rfl, Rdc.blk (.head _) rfl⟩) ?_
     refine Aw_two 5 7 (by kernel_rfl) ?_ ?_
     ·skip
      refine id (Ax_mk rfl rfl (OpW_of_Qt rfl rfl (Qt_load1 (v := (sv v432)) rfl rfl rfl (Rdc.blk (.tail _ (.head _)) rfl)) ⟨(Inc.cons (.head _) (Inc.cons (.tail _ (.tail _ (.head _))) (Inc.cons (.tail _ (.tail _ (.tail _ (.tail _ (.head _))))) (Inc.cons (.tail _ (.tail _ (.tail _ (.tail _ (.tail _ (.head _)))))) Inc.nil)))), ?_⟩))
      refine Aw_one 7 (by kernel_rfl) (Ax_mk rfl rfl ?_)
      have hR528 : RowR TyWaiter K442 [(Waiter.cells x496 v502 v503)] [x496] := RowR.cons ⟨v502, v503, rfl, hs504, hs505⟩ (RowR.nil)
      refine O_lit (T := TyWaiter) (rows := [(Waiter.cells x496 v502 v503)]) (l := [x496]) rfl rfl rfl hR528 rfl rfl rfl rfl rfl rfl rfl rfl (fun v527 => ⟨(Inc.cons (.tail _ (.head _)) (Inc.cons (.tail _ (.tail _ (.tail _ (.head _)))) (Inc.cons (.tail _ (.tail _ (.tail _ (.tail _ (.tail _ (.head _)))))) (Inc.cons (.tail _ (.tail _ (.tail _ (.tail _ (.tail _ (.tail _ (.head _))))))) Inc.nil)))), ?_⟩)
      refine Aw_one 8 (by kernel_rfl) (Ax_mk rfl rfl ?_)
      refine O_appRow (T := TyWaiter) (bytes := 96) rfl rfl rfl (.tail _ (.tail _ (.tail _ (.tail _ (.head _))))) hR434 (SrcT.row (.head _) hR528 rfl) hx523 rfl rfl rfl rfl rfl rfl rfl rfl (fun v529 rs530 hR531 => ⟨_, (.there (.there (.there (.there .here)))), ⟨(Inc.cons (.tail _ (.head _)) (Inc.cons (.tail _ (.tail _ (.tail _ (.head _)))) (Inc.cons (.tail _ (.tail _ (.tail _ (.tail _ (.tail _ (.head _)))))) (Inc.cons (.tail _ (.tail _ (.tail _ (.tail _ (.tail _ (.tail _ (.head _))))))) Inc.nil)))), ?_⟩⟩)
      refine Aw.shift (Re0 (Shift.done ⟨(Inc.cons (.head _) (Inc.cons (.tail _ (.tail _ (.head _))) (Inc.cons (.tail _ (.tail _ (.tail _ (.tail _ (.head _))))) (Inc.cons (.tail _ (.tail _ (.tail _ (.tail _ (.tail _ (.head _)))))) Inc.nil)))), ?_⟩))
      refine Awq 9 rfl (by kernel_rfl) rfl rfl rfl (Qt_nilCheck rfl) ?_
      refine Awq 10 rfl (by kernel_rfl) rfl rfl rfl (Qt_fieldAddr (m := 0) rfl rfl rfl rfl rfl) ?_
      refine Awq 11 rfl (by kernel_rfl) rfl rfl rfl (Qt_fieldAddr (m := 1) rfl rfl rfl rfl rfl) ?_
      refine Aw_one 12 (by kernel_rfl) (Ax_mk rfl rfl ?_)
      refine OpW_store (vs := [(sv v529)]) (all' := (Desk_work.cells (Desk_work.mk (Desk.mk x160.desk.chans x522 x172.tick) l437) v163 v529 v436)) rfl rfl rfl rfl rfl (.there .here) rfl rfl rfl ⟨(Inc.cons (.head _) (Inc.cons (.tail _ (.tail _ (.head _))) (Inc.cons (.tail _ (.tail _ (.tail _ (.tail _ (.head _))))) (Inc.cons (.tail _ (.tail _ (.tail _ (.tail _ (.tail _ (.head _)))))) Inc.nil)))), ?_⟩
      refine Aw_done (by kernel_rfl) ?_
      refine Pu5 ?_
      refine Pu5 ?_
      refine Pu5 ?_
      refine Pu5 ?_
      refine Pu5 ?_
      refine Re5 ?_
      refine Shift.done ?_
      exact ⟨_, by exact ⟨rfl, rfl, rfl, rfl, rfl, trivial⟩, v529, x522, rs530, v436, l437, rs439, rfl, rfl, H, hR531, hR438⟩
     ·skip
      refine id (Ax_mk rfl rfl ?_)
      have hR533 : RowR TyWaiter K442 [(Waiter.cells x496 v502 v503)] [x496] := RowR.cons ⟨v502, v503, rfl, hs504, hs505⟩ (RowR.nil)
      refine O_lit (T := TyWaiter) (rows := [(Waiter.cells x496 v502 v503)]) (l := [x496]) rfl rfl rfl hR533 rfl rfl rfl rfl rfl rfl rfl rfl (fun v532 => ⟨(Inc.cons (.tail _ (.head _)) (Inc.cons (.tail _ (.tail _ (.tail _ (.head _)))) (Inc.cons (.tail _ (.tail _ (.tail _ (.tail _ (.tail _ (.head _)))))) (Inc.cons (.tail _ (.tail _ (.tail _ (.tail _ (.tail _ (.tail _ (.head _))))))) Inc.nil)))), ?_⟩)
      refine Aw_one 5 (by kernel_rfl) (Ax_mk rfl rfl (OpW_of_Qt rfl rfl (Qt_load1 (v := (sv v432)) rfl rfl rfl (Rdc.blk (.tail _ (.tail _ (.head _))) rfl)) ⟨(Inc.cons (.tail _ (.head _)) (Inc.cons (.tail _ (.tail _ (.tail _ (.head _)))) (Inc.cons (.tail _ (.tail _ (.tail _ (.tail _ (.tail _ (.head _)))))) (Inc.cons (.tail _ (.tail _ (.tail _ (.tail _ (.tail _ (.tail _ (.head _))))))) Inc.nil)))), ?_⟩))
      refine Aw_one 8 (by kernel_rfl) (Ax_mk rfl rfl ?_)
      refine O_appRow (T := TyWaiter) (bytes := 96) rfl rfl rfl (.tail _ (.tail _ (.tail _ (.tail _ (.head _))))) hR434 (SrcT.row (.head _) hR533 rfl) hx523 rfl rfl rfl rfl rfl rfl rfl rfl (fun v534 rs535 hR536 => ⟨_, (.there (.there (.there (.there .here)))), ⟨(Inc.cons (.tail _ (.head _)) (Inc.cons (.tail _ (.tail _ (.tail _ (.head _)))) (Inc.cons (.tail _ (.tail _ (.tail _ (.tail _ (.tail _ (.head _)))))) (Inc.cons (.tail _ (.tail _ (.tail _ (.tail _ (.tail _ (.tail _ (.head _))))))) Inc.nil)))), ?_⟩⟩)
      refine Aw.shift (Re0 (Shift.done ⟨(Inc.cons (.head _) (Inc.cons (.tail _ (.tail _ (.head _))) (Inc.cons (.tail _ (.tail _ (.tail _ (.tail _ (.head _))))) (Inc.cons (.tail _ (.tail _ (.tail _ (.tail _ (.tail _ (.head _)))))) Inc.nil)))), ?_⟩))
      refine Awq 9 rfl (by kernel_rfl) rfl rfl rfl (Qt_nilCheck rfl) ?_
      refine Awq 10 rfl (by kernel_rfl) rfl rfl rfl (Qt_fieldAddr (m := 0) rfl rfl rfl rfl rfl) ?_
      refine Awq 11 rfl (by kernel_rfl) rfl rfl rfl (Qt_fieldAddr (m := 1) rfl rfl rfl rfl rfl) ?_
      refine Aw_one 12 (by kernel_rfl) (Ax_mk rfl rfl ?_)
      refine OpW_store (vs := [(sv v534)]) (all' := (Desk_work.cells (Desk_work.mk (Desk.mk x160.desk.chans x522 x172.tick) l437) v163 v534 v436)) rfl rfl rfl rfl rfl (.there .here) rfl rfl rfl ⟨(Inc.cons (.head _) (Inc.cons (.tail _ (.tail _ (.head _))) (Inc.cons (.tail _ (.tail _ (.tail _ (.tail _ (.head _))))) (Inc.cons (.tail _ (.tail _ (.tail _ (.tail _ (.tail _ (.head _)))))) Inc.nil)))), ?_⟩
      refine Aw_done (by kernel_rfl) ?_
      refine Pu5 ?_
      refine Pu5 ?_
      refine Pu5 ?_
      refine Pu5 ?_
      refine Pu5 ?_
      refine Re5 ?_
      refine Shift.done ?_
      exact ⟨_, by exact ⟨rfl, rfl, rfl, rfl, rfl, trivial⟩, v534, x522, rs535, v436, l437, rs439, rfl, rfl, H, hR536, hR438⟩
   rintro _ K537 _ hK538 ⟨v488, l489, rs491, v492, l493, rs495, rfl, rfl, H, hR490, hR494⟩
   unfold M_131z at H
   refine Cw_region ?_
   refine Ow_q rfl rfl rfl (Qt_arith (e := wI (i431 + 1)) rfl rfl rfl rfl) ?_
   refine Ow_q rfl rfl rfl (Qt_move rfl) ?_
   refine Ow_nil ?_
   refine Pu4 ?_
   refine Pu4 ?_
   refine Pu4 ?_
   refine Pu4 ?_
   refine Pu4 ?_
   refine Shift.done ?_
   exact ⟨_, by exact ⟨rfl, rfl, rfl, rfl, rfl, trivial⟩, _, Nat.lt_succ_self _, (wI (i431 + 1)), v488, l489, rs491, v492, l493, rs495, rfl, rfl, (hkk446 ▸ H), hR490, hR494⟩
  ·intro h448
   have h448 := dcd_f (h448)
   have H := iff_ h448 H
   refine Cw_exit ?_
   refine Pu4 ?_
   refine Pu4 ?_
   refine Pu4 ?_
   refine Pu4 ?_
   refine Pu4 ?_
   refine Shift.done ?_
   exact ⟨_, by exact ⟨rfl, rfl, trivial⟩, v432, l433, rs435, v436, l437, rs439, rfl, rfl, H, hR434, hR438⟩
 rintro _ K539 _ hK540 ⟨v305, l306, rs308, v309, l310, rs312, rfl, rfl, H, hR307, hR311⟩
 unfold M_182z at H
 refine Cw_seq ?_
 refine Cw_region_any [.blk b162 92 (Desk_work.cells (Desk_work.mk (Desk.mk x160.desk.chans l306 x172.tick) l310) v163 v305 v309), .row (sv v305) 52 8 rs308.flatten, .row (sv v309) 75 6 rs312.flatten, .row (sv v163) 71 3 rs164.flatten] rfl (Inc.cons (.head _) (Inc.cons (.tail _ (.tail _ (.head _))) (Inc.cons (.tail _ (.tail _ (.tail _ (.head _)))) (Inc.cons (.tail _ (.tail _ (.tail _ (.tail _ (.head _))))) Inc.nil)))) ?_
 refine Awq 0 rfl (by kernel_rfl) rfl rfl rfl (Qt_move rfl) ?_
 refine Awq 1 rfl (by kernel_rfl) rfl rfl rfl (Qt_nilCheck rfl) ?_
 refine Awq 2 rfl (by kernel_rfl) rfl rfl rfl (Qt_fieldAddr (m := 0) rfl rfl rfl rfl rfl) ?_
 refine Awq 3 rfl (by kernel_rfl) rfl rfl rfl (Qt_loadA (m := 3) (cs := (Desk.cells (Desk.mk x160.desk.chans l306 x172.tick) v163 v305)) rfl rfl rfl rfl ⟨rfl, Rdc.blk (.head _) rfl⟩) ?_
 refine Awq 4 rfl (by kernel_rfl) rfl rfl rfl (Qt_move rfl) ?_
 refine Awq 5 rfl (by kernel_rfl) rfl rfl rfl (Qt_nilCheck rfl) ?_
 refine Awq 6 rfl (by kernel_rfl) rfl rfl rfl (Qt_fieldAddr (m := 3) rfl rfl rfl rfl rfl) ?_
 refine Awq 7 rfl (by kernel_rfl) rfl rfl rfl (Qt_load1 (v := (sv v309)) rfl rfl rfl (Rdc.blk (.head _) rfl)) ?_
 refine Aw_one 8 (by kernel_rfl) (Ax_mk rfl rfl ?_)
 refine OpW_store (vs := (Desk.cells (Desk.mk x160.desk.chans l306 x172.tick) v163 v305)) (all' := (Desk.cells (Desk.mk x160.desk.chans l306 x172.tick) v163 v305)) rfl rfl rfl rfl rfl (.there .here) rfl rfl rfl ⟨(Inc.cons (.head _) (Inc.cons (.tail _ (.tail _ (.head _))) (Inc.cons (.tail _ (.tail _ (.tail _ (.head _)))) (Inc.cons (.tail _ (.tail _ (.tail _ (.tail _ (.head _))))) Inc.nil)))), ?_⟩
 refine Awq 9 rfl (by kernel_rfl) rfl rfl rfl (Qt_assign rfl) ?_
 refine Aw_done (by kernel_rfl) ?_
 refine Cw_ret ?_
 obtain ⟨ey0, ey1⟩ := inj2 H
 subst y0 y1
 refine ⟨(by first | exact .inl rfl | exact .inr rfl), [(.agg (Desk.cells (Desk.mk x160.desk.chans l306 x172.tick) v163 v305).toArray), (sv v309)], ⟨(.agg (Desk.cells (Desk.mk x160.desk.chans l306 x172.tick) v163 v305).toArray), _, rfl, ⟨_, 3, (Desk.cells (Desk.mk x160.desk.chans l306 x172.tick) v163 v305), rfl, rfl, rfl, rfl, ⟨rfl, Rdc.blk (.tail _ (.head _)) rfl⟩, rfl⟩, ⟨(sv v309), _, rfl, rfl, rfl⟩⟩, ?_⟩
 refine Pu3 ?_
 refine Pu3 ?_
 refine Pu4 ?_
 refine Re3 ?_
 refine Re3 ?_
 have hs541 := (hs169).mono hK540
 refine Shift.done ?_
 exact ⟨v163, rs164, v305, rs308, v309, rs312, rfl, rfl, hs541, hR307, hR311⟩



end Go.Hx
