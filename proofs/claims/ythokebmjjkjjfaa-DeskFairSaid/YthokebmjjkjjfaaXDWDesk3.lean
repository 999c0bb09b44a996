/- Printed by program. -/
import Derived.Test.YthokebmjjkjjfaaXDM
import Derived.Test.YthokebmjjkjjfaaXDWCases1
import Derived.Test.YthokebmjjkjjfaaXDWDesk1
import Derived.Test.YthokebmjjkjjfaaXDWDesk2
import Derived.Test.YthokebmjjkjjfaaXDWModel
import Derived.Test.YthokebmjjkjjfaaXDWSlices1
namespace Go.Hx
open Go Go.Proofs
set_option linter.unusedSimpArgs false
set_option linter.unusedVariables false
set_option maxRecDepth 10000
set_option maxHeartbeats 1000000 in
theorem c_M_88z (p0 : Desk) (vp0_chans : SV) (vp0_waiting : SV) (p1 : Int) (p2 : Case) (y0 : Int) (H : M_88z p0 p1 p2 = some y0) (K : Kp) (G : List Ent) (hp0_chans : Slr TyChan K (sv vp0_chans) p0.chans) (hp0_waiting : Slr TyWaiter K (sv vp0_waiting) p0.waiting) :
  Fc Try.prog 40 #[(.agg (Desk.cells p0 vp0_chans vp0_waiting).toArray), (.int .i64 p1), (.agg (Case.cells p2).toArray)] K (G) (fun v K' G' => v = (.int .i64 y0) ∧ G = G') := by
 refine Fc_body Try.func40 rfl Try.ntmps40 Try.results40 rfl ?_
 unfold M_88z at H
 refine Cw_seq ?_
 refine Cw_region ?_
 refine Ow_cons rfl (OpW_box (cs := (Desk.cells p0 vp0_chans vp0_waiting)) rfl rfl rfl (fun b11 => ?_))
 refine Ow_cons rfl (OpW_box (cs := [(.int .i64 p1)]) rfl rfl rfl (fun b12 => ?_))
 refine Ow_cons rfl (OpW_box (cs := (Case.cells p2)) rfl rfl rfl (fun b13 => ?_))
 refine Ow_q rfl rfl rfl (Qt_assign rfl) ?_
 refine Ow_nil ?_
 refine Cw_seq ?_
 refine Cw_seq ?_
 refine Cw_region ?_
 refine Ow_q rfl rfl rfl (Qt_loadA (m := 3) (cs := (Desk.cells p0 vp0_chans vp0_waiting)) rfl rfl rfl rfl ⟨rfl, Rdc.blk (.tail _ (.tail _ (.head _))) rfl⟩) ?_
 refine Ow_q rfl rfl rfl (Qt_fieldAddr (m := 1) rfl rfl rfl rfl rfl) ?_
 refine Ow_q rfl rfl rfl (Qt_load1 (v := (.int .i64 p2.channel)) rfl rfl rfl (Rdc.blk (.head _) rfl)) ?_
 obtain ⟨x17, hx18, H⟩ := bnd H
 refine Ow_cons rfl (OpW_call rfl Try.call45 rfl rfl (c_M_21z p0 vp0_chans vp0_waiting p2.channel x17 hx18 _ _ hp0_chans hp0_waiting) ?_)
 rintro _ _ _ - ⟨rfl, rfl, rfl⟩
 refine Ow_q rfl rfl rfl (Qt_not rfl) ?_
 refine Ow_nil ?_
 refine Cw_cond rfl ?_ ?_
 ·intro h19
  have h19 := nt_t (h19)
  have H := iff_ (btf h19) H
  refine Cw_seq ?_
  refine Cw_region ?_
  refine Ow_q rfl rfl rfl (Qt_assign rfl) ?_
  refine Ow_nil ?_
  refine Cw_ret ?_
  obtain ey0 := inj1 H
  subst y0
  refine ⟨(by first | exact .inl rfl | exact .inr rfl), [(.int .i64 (-1))], ⟨(.int .i64 (-1)), _, rfl, rfl, rfl⟩, ?_⟩
  refine Shift.rem .here ?_
  refine Shift.rem .here ?_
  refine Shift.rem .here ?_
  refine Shift.done ?_
  exact ⟨rfl, rfl⟩
 ·intro h19
  have h19 := nt_f (h19)
  have H := ift h19 H
  refine Cw_skip ?_
  refine Cw_seq ?_
  refine Cw_region ?_
  refine Ow_q rfl rfl rfl (Qt_fieldAddr (m := 1) rfl rfl rfl rfl rfl) ?_
  refine Ow_q rfl rfl rfl (Qt_load1 (v := (sv vp0_waiting)) rfl rfl rfl (Rdc.blk (.tail _ (.tail _ (.head _))) rfl)) ?_
  refine Ow_q rfl rfl rfl (Qt_makeFunc rfl rfl) ?_
  obtain ⟨x20, hx21, H⟩ := bnd H
  refine Ow.shift (Shift.pull (.there .here) (Shift.done ?_))
  refine Ow.shift (Shift.pull (.there .here) (Shift.done ?_))
  refine Ow_cons rfl (OpW_call rfl Try.call68 rfl rfl (c_M_87z p0.waiting vp0_waiting b13 p2 b12 p1 x20 hx21 _ _ hp0_waiting) ?_)
  rintro _ K22 _ hK23 ⟨rfl, rfl⟩
  refine Ow_q rfl rfl rfl (Qt_assign rfl) ?_
  refine Ow_nil ?_
  refine Cw_ret ?_
  obtain ey0 := inj1 H
  subst y0
  refine ⟨(by first | exact .inl rfl | exact .inr rfl), [(.int .i64 x20)], ⟨(.int .i64 x20), _, rfl, rfl, rfl⟩, ?_⟩
  refine Shift.rem .here ?_
  refine Shift.rem .here ?_
  refine Shift.rem .here ?_
  refine Shift.done ?_
  exact ⟨rfl, rfl⟩

set_option maxHeartbeats 1000000 in
theorem c_M_43z (p0 : Desk) (vp0_chans : SV) (vp0_waiting : SV) (p1 : Int) (p2 : Case) (y0 : Bool) (H : M_43z p0 p1 p2 = some y0) (K : Kp) (G : List Ent) (hp0_chans : Slr TyChan K (sv vp0_chans) p0.chans) (hp0_waiting : Slr TyWaiter K (sv vp0_waiting) p0.waiting) :
  Fc Try.prog 16 #[(.agg (Desk.cells p0 vp0_chans vp0_waiting).toArray), (.int .i64 p1), (.agg (Case.cells p2).toArray)] K (G) (fun v K' G' => v = (.bool y0) ∧ G = G') := by
 refine Fc_body Try.func16 rfl Try.ntmps16 Try.results16 rfl ?_
 unfold M_43z at H
 refine Cw_seq ?_
 refine Cw_region ?_
 refine Ow_cons rfl (OpW_box (cs := (Desk.cells p0 vp0_chans vp0_waiting)) rfl rfl rfl (fun b10 => ?_))
 refine Ow_cons rfl (OpW_box (cs := (Case.cells p2)) rfl rfl rfl (fun b11 => ?_))
 refine Ow_q rfl rfl rfl (Qt_assign rfl) ?_
 refine Ow_nil ?_
 refine Cw_seq ?_
 refine Cw_region ?_
 refine Ow_q rfl rfl rfl (Qt_fieldAddr (m := 0) rfl rfl rfl rfl rfl) ?_
 refine Ow_q rfl rfl rfl (Qt_load1 (v := (sv vp0_chans)) rfl rfl rfl (Rdc.blk (.tail _ (.head _)) rfl)) ?_
 refine Ow_q rfl rfl rfl (Qt_loadA (m := 3) (cs := (Case.cells p2)) rfl rfl rfl rfl ⟨rfl, Rdc.blk (.head _) rfl⟩) ?_
 obtain ⟨x19, hx20, H⟩ := bnd H
 refine Ow_cons rfl (OpW_call rfl Try.call39 rfl rfl (c_M_85z p0.chans vp0_chans p2 x19 hx20 _ _ hp0_chans) ?_)
 rintro _ _ _ - ⟨rfl, rfl, rfl⟩
 refine Ow_q rfl rfl rfl (Qt_move rfl) ?_
 refine Ow_caseG rfl rfl rfl ?_ ?_
 ·intro h21
  have H := ift h21 H
  refine Ow_pass rfl rfl rfl rfl rfl rfl rfl ?_
  refine Ow_pass rfl rfl rfl rfl rfl rfl rfl ?_
  refine Ow_pass rfl rfl rfl rfl rfl rfl rfl ?_
  refine Ow_pass rfl rfl rfl rfl rfl rfl rfl ?_
  refine Ow_pass rfl rfl rfl rfl rfl rfl rfl ?_
  refine Ow_q rfl rfl rfl (Qt_pick_t rfl rfl) ?_
  refine Ow_q rfl rfl rfl (Qt_assign rfl) ?_
  refine Ow_nil ?_
  refine Cw_ret ?_
  obtain ey0 := inj1 H
  subst y0
  refine ⟨(by first | exact .inl rfl | exact .inr rfl), [(.bool true)], ⟨(.bool true), _, rfl, rfl, rfl⟩, ?_⟩
  refine Shift.rem .here ?_
  refine Shift.rem .here ?_
  refine Shift.done ?_
  exact ⟨rfl, rfl⟩
 ·intro h21
  have H := iff_ (btf h21) H
  refine Ow_qw rfl rfl rfl rfl rfl rfl (Qt_loadA (m := 3) (cs := (Desk.cells p0 vp0_chans vp0_waiting)) rfl rfl rfl rfl ⟨rfl, Rdc.blk (.tail _ (.head _)) rfl⟩) ?_
  refine Ow_qw rfl rfl rfl rfl rfl rfl (Qt_move rfl) ?_
  refine Ow_qw rfl rfl rfl rfl rfl rfl (Qt_loadA (m := 3) (cs := (Case.cells p2)) rfl rfl rfl rfl ⟨rfl, Rdc.blk (.head _) rfl⟩) ?_
  obtain ⟨x22, hx23, H⟩ := bnd H
  refine Ow_want rfl rfl rfl rfl (OpW_call rfl Try.call40 rfl rfl (c_M_88z p0 vp0_chans vp0_waiting p1 p2 x22 hx23 _ _ hp0_chans hp0_waiting) ?_)
  rintro _ K24 _ hK25 ⟨rfl, rfl⟩
  refine Ow_qw rfl rfl rfl rfl rfl rfl (Qt_cmp rfl rfl rfl) ?_
  refine Ow_q rfl rfl rfl (Qt_pick_f rfl rfl) ?_
  refine Ow_q rfl rfl rfl (Qt_assign rfl) ?_
  refine Ow_nil ?_
  refine Cw_ret ?_
  obtain ey0 := inj1 H
  subst y0
  refine ⟨(by first | exact .inl rfl | exact .inr rfl), [(.bool (dcd (x22 ≥ 0)))], ⟨(.bool (dcd (x22 ≥ 0))), _, rfl, rfl, rfl⟩, ?_⟩
  refine Shift.rem .here ?_
  refine Shift.rem .here ?_
  refine Shift.done ?_
  exact ⟨rfl, rfl⟩

set_option maxHeartbeats 1000000 in
theorem c_M_27z (p0 : Desk) (vp0_chans : SV) (vp0_waiting : SV) (p1 : Int) (p2 : Op) (vp2_cases : SV) (vp2_draws : SV) (y0 : Int) (H : M_27z p0 p1 p2 = some y0) (K : Kp) (G : List Ent) (hp0_chans : Slr TyChan K (sv vp0_chans) p0.chans) (hp0_waiting : Slr TyWaiter K (sv vp0_waiting) p0.waiting) (hp2_cases : Slr TyCase K (sv vp2_cases) p2.cases) (hp2_draws : Slr Ty.i64 K (sv vp2_draws) p2.draws) :
  Fc Try.prog 18 #[(.agg (Desk.cells p0 vp0_chans vp0_waiting).toArray), (.int .i64 p1), (.agg (Op.cells p2 vp2_cases vp2_draws).toArray)] K (G) (fun v K' G' => v = (.int .i64 y0) ∧ G = G') := by
 refine Fc_body Try.func18 rfl Try.ntmps18 Try.results18 rfl ?_
 unfold M_27z at H
 refine Cw_seq ?_
 refine Cw_region ?_
 refine Ow_cons rfl (OpW_box (cs := (Desk.cells p0 vp0_chans vp0_waiting)) rfl rfl rfl (fun b74 => ?_))
 refine Ow_cons rfl (OpW_box (cs := (Op.cells p2 vp2_cases vp2_draws)) rfl rfl rfl (fun b75 => ?_))
 refine Ow_q rfl rfl rfl (Qt_assign rfl) ?_
 refine Ow_nil ?_
 refine Cw_join (fun env' K' G' => [] = env' ∧ G = G' ∧ M_141z = some y0) ?_ ?_
 ·skip
  refine Cw_seq ?_
  refine Cw_region ?_
  refine Ow_q rfl rfl rfl (Qt_loadA (m := 7) (cs := (Op.cells p2 vp2_cases vp2_draws)) rfl rfl rfl rfl ⟨rfl, Rdc.blk (.head _) rfl⟩) ?_
  obtain ⟨x145, hx146, H⟩ := bnd H
  refine Ow_cons rfl (OpW_call rfl Try.call43 rfl rfl (c_M_83z p2 vp2_cases vp2_draws x145 hx146 _ _ hp2_cases hp2_draws) ?_)
  rintro _ K149 _ hK150 ⟨v147, rs148, rfl, rfl, hs151⟩
  refine Ow_q rfl rfl rfl (Q_lenR (T := Ty.i64) (.head _) hs151 rfl rfl rfl) ?_
  refine Ow_q rfl rfl rfl (Qt_move rfl) ?_
  refine Ow_nil ?_
  refine Cw_block ?_
  refine Cw_loopM (fun n214 env' K' G' => ∃ (i213 : Int), [(1, (.int .i64 p1)), (3, (.pointer (some ((⟨b74, 0, none⟩ : Addr).add 0)))), (5, (.pointer (some ((⟨b75, 0, none⟩ : Addr).add 0)))), (10, (sv v147)), (11, (.int .i64 (x145.length : Int))), (12, (.int .i64 i213))] = env' ∧ (.blk b75 41 (Op.cells p2 vp2_cases vp2_draws)) :: (.blk b74 34 (Desk.cells p0 vp0_chans vp0_waiting)) :: (.row (sv v147) 3 1 rs148.flatten) :: G = G' ∧ lp1 (M_89z p1 x145 p2 p0) n214 i213 = some y0) BIG ?_ ?_
  ·skip
   refine Shift.pull (.there (.there .here)) ?_
   refine Shift.pull (.there (.there .here)) ?_
   refine Shift.done ?_
   exact ⟨[(1, (.int .i64 p1)), (3, (.pointer (some ((⟨b74, 0, none⟩ : Addr).add 0)))), (5, (.pointer (some ((⟨b75, 0, none⟩ : Addr).add 0)))), (10, (sv v147)), (11, (.int .i64 (x145.length : Int))), (12, (.int .i64 0))], ⟨rfl, rfl, rfl, rfl, rfl, rfl, trivial⟩, 0, rfl, rfl, H⟩
  rintro n214 _ K215 _ hK216 ⟨i213, rfl, rfl, H⟩
  obtain ⟨m217, k218, rfl, hkk219, H⟩ := lps1 H
  unfold M_89z at H
  refine Cw_seq ?_
  refine Cw_region ?_
  refine Ow_q rfl rfl rfl (Qt_cmp rfl rfl rfl) ?_
  refine Ow_nil ?_
  refine Cw_seq ?_
  refine Cw_cond rfl ?_ ?_
  ·intro h221
   have h221 := dcd_t (h221)
   have H := ift h221 H
   refine Cw_skip ?_
   refine Cw_seq ?_
   refine Cw_block ?_
   refine Cw_seq ?_
   refine Cw_region ?_
   obtain ⟨x249, hx250, H⟩ := bnd H
   have hs251 := (hs151).mono hK216
   obtain ⟨r252, hq253, hr254⟩ := RowR.at hs251 hx250
   obtain rfl := hr254
   refine Ow_q rfl rfl rfl (Q_ixR (T := Ty.i64) (.tail _ (.tail _ (.head _))) hs251 hq253 (getI_ix hx250).1 rfl rfl rfl rfl rfl) ?_
   refine Ow_q rfl rfl rfl (Qt_load1 (v := (.int .i64 x249)) rfl rfl rfl (Rd_row (T := Ty.i64) (.tail _ (.tail _ (.head _))) hs251 hq253 rfl rfl)) ?_
   refine Ow_q rfl rfl rfl (Qt_assign rfl) ?_
   refine Ow_nil ?_
   refine Cw_seq ?_
   obtain ⟨x255, hx256, H⟩ := bnd H
   obtain ⟨x261, hx262, H⟩ := bnd H
   refine Cw_region_any [.blk b75 41 (Op.cells p2 vp2_cases vp2_draws), .blk b74 34 (Desk.cells p0 vp0_chans vp0_waiting), .row (sv v147) 3 1 rs148.flatten] rfl (Inc.cons (.head _) (Inc.cons (.tail _ (.head _)) (Inc.cons (.tail _ (.tail _ (.head _))) Inc.nil))) ?_
   refine Aw_q 0 rfl (by kernel_rfl) (by kernel_rfl) (by kernel_rfl) rfl rfl rfl (Qt_loadA (m := 3) (cs := (Desk.cells p0 vp0_chans vp0_waiting)) rfl rfl rfl rfl ⟨rfl, Rdc.blk (.tail _ (.head _)) rfl⟩) ?_
   refine Aw_q 1 rfl (by kernel_rfl) (by kernel_rfl) (by kernel_rfl) rfl rfl rfl (Qt_move rfl) ?_
   refine Aw_q 2 rfl (by kernel_rfl) (by kernel_rfl) (by kernel_rfl) rfl rfl rfl (Qt_fieldAddr (m := 5) rfl rfl rfl rfl rfl) ?_
   refine Aw_q 3 rfl (by kernel_rfl) (by kernel_rfl) (by kernel_rfl) rfl rfl rfl (Qt_load1 (v := (sv vp2_cases)) rfl rfl rfl (Rdc.blk (.head _) rfl)) ?_
   refine Aw_q 4 rfl (by kernel_rfl) (by kernel_rfl) (by kernel_rfl) rfl rfl rfl (Qt_move rfl) ?_
   have hs267 := ((hp2_cases).mono hK150).mono hK216
   obtain ⟨r268, hr269, hk270⟩ := Slr.at hs267 hx256
   obtain rfl := hr269
   refine Aw_q 5 rfl (by kernel_rfl) (by kernel_rfl) (by kernel_rfl) rfl rfl rfl (Q_ix (T := TyCase) hs267 hx256 rfl rfl rfl rfl rfl) ?_
   refine Aw_q 6 rfl (by kernel_rfl) (by kernel_rfl) (by kernel_rfl) rfl rfl rfl (Qt_loadA (m := 3) (cs := (Case.cells x255)) rfl rfl rfl rfl ⟨rfl, Rdc.k hk270 rfl⟩) ?_
   refine Aw_one 7 (by kernel_rfl) (Ax_mk rfl rfl ?_)
   have hs271 := ((hp0_chans).mono hK150).mono hK216
   have hs272 := ((hp0_waiting).mono hK150).mono hK216
   refine OpW_call rfl Try.call16 rfl rfl (c_M_43z p0 vp0_chans vp0_waiting p1 x255 x261 hx262 _ _ hs271 hs272) ?_
   rintro _ K273 _ hK274 ⟨rfl, rfl⟩
   refine ⟨(Inc.cons (.head _) (Inc.cons (.tail _ (.head _)) (Inc.cons (.tail _ (.tail _ (.head _))) Inc.nil))), ?_⟩
   refine Aw_done (by kernel_rfl) ?_
   refine Cw_cond rfl ?_ ?_
   ·intro h275
    have H := ift h275 H
    refine Cw_seq ?_
    refine Cw_region ?_
    refine Ow_q rfl rfl rfl (Qt_move rfl) ?_
    refine Ow_q rfl rfl rfl (Qt_assign rfl) ?_
    refine Ow_nil ?_
    refine Cw_ret ?_
    obtain ey0 := inj1 H
    subst y0
    refine ⟨(by first | exact .inl rfl | exact .inr rfl), [(.int .i64 x249)], ⟨(.int .i64 x249), _, rfl, rfl, rfl⟩, ?_⟩
    refine Shift.rem .here ?_
    refine Shift.rem .here ?_
    refine Shift.rem .here ?_
    refine Shift.done ?_
    exact ⟨rfl, rfl⟩
   ·intro h275
    have H := iff_ (btf h275) H
    refine Cw_skip ?_
    refine Cw_region ?_
    refine Ow_q rfl rfl rfl (Qt_arith (e := wI (i213 + 1)) rfl rfl rfl rfl) ?_
    refine Ow_q rfl rfl rfl (Qt_move rfl) ?_
    refine Ow_nil ?_
    refine Shift.pull (.there (.there .here)) ?_
    refine Shift.pull (.there (.there .here)) ?_
    refine Shift.pull (.there (.there .here)) ?_
    refine Shift.done ?_
    exact ⟨[(1, (.int .i64 p1)), (3, (.pointer (some ((⟨b74, 0, none⟩ : Addr).add 0)))), (5, (.pointer (some ((⟨b75, 0, none⟩ : Addr).add 0)))), (10, (sv v147)), (11, (.int .i64 (x145.length : Int))), (12, (.int .i64 (wI (i213 + 1))))], ⟨rfl, rfl, rfl, rfl, rfl, rfl, trivial⟩, _, Nat.lt_succ_self _, (wI (i213 + 1)), rfl, rfl, (hkk219 ▸ H)⟩
  ·intro h221
   have h221 := dcd_f (h221)
   have H := iff_ h221 H
   refine Cw_exit ?_
   refine Shift.rem .here ?_
   refine Shift.rem .here ?_
   refine Shift.rem .here ?_
   refine Shift.done ?_
   exact ⟨[], trivial, rfl, rfl, H⟩
 rintro _ K276 _ hK277 ⟨rfl, rfl, H⟩
 unfold M_141z at H
 refine Cw_seq ?_
 refine Cw_region ?_
 refine Ow_q rfl rfl rfl (Qt_assign rfl) ?_
 refine Ow_nil ?_
 refine Cw_ret ?_
 obtain ey0 := inj1 H
 subst y0
 refine ⟨(by first | exact .inl rfl | exact .inr rfl), [(.int .i64 (-1))], ⟨(.int .i64 (-1)), _, rfl, rfl, rfl⟩, ?_⟩
 refine Shift.done ?_
 exact ⟨rfl, rfl⟩

set_option maxHeartbeats 1000000 in
theorem c_M_90z (p0 : Desk) (vp0_chans : SV) (rsp0_chans : List (List Value)) (vp0_waiting : SV) (rsp0_waiting : List (List Value)) (p1 : Int) (y0 : Bool) (H : M_90z p0 p1 = some y0) (K : Kp) (G : List Ent) (hp0_chans : RowR TyChan K rsp0_chans p0.chans) (hp0_waiting : RowR TyWaiter K rsp0_waiting p0.waiting) :
  Fc Try.prog 45 #[(.agg (Desk.cells p0 vp0_chans vp0_waiting).toArray), (.int .i64 p1)] K ((.row (sv vp0_chans) 71 3 rsp0_chans.flatten) :: (.row (sv vp0_waiting) 52 8 rsp0_waiting.flatten) :: G) (fun v K' G' => v = (.bool y0) ∧ K = K' ∧ (.row (sv vp0_chans) 71 3 rsp0_chans.flatten) :: (.row (sv vp0_waiting) 52 8 rsp0_waiting.flatten) :: G = G') := by
 refine Fc_body Try.func45 rfl Try.ntmps45 Try.results45 rfl ?_
 unfold M_90z at H
 refine Cw_seq ?_
 refine Cw_region ?_
 refine Ow_cons rfl (OpW_box (cs := (Desk.cells p0 vp0_chans vp0_waiting)) rfl rfl rfl (fun b3 => ?_))
 refine Ow_q rfl rfl rfl (Qt_assign rfl) ?_
 refine Ow_nil ?_
 refine Cw_seq ?_
 refine Cw_region ?_
 refine Ow_q rfl rfl rfl (Qt_move rfl) ?_
 refine Ow_q rfl rfl rfl (Qt_cmp rfl rfl rfl) ?_
 refine Ow_q rfl rfl rfl (Qt_move rfl) ?_
 refine Ow_caseG rfl rfl rfl ?_ ?_
 ·intro h5
  have h5 := dcd_t (h5)
  have H := ift h5 H
  refine Ow_qw rfl rfl rfl rfl rfl rfl (Qt_move rfl) ?_
  refine Ow_qw rfl rfl rfl rfl rfl rfl (Qt_fieldAddr (m := 0) rfl rfl rfl rfl rfl) ?_
  refine Ow_qw rfl rfl rfl rfl rfl rfl (Qt_load1 (v := (sv vp0_chans)) rfl rfl rfl (Rdc.blk (.head _) rfl)) ?_
  refine Ow_qw rfl rfl rfl rfl rfl rfl (Q_lenR (T := TyChan) (.tail _ (.head _)) hp0_chans rfl rfl rfl) ?_
  refine Ow_qw rfl rfl rfl rfl rfl rfl (Qt_cmp rfl rfl rfl) ?_
  refine Ow_q rfl rfl rfl (Qt_pick_t rfl rfl) ?_
  refine Ow_q rfl rfl rfl (Qt_assign rfl) ?_
  refine Ow_nil ?_
  refine Cw_ret ?_
  obtain ey0 := inj1 H
  subst y0
  refine ⟨(by first | exact .inl rfl | exact .inr rfl), [(.bool (dcd (p1 < (p0.chans.length : Int))))], ⟨(.bool (dcd (p1 < (p0.chans.length : Int)))), _, rfl, rfl, rfl⟩, ?_⟩
  refine Shift.pull (.there (.there .here)) ?_
  refine Shift.pull (.there (.there .here)) ?_
  refine Shift.rem (.there (.there .here)) ?_
  refine Shift.done ?_
  exact ⟨rfl, rfl, rfl⟩
 ·intro h5
  have h5 := dcd_f (h5)
  have H := iff_ h5 H
  refine Ow_pass rfl rfl rfl rfl rfl rfl rfl ?_
  refine Ow_pass rfl rfl rfl rfl rfl rfl rfl ?_
  refine Ow_pass rfl rfl rfl rfl rfl rfl rfl ?_
  refine Ow_pass rfl rfl rfl rfl rfl rfl rfl ?_
  refine Ow_pass rfl rfl rfl rfl rfl rfl rfl ?_
  refine Ow_q rfl rfl rfl (Qt_pick_f rfl rfl) ?_
  refine Ow_q rfl rfl rfl (Qt_assign rfl) ?_
  refine Ow_nil ?_
  refine Cw_ret ?_
  obtain ey0 := inj1 H
  subst y0
  refine ⟨(by first | exact .inl rfl | exact .inr rfl), [(.bool false)], ⟨(.bool false), _, rfl, rfl, rfl⟩, ?_⟩
  refine Shift.pull (.there (.there .here)) ?_
  refine Shift.pull (.there (.there .here)) ?_
  refine Shift.rem (.there (.there .here)) ?_
  refine Shift.done ?_
  exact ⟨rfl, rfl, rfl⟩

set_option maxHeartbeats 1000000 in
theorem c_M_44z (p0 : Desk) (vp0_chans : SV) (rsp0_chans : List (List Value)) (vp0_waiting : SV) (rsp0_waiting : List (List Value)) (p1 : Int) (p2 : Case) (y0 : Int) (H : M_44z p0 p1 p2 = some y0) (K : Kp) (G : List Ent) (hp0_chans : RowR TyChan K rsp0_chans p0.chans) (hp0_waiting : RowR TyWaiter K rsp0_waiting p0.waiting) :
  Fc Try.prog 40 #[(.agg (Desk.cells p0 vp0_chans vp0_waiting).toArray), (.int .i64 p1), (.agg (Case.cells p2).toArray)] K ((.row (sv vp0_chans) 71 3 rsp0_chans.flatten) :: (.row (sv vp0_waiting) 52 8 rsp0_waiting.flatten) :: G) (fun v K' G' => v = (.int .i64 y0) ∧ (.row (sv vp0_chans) 71 3 rsp0_chans.flatten) :: (.row (sv vp0_waiting) 52 8 rsp0_waiting.flatten) :: G = G') := by
 refine Fc_body Try.func40 rfl Try.ntmps40 Try.results40 rfl ?_
 unfold M_44z at H
 refine Cw_seq ?_
 refine Cw_region ?_
 refine Ow_cons rfl (OpW_box (cs := (Desk.cells p0 vp0_chans vp0_waiting)) rfl rfl rfl (fun b11 => ?_))
 refine Ow_cons rfl (OpW_box (cs := [(.int .i64 p1)]) rfl rfl rfl (fun b12 => ?_))
 refine Ow_cons rfl (OpW_box (cs := (Case.cells p2)) rfl rfl rfl (fun b13 => ?_))
 refine Ow_q rfl rfl rfl (Qt_assign rfl) ?_
 refine Ow_nil ?_
 refine Cw_seq ?_
 refine Cw_seq ?_
 refine Cw_region ?_
 refine Ow_q rfl rfl rfl (Qt_loadA (m := 3) (cs := (Desk.cells p0 vp0_chans vp0_waiting)) rfl rfl rfl rfl ⟨rfl, Rdc.blk (.tail _ (.tail _ (.head _))) rfl⟩) ?_
 refine Ow_q rfl rfl rfl (Qt_fieldAddr (m := 1) rfl rfl rfl rfl rfl) ?_
 refine Ow_q rfl rfl rfl (Qt_load1 (v := (.int .i64 p2.channel)) rfl rfl rfl (Rdc.blk (.head _) rfl)) ?_
 obtain ⟨x17, hx18, H⟩ := bnd H
 refine Ow.shift (Shift.pull (.there (.there (.there (.there .here)))) (Shift.done ?_))
 refine Ow.shift (Shift.pull (.there (.there (.there (.there .here)))) (Shift.done ?_))
 refine Ow_cons rfl (OpW_call rfl Try.call45 rfl rfl (c_M_90z p0 vp0_chans rsp0_chans vp0_waiting rsp0_waiting p2.channel x17 hx18 _ _ hp0_chans hp0_waiting) ?_)
 rintro _ _ _ - ⟨rfl, rfl, rfl⟩
 refine Ow_q rfl rfl rfl (Qt_not rfl) ?_
 refine Ow_nil ?_
 refine Cw_cond rfl ?_ ?_
 ·intro h19
  have h19 := nt_t (h19)
  have H := iff_ (btf h19) H
  refine Cw_seq ?_
  refine Cw_region ?_
  refine Ow_q rfl rfl rfl (Qt_assign rfl) ?_
  refine Ow_nil ?_
  refine Cw_ret ?_
  obtain ey0 := inj1 H
  subst y0
  refine ⟨(by first | exact .inl rfl | exact .inr rfl), [(.int .i64 (-1))], ⟨(.int .i64 (-1)), _, rfl, rfl, rfl⟩, ?_⟩
  refine Shift.pull (.there .here) ?_
  refine Shift.pull (.there .here) ?_
  refine Shift.rem (.there (.there .here)) ?_
  refine Shift.rem (.there (.there .here)) ?_
  refine Shift.rem (.there (.there .here)) ?_
  refine Shift.done ?_
  exact ⟨rfl, rfl⟩
 ·intro h19
  have h19 := nt_f (h19)
  have H := ift h19 H
  refine Cw_skip ?_
  refine Cw_seq ?_
  refine Cw_region ?_
  refine Ow_q rfl rfl rfl (Qt_fieldAddr (m := 1) rfl rfl rfl rfl rfl) ?_
  refine Ow_q rfl rfl rfl (Qt_load1 (v := (sv vp0_waiting)) rfl rfl rfl (Rdc.blk (.tail _ (.tail _ (.tail _ (.tail _ (.head _))))) rfl)) ?_
  refine Ow_q rfl rfl rfl (Qt_makeFunc rfl rfl) ?_
  obtain ⟨x20, hx21, H⟩ := bnd H
  refine Ow.shift (Shift.pull (.there (.there (.there .here))) (Shift.done ?_))
  refine Ow.shift (Shift.pull (.there (.there (.there .here))) (Shift.done ?_))
  refine Ow.shift (Shift.pull (.there (.there (.there .here))) (Shift.done ?_))
  refine Ow_cons rfl (OpW_call rfl Try.call68 rfl rfl (c_M_92z p0.waiting vp0_waiting rsp0_waiting b13 p2 b12 p1 x20 hx21 _ _ hp0_waiting) ?_)
  rintro _ K22 _ hK23 ⟨rfl, rfl⟩
  refine Ow_q rfl rfl rfl (Qt_assign rfl) ?_
  refine Ow_nil ?_
  refine Cw_ret ?_
  obtain ey0 := inj1 H
  subst y0
  refine ⟨(by first | exact .inl rfl | exact .inr rfl), [(.int .i64 x20)], ⟨(.int .i64 x20), _, rfl, rfl, rfl⟩, ?_⟩
  refine Shift.pull (.there (.there .here)) ?_
  refine Shift.pull (.there (.there (.there .here))) ?_
  refine Shift.rem (.there (.there .here)) ?_
  refine Shift.rem (.there (.there .here)) ?_
  refine Shift.rem (.there (.there .here)) ?_
  refine Shift.done ?_
  exact ⟨rfl, rfl⟩

set_option maxHeartbeats 1000000 in
theorem c_M_46z (bp0 : Nat) (p0 : Desk_work) (vp0_desk_chans : SV) (rsp0_desk_chans : List (List Value)) (vp0_desk_waiting : SV) (rsp0_desk_waiting : List (List Value)) (vp0_done : SV) (rsp0_done : List (List Value)) (p1 : Int) (p2 : Int) (y0 : Int) (z0_waiting : List Waiter) (z0_done : List Done) (H : M_46z p0 p1 p2 = some (y0, z0_waiting, z0_done)) (K : Kp) (G : List Ent) (hp0_desk_chans : RowR TyChan K rsp0_desk_chans p0.desk.chans) (hp0_desk_waiting : RowR TyWaiter K rsp0_desk_waiting p0.desk.waiting) (hp0_done : RowR TyDone K rsp0_done p0.done) :
  Fc Try.prog 78 #[(.pointer (some ((⟨bp0, 0, none⟩ : Addr).add 0))), (.int .i64 p1), (.int .i64 p2)] K ((.blk bp0 92 (Desk_work.cells p0 vp0_desk_chans vp0_desk_waiting vp0_done)) :: (.row (sv vp0_desk_chans) 71 3 rsp0_desk_chans.flatten) :: (.row (sv vp0_desk_waiting) 52 8 rsp0_desk_waiting.flatten) :: (.row (sv vp0_done) 75 6 rsp0_done.flatten) :: G) (fun v K' G' => ∃ (wz0_waiting : SV) (rswz0_waiting : List (List Value)) (wz0_done : SV) (rswz0_done : List (List Value)), v = (.int .u64 y0) ∧ (.blk bp0 92 (Desk_work.cells (Desk_work.mk (Desk.mk p0.desk.chans z0_waiting p0.desk.tick) z0_done) vp0_desk_chans wz0_waiting wz0_done)) :: (.row (sv wz0_waiting) 52 8 rswz0_waiting.flatten) :: (.row (sv wz0_done) 75 6 rswz0_done.flatten) :: (.row (sv vp0_desk_chans) 71 3 rsp0_desk_chans.flatten) :: G = G' ∧ RowR TyWaiter K' rswz0_waiting z0_waiting ∧ RowR TyDone K' rswz0_done z0_done) := by
 refine Fc_body Try.func78 rfl Try.ntmps78 Try.results78 rfl ?_
 unfold M_46z at H
 refine Cw_seq ?_
 refine Cw_region ?_
 refine Ow_q rfl rfl rfl (Qt_assign rfl) ?_
 refine Ow_nil ?_
 refine Cw_seq ?_
 refine Cw_region ?_
 refine Ow_q rfl rfl rfl (Qt_move rfl) ?_
 refine Ow_q rfl rfl rfl (Qt_nilCheck rfl) ?_
 refine Ow_q rfl rfl rfl (Qt_fieldAddr (m := 0) rfl rfl rfl rfl rfl) ?_
 refine Ow_q rfl rfl rfl (Qt_fieldAddr (m := 1) rfl rfl rfl rfl rfl) ?_
 refine Ow_q rfl rfl rfl (Qt_load1 (v := (sv vp0_desk_waiting)) rfl rfl rfl (Rdc.blk (.head _) rfl)) ?_
 refine Ow_q rfl rfl rfl (Qt_move rfl) ?_
 obtain ⟨x43, hx44, H⟩ := bnd H
 obtain ⟨r45, hq46, hr47⟩ := RowR.at hp0_desk_waiting hx44
 obtain ⟨v48, v49, rfl, hs50, hs51⟩ := hr47
 refine Ow_q rfl rfl rfl (Q_ixR (T := TyWaiter) (.tail _ (.tail _ (.head _))) hp0_desk_waiting hq46 (getI_ix hx44).1 rfl rfl rfl rfl rfl) ?_
 refine Ow_q rfl rfl rfl (Qt_fieldAddr (m := 1) rfl rfl rfl rfl rfl) ?_
 refine Ow_q rfl rfl rfl (Qt_loadA (m := 7) (cs := (Op.cells x43.op v48 v49)) rfl rfl rfl rfl ⟨rfl, Rd_row (T := TyWaiter) (.tail _ (.tail _ (.head _))) hp0_desk_waiting hq46 rfl rfl⟩) ?_
 refine Ow_cons rfl (OpW_alloc (cs := (Op.cells (Op.mk 0 0 0 0 0 [] []) nilS nilS)) rfl rfl rfl rfl (fun b52 => ?_))
 refine Ow_cons rfl (OpW_store (vs := (Op.cells x43.op v48 v49)) (all' := (Op.cells x43.op v48 v49)) rfl rfl rfl rfl rfl .here rfl rfl rfl ?_)
 refine Ow_nil ?_
 refine Cw_seq ?_
 refine Cw_region ?_
 refine Ow_q rfl rfl rfl (Qt_loadA (m := 7) (cs := (Op.cells x43.op v48 v49)) rfl rfl rfl rfl ⟨rfl, Rdc.blk (.head _) rfl⟩) ?_
 refine Ow_q rfl rfl rfl (Qt_move rfl) ?_
 obtain ⟨x53, x54, hx55, H⟩ := bnd2 H
 refine Ow_cons rfl (OpW_call rfl Try.call70 rfl rfl (c_M_10z x43.op v48 v49 p2 true x53 x54 hx55 _ _ hs50 hs51) ?_)
 rintro _ K56 _ hK57 ⟨rfl, rfl⟩
 refine Ow_q rfl rfl rfl (Qt_move rfl) ?_
 refine Ow_q rfl rfl rfl (Qt_extract rfl rfl) ?_
 refine Ow_q rfl rfl rfl (Qt_extract rfl rfl) ?_
 refine Ow_q rfl rfl rfl (Qt_assign rfl) ?_
 refine Ow_q rfl rfl rfl (Qt_assign rfl) ?_
 refine Ow_nil ?_
 refine Cw_seq ?_
 refine Cw_region ?_
 refine Ow_q rfl rfl rfl (Qt_loadA (m := 7) (cs := (Op.cells x43.op v48 v49)) rfl rfl rfl rfl ⟨rfl, Rdc.blk (.head _) rfl⟩) ?_
 obtain ⟨x58, hx59, H⟩ := bnd H
 have hs60 := (hs50).mono hK57
 have hs61 := (hs51).mono hK57
 refine Ow_cons rfl (OpW_call rfl Try.call49 rfl rfl (c_M_23z x43.op v48 v49 x58 hx59 _ _ hs60 hs61) ?_)
 rintro _ K63 _ hK64 ⟨v62, rfl, rfl, hs65⟩
 refine Ow_q rfl rfl rfl (Qt_move rfl) ?_
 obtain ⟨x66, hx67, H⟩ := bnd H
 obtain ⟨r68, hr69, hk70⟩ := Slr.at hs65 hx67
 obtain rfl := hr69
 refine Ow_q rfl rfl rfl (Q_ix (T := TyCase) hs65 hx67 rfl rfl rfl rfl rfl) ?_
 refine Ow_q rfl rfl rfl (Qt_fieldAddr (m := 2) rfl rfl rfl rfl rfl) ?_
 refine Ow_q rfl rfl rfl (Qt_load1 (v := (.int .u64 x66.value)) rfl rfl rfl (Rdc.k hk70 rfl)) ?_
 refine Ow_q rfl rfl rfl (Qt_assign rfl) ?_
 refine Ow_nil ?_
 refine Cw_seq ?_
 refine Cw_region ?_
 refine Ow_q rfl rfl rfl (Qt_move rfl) ?_
 refine Ow_q rfl rfl rfl (Qt_move rfl) ?_
 refine Ow_q rfl rfl rfl (Qt_move rfl) ?_
 refine Ow_q rfl rfl rfl (Qt_build (cs := (Result.cells (Result.mk 1 0 0 false 0))) rfl rfl rfl rfl rfl rfl) ?_
 obtain ⟨x71, x72, hx73, H⟩ := bnd2 H
 refine Ow.shift (Shift.pull (.there (.there (.there (.there .here)))) (Shift.done ?_))
 refine Ow.shift (Shift.pull (.there (.there (.there (.there .here)))) (Shift.done ?_))
 refine Ow.shift (Shift.pull (.there (.there (.there (.there .here)))) (Shift.done ?_))
 refine Ow.shift (Shift.pull (.there (.there (.there (.there .here)))) (Shift.done ?_))
 have hs74 := ((hp0_desk_chans).mono hK57).mono hK64
 have hs75 := ((hp0_desk_waiting).mono hK57).mono hK64
 have hs76 := ((hp0_done).mono hK57).mono hK64
 refine Ow_cons rfl (OpW_call rfl Try.call76 rfl rfl (c_M_25z bp0 p0 vp0_desk_chans rsp0_desk_chans vp0_desk_waiting rsp0_desk_waiting vp0_done rsp0_done p1 x53 (Result.mk 1 0 0 false 0) x71 x72 hx73 _ _ hs74 hs75 hs76) ?_)
 rintro _ K81 _ hK82 ⟨v77, rs78, v79, rs80, rfl, rfl, hs83, hs84⟩
 refine Ow_nil ?_
 refine Cw_seq ?_
 refine Cw_region ?_
 refine Ow_q rfl rfl rfl (Qt_move rfl) ?_
 refine Ow_q rfl rfl rfl (Qt_assign rfl) ?_
 refine Ow_nil ?_
 refine Cw_ret ?_
 obtain ⟨ey0, ez0_waiting, ez0_done⟩ := inj3 H
 subst y0 z0_waiting z0_done
 refine ⟨(by first | exact .inl rfl | exact .inr rfl), [(.int .u64 x66.value)], ⟨(.int .u64 x66.value), _, rfl, rfl, rfl⟩, ?_⟩
 refine Shift.pull (.there (.there (.there .here))) ?_
 refine Shift.pull (.there (.there (.there .here))) ?_
 refine Shift.pull (.there (.there (.there .here))) ?_
 refine Shift.pull (.there (.there (.there .here))) ?_
 refine Shift.rem (.there (.there (.there (.there .here)))) ?_
 refine Shift.done ?_
 exact ⟨v77, rs78, v79, rs80, rfl, rfl, hs83, hs84⟩

set_option maxHeartbeats 1000000 in
theorem c_M_13z (bp0 : Nat) (p0 : Desk_work) (vp0_desk_chans : SV) (rsp0_desk_chans : List (List Value)) (vp0_desk_waiting : SV) (rsp0_desk_waiting : List (List Value)) (vp0_done : SV) (rsp0_done : List (List Value)) (p1 : Int) (p2 : Case) (y0 : Result) (z0_chans : List Chan) (z0_waiting : List Waiter) (z0_done : List Done) (H : M_13z p0 p1 p2 = some (y0, z0_chans, z0_waiting, z0_done)) (K : Kp) (G : List Ent) (hp0_desk_chans : RowR TyChan K rsp0_desk_chans p0.desk.chans) (hp0_desk_waiting : RowR TyWaiter K rsp0_desk_waiting p0.desk.waiting) (hp0_done : RowR TyDone K rsp0_done p0.done) :
  Fc Try.prog 48 #[(.pointer (some ((⟨bp0, 0, none⟩ : Addr).add 0))), (.int .i64 p1), (.agg (Case.cells p2).toArray)] K ((.blk bp0 92 (Desk_work.cells p0 vp0_desk_chans vp0_desk_waiting vp0_done)) :: (.row (sv vp0_desk_chans) 71 3 rsp0_desk_chans.flatten) :: (.row (sv vp0_desk_waiting) 52 8 rsp0_desk_waiting.flatten) :: (.row (sv vp0_done) 75 6 rsp0_done.flatten) :: G) (fun v K' G' => ∃ (wz0_chans : SV) (rswz0_chans : List (List Value)) (wz0_waiting : SV) (rswz0_waiting : List (List Value)) (wz0_done : SV) (rswz0_done : List (List Value)), v = (.agg (Result.cells y0).toArray) ∧ (.blk bp0 92 (Desk_work.cells (Desk_work.mk (Desk.mk z0_chans z0_waiting p0.desk.tick) z0_done) wz0_chans wz0_waiting wz0_done)) :: (.row (sv wz0_chans) 71 3 rswz0_chans.flatten) :: (.row (sv wz0_waiting) 52 8 rswz0_waiting.flatten) :: (.row (sv wz0_done) 75 6 rswz0_done.flatten) :: G = G' ∧ RowR TyChan K' rswz0_chans z0_chans ∧ RowR TyWaiter K' rswz0_waiting z0_waiting ∧ RowR TyDone K' rswz0_done z0_done) := by
 refine Fc_body Try.func48 rfl Try.ntmps48 Try.results48 rfl ?_
 unfold M_13z at H
 refine Cw_seq ?_
 refine Cw_region ?_
 refine Ow_cons rfl (OpW_box (cs := (Case.cells p2)) rfl rfl rfl (fun b269 => ?_))
 refine Ow_cons rfl (OpW_alloc (cs := (Result.cells (Result.mk 0 0 0 false 0))) rfl rfl rfl rfl (fun b270 => ?_))
 refine Ow_nil ?_
 refine Cw_seq ?_
 obtain ⟨x271, hx272, H⟩ := bnd H
 refine Cw_region_any [.blk b270 73 (Result.cells (Result.mk 0 0 0 false 0)), .blk b269 45 (Case.cells p2), .blk bp0 92 (Desk_work.cells p0 vp0_desk_chans vp0_desk_waiting vp0_done), .row (sv vp0_desk_chans) 71 3 rsp0_desk_chans.flatten, .row (sv vp0_desk_waiting) 52 8 rsp0_desk_waiting.flatten, .row (sv vp0_done) 75 6 rsp0_done.flatten] rfl (Inc.cons (.head _) (Inc.cons (.tail _ (.head _)) (Inc.cons (.tail _ (.tail _ (.head _))) (Inc.cons (.tail _ (.tail _ (.tail _ (.head _)))) (Inc.cons (.tail _ (.tail _ (.tail _ (.tail _ (.head _))))) (Inc.cons (.tail _ (.tail _ (.tail _ (.tail _ (.tail _ (.head _)))))) Inc.nil)))))) ?_
 refine Aw_q 0 rfl (by kernel_rfl) (by kernel_rfl) (by kernel_rfl) rfl rfl rfl (Qt_move rfl) ?_
 refine Aw_q 1 rfl (by kernel_rfl) (by kernel_rfl) (by kernel_rfl) rfl rfl rfl (Qt_nilCheck rfl) ?_
 refine Aw_q 2 rfl (by kernel_rfl) (by kernel_rfl) (by kernel_rfl) rfl rfl rfl (Qt_fieldAddr (m := 0) rfl rfl rfl rfl rfl) ?_
 refine Aw_q 3 rfl (by kernel_rfl) (by kernel_rfl) (by kernel_rfl) rfl rfl rfl (Qt_fieldAddr (m := 0) rfl rfl rfl rfl rfl) ?_
 refine Aw_q 4 rfl (by kernel_rfl) (by kernel_rfl) (by kernel_rfl) rfl rfl rfl (Qt_load1 (v := (sv vp0_desk_chans)) rfl rfl rfl (Rdc.blk (.tail _ (.tail _ (.head _))) rfl)) ?_
 refine Aw_q 5 rfl (by kernel_rfl) (by kernel_rfl) (by kernel_rfl) rfl rfl rfl (Qt_fieldAddr (m := 1) rfl rfl rfl rfl rfl) ?_
 refine Aw_q 6 rfl (by kernel_rfl) (by kernel_rfl) (by kernel_rfl) rfl rfl rfl (Qt_load1 (v := (.int .i64 p2.channel)) rfl rfl rfl (Rdc.blk (.tail _ (.head _)) rfl)) ?_
 obtain ⟨r278, hq279, hr280⟩ := RowR.at hp0_desk_chans hx272
 obtain ⟨v281, rfl, hs282⟩ := hr280
 refine Aw_q 7 rfl (by kernel_rfl) (by kernel_rfl) (by kernel_rfl) rfl rfl rfl (Q_ixR (T := TyChan) (.tail _ (.tail _ (.tail _ (.head _)))) hp0_desk_chans hq279 (getI_ix hx272).1 rfl rfl rfl rfl rfl) ?_
 refine Aw_q 8 rfl (by kernel_rfl) (by kernel_rfl) (by kernel_rfl) rfl rfl rfl (Qt_assign rfl) ?_
 refine Aw_done (by kernel_rfl) ?_
 refine Cw_seq ?_
 obtain ⟨x283, hx284, H⟩ := bnd H
 refine Cw_region_any [.blk b270 73 (Result.cells (Result.mk 0 0 0 false 0)), .blk b269 45 (Case.cells p2), .blk bp0 92 (Desk_work.cells p0 vp0_desk_chans vp0_desk_waiting vp0_done), .row (sv vp0_desk_chans) 71 3 rsp0_desk_chans.flatten, .row (sv vp0_desk_waiting) 52 8 rsp0_desk_waiting.flatten, .row (sv vp0_done) 75 6 rsp0_done.flatten] rfl (Inc.cons (.head _) (Inc.cons (.tail _ (.head _)) (Inc.cons (.tail _ (.tail _ (.head _))) (Inc.cons (.tail _ (.tail _ (.tail _ (.head _)))) (Inc.cons (.tail _ (.tail _ (.tail _ (.tail _ (.head _))))) (Inc.cons (.tail _ (.tail _ (.tail _ (.tail _ (.tail _ (.head _)))))) Inc.nil)))))) ?_
 refine Aw_q 0 rfl (by kernel_rfl) (by kernel_rfl) (by kernel_rfl) rfl rfl rfl (Qt_move rfl) ?_
 refine Aw_q 1 rfl (by kernel_rfl) (by kernel_rfl) (by kernel_rfl) rfl rfl rfl (Qt_nilCheck rfl) ?_
 refine Aw_q 2 rfl (by kernel_rfl) (by kernel_rfl) (by kernel_rfl) rfl rfl rfl (Qt_fieldAddr (m := 0) rfl rfl rfl rfl rfl) ?_
 refine Aw_q 3 rfl (by kernel_rfl) (by kernel_rfl) (by kernel_rfl) rfl rfl rfl (Qt_loadA (m := 3) (cs := (Desk.cells p0.desk vp0_desk_chans vp0_desk_waiting)) rfl rfl rfl rfl ⟨rfl, Rdc.blk (.tail _ (.tail _ (.head _))) rfl⟩) ?_
 refine Aw_q 4 rfl (by kernel_rfl) (by kernel_rfl) (by kernel_rfl) rfl rfl rfl (Qt_move rfl) ?_
 refine Aw_q 5 rfl (by kernel_rfl) (by kernel_rfl) (by kernel_rfl) rfl rfl rfl (Qt_loadA (m := 3) (cs := (Case.cells p2)) rfl rfl rfl rfl ⟨rfl, Rdc.blk (.tail _ (.head _)) rfl⟩) ?_
 refine Aw_one 6 (by kernel_rfl) (Ax_mk rfl rfl ?_)
 refine OpW.shift (Shift.pull (.there (.there (.there (.there .here)))) (Shift.done ?_))
 refine OpW.shift (Shift.pull (.there (.there (.there (.there .here)))) (Shift.done ?_))
 refine OpW_call rfl Try.call40 rfl rfl (c_M_44z p0.desk vp0_desk_chans rsp0_desk_chans vp0_desk_waiting rsp0_desk_waiting p1 p2 x283 hx284 _ _ hp0_desk_chans hp0_desk_waiting) ?_
 rintro _ K287 _ hK288 ⟨rfl, rfl⟩
 refine ⟨(Inc.cons (.tail _ (.tail _ (.head _))) (Inc.cons (.tail _ (.tail _ (.tail _ (.head _)))) (Inc.cons (.tail _ (.tail _ (.tail _ (.tail _ (.head _))))) (Inc.cons (.head _) (Inc.cons (.tail _ (.head _)) (Inc.cons (.tail _ (.tail _ (.tail _ (.tail _ (.tail _ (.head _)))))) Inc.nil)))))), ?_⟩
 refine Aw_q 7 rfl (by kernel_rfl) (by kernel_rfl) (by kernel_rfl) rfl rfl rfl (Qt_assign rfl) ?_
 refine Aw_done (by kernel_rfl) ?_
 refine Cw_seq ?_
 refine Cw_block ?_
 refine Cw_join (fun env' K' G' => ∃ (t539 : Bool), [(0, (.pointer (some ((⟨bp0, 0, none⟩ : Addr).add 0)))), (5, (.pointer (some ((⟨b269, 0, none⟩ : Addr).add 0)))), (6, (.pointer (some ((⟨b270, 0, none⟩ : Addr).add 0)))), (7, (.pointer (some ((elA (sv vp0_desk_chans) p2.channel.toNat 3).add 0)))), (8, (.int .i64 x283)), (27, (.bool t539))] = env' ∧ K287 = K' ∧ (.blk bp0 92 (Desk_work.cells p0 vp0_desk_chans vp0_desk_waiting vp0_done)) :: (.blk b270 73 (Result.cells (Result.mk 0 0 0 false 0))) :: (.blk b269 45 (Case.cells p2)) :: (.row (sv vp0_desk_chans) 71 3 rsp0_desk_chans.flatten) :: (.row (sv vp0_desk_waiting) 52 8 rsp0_desk_waiting.flatten) :: (.row (sv vp0_done) 75 6 rsp0_done.flatten) :: G = G' ∧ M_1z x271 p2 x283 p0 t539 = some (y0, z0_chans, z0_waiting, z0_done)) ?_ ?_
 ·skip
  refine Cw_region ?_
  refine Ow_q rfl rfl rfl (Qt_fieldAddr (m := 0) rfl rfl rfl rfl rfl) ?_
  refine Ow_q rfl rfl rfl (Qt_load1 (v := (.bool p2.send)) rfl rfl rfl (Rdc.blk (.tail _ (.tail _ (.tail _ (.head _)))) rfl)) ?_
  refine Ow_q rfl rfl rfl (Qt_move rfl) ?_
  refine Ow_caseG rfl rfl rfl ?_ ?_
  ·intro h540
   have H := ift h540 H
   refine Ow_qw rfl rfl rfl rfl rfl rfl (Qt_move rfl) ?_
   refine Ow_qw rfl rfl rfl rfl rfl rfl (Qt_nilCheck rfl) ?_
   refine Ow_qw rfl rfl rfl rfl rfl rfl (Qt_fieldAddr (m := 2) rfl rfl rfl rfl rfl) ?_
   have hs541 := (hp0_desk_chans).mono hK288
   refine Ow_qw rfl rfl rfl rfl rfl rfl (Qt_load1 (v := (.bool x271.closed)) rfl rfl rfl (Rd_row (T := TyChan) (.head _) hs541 hq279 rfl rfl)) ?_
   refine Ow_q rfl rfl rfl (Qt_pick_t rfl rfl) ?_
   refine Ow_q rfl rfl rfl (Qt_assign rfl) ?_
   refine Ow_nil ?_
   refine Shift.pull (.there (.there (.there (.there (.there .here))))) ?_
   refine Shift.pull (.there (.there .here)) ?_
   refine Shift.pull (.there (.there .here)) ?_
   refine Shift.pull (.there (.there (.there (.there .here)))) ?_
   refine Shift.pull (.there (.there (.there (.there .here)))) ?_
   refine Shift.pull (.there (.there (.there (.there (.there .here))))) ?_
   refine Shift.done ?_
   exact ⟨[(0, (.pointer (some ((⟨bp0, 0, none⟩ : Addr).add 0)))), (5, (.pointer (some ((⟨b269, 0, none⟩ : Addr).add 0)))), (6, (.pointer (some ((⟨b270, 0, none⟩ : Addr).add 0)))), (7, (.pointer (some ((elA (sv vp0_desk_chans) p2.channel.toNat 3).add 0)))), (8, (.int .i64 x283)), (27, (.bool x271.closed))], ⟨rfl, rfl, rfl, rfl, rfl, rfl, trivial⟩, x271.closed, rfl, rfl, rfl, H⟩
  ·intro h540
   have H := iff_ (btf h540) H
   refine Ow_pass rfl rfl rfl rfl rfl rfl rfl ?_
   refine Ow_pass rfl rfl rfl rfl rfl rfl rfl ?_
   refine Ow_pass rfl rfl rfl rfl rfl rfl rfl ?_
   refine Ow_pass rfl rfl rfl rfl rfl rfl rfl ?_
   refine Ow_q rfl rfl rfl (Qt_pick_f rfl rfl) ?_
   refine Ow_q rfl rfl rfl (Qt_assign rfl) ?_
   refine Ow_nil ?_
   refine Shift.pull (.there (.there (.there (.there (.there .here))))) ?_
   refine Shift.pull (.there (.there .here)) ?_
   refine Shift.pull (.there (.there .here)) ?_
   refine Shift.pull (.there (.there (.there (.there .here)))) ?_
   refine Shift.pull (.there (.there (.there (.there .here)))) ?_
   refine Shift.pull (.there (.there (.there (.there (.there .here))))) ?_
   refine Shift.done ?_
   exact ⟨[(0, (.pointer (some ((⟨bp0, 0, none⟩ : Addr).add 0)))), (5, (.pointer (some ((⟨b269, 0, none⟩ : Addr).add 0)))), (6, (.pointer (some ((⟨b270, 0, none⟩ : Addr).add 0)))), (7, (.pointer (some ((elA (sv vp0_desk_chans) p2.channel.toNat 3).add 0)))), (8, (.int .i64 x283)), (27, (.bool false))], ⟨rfl, rfl, rfl, rfl, rfl, rfl, trivial⟩, false, rfl, rfl, rfl, H⟩
 rintro _ _ _ - ⟨t539, rfl, rfl, rfl, H⟩
 unfold M_1z at H
 refine Cw_cond rfl ?_ ?_
 ·intro h542
  have H := ift h542 H
  refine Cw_seq ?_
  refine Cw_region ?_
  refine Ow_q rfl rfl rfl (Qt_build (cs := (Result.cells (Result.mk 5 0 0 false 0))) rfl rfl rfl rfl rfl rfl) ?_
  refine Ow_cons rfl (OpW_store (vs := (Result.cells (Result.mk 5 0 0 false 0))) (all' := (Result.cells (Result.mk 5 0 0 false 0))) rfl rfl rfl rfl rfl (.there .here) rfl rfl rfl ?_)
  refine Ow_nil ?_
  refine Cw_ret ?_
  obtain ⟨ey0, ez0_chans, ez0_waiting, ez0_done⟩ := inj4 H
  subst y0 z0_chans z0_waiting z0_done
  refine ⟨(by first | exact .inl rfl | exact .inr rfl), [(.agg (Result.cells (Result.mk 5 0 0 false 0)).toArray)], ⟨(.agg (Result.cells (Result.mk 5 0 0 false 0)).toArray), _, rfl, ⟨_, 5, (Result.cells (Result.mk 5 0 0 false 0)), rfl, rfl, rfl, rfl, ⟨rfl, Rdc.blk (.tail _ (.head _)) rfl⟩, rfl⟩, rfl⟩, ?_⟩
  refine Shift.pull (.there (.there (.there (.there (.there .here))))) ?_
  refine Shift.pull (.there (.there (.there (.there (.there .here))))) ?_
  refine Shift.pull (.there (.there (.there (.there (.there .here))))) ?_
  refine Shift.pull (.there (.there (.there .here))) ?_
  refine Shift.rem (.there (.there (.there (.there .here)))) ?_
  refine Shift.rem (.there (.there (.there (.there .here)))) ?_
  have hs543 := (hp0_desk_chans).mono hK288
  have hs544 := (hp0_desk_waiting).mono hK288
  have hs545 := (hp0_done).mono hK288
  refine Shift.done ?_
  exact ⟨vp0_desk_chans, rsp0_desk_chans, vp0_desk_waiting, rsp0_desk_waiting, vp0_done, rsp0_done, rfl, rfl, hs543, hs544, hs545⟩
 ·intro h542
  have H := iff_ (btf h542) H
  refine Cw_join (fun env' K' G' => ∃ (t547 : Bool), [(0, (.pointer (some ((⟨bp0, 0, none⟩ : Addr).add 0)))), (5, (.pointer (some ((⟨b269, 0, none⟩ : Addr).add 0)))), (6, (.pointer (some ((⟨b270, 0, none⟩ : Addr).add 0)))), (7, (.pointer (some ((elA (sv vp0_desk_chans) p2.channel.toNat 3).add 0)))), (8, (.int .i64 x283)), (37, (.bool t547))] = env' ∧ K287 = K' ∧ (.blk bp0 92 (Desk_work.cells p0 vp0_desk_chans vp0_desk_waiting vp0_done)) :: (.blk b270 73 (Result.cells (Result.mk 0 0 0 false 0))) :: (.blk b269 45 (Case.cells p2)) :: (.row (sv vp0_desk_chans) 71 3 rsp0_desk_chans.flatten) :: (.row (sv vp0_desk_waiting) 52 8 rsp0_desk_waiting.flatten) :: (.row (sv vp0_done) 75 6 rsp0_done.flatten) :: G = G' ∧ M_12z x271 p2 x283 p0 t547 = some (y0, z0_chans, z0_waiting, z0_done)) ?_ ?_
  ·skip
   refine Cw_region ?_
   refine Ow_q rfl rfl rfl (Qt_fieldAddr (m := 0) rfl rfl rfl rfl rfl) ?_
   refine Ow_q rfl rfl rfl (Qt_load1 (v := (.bool p2.send)) rfl rfl rfl (Rdc.blk (.tail _ (.tail _ (.head _))) rfl)) ?_
   refine Ow_q rfl rfl rfl (Qt_move rfl) ?_
   refine Ow_caseG rfl rfl rfl ?_ ?_
   ·intro h548
    have H := ift h548 H
    refine Ow_qw rfl rfl rfl rfl rfl rfl (Qt_move rfl) ?_
    refine Ow_qw rfl rfl rfl rfl rfl rfl (Qt_cmp rfl rfl rfl) ?_
    refine Ow_q rfl rfl rfl (Qt_pick_t rfl rfl) ?_
    refine Ow_q rfl rfl rfl (Qt_assign rfl) ?_
    refine Ow_nil ?_
    refine Shift.pull (.there (.there (.there (.there (.there .here))))) ?_
    refine Shift.pull (.there (.there (.there (.there (.there .here))))) ?_
    refine Shift.pull (.there (.there (.there (.there (.there .here))))) ?_
    refine Shift.pull (.there (.there (.there (.there (.there .here))))) ?_
    refine Shift.pull (.there (.there (.there (.there (.there .here))))) ?_
    refine Shift.pull (.there (.there (.there (.there (.there .here))))) ?_
    refine Shift.done ?_
    exact ⟨[(0, (.pointer (some ((⟨bp0, 0, none⟩ : Addr).add 0)))), (5, (.pointer (some ((⟨b269, 0, none⟩ : Addr).add 0)))), (6, (.pointer (some ((⟨b270, 0, none⟩ : Addr).add 0)))), (7, (.pointer (some ((elA (sv vp0_desk_chans) p2.channel.toNat 3).add 0)))), (8, (.int .i64 x283)), (37, (.bool (dcd (x283 ≥ 0))))], ⟨rfl, rfl, rfl, rfl, rfl, rfl, trivial⟩, (dcd (x283 ≥ 0)), rfl, rfl, rfl, H⟩
   ·intro h548
    have H := iff_ (btf h548) H
    refine Ow_pass rfl rfl rfl rfl rfl rfl rfl ?_
    refine Ow_pass rfl rfl rfl rfl rfl rfl rfl ?_
    refine Ow_q rfl rfl rfl (Qt_pick_f rfl rfl) ?_
    refine Ow_q rfl rfl rfl (Qt_assign rfl) ?_
    refine Ow_nil ?_
    refine Shift.pull (.there (.there (.there (.there (.there .here))))) ?_
    refine Shift.pull (.there (.there (.there (.there (.there .here))))) ?_
    refine Shift.pull (.there (.there (.there (.there (.there .here))))) ?_
    refine Shift.pull (.there (.there (.there (.there (.there .here))))) ?_
    refine Shift.pull (.there (.there (.there (.there (.there .here))))) ?_
    refine Shift.pull (.there (.there (.there (.there (.there .here))))) ?_
    refine Shift.done ?_
    exact ⟨[(0, (.pointer (some ((⟨bp0, 0, none⟩ : Addr).add 0)))), (5, (.pointer (some ((⟨b269, 0, none⟩ : Addr).add 0)))), (6, (.pointer (some ((⟨b270, 0, none⟩ : Addr).add 0)))), (7, (.pointer (some ((elA (sv vp0_desk_chans) p2.channel.toNat 3).add 0)))), (8, (.int .i64 x283)), (37, (.bool false))], ⟨rfl, rfl, rfl, rfl, rfl, rfl, trivial⟩, false, rfl, rfl, rfl, H⟩
  rintro _ _ _ - ⟨t547, rfl, rfl, rfl, H⟩
  unfold M_12z at H
  refine Cw_cond rfl ?_ ?_
  ·intro h549
   have H := ift h549 H
   refine Cw_seq ?_
   obtain ⟨x550, hx551, H⟩ := bnd H
   obtain ⟨x560, x561, hx562, H⟩ := bnd2 H
   refine Cw_region_any [.blk bp0 92 (Desk_work.cells p0 vp0_desk_chans vp0_desk_waiting vp0_done), .blk b270 73 (Result.cells (Result.mk 0 0 0 false 0)), .blk b269 45 (Case.cells p2), .row (sv vp0_desk_chans) 71 3 rsp0_desk_chans.flatten, .row (sv vp0_desk_waiting) 52 8 rsp0_desk_waiting.flatten, .row (sv vp0_done) 75 6 rsp0_done.flatten] rfl (Inc.cons (.head _) (Inc.cons (.tail _ (.head _)) (Inc.cons (.tail _ (.tail _ (.head _))) (Inc.cons (.tail _ (.tail _ (.tail _ (.head _)))) (Inc.cons (.tail _ (.tail _ (.tail _ (.tail _ (.head _))))) (Inc.cons (.tail _ (.tail _ (.tail _ (.tail _ (.tail _ (.head _)))))) Inc.nil)))))) ?_
   refine Aw_q 0 rfl (by kernel_rfl) (by kernel_rfl) (by kernel_rfl) rfl rfl rfl (Qt_move rfl) ?_
   refine Aw_q 1 rfl (by kernel_rfl) (by kernel_rfl) (by kernel_rfl) rfl rfl rfl (Qt_nilCheck rfl) ?_
   refine Aw_q 2 rfl (by kernel_rfl) (by kernel_rfl) (by kernel_rfl) rfl rfl rfl (Qt_fieldAddr (m := 0) rfl rfl rfl rfl rfl) ?_
   refine Aw_q 3 rfl (by kernel_rfl) (by kernel_rfl) (by kernel_rfl) rfl rfl rfl (Qt_fieldAddr (m := 1) rfl rfl rfl rfl rfl) ?_
   refine Aw_q 4 rfl (by kernel_rfl) (by kernel_rfl) (by kernel_rfl) rfl rfl rfl (Qt_load1 (v := (sv vp0_desk_waiting)) rfl rfl rfl (Rdc.blk (.head _) rfl)) ?_
   refine Aw_q 5 rfl (by kernel_rfl) (by kernel_rfl) (by kernel_rfl) rfl rfl rfl (Qt_move rfl) ?_
   have hs565 := (hp0_desk_waiting).mono hK288
   obtain ⟨r566, hq567, hr568⟩ := RowR.at hs565 hx551
   obtain ⟨v569, v570, rfl, hs571, hs572⟩ := hr568
   refine Aw_q 6 rfl (by kernel_rfl) (by kernel_rfl) (by kernel_rfl) rfl rfl rfl (Q_ixR (T := TyWaiter) (.tail _ (.tail _ (.tail _ (.tail _ (.head _))))) hs565 hq567 (getI_ix hx551).1 rfl rfl rfl rfl rfl) ?_
   refine Aw_q 7 rfl (by kernel_rfl) (by kernel_rfl) (by kernel_rfl) rfl rfl rfl (Qt_fieldAddr (m := 1) rfl rfl rfl rfl rfl) ?_
   refine Aw_q 8 rfl (by kernel_rfl) (by kernel_rfl) (by kernel_rfl) rfl rfl rfl (Qt_loadA (m := 7) (cs := (Op.cells x550.op v569 v570)) rfl rfl rfl rfl ⟨rfl, Rd_row (T := TyWaiter) (.tail _ (.tail _ (.tail _ (.tail _ (.head _))))) hs565 hq567 rfl rfl⟩) ?_
   refine Aw_q 9 rfl (by kernel_rfl) (by kernel_rfl) (by kernel_rfl) rfl rfl rfl (Qt_fieldAddr (m := 1) rfl rfl rfl rfl rfl) ?_
   refine Aw_q 10 rfl (by kernel_rfl) (by kernel_rfl) (by kernel_rfl) rfl rfl rfl (Qt_load1 (v := (.int .i64 p2.channel)) rfl rfl rfl (Rdc.blk (.tail _ (.tail _ (.head _))) rfl)) ?_
   refine Aw_one 11 (by kernel_rfl) (Ax_mk rfl rfl ?_)
   refine OpW_call rfl Try.call70 rfl rfl (c_M_10z x550.op v569 v570 p2.channel false x560 x561 hx562 _ _ hs571 hs572) ?_
   rintro _ K573 _ hK574 ⟨rfl, rfl⟩
   refine ⟨(Inc.cons (.head _) (Inc.cons (.tail _ (.head _)) (Inc.cons (.tail _ (.tail _ (.head _))) (Inc.cons (.tail _ (.tail _ (.tail _ (.head _)))) (Inc.cons (.tail _ (.tail _ (.tail _ (.tail _ (.head _))))) (Inc.cons (.tail _ (.tail _ (.tail _ (.tail _ (.tail _ (.head _)))))) Inc.nil)))))), ?_⟩
   refine Aw_q 12 rfl (by kernel_rfl) (by kernel_rfl) (by kernel_rfl) rfl rfl rfl (Qt_move rfl) ?_
   refine Aw_q 13 rfl (by kernel_rfl) (by kernel_rfl) (by kernel_rfl) rfl rfl rfl (Qt_extract rfl rfl) ?_
   refine Aw_q 14 rfl (by kernel_rfl) (by kernel_rfl) (by kernel_rfl) rfl rfl rfl (Qt_extract rfl rfl) ?_
   refine Aw_q 15 rfl (by kernel_rfl) (by kernel_rfl) (by kernel_rfl) rfl rfl rfl (Qt_assign rfl) ?_
   refine Aw_q 16 rfl (by kernel_rfl) (by kernel_rfl) (by kernel_rfl) rfl rfl rfl (Qt_assign rfl) ?_
   refine Aw_done (by kernel_rfl) ?_
   refine Cw_seq ?_
   refine Cw_region ?_
   refine Ow_q rfl rfl rfl (Qt_move rfl) ?_
   refine Ow_q rfl rfl rfl (Qt_move rfl) ?_
   refine Ow_q rfl rfl rfl (Qt_move rfl) ?_
   refine Ow_q rfl rfl rfl (Qt_fieldAddr (m := 2) rfl rfl rfl rfl rfl) ?_
   refine Ow_q rfl rfl rfl (Qt_load1 (v := (.int .u64 p2.value)) rfl rfl rfl (Rdc.blk (.tail _ (.tail _ (.head _))) rfl)) ?_
   refine Ow_q rfl rfl rfl (Qt_build (cs := (Result.cells (Result.mk 2 0 p2.value true 0))) rfl rfl rfl rfl rfl rfl) ?_
   obtain ⟨x575, x576, hx577, H⟩ := bnd2 H
   refine Ow.shift (Shift.pull (.there (.there (.there (.there (.there .here))))) (Shift.done ?_))
   refine Ow.shift (Shift.pull (.there (.there (.there (.there (.there .here))))) (Shift.done ?_))
   refine Ow.shift (Shift.pull (.there (.there (.there (.there (.there .here))))) (Shift.done ?_))
   refine Ow.shift (Shift.pull (.there (.there (.there .here))) (Shift.done ?_))
   have hs578 := ((hp0_desk_chans).mono hK288).mono hK574
   have hs579 := (hs565).mono hK574
   have hs580 := ((hp0_done).mono hK288).mono hK574
   refine Ow_cons rfl (OpW_call rfl Try.call76 rfl rfl (c_M_25z bp0 p0 vp0_desk_chans rsp0_desk_chans vp0_desk_waiting rsp0_desk_waiting vp0_done rsp0_done x283 x560 (Result.mk 2 0 p2.value true 0) x575 x576 hx577 _ _ hs578 hs579 hs580) ?_)
   rintro _ K585 _ hK586 ⟨v581, rs582, v583, rs584, rfl, rfl, hs587, hs588⟩
   refine Ow_nil ?_
   refine Cw_seq ?_
   refine Cw_region ?_
   refine Ow_q rfl rfl rfl (Qt_build (cs := (Result.cells (Result.mk 1 0 0 false 0))) rfl rfl rfl rfl rfl rfl) ?_
   refine Ow_cons rfl (OpW_store (vs := (Result.cells (Result.mk 1 0 0 false 0))) (all' := (Result.cells (Result.mk 1 0 0 false 0))) rfl rfl rfl rfl rfl (.there (.there (.there (.there .here)))) rfl rfl rfl ?_)
   refine Ow_nil ?_
   refine Cw_ret ?_
   obtain ⟨ey0, ez0_chans, ez0_waiting, ez0_done⟩ := inj4 H
   subst y0 z0_chans z0_waiting z0_done
   refine ⟨(by first | exact .inl rfl | exact .inr rfl), [(.agg (Result.cells (Result.mk 1 0 0 false 0)).toArray)], ⟨(.agg (Result.cells (Result.mk 1 0 0 false 0)).toArray), _, rfl, ⟨_, 5, (Result.cells (Result.mk 1 0 0 false 0)), rfl, rfl, rfl, rfl, ⟨rfl, Rdc.blk (.tail _ (.tail _ (.tail _ (.tail _ (.head _))))) rfl⟩, rfl⟩, rfl⟩, ?_⟩
   refine Shift.pull (.there (.there .here)) ?_
   refine Shift.pull (.there (.there .here)) ?_
   refine Shift.pull (.there (.there (.there .here))) ?_
   refine Shift.pull (.there (.there (.there .here))) ?_
   refine Shift.rem (.there (.there (.there (.there .here)))) ?_
   refine Shift.rem (.there (.there (.there (.there .here)))) ?_
   have hs589 := (hs578).mono hK586
   refine Shift.done ?_
   exact ⟨vp0_desk_chans, rsp0_desk_chans, v581, rs582, v583, rs584, rfl, rfl, hs589, hs587, hs588⟩
  ·intro h549
   have H := iff_ (btf h549) H
   refine Cw_seq ?_
   refine Cw_region ?_
   refine Ow_q rfl rfl rfl (Qt_fieldAddr (m := 0) rfl rfl rfl rfl rfl) ?_
   refine Ow_q rfl rfl rfl (Qt_load1 (v := (.bool p2.send)) rfl rfl rfl (Rdc.blk (.tail _ (.tail _ (.head _))) rfl)) ?_
   refine Ow_q rfl rfl rfl (Qt_assign rfl) ?_
   refine Ow_nil ?_
   refine Cw_cond rfl ?_ ?_
   ·intro h590
    have H := ift h590 H
    refine Cw_join (fun env' K' G' => ∃ (l658 : List Chan) (rs660 : List (List Value)), [(6, (.pointer (some ((⟨b270, 0, none⟩ : Addr).add 0))))] = env' ∧ (.blk bp0 92 (Desk_work.cells (Desk_work.mk (Desk.mk l658 p0.desk.waiting p0.desk.tick) p0.done) vp0_desk_chans vp0_desk_waiting vp0_done)) :: (.blk b270 73 (Result.cells (Result.mk 0 0 0 false 0))) :: (.row (sv vp0_desk_chans) 71 3 rs660.flatten) :: (.row (sv vp0_desk_waiting) 52 8 rsp0_desk_waiting.flatten) :: (.row (sv vp0_done) 75 6 rsp0_done.flatten) :: G = G' ∧ M_170z p0 l658 = some (y0, z0_chans, z0_waiting, z0_done) ∧ RowR TyChan K' rs660 l658) ?_ ?_
    ·skip
     obtain ⟨x662, hx663, H⟩ := bnd H
     obtain ⟨x670, hx671, H⟩ := bnd H
     refine Cw_region_any [.blk b270 73 (Result.cells (Result.mk 0 0 0 false 0)), .blk b269 45 (Case.cells p2), .row (sv vp0_desk_waiting) 52 8 rsp0_desk_waiting.flatten, .row (sv vp0_done) 75 6 rsp0_done.flatten] rfl (Inc.cons (.tail _ (.head _)) (Inc.cons (.tail _ (.tail _ (.head _))) (Inc.cons (.tail _ (.tail _ (.tail _ (.tail _ (.head _))))) (Inc.cons (.tail _ (.tail _ (.tail _ (.tail _ (.tail _ (.head _)))))) Inc.nil)))) ?_
     refine Aw_q 0 rfl (by kernel_rfl) (by kernel_rfl) (by kernel_rfl) rfl rfl rfl (Qt_move rfl) ?_
     refine Aw_q 1 rfl (by kernel_rfl) (by kernel_rfl) (by kernel_rfl) rfl rfl rfl (Qt_move rfl) ?_
     refine Aw_q 2 rfl (by kernel_rfl) (by kernel_rfl) (by kernel_rfl) rfl rfl rfl (Qt_nilCheck rfl) ?_
     refine Aw_q 3 rfl (by kernel_rfl) (by kernel_rfl) (by kernel_rfl) rfl rfl rfl (Qt_fieldAddr (m := 1) rfl rfl rfl rfl rfl) ?_
     refine Aw_q 6 rfl (by kernel_rfl) (by kernel_rfl) (by kernel_rfl) rfl rfl rfl (Qt_fieldAddr (m := 2) rfl rfl rfl rfl rfl) ?_
     refine Aw_q 7 rfl (by kernel_rfl) (by kernel_rfl) (by kernel_rfl) rfl rfl rfl (Qt_load1 (v := (.int .u64 p2.value)) rfl rfl rfl (Rdc.blk (.tail _ (.head _)) rfl)) ?_
     refine Aw_two 4 8 (by kernel_rfl) ?_ ?_
     ·skip
      have hs681 := (hp0_desk_chans).mono hK288
      refine id (Ax_mk rfl rfl (OpW_of_Qt rfl rfl (Qt_load1 (v := (sv v281)) rfl rfl rfl (Rd_row (T := TyChan) (.tail _ (.tail _ (.tail _ (.head _)))) hs681 hq279 rfl rfl)) ⟨(Inc.cons (.tail _ (.head _)) (Inc.cons (.tail _ (.tail _ (.head _))) (Inc.cons (.tail _ (.tail _ (.tail _ (.tail _ (.head _))))) (Inc.cons (.tail _ (.tail _ (.tail _ (.tail _ (.tail _ (.head _)))))) Inc.nil)))), ?_⟩))
      refine Aw_two 5 8 (by kernel_rfl) ?_ ?_
      ·skip
       refine id (Ax_mk rfl rfl ?_)
       have hs682 := (hs282).mono hK288
       refine OpW_call rfl Try.call77 rfl rfl (c_M_45z x271.buffer v281 x662 hx663 _ _ hs682) ?_
       rintro _ _ _ - ⟨v683, rs684, rfl, rfl, rfl, hs685⟩
       refine ⟨(Inc.cons (.tail _ (.tail _ (.head _))) (Inc.cons (.tail _ (.tail _ (.tail _ (.head _)))) (Inc.cons (.tail _ (.tail _ (.tail _ (.tail _ (.tail _ (.head _)))))) (Inc.cons (.tail _ (.tail _ (.tail _ (.tail _ (.tail _ (.tail _ (.head _))))))) Inc.nil)))), ?_⟩
       refine Aw_one 8 (by kernel_rfl) (Ax_mk rfl rfl ?_)
       have hR687 : RowR Ty.u64 K287 [[(.int .u64 p2.value)]] [p2.value] := RowR.cons rfl (RowR.nil)
       refine O_lit (T := Ty.u64) (rows := [[(.int .u64 p2.value)]]) (l := [p2.value]) rfl rfl rfl hR687 rfl rfl rfl rfl rfl rfl rfl rfl (fun v686 => ⟨(Inc.cons (.tail _ (.tail _ (.tail _ (.head _)))) (Inc.cons (.tail _ (.tail _ (.tail _ (.tail _ (.head _))))) (Inc.cons (.tail _ (.tail _ (.tail _ (.tail _ (.tail _ (.tail _ (.head _))))))) (Inc.cons (.tail _ (.tail _ (.tail _ (.tail _ (.tail _ (.tail _ (.tail _ (.head _)))))))) Inc.nil)))), ?_⟩)
       refine Aw_one 9 (by kernel_rfl) (Ax_mk rfl rfl ?_)
       refine O_appRow (T := Ty.u64) (bytes := 8) rfl rfl rfl (.tail _ (.head _)) hs685 (SrcT.row (.head _) hR687 rfl) hx671 rfl rfl rfl rfl rfl rfl rfl rfl (fun v688 rs689 hR690 => ⟨_, (.there .here), ⟨(Inc.cons (.tail _ (.tail _ (.tail _ (.head _)))) (Inc.cons (.tail _ (.tail _ (.tail _ (.tail _ (.head _))))) (Inc.cons (.tail _ (.tail _ (.tail _ (.tail _ (.tail _ (.tail _ (.head _))))))) (Inc.cons (.tail _ (.tail _ (.tail _ (.tail _ (.tail _ (.tail _ (.tail _ (.head _)))))))) Inc.nil)))), ?_⟩⟩)
       refine Aw.shift (Shift.rem .here (Shift.done ⟨(Inc.cons (.tail _ (.tail _ (.head _))) (Inc.cons (.tail _ (.tail _ (.tail _ (.head _)))) (Inc.cons (.tail _ (.tail _ (.tail _ (.tail _ (.tail _ (.head _)))))) (Inc.cons (.tail _ (.tail _ (.tail _ (.tail _ (.tail _ (.tail _ (.head _))))))) Inc.nil)))), ?_⟩))
       refine Aw_q 10 rfl (by kernel_rfl) (by kernel_rfl) (by kernel_rfl) rfl rfl rfl (Qt_nilCheck rfl) ?_
       refine Aw_q 11 rfl (by kernel_rfl) (by kernel_rfl) (by kernel_rfl) rfl rfl rfl (Qt_fieldAddr (m := 1) rfl rfl rfl rfl rfl) ?_
       refine Aw_one 12 (by kernel_rfl) (Ax_mk rfl rfl ?_)
       refine OpW.shift (Shift.settle (T := Ty.u64) .here hR690 rfl (fun K691 hK692 hs693 => Shift.done ?_))
       have hs694 := (hs681).mono hK692
       refine O_storeR (T := TyChan) (vs := [(sv v688)]) (r' := (Chan.cells (Chan.mk x271.capacity x670 x271.closed) v688)) (l' := (setI p0.desk.chans p2.channel (Chan.mk x271.capacity x670 x271.closed))) rfl rfl rfl rfl rfl (.there (.there (.there (.there .here)))) hs694 hq279 rfl rfl rfl (RowR.set p2.channel hs694 ⟨v688, rfl, hs693⟩) (fun hR695 => ⟨(Inc.cons (.tail _ (.tail _ (.head _))) (Inc.cons (.tail _ (.tail _ (.tail _ (.head _)))) (Inc.cons (.tail _ (.tail _ (.tail _ (.tail _ (.tail _ (.head _)))))) (Inc.cons (.tail _ (.tail _ (.tail _ (.tail _ (.tail _ (.tail _ (.head _))))))) Inc.nil)))), ?_⟩)
       have hE696 := set_at hq279 (v := (Chan.cells (Chan.mk x271.capacity x670 x271.closed) v688))
       refine Aw_done (by kernel_rfl) ?_
       refine Shift.pull (.there (.there (.there (.there (.there (.there .here)))))) ?_
       refine Shift.pull (.there (.there (.there (.there (.there (.there .here)))))) ?_
       refine Shift.pull (.there (.there (.there (.there (.there (.there .here)))))) ?_
       refine Shift.pull (.there (.there (.there (.there (.there .here))))) ?_
       refine Shift.pull (.there (.there (.there (.there (.there .here))))) ?_
       refine Shift.rem (.there (.there (.there (.there (.there .here))))) ?_
       refine Shift.rem (.there (.there (.there (.there (.there .here))))) ?_
       refine Shift.done ?_
       exact ⟨[(6, (.pointer (some ((⟨b270, 0, none⟩ : Addr).add 0))))], ⟨rfl, trivial⟩, (setI p0.desk.chans p2.channel (Chan.mk x271.capacity x670 x271.closed)), (rsp0_desk_chans.set p2.channel.toNat (Chan.cells (Chan.mk x271.capacity x670 x271.closed) v688)), rfl, rfl, H, hR695⟩
      ·skip
       refine id (Ax_mk rfl rfl ?_)
       have hR698 : RowR Ty.u64 K287 [[(.int .u64 p2.value)]] [p2.value] := RowR.cons rfl (RowR.nil)
       refine O_lit (T := Ty.u64) (rows := [[(.int .u64 p2.value)]]) (l := [p2.value]) rfl rfl rfl hR698 rfl rfl rfl rfl rfl rfl rfl rfl (fun v697 => ⟨(Inc.cons (.tail _ (.tail _ (.head _))) (Inc.cons (.tail _ (.tail _ (.tail _ (.head _)))) (Inc.cons (.tail _ (.tail _ (.tail _ (.tail _ (.tail _ (.head _)))))) (Inc.cons (.tail _ (.tail _ (.tail _ (.tail _ (.tail _ (.tail _ (.head _))))))) Inc.nil)))), ?_⟩)
       refine Aw_one 5 (by kernel_rfl) (Ax_mk rfl rfl ?_)
       have hs699 := (hs282).mono hK288
       refine OpW_call rfl Try.call77 rfl rfl (c_M_45z x271.buffer v281 x662 hx663 _ _ hs699) ?_
       rintro _ _ _ - ⟨v700, rs701, rfl, rfl, rfl, hs702⟩
       refine ⟨(Inc.cons (.tail _ (.tail _ (.tail _ (.head _)))) (Inc.cons (.tail _ (.tail _ (.tail _ (.tail _ (.head _))))) (Inc.cons (.tail _ (.tail _ (.tail _ (.tail _ (.tail _ (.tail _ (.head _))))))) (Inc.cons (.tail _ (.tail _ (.tail _ (.tail _ (.tail _ (.tail _ (.tail _ (.head _)))))))) Inc.nil)))), ?_⟩
       refine Aw_one 9 (by kernel_rfl) (Ax_mk rfl rfl ?_)
       refine O_appRow (T := Ty.u64) (bytes := 8) rfl rfl rfl (.head _) hs702 (SrcT.row (.tail _ (.head _)) hR698 rfl) hx671 rfl rfl rfl rfl rfl rfl rfl rfl (fun v703 rs704 hR705 => ⟨_, .here, ⟨(Inc.cons (.tail _ (.tail _ (.tail _ (.head _)))) (Inc.cons (.tail _ (.tail _ (.tail _ (.tail _ (.head _))))) (Inc.cons (.tail _ (.tail _ (.tail _ (.tail _ (.tail _ (.tail _ (.head _))))))) (Inc.cons (.tail _ (.tail _ (.tail _ (.tail _ (.tail _ (.tail _ (.tail _ (.head _)))))))) Inc.nil)))), ?_⟩⟩)
       refine Aw.shift (Shift.rem (.there .here) (Shift.done ⟨(Inc.cons (.tail _ (.tail _ (.head _))) (Inc.cons (.tail _ (.tail _ (.tail _ (.head _)))) (Inc.cons (.tail _ (.tail _ (.tail _ (.tail _ (.tail _ (.head _)))))) (Inc.cons (.tail _ (.tail _ (.tail _ (.tail _ (.tail _ (.tail _ (.head _))))))) Inc.nil)))), ?_⟩))
       refine Aw_q 10 rfl (by kernel_rfl) (by kernel_rfl) (by kernel_rfl) rfl rfl rfl (Qt_nilCheck rfl) ?_
       refine Aw_q 11 rfl (by kernel_rfl) (by kernel_rfl) (by kernel_rfl) rfl rfl rfl (Qt_fieldAddr (m := 1) rfl rfl rfl rfl rfl) ?_
       refine Aw_one 12 (by kernel_rfl) (Ax_mk rfl rfl ?_)
       refine OpW.shift (Shift.settle (T := Ty.u64) .here hR705 rfl (fun K706 hK707 hs708 => Shift.done ?_))
       have hs709 := (hs681).mono hK707
       refine O_storeR (T := TyChan) (vs := [(sv v703)]) (r' := (Chan.cells (Chan.mk x271.capacity x670 x271.closed) v703)) (l' := (setI p0.desk.chans p2.channel (Chan.mk x271.capacity x670 x271.closed))) rfl rfl rfl rfl rfl (.there (.there (.there (.there .here)))) hs709 hq279 rfl rfl rfl (RowR.set p2.channel hs709 ⟨v703, rfl, hs708⟩) (fun hR710 => ⟨(Inc.cons (.tail _ (.tail _ (.head _))) (Inc.cons (.tail _ (.tail _ (.tail _ (.head _)))) (Inc.cons (.tail _ (.tail _ (.tail _ (.tail _ (.tail _ (.head _)))))) (Inc.cons (.tail _ (.tail _ (.tail _ (.tail _ (.tail _ (.tail _ (.head _))))))) Inc.nil)))), ?_⟩)
       have hE711 := set_at hq279 (v := (Chan.cells (Chan.mk x271.capacity x670 x271.closed) v703))
       refine Aw_done (by kernel_rfl) ?_
       refine Shift.pull (.there (.there (.there (.there (.there (.there .here)))))) ?_
       refine Shift.pull (.there (.there (.there (.there (.there (.there .here)))))) ?_
       refine Shift.pull (.there (.there (.there (.there (.there (.there .here)))))) ?_
       refine Shift.pull (.there (.there (.there (.there (.there .here))))) ?_
       refine Shift.pull (.there (.there (.there (.there (.there .here))))) ?_
       refine Shift.rem (.there (.there (.there (.there (.there .here))))) ?_
       refine Shift.rem (.there (.there (.there (.there (.there .here))))) ?_
       refine Shift.done ?_
       exact ⟨[(6, (.pointer (some ((⟨b270, 0, none⟩ : Addr).add 0))))], ⟨rfl, trivial⟩, (setI p0.desk.chans p2.channel (Chan.mk x271.capacity x670 x271.closed)), (rsp0_desk_chans.set p2.channel.toNat (Chan.cells (Chan.mk x271.capacity x670 x271.closed) v703)), rfl, rfl, H, hR710⟩
     ·skip
      refine id (Ax_mk rfl rfl ?_)
      have hR713 : RowR Ty.u64 K287 [[(.int .u64 p2.value)]] [p2.value] := RowR.cons rfl (RowR.nil)
      refine O_lit (T := Ty.u64) (rows := [[(.int .u64 p2.value)]]) (l := [p2.value]) rfl rfl rfl hR713 rfl rfl rfl rfl rfl rfl rfl rfl (fun v712 => ⟨(Inc.cons (.tail _ (.tail _ (.head _))) (Inc.cons (.tail _ (.tail _ (.tail _ (.head _)))) (Inc.cons (.tail _ (.tail _ (.tail _ (.tail _ (.tail _ (.head _)))))) (Inc.cons (.tail _ (.tail _ (.tail _ (.tail _ (.tail _ (.tail _ (.head _))))))) Inc.nil)))), ?_⟩)
      have hs714 := (hp0_desk_chans).mono hK288
      refine Aw_one 4 (by kernel_rfl) (Ax_mk rfl rfl (OpW_of_Qt rfl rfl (Qt_load1 (v := (sv v281)) rfl rfl rfl (Rd_row (T := TyChan) (.tail _ (.tail _ (.tail _ (.tail _ (.head _))))) hs714 hq279 rfl rfl)) ⟨(Inc.cons (.tail _ (.tail _ (.head _))) (Inc.cons (.tail _ (.tail _ (.tail _ (.head _)))) (Inc.cons (.tail _ (.tail _ (.tail _ (.tail _ (.tail _ (.head _)))))) (Inc.cons (.tail _ (.tail _ (.tail _ (.tail _ (.tail _ (.tail _ (.head _))))))) Inc.nil)))), ?_⟩))
      refine Aw_one 5 (by kernel_rfl) (Ax_mk rfl rfl ?_)
      have hs715 := (hs282).mono hK288
      refine OpW_call rfl Try.call77 rfl rfl (c_M_45z x271.buffer v281 x662 hx663 _ _ hs715) ?_
      rintro _ _ _ - ⟨v716, rs717, rfl, rfl, rfl, hs718⟩
      refine ⟨(Inc.cons (.tail _ (.tail _ (.tail _ (.head _)))) (Inc.cons (.tail _ (.tail _ (.tail _ (.tail _ (.head _))))) (Inc.cons (.tail _ (.tail _ (.tail _ (.tail _ (.tail _ (.tail _ (.head _))))))) (Inc.cons (.tail _ (.tail _ (.tail _ (.tail _ (.tail _ (.tail _ (.tail _ (.head _)))))))) Inc.nil)))), ?_⟩
      refine Aw_one 9 (by kernel_rfl) (Ax_mk rfl rfl ?_)
      refine O_appRow (T := Ty.u64) (bytes := 8) rfl rfl rfl (.head _) hs718 (SrcT.row (.tail _ (.head _)) hR713 rfl) hx671 rfl rfl rfl rfl rfl rfl rfl rfl (fun v719 rs720 hR721 => ⟨_, .here, ⟨(Inc.cons (.tail _ (.tail _ (.tail _ (.head _)))) (Inc.cons (.tail _ (.tail _ (.tail _ (.tail _ (.head _))))) (Inc.cons (.tail _ (.tail _ (.tail _ (.tail _ (.tail _ (.tail _ (.head _))))))) (Inc.cons (.tail _ (.tail _ (.tail _ (.tail _ (.tail _ (.tail _ (.tail _ (.head _)))))))) Inc.nil)))), ?_⟩⟩)
      refine Aw.shift (Shift.rem (.there .here) (Shift.done ⟨(Inc.cons (.tail _ (.tail _ (.head _))) (Inc.cons (.tail _ (.tail _ (.tail _ (.head _)))) (Inc.cons (.tail _ (.tail _ (.tail _ (.tail _ (.tail _ (.head _)))))) (Inc.cons (.tail _ (.tail _ (.tail _ (.tail _ (.tail _ (.tail _ (.head _))))))) Inc.nil)))), ?_⟩))
      refine Aw_q 10 rfl (by kernel_rfl) (by kernel_rfl) (by kernel_rfl) rfl rfl rfl (Qt_nilCheck rfl) ?_
      refine Aw_q 11 rfl (by kernel_rfl) (by kernel_rfl) (by kernel_rfl) rfl rfl rfl (Qt_fieldAddr (m := 1) rfl rfl rfl rfl rfl) ?_
      refine Aw_one 12 (by kernel_rfl) (Ax_mk rfl rfl ?_)
      refine OpW.shift (Shift.settle (T := Ty.u64) .here hR721 rfl (fun K722 hK723 hs724 => Shift.done ?_))
      have hs725 := (hs714).mono hK723
      refine O_storeR (T := TyChan) (vs := [(sv v719)]) (r' := (Chan.cells (Chan.mk x271.capacity x670 x271.closed) v719)) (l' := (setI p0.desk.chans p2.channel (Chan.mk x271.capacity x670 x271.closed))) rfl rfl rfl rfl rfl (.there (.there (.there (.there .here)))) hs725 hq279 rfl rfl rfl (RowR.set p2.channel hs725 ⟨v719, rfl, hs724⟩) (fun hR726 => ⟨(Inc.cons (.tail _ (.tail _ (.head _))) (Inc.cons (.tail _ (.tail _ (.tail _ (.head _)))) (Inc.cons (.tail _ (.tail _ (.tail _ (.tail _ (.tail _ (.head _)))))) (Inc.cons (.tail _ (.tail _ (.tail _ (.tail _ (.tail _ (.tail _ (.head _))))))) Inc.nil)))), ?_⟩)
      have hE727 := set_at hq279 (v := (Chan.cells (Chan.mk x271.capacity x670 x271.closed) v719))
      refine Aw_done (by kernel_rfl) ?_
      refine Shift.pull (.there (.there (.there (.there (.there (.there .here)))))) ?_
      refine Shift.pull (.there (.there (.there (.there (.there (.there .here)))))) ?_
      refine Shift.pull (.there (.there (.there (.there (.there (.there .here)))))) ?_
      refine Shift.pull (.there (.there (.there (.there (.there .here))))) ?_
      refine Shift.pull (.there (.there (.there (.there (.there .here))))) ?_
      refine Shift.rem (.there (.there (.there (.there (.there .here))))) ?_
      refine Shift.rem (.there (.there (.there (.there (.there .here))))) ?_
      refine Shift.done ?_
      exact ⟨[(6, (.pointer (some ((⟨b270, 0, none⟩ : Addr).add 0))))], ⟨rfl, trivial⟩, (setI p0.desk.chans p2.channel (Chan.mk x271.capacity x670 x271.closed)), (rsp0_desk_chans.set p2.channel.toNat (Chan.cells (Chan.mk x271.capacity x670 x271.closed) v719)), rfl, rfl, H, hR726⟩
    rintro _ K728 _ hK729 ⟨l658, rs660, rfl, rfl, H, hR659⟩
    unfold M_170z at H
    refine Cw_seq ?_
    refine Cw_region ?_
    refine Ow_q rfl rfl rfl (Qt_build (cs := (Result.cells (Result.mk 1 0 0 false 0))) rfl rfl rfl rfl rfl rfl) ?_
    refine Ow_cons rfl (OpW_store (vs := (Result.cells (Result.mk 1 0 0 false 0))) (all' := (Result.cells (Result.mk 1 0 0 false 0))) rfl rfl rfl rfl rfl (.there .here) rfl rfl rfl ?_)
    refine Ow_nil ?_
    refine Cw_ret ?_
    obtain ⟨ey0, ez0_chans, ez0_waiting, ez0_done⟩ := inj4 H
    subst y0 z0_chans z0_waiting z0_done
    refine ⟨(by first | exact .inl rfl | exact .inr rfl), [(.agg (Result.cells (Result.mk 1 0 0 false 0)).toArray)], ⟨(.agg (Result.cells (Result.mk 1 0 0 false 0)).toArray), _, rfl, ⟨_, 5, (Result.cells (Result.mk 1 0 0 false 0)), rfl, rfl, rfl, rfl, ⟨rfl, Rdc.blk (.tail _ (.head _)) rfl⟩, rfl⟩, rfl⟩, ?_⟩
    refine Shift.pull (.there (.there (.there (.there .here)))) ?_
    refine Shift.pull (.there (.there (.there (.there .here)))) ?_
    refine Shift.pull (.there (.there (.there (.there .here)))) ?_
    refine Shift.pull (.there (.there (.there .here))) ?_
    refine Shift.rem (.there (.there (.there (.there .here)))) ?_
    have hs730 := ((hp0_desk_waiting).mono hK288).mono hK729
    have hs731 := ((hp0_done).mono hK288).mono hK729
    refine Shift.done ?_
    exact ⟨vp0_desk_chans, rs660, vp0_desk_waiting, rsp0_desk_waiting, vp0_done, rsp0_done, rfl, rfl, hR659, hs730, hs731⟩
   ·intro h590
    have H := iff_ (btf h590) H
    refine Cw_seq ?_
    refine Cw_region ?_
    refine Ow_q rfl rfl rfl (Qt_move rfl) ?_
    refine Ow_q rfl rfl rfl (Qt_nilCheck rfl) ?_
    refine Ow_q rfl rfl rfl (Qt_fieldAddr (m := 1) rfl rfl rfl rfl rfl) ?_
    have hs732 := (hp0_desk_chans).mono hK288
    refine Ow_q rfl rfl rfl (Qt_load1 (v := (sv v281)) rfl rfl rfl (Rd_row (T := TyChan) (.tail _ (.tail _ (.tail _ (.head _)))) hs732 hq279 rfl rfl)) ?_
    have hs733 := (hs282).mono hK288
    refine Ow_q rfl rfl rfl (Q_len (T := Ty.u64) hs733 rfl rfl) ?_
    refine Ow_q rfl rfl rfl (Qt_cmp rfl rfl rfl) ?_
    refine Ow_q rfl rfl rfl (Qt_assign rfl) ?_
    refine Ow_nil ?_
    refine Cw_cond rfl ?_ ?_
    ·intro h734
     have h734 := dcd_t (h734)
     have H := ift h734 H
     refine Cw_seq ?_
     refine Cw_region ?_
     refine Ow_q rfl rfl rfl (Qt_move rfl) ?_
     refine Ow_q rfl rfl rfl (Qt_nilCheck rfl) ?_
     refine Ow_q rfl rfl rfl (Qt_fieldAddr (m := 1) rfl rfl rfl rfl rfl) ?_
     refine Ow_q rfl rfl rfl (Qt_load1 (v := (sv v281)) rfl rfl rfl (Rd_row (T := TyChan) (.tail _ (.tail _ (.tail _ (.head _)))) hs732 hq279 rfl rfl)) ?_
     obtain ⟨x735, hx736, H⟩ := bnd H
     obtain ⟨r737, hr738, hk739⟩ := Slr.at hs733 hx736
     obtain rfl := hr738
     refine Ow_q rfl rfl rfl (Q_ix (T := Ty.u64) hs733 hx736 rfl rfl rfl rfl rfl) ?_
     refine Ow_q rfl rfl rfl (Qt_load1 (v := (.int .u64 x735)) rfl rfl rfl (Rdc.k hk739 rfl)) ?_
     refine Ow_q rfl rfl rfl (Qt_assign rfl) ?_
     refine Ow_nil ?_
     refine Cw_seq ?_
     refine Cw_region ?_
     refine Ow_q rfl rfl rfl (Qt_move rfl) ?_
     refine Ow_q rfl rfl rfl (Qt_move rfl) ?_
     refine Ow_q rfl rfl rfl (Qt_nilCheck rfl) ?_
     refine Ow_q rfl rfl rfl (Qt_fieldAddr (m := 1) rfl rfl rfl rfl rfl) ?_
     refine Ow_q rfl rfl rfl (Qt_load1 (v := (sv v281)) rfl rfl rfl (Rd_row (T := TyChan) (.tail _ (.tail _ (.tail _ (.head _)))) hs732 hq279 rfl rfl)) ?_
     obtain ⟨x740, hx741, H⟩ := bnd H
     have hs742 := Slr.cutL hs733 hx741
     refine Ow_q rfl rfl rfl (Q_cutL (T := Ty.u64) hs733 hx741 rfl rfl rfl rfl rfl) ?_
     obtain ⟨x743, hx744, H⟩ := bnd H
     refine Ow_cons rfl (OpW_call rfl Try.call77 rfl rfl (c_M_45z x740 (cutS v281 1 ((1 : Int).toNat) x271.buffer.length) x743 hx744 _ _ hs742) ?_)
     rintro _ _ _ - ⟨v745, rs746, rfl, rfl, rfl, hs747⟩
     refine Ow_q rfl rfl rfl (Qt_nilCheck rfl) ?_
     refine Ow_q rfl rfl rfl (Qt_fieldAddr (m := 1) rfl rfl rfl rfl rfl) ?_
     refine Ow.shift (Shift.settle (T := Ty.u64) .here hs747 rfl (fun K748 hK749 hs750 => Shift.done ?_))
     have hs751 := (hs732).mono hK749
     refine Ow_cons rfl (O_storeR (T := TyChan) (vs := [(sv v745)]) (r' := (Chan.cells (Chan.mk x271.capacity x743 x271.closed) v745)) (l' := (setI p0.desk.chans p2.channel (Chan.mk x271.capacity x743 x271.closed))) rfl rfl rfl rfl rfl (.there (.there (.there (.there .here)))) hs751 hq279 rfl rfl rfl (RowR.set p2.channel hs751 ⟨v745, rfl, hs750⟩) (fun hR752 => ?_))
     have hE753 := set_at hq279 (v := (Chan.cells (Chan.mk x271.capacity x743 x271.closed) v745))
     refine Ow_nil ?_
     refine Cw_join (fun env' K' G' => ∃ (l833 : List Chan) (rs835 : List (List Value)) (v836 : SV) (l837 : List Waiter) (rs839 : List (List Value)) (v840 : SV) (l841 : List Done) (rs843 : List (List Value)), [(6, (.pointer (some ((⟨b270, 0, none⟩ : Addr).add 0)))), (11, (.int .u64 x735))] = env' ∧ (.blk bp0 92 (Desk_work.cells (Desk_work.mk (Desk.mk l833 l837 p0.desk.tick) l841) vp0_desk_chans v836 v840)) :: (.blk b270 73 (Result.cells (Result.mk 0 0 0 false 0))) :: (.row (sv vp0_desk_chans) 71 3 rs835.flatten) :: (.row (sv v836) 52 8 rs839.flatten) :: (.row (sv v840) 75 6 rs843.flatten) :: G = G' ∧ M_93z x735 p0 l833 l837 l841 = some (y0, z0_chans, z0_waiting, z0_done) ∧ RowR TyChan K' rs835 l833 ∧ RowR TyWaiter K' rs839 l837 ∧ RowR TyDone K' rs843 l841) ?_ ?_
     ·skip
      refine Cw_seq ?_
      refine Cw_region ?_
      refine Ow_q rfl rfl rfl (Qt_move rfl) ?_
      refine Ow_q rfl rfl rfl (Qt_cmp rfl rfl rfl) ?_
      refine Ow_nil ?_
      refine Cw_cond rfl ?_ ?_
      ·intro h844
       have h844 := dcd_t (h844)
       have H := ift h844 H
       obtain ⟨x845, x846, x847, hx848, H⟩ := bnd3 H
       obtain ⟨x861, hx862, H⟩ := bnd H
       refine Cw_region_any [.blk b270 73 (Result.cells (Result.mk 0 0 0 false 0)), .blk b269 45 (Case.cells p2)] rfl (Inc.cons (.tail _ (.tail _ (.head _))) (Inc.cons (.tail _ (.tail _ (.tail _ (.head _)))) Inc.nil)) ?_
       refine Aw_q 0 rfl (by kernel_rfl) (by kernel_rfl) (by kernel_rfl) rfl rfl rfl (Qt_move rfl) ?_
       refine Aw_q 1 rfl (by kernel_rfl) (by kernel_rfl) (by kernel_rfl) rfl rfl rfl (Qt_move rfl) ?_
       refine Aw_q 2 rfl (by kernel_rfl) (by kernel_rfl) (by kernel_rfl) rfl rfl rfl (Qt_nilCheck rfl) ?_
       refine Aw_q 3 rfl (by kernel_rfl) (by kernel_rfl) (by kernel_rfl) rfl rfl rfl (Qt_fieldAddr (m := 1) rfl rfl rfl rfl rfl) ?_
       refine Aw_q 5 rfl (by kernel_rfl) (by kernel_rfl) (by kernel_rfl) rfl rfl rfl (Qt_move rfl) ?_
       refine Aw_q 6 rfl (by kernel_rfl) (by kernel_rfl) (by kernel_rfl) rfl rfl rfl (Qt_move rfl) ?_
       refine Aw_q 7 rfl (by kernel_rfl) (by kernel_rfl) (by kernel_rfl) rfl rfl rfl (Qt_fieldAddr (m := 1) rfl rfl rfl rfl rfl) ?_
       refine Aw_q 8 rfl (by kernel_rfl) (by kernel_rfl) (by kernel_rfl) rfl rfl rfl (Qt_load1 (v := (.int .i64 p2.channel)) rfl rfl rfl (Rdc.blk (.tail _ (.head _)) rfl)) ?_
       refine Aw_two 4 9 (by kernel_rfl) ?_ ?_
       ·skip
        refine id (Ax_mk rfl rfl (OpW_of_Qt rfl rfl (Qt_load1 (v := (sv v745)) rfl rfl rfl (Rd_row (T := TyChan) (.tail _ (.tail _ (.tail _ (.tail _ (.head _))))) hR752 hE753 rfl rfl)) ⟨(Inc.cons (.tail _ (.tail _ (.head _))) (Inc.cons (.tail _ (.tail _ (.tail _ (.head _)))) Inc.nil)), ?_⟩))
        refine Aw_one 9 (by kernel_rfl) (Ax_mk rfl rfl ?_)
        refine OpW.shift (Shift.pull (.there (.there (.there (.there (.there (.there .here)))))) (Shift.done ?_))
        refine OpW.shift (Shift.pull (.there (.there (.there (.there (.there (.there .here)))))) (Shift.done ?_))
        refine OpW.shift (Shift.pull (.there (.there (.there (.there (.there (.there .here)))))) (Shift.done ?_))
        refine OpW.shift (Shift.pull (.there (.there (.there (.there .here)))) (Shift.done ?_))
        have hs871 := ((hp0_desk_waiting).mono hK288).mono hK749
        have hs872 := ((hp0_done).mono hK288).mono hK749
        refine OpW_call rfl Try.call78 rfl rfl (c_M_46z bp0 (Desk_work.mk (Desk.mk (setI p0.desk.chans p2.channel (Chan.mk x271.capacity x743 x271.closed)) p0.desk.waiting p0.desk.tick) p0.done) vp0_desk_chans (rsp0_desk_chans.set p2.channel.toNat (Chan.cells (Chan.mk x271.capacity x743 x271.closed) v745)) vp0_desk_waiting rsp0_desk_waiting vp0_done rsp0_done x283 p2.channel x845 x846 x847 hx848 _ _ hR752 hs871 hs872) ?_
        rintro _ K877 _ hK878 ⟨v873, rs874, v875, rs876, rfl, rfl, hs879, hs880⟩
        refine ⟨(Inc.cons (.tail _ (.tail _ (.tail _ (.tail _ (.tail _ (.head _)))))) (Inc.cons (.tail _ (.tail _ (.tail _ (.tail _ (.tail _ (.tail _ (.head _))))))) Inc.nil)), ?_⟩
        refine Aw_one 10 (by kernel_rfl) (Ax_mk rfl rfl ?_)
        have hR882 : RowR Ty.u64 K877 [[(.int .u64 x845)]] [x845] := RowR.cons rfl (RowR.nil)
        refine O_lit (T := Ty.u64) (rows := [[(.int .u64 x845)]]) (l := [x845]) rfl rfl rfl hR882 rfl rfl rfl rfl rfl rfl rfl rfl (fun v881 => ⟨(Inc.cons (.tail _ (.tail _ (.tail _ (.tail _ (.tail _ (.tail _ (.head _))))))) (Inc.cons (.tail _ (.tail _ (.tail _ (.tail _ (.tail _ (.tail _ (.tail _ (.head _)))))))) Inc.nil)), ?_⟩)
        refine Aw_one 11 (by kernel_rfl) (Ax_mk rfl rfl ?_)
        have hs887 := (hs750).mono hK878
        refine O_appTok (T := Ty.u64) (bytes := 8) (q := 0) rfl rfl rfl hs887 (.tail _ (.tail _ (.tail _ (.tail _ (.tail _ (.head _)))))) rfl (SrcT.row (.head _) hR882 rfl) hx862 rfl rfl rfl rfl rfl rfl rfl rfl (fun v883 K884 hK885 hs886 => ⟨_, (.there (.there (.there (.there (.there .here))))), ⟨(Inc.cons (.tail _ (.tail _ (.tail _ (.tail _ (.tail _ (.tail _ (.head _))))))) (Inc.cons (.tail _ (.tail _ (.tail _ (.tail _ (.tail _ (.tail _ (.tail _ (.head _)))))))) Inc.nil)), ?_⟩⟩)
        refine Aw.shift (Shift.rem .here (Shift.done ⟨(Inc.cons (.tail _ (.tail _ (.tail _ (.tail _ (.tail _ (.head _)))))) (Inc.cons (.tail _ (.tail _ (.tail _ (.tail _ (.tail _ (.tail _ (.head _))))))) Inc.nil)), ?_⟩))
        refine Aw_q 12 rfl (by kernel_rfl) (by kernel_rfl) (by kernel_rfl) rfl rfl rfl (Qt_nilCheck rfl) ?_
        refine Aw_q 13 rfl (by kernel_rfl) (by kernel_rfl) (by kernel_rfl) rfl rfl rfl (Qt_fieldAddr (m := 1) rfl rfl rfl rfl rfl) ?_
        refine Aw_one 14 (by kernel_rfl) (Ax_mk rfl rfl ?_)
        have hs888 := ((hR752).mono hK878).mono hK885
        refine O_storeR (T := TyChan) (vs := [(sv v883)]) (r' := (Chan.cells (Chan.mk x271.capacity x861 x271.closed) v883)) (l' := (setI (setI p0.desk.chans p2.channel (Chan.mk x271.capacity x743 x271.closed)) p2.channel (Chan.mk x271.capacity x861 x271.closed))) rfl rfl rfl rfl rfl (.there (.there (.there .here))) hs888 hE753 rfl rfl rfl (RowR.set p2.channel hs888 ⟨v883, rfl, hs886⟩) (fun hR889 => ⟨(Inc.cons (.tail _ (.tail _ (.tail _ (.tail _ (.tail _ (.head _)))))) (Inc.cons (.tail _ (.tail _ (.tail _ (.tail _ (.tail _ (.tail _ (.head _))))))) Inc.nil)), ?_⟩)
        have hE890 := set_at hE753 (v := (Chan.cells (Chan.mk x271.capacity x861 x271.closed) v883))
        refine Aw_done (by kernel_rfl) ?_
        refine Shift.pull (.there (.there .here)) ?_
        refine Shift.pull (.there (.there .here)) ?_
        refine Shift.pull (.there (.there (.there .here))) ?_
        refine Shift.pull (.there (.there (.there (.there (.there .here))))) ?_
        refine Shift.pull (.there (.there (.there (.there .here)))) ?_
        refine Shift.rem (.there (.there (.there (.there (.there .here))))) ?_
        refine Shift.rem (.there (.there (.there (.there (.there .here))))) ?_
        have hs891 := (hs879).mono hK885
        have hs892 := (hs880).mono hK885
        refine Shift.done ?_
        exact ⟨[(6, (.pointer (some ((⟨b270, 0, none⟩ : Addr).add 0)))), (11, (.int .u64 x735))], ⟨rfl, rfl, trivial⟩, (setI (setI p0.desk.chans p2.channel (Chan.mk x271.capacity x743 x271.closed)) p2.channel (Chan.mk x271.capacity x861 x271.closed)), ((rsp0_desk_chans.set p2.channel.toNat (Chan.cells (Chan.mk x271.capacity x743 x271.closed) v745)).set p2.channel.toNat (Chan.cells (Chan.mk x271.capacity x861 x271.closed) v883)), v873, x846, rs874, v875, x847, rs876, rfl, rfl, H, hR889, hs891, hs892⟩
       ·skip
        refine id (Ax_mk rfl rfl ?_)
        refine OpW.shift (Shift.pull (.there (.there (.there (.there (.there (.there .here)))))) (Shift.done ?_))
        refine OpW.shift (Shift.pull (.there (.there (.there (.there (.there (.there .here)))))) (Shift.done ?_))
        refine OpW.shift (Shift.pull (.there (.there (.there (.there (.there (.there .here)))))) (Shift.done ?_))
        refine OpW.shift (Shift.pull (.there (.there (.there (.there .here)))) (Shift.done ?_))
        have hs893 := ((hp0_desk_waiting).mono hK288).mono hK749
        have hs894 := ((hp0_done).mono hK288).mono hK749
        refine OpW_call rfl Try.call78 rfl rfl (c_M_46z bp0 (Desk_work.mk (Desk.mk (setI p0.desk.chans p2.channel (Chan.mk x271.capacity x743 x271.closed)) p0.desk.waiting p0.desk.tick) p0.done) vp0_desk_chans (rsp0_desk_chans.set p2.channel.toNat (Chan.cells (Chan.mk x271.capacity x743 x271.closed) v745)) vp0_desk_waiting rsp0_desk_waiting vp0_done rsp0_done x283 p2.channel x845 x846 x847 hx848 _ _ hR752 hs893 hs894) ?_
        rintro _ K899 _ hK900 ⟨v895, rs896, v897, rs898, rfl, rfl, hs901, hs902⟩
        refine ⟨(Inc.cons (.tail _ (.tail _ (.tail _ (.tail _ (.tail _ (.head _)))))) (Inc.cons (.tail _ (.tail _ (.tail _ (.tail _ (.tail _ (.tail _ (.head _))))))) Inc.nil)), ?_⟩
        refine Aw_two 4 10 (by kernel_rfl) ?_ ?_
        ·skip
         have hs903 := (hR752).mono hK900
         refine id (Ax_mk rfl rfl (OpW_of_Qt rfl rfl (Qt_load1 (v := (sv v745)) rfl rfl rfl (Rd_row (T := TyChan) (.tail _ (.tail _ (.tail _ (.head _)))) hs903 hE753 rfl rfl)) ⟨(Inc.cons (.tail _ (.tail _ (.tail _ (.tail _ (.tail _ (.head _)))))) (Inc.cons (.tail _ (.tail _ (.tail _ (.tail _ (.tail _ (.tail _ (.head _))))))) Inc.nil)), ?_⟩))
         refine Aw_one 10 (by kernel_rfl) (Ax_mk rfl rfl ?_)
         have hR905 : RowR Ty.u64 K899 [[(.int .u64 x845)]] [x845] := RowR.cons rfl (RowR.nil)
         refine O_lit (T := Ty.u64) (rows := [[(.int .u64 x845)]]) (l := [x845]) rfl rfl rfl hR905 rfl rfl rfl rfl rfl rfl rfl rfl (fun v904 => ⟨(Inc.cons (.tail _ (.tail _ (.tail _ (.tail _ (.tail _ (.tail _ (.head _))))))) (Inc.cons (.tail _ (.tail _ (.tail _ (.tail _ (.tail _ (.tail _ (.tail _ (.head _)))))))) Inc.nil)), ?_⟩)
         refine Aw_one 11 (by kernel_rfl) (Ax_mk rfl rfl ?_)
         have hs910 := (hs750).mono hK900
         refine O_appTok (T := Ty.u64) (bytes := 8) (q := 0) rfl rfl rfl hs910 (.tail _ (.tail _ (.tail _ (.tail _ (.tail _ (.head _)))))) rfl (SrcT.row (.head _) hR905 rfl) hx862 rfl rfl rfl rfl rfl rfl rfl rfl (fun v906 K907 hK908 hs909 => ⟨_, (.there (.there (.there (.there (.there .here))))), ⟨(Inc.cons (.tail _ (.tail _ (.tail _ (.tail _ (.tail _ (.tail _ (.head _))))))) (Inc.cons (.tail _ (.tail _ (.tail _ (.tail _ (.tail _ (.tail _ (.tail _ (.head _)))))))) Inc.nil)), ?_⟩⟩)
         refine Aw.shift (Shift.rem .here (Shift.done ⟨(Inc.cons (.tail _ (.tail _ (.tail _ (.tail _ (.tail _ (.head _)))))) (Inc.cons (.tail _ (.tail _ (.tail _ (.tail _ (.tail _ (.tail _ (.head _))))))) Inc.nil)), ?_⟩))
         refine Aw_q 12 rfl (by kernel_rfl) (by kernel_rfl) (by kernel_rfl) rfl rfl rfl (Qt_nilCheck rfl) ?_
         refine Aw_q 13 rfl (by kernel_rfl) (by kernel_rfl) (by kernel_rfl) rfl rfl rfl (Qt_fieldAddr (m := 1) rfl rfl rfl rfl rfl) ?_
         refine Aw_one 14 (by kernel_rfl) (Ax_mk rfl rfl ?_)
         have hs911 := (hs903).mono hK908
         refine O_storeR (T := TyChan) (vs := [(sv v906)]) (r' := (Chan.cells (Chan.mk x271.capacity x861 x271.closed) v906)) (l' := (setI (setI p0.desk.chans p2.channel (Chan.mk x271.capacity x743 x271.closed)) p2.channel (Chan.mk x271.capacity x861 x271.closed))) rfl rfl rfl rfl rfl (.there (.there (.there .here))) hs911 hE753 rfl rfl rfl (RowR.set p2.channel hs911 ⟨v906, rfl, hs909⟩) (fun hR912 => ⟨(Inc.cons (.tail _ (.tail _ (.tail _ (.tail _ (.tail _ (.head _)))))) (Inc.cons (.tail _ (.tail _ (.tail _ (.tail _ (.tail _ (.tail _ (.head _))))))) Inc.nil)), ?_⟩)
         have hE913 := set_at hE753 (v := (Chan.cells (Chan.mk x271.capacity x861 x271.closed) v906))
         refine Aw_done (by kernel_rfl) ?_
         refine Shift.pull (.there (.there .here)) ?_
         refine Shift.pull (.there (.there .here)) ?_
         refine Shift.pull (.there (.there (.there .here))) ?_
         refine Shift.pull (.there (.there (.there (.there (.there .here))))) ?_
         refine Shift.pull (.there (.there (.there (.there .here)))) ?_
         refine Shift.rem (.there (.there (.there (.there (.there .here))))) ?_
         refine Shift.rem (.there (.there (.there (.there (.there .here))))) ?_
         have hs914 := (hs901).mono hK908
         have hs915 := (hs902).mono hK908
         refine Shift.done ?_
         exact ⟨[(6, (.pointer (some ((⟨b270, 0, none⟩ : Addr).add 0)))), (11, (.int .u64 x735))], ⟨rfl, rfl, trivial⟩, (setI (setI p0.desk.chans p2.channel (Chan.mk x271.capacity x743 x271.closed)) p2.channel (Chan.mk x271.capacity x861 x271.closed)), ((rsp0_desk_chans.set p2.channel.toNat (Chan.cells (Chan.mk x271.capacity x743 x271.closed) v745)).set p2.channel.toNat (Chan.cells (Chan.mk x271.capacity x861 x271.closed) v906)), v895, x846, rs896, v897, x847, rs898, rfl, rfl, H, hR912, hs914, hs915⟩
        ·skip
         refine id (Ax_mk rfl rfl ?_)
         have hR917 : RowR Ty.u64 K899 [[(.int .u64 x845)]] [x845] := RowR.cons rfl (RowR.nil)
         refine O_lit (T := Ty.u64) (rows := [[(.int .u64 x845)]]) (l := [x845]) rfl rfl rfl hR917 rfl rfl rfl rfl rfl rfl rfl rfl (fun v916 => ⟨(Inc.cons (.tail _ (.tail _ (.tail _ (.tail _ (.tail _ (.tail _ (.head _))))))) (Inc.cons (.tail _ (.tail _ (.tail _ (.tail _ (.tail _ (.tail _ (.tail _ (.head _)))))))) Inc.nil)), ?_⟩)
         have hs918 := (hR752).mono hK900
         refine Aw_one 4 (by kernel_rfl) (Ax_mk rfl rfl (OpW_of_Qt rfl rfl (Qt_load1 (v := (sv v745)) rfl rfl rfl (Rd_row (T := TyChan) (.tail _ (.tail _ (.tail _ (.tail _ (.head _))))) hs918 hE753 rfl rfl)) ⟨(Inc.cons (.tail _ (.tail _ (.tail _ (.tail _ (.tail _ (.tail _ (.head _))))))) (Inc.cons (.tail _ (.tail _ (.tail _ (.tail _ (.tail _ (.tail _ (.tail _ (.head _)))))))) Inc.nil)), ?_⟩))
         refine Aw_one 11 (by kernel_rfl) (Ax_mk rfl rfl ?_)
         have hs923 := (hs750).mono hK900
         refine O_appTok (T := Ty.u64) (bytes := 8) (q := 0) rfl rfl rfl hs923 (.tail _ (.tail _ (.tail _ (.tail _ (.tail _ (.head _)))))) rfl (SrcT.row (.head _) hR917 rfl) hx862 rfl rfl rfl rfl rfl rfl rfl rfl (fun v919 K920 hK921 hs922 => ⟨_, (.there (.there (.there (.there (.there .here))))), ⟨(Inc.cons (.tail _ (.tail _ (.tail _ (.tail _ (.tail _ (.tail _ (.head _))))))) (Inc.cons (.tail _ (.tail _ (.tail _ (.tail _ (.tail _ (.tail _ (.tail _ (.head _)))))))) Inc.nil)), ?_⟩⟩)
         refine Aw.shift (Shift.rem .here (Shift.done ⟨(Inc.cons (.tail _ (.tail _ (.tail _ (.tail _ (.tail _ (.head _)))))) (Inc.cons (.tail _ (.tail _ (.tail _ (.tail _ (.tail _ (.tail _ (.head _))))))) Inc.nil)), ?_⟩))
         refine Aw_q 12 rfl (by kernel_rfl) (by kernel_rfl) (by kernel_rfl) rfl rfl rfl (Qt_nilCheck rfl) ?_
         refine Aw_q 13 rfl (by kernel_rfl) (by kernel_rfl) (by kernel_rfl) rfl rfl rfl (Qt_fieldAddr (m := 1) rfl rfl rfl rfl rfl) ?_
         refine Aw_one 14 (by kernel_rfl) (Ax_mk rfl rfl ?_)
         have hs924 := (hs918).mono hK921
         refine O_storeR (T := TyChan) (vs := [(sv v919)]) (r' := (Chan.cells (Chan.mk x271.capacity x861 x271.closed) v919)) (l' := (setI (setI p0.desk.chans p2.channel (Chan.mk x271.capacity x743 x271.closed)) p2.channel (Chan.mk x271.capacity x861 x271.closed))) rfl rfl rfl rfl rfl (.there (.there (.there .here))) hs924 hE753 rfl rfl rfl (RowR.set p2.channel hs924 ⟨v919, rfl, hs922⟩) (fun hR925 => ⟨(Inc.cons (.tail _ (.tail _ (.tail _ (.tail _ (.tail _ (.head _)))))) (Inc.cons (.tail _ (.tail _ (.tail _ (.tail _ (.tail _ (.tail _ (.head _))))))) Inc.nil)), ?_⟩)
         have hE926 := set_at hE753 (v := (Chan.cells (Chan.mk x271.capacity x861 x271.closed) v919))
         refine Aw_done (by kernel_rfl) ?_
         refine Shift.pull (.there (.there .here)) ?_
         refine Shift.pull (.there (.there .here)) ?_
         refine Shift.pull (.there (.there (.there .here))) ?_
         refine Shift.pull (.there (.there (.there (.there (.there .here))))) ?_
         refine Shift.pull (.there (.there (.there (.there .here)))) ?_
         refine Shift.rem (.there (.there (.there (.there (.there .here))))) ?_
         refine Shift.rem (.there (.there (.there (.there (.there .here))))) ?_
         have hs927 := (hs901).mono hK921
         have hs928 := (hs902).mono hK921
         refine Shift.done ?_
         exact ⟨[(6, (.pointer (some ((⟨b270, 0, none⟩ : Addr).add 0)))), (11, (.int .u64 x735))], ⟨rfl, rfl, trivial⟩, (setI (setI p0.desk.chans p2.channel (Chan.mk x271.capacity x743 x271.closed)) p2.channel (Chan.mk x271.capacity x861 x271.closed)), ((rsp0_desk_chans.set p2.channel.toNat (Chan.cells (Chan.mk x271.capacity x743 x271.closed) v745)).set p2.channel.toNat (Chan.cells (Chan.mk x271.capacity x861 x271.closed) v919)), v895, x846, rs896, v897, x847, rs898, rfl, rfl, H, hR925, hs927, hs928⟩
      ·intro h844
       have h844 := dcd_f (h844)
       have H := iff_ h844 H
       refine Cw_skip ?_
       refine Shift.pull (.there (.there (.there (.there (.there (.there .here)))))) ?_
       refine Shift.pull (.there (.there (.there (.there (.there (.there .here)))))) ?_
       refine Shift.pull (.there (.there (.there (.there (.there (.there .here)))))) ?_
       refine Shift.pull (.there (.there (.there (.there (.there .here))))) ?_
       refine Shift.pull (.there (.there (.there (.there (.there .here))))) ?_
       refine Shift.rem (.there (.there (.there (.there (.there .here))))) ?_
       refine Shift.rem (.there (.there (.there (.there (.there .here))))) ?_
       have hs929 := ((hp0_desk_waiting).mono hK288).mono hK749
       have hs930 := ((hp0_done).mono hK288).mono hK749
       refine Shift.done ?_
       exact ⟨[(6, (.pointer (some ((⟨b270, 0, none⟩ : Addr).add 0)))), (11, (.int .u64 x735))], ⟨rfl, rfl, trivial⟩, (setI p0.desk.chans p2.channel (Chan.mk x271.capacity x743 x271.closed)), (rsp0_desk_chans.set p2.channel.toNat (Chan.cells (Chan.mk x271.capacity x743 x271.closed) v745)), vp0_desk_waiting, p0.desk.waiting, rsp0_desk_waiting, vp0_done, p0.done, rsp0_done, rfl, rfl, H, hR752, hs929, hs930⟩
     rintro _ K931 _ hK932 ⟨l833, rs835, v836, l837, rs839, v840, l841, rs843, rfl, rfl, H, hR834, hR838, hR842⟩
     unfold M_93z at H
     refine Cw_seq ?_
     refine Cw_region ?_
     refine Ow_q rfl rfl rfl (Qt_move rfl) ?_
     refine Ow_q rfl rfl rfl (Qt_build (cs := (Result.cells (Result.mk 2 0 x735 true 0))) rfl rfl rfl rfl rfl rfl) ?_
     refine Ow_cons rfl (OpW_store (vs := (Result.cells (Result.mk 2 0 x735 true 0))) (all' := (Result.cells (Result.mk 2 0 x735 true 0))) rfl rfl rfl rfl rfl (.there .here) rfl rfl rfl ?_)
     refine Ow_nil ?_
     refine Cw_ret ?_
     obtain ⟨ey0, ez0_chans, ez0_waiting, ez0_done⟩ := inj4 H
     subst y0 z0_chans z0_waiting z0_done
     refine ⟨(by first | exact .inl rfl | exact .inr rfl), [(.agg (Result.cells (Result.mk 2 0 x735 true 0)).toArray)], ⟨(.agg (Result.cells (Result.mk 2 0 x735 true 0)).toArray), _, rfl, ⟨_, 5, (Result.cells (Result.mk 2 0 x735 true 0)), rfl, rfl, rfl, rfl, ⟨rfl, Rdc.blk (.tail _ (.head _)) rfl⟩, rfl⟩, rfl⟩, ?_⟩
     refine Shift.pull (.there (.there (.there (.there .here)))) ?_
     refine Shift.pull (.there (.there (.there (.there .here)))) ?_
     refine Shift.pull (.there (.there (.there (.there .here)))) ?_
     refine Shift.pull (.there (.there (.there .here))) ?_
     refine Shift.rem (.there (.there (.there (.there .here)))) ?_
     refine Shift.done ?_
     exact ⟨vp0_desk_chans, rs835, v836, rs839, v840, rs843, rfl, rfl, hR834, hR838, hR842⟩
    ·intro h734
     have h734 := dcd_f (h734)
     have H := iff_ h734 H
     refine Cw_seq ?_
     refine Cw_region ?_
     refine Ow_q rfl rfl rfl (Qt_move rfl) ?_
     refine Ow_q rfl rfl rfl (Qt_cmp rfl rfl rfl) ?_
     refine Ow_q rfl rfl rfl (Qt_assign rfl) ?_
     refine Ow_nil ?_
     refine Cw_cond rfl ?_ ?_
     ·intro h933
      have h933 := dcd_t (h933)
      have H := ift h933 H
      refine Cw_seq ?_
      refine Cw_region ?_
      refine Ow_q rfl rfl rfl (Qt_move rfl) ?_
      refine Ow_q rfl rfl rfl (Qt_move rfl) ?_
      refine Ow_q rfl rfl rfl (Qt_fieldAddr (m := 1) rfl rfl rfl rfl rfl) ?_
      refine Ow_q rfl rfl rfl (Qt_load1 (v := (.int .i64 p2.channel)) rfl rfl rfl (Rdc.blk (.tail _ (.tail _ (.head _))) rfl)) ?_
      obtain ⟨x934, x935, x936, hx937, H⟩ := bnd3 H
      refine Ow.shift (Shift.pull (.there (.there (.there (.there (.there .here))))) (Shift.done ?_))
      refine Ow.shift (Shift.pull (.there (.there (.there (.there (.there .here))))) (Shift.done ?_))
      refine Ow.shift (Shift.pull (.there (.there (.there (.there (.there .here))))) (Shift.done ?_))
      refine Ow.shift (Shift.pull (.there (.there (.there .here))) (Shift.done ?_))
      have hs938 := (hp0_desk_waiting).mono hK288
      have hs939 := (hp0_done).mono hK288
      refine Ow_cons rfl (OpW_call rfl Try.call78 rfl rfl (c_M_46z bp0 p0 vp0_desk_chans rsp0_desk_chans vp0_desk_waiting rsp0_desk_waiting vp0_done rsp0_done x283 p2.channel x934 x935 x936 hx937 _ _ hs732 hs938 hs939) ?_)
      rintro _ K944 _ hK945 ⟨v940, rs941, v942, rs943, rfl, rfl, hs946, hs947⟩
      refine Ow_q rfl rfl rfl (Qt_build (cs := (Result.cells (Result.mk 2 0 x934 true 0))) rfl rfl rfl rfl rfl rfl) ?_
      refine Ow_cons rfl (OpW_store (vs := (Result.cells (Result.mk 2 0 x934 true 0))) (all' := (Result.cells (Result.mk 2 0 x934 true 0))) rfl rfl rfl rfl rfl (.there (.there (.there (.there .here)))) rfl rfl rfl ?_)
      refine Ow_nil ?_
      refine Cw_ret ?_
      obtain ⟨ey0, ez0_chans, ez0_waiting, ez0_done⟩ := inj4 H
      subst y0 z0_chans z0_waiting z0_done
      refine ⟨(by first | exact .inl rfl | exact .inr rfl), [(.agg (Result.cells (Result.mk 2 0 x934 true 0)).toArray)], ⟨(.agg (Result.cells (Result.mk 2 0 x934 true 0)).toArray), _, rfl, ⟨_, 5, (Result.cells (Result.mk 2 0 x934 true 0)), rfl, rfl, rfl, rfl, ⟨rfl, Rdc.blk (.tail _ (.tail _ (.tail _ (.tail _ (.head _))))) rfl⟩, rfl⟩, rfl⟩, ?_⟩
      refine Shift.pull (.there (.there .here)) ?_
      refine Shift.pull (.there (.there .here)) ?_
      refine Shift.pull (.there (.there (.there .here))) ?_
      refine Shift.pull (.there (.there (.there .here))) ?_
      refine Shift.rem (.there (.there (.there (.there .here)))) ?_
      refine Shift.rem (.there (.there (.there (.there .here)))) ?_
      have hs948 := (hs732).mono hK945
      refine Shift.done ?_
      exact ⟨vp0_desk_chans, rsp0_desk_chans, v940, rs941, v942, rs943, rfl, rfl, hs948, hs946, hs947⟩
     ·intro h933
      have h933 := dcd_f (h933)
      have H := iff_ h933 H
      refine Cw_skip ?_
      refine Cw_seq ?_
      refine Cw_region ?_
      refine Ow_q rfl rfl rfl (Qt_build (cs := (Result.cells (Result.mk 2 0 0 false 0))) rfl rfl rfl rfl rfl rfl) ?_
      refine Ow_cons rfl (OpW_store (vs := (Result.cells (Result.mk 2 0 0 false 0))) (all' := (Result.cells (Result.mk 2 0 0 false 0))) rfl rfl rfl rfl rfl (.there .here) rfl rfl rfl ?_)
      refine Ow_nil ?_
      refine Cw_ret ?_
      obtain ⟨ey0, ez0_chans, ez0_waiting, ez0_done⟩ := inj4 H
      subst y0 z0_chans z0_waiting z0_done
      refine ⟨(by first | exact .inl rfl | exact .inr rfl), [(.agg (Result.cells (Result.mk 2 0 0 false 0)).toArray)], ⟨(.agg (Result.cells (Result.mk 2 0 0 false 0)).toArray), _, rfl, ⟨_, 5, (Result.cells (Result.mk 2 0 0 false 0)), rfl, rfl, rfl, rfl, ⟨rfl, Rdc.blk (.tail _ (.head _)) rfl⟩, rfl⟩, rfl⟩, ?_⟩
      refine Shift.pull (.there (.there (.there (.there (.there .here))))) ?_
      refine Shift.pull (.there (.there (.there (.there (.there .here))))) ?_
      refine Shift.pull (.there (.there (.there (.there (.there .here))))) ?_
      refine Shift.pull (.there (.there (.there .here))) ?_
      refine Shift.rem (.there (.there (.there (.there .here)))) ?_
      refine Shift.rem (.there (.there (.there (.there .here)))) ?_
      have hs949 := (hp0_desk_waiting).mono hK288
      have hs950 := (hp0_done).mono hK288
      refine Shift.done ?_
      exact ⟨vp0_desk_chans, rsp0_desk_chans, vp0_desk_waiting, rsp0_desk_waiting, vp0_done, rsp0_done, rfl, rfl, hs732, hs949, hs950⟩



end Go.Hx
