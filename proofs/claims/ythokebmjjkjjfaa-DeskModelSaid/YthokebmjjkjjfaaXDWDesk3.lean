/- Printed by program. -/
import Derived.Test.YthokebmjjkjjfaaXDM
import Derived.Test.YthokebmjjkjjfaaXDWSlices
import Derived.Test.YthokebmjjkjjfaaXDWCases
namespace Go.Hx
open Go Go.Proofs
set_option linter.unusedSimpArgs false
set_option linter.unusedVariables false
set_option maxRecDepth 10000
set_option maxHeartbeats 1000000 in
theorem c_M_127z (p0 : Desk) (vp0_chans : SV) (vp0_waiting : SV) (p1 : Int) (p2 : Case) (y0 : Int) (H : M_127z p0 p1 p2 = some y0) (K : Kp) (G : List Ent) (hp0_chans : Slr TyChan K (sv vp0_chans) p0.chans) (hp0_waiting : Slr TyWaiter K (sv vp0_waiting) p0.waiting) :
  Fc Try.prog 40 #[(.agg (Desk.cells p0 vp0_chans vp0_waiting).toArray), (.int .i64 p1), (.agg (Case.cells p2).toArray)] K (G) (fun v K' G' => v = (.int .i64 y0) ∧ G = G') := by
 refine Fc_body Try.func40 rfl Try.ntmps40 Try.results40 rfl ?_
 unfold M_127z at H
 refine Cw_seq<|Cw_region<|?_
 refine Ow_cons rfl (OpW_box (cs := (Desk.cells p0 vp0_chans vp0_waiting)) rfl rfl rfl (fun b11 => ?_))
 refine Ow_cons rfl (OpW_box (cs := [(.int .i64 p1)]) rfl rfl rfl (fun b12 => ?_))
 refine Ow_cons rfl (OpW_box (cs := (Case.cells p2)) rfl rfl rfl (fun b13 => ?_))
 refine Ow_q rfl rfl rfl (Qt_assign rfl)<|Ow_nil<|Cw_seq<|Cw_seq<|Cw_region<|Ow_q rfl rfl rfl (Qt_loadA (m := 3) (cs := (Desk.cells p0 vp0_chans vp0_waiting)) rfl rfl rfl rfl ⟨rfl, Rdc.blk Mb2 rfl⟩)<|Ow_q rfl rfl rfl (Qt_fieldAddr (m := 1) rfl rfl rfl rfl rfl)<|Ow_q rfl rfl rfl (Qt_load1 (v := (.int .i64 p2.channel)) rfl rfl rfl (Rdc.blk Mb0 rfl))<|?_
 obtain ⟨x17, hx18, H⟩ := bnd H
 refine Ow_cons rfl (OpW_call rfl Try.call45 rfl rfl (c_M_42z p0 vp0_chans vp0_waiting p2.channel x17 hx18 _ _ hp0_chans hp0_waiting) ?_)
 rintro _ _ _ - ⟨rfl, rfl, rfl⟩
 refine Ow_q rfl rfl rfl (Qt_not rfl)<|Ow_nil<|?_
 refine Cw_cond rfl ?_ ?_
 ·intro h19
  have h19 := nt_t (h19)
  have H := iff_ (btf h19) H
  refine Cw_seq<|Cw_region<|Ow_q rfl rfl rfl (Qt_assign rfl)<|Ow_nil<|Cw_ret<|?_
  obtain ey0 := inj1 H
  subst y0
  refine ⟨(by first | exact .inl rfl | exact .inr rfl), [(.int .i64 (-1))], ⟨(.int .i64 (-1)), _, rfl, rfl, rfl⟩, ?_⟩
  refine Re0<|Re0<|Re0<|Shift.done<|?_
  exact ⟨rfl, rfl⟩
 ·intro h19
  have h19 := nt_f (h19)
  have H := ift h19 H
  refine Cw_skip<|Cw_seq<|Cw_region<|Ow_q rfl rfl rfl (Qt_fieldAddr (m := 1) rfl rfl rfl rfl rfl)<|Ow_q rfl rfl rfl (Qt_load1 (v := (sv vp0_waiting)) rfl rfl rfl (Rdc.blk Mb2 rfl))<|Ow_q rfl rfl rfl (Qt_makeFunc rfl rfl)<|?_
  obtain ⟨x20, hx21, H⟩ := bnd H
  refine Ow.shift (Pu1 (Shift.done ?_))
  refine Ow.shift (Pu1 (Shift.done ?_))
  refine Ow_cons rfl (OpW_call rfl Try.call68 rfl rfl (c_M_126z p0.waiting vp0_waiting b13 p2 b12 p1 x20 hx21 _ _ hp0_waiting) ?_)
  rintro _ K22 _ hK23 ⟨rfl, rfl⟩
  refine Ow_q rfl rfl rfl (Qt_assign rfl)<|Ow_nil<|Cw_ret<|?_
  obtain ey0 := inj1 H
  subst y0
  refine ⟨(by first | exact .inl rfl | exact .inr rfl), [(.int .i64 x20)], ⟨(.int .i64 x20), _, rfl, rfl, rfl⟩, ?_⟩
  refine Re0<|Re0<|Re0<|Shift.done<|?_
  exact ⟨rfl, rfl⟩

set_option maxHeartbeats 1000000 in
theorem c_M_77z (p0 : Desk) (vp0_chans : SV) (vp0_waiting : SV) (p1 : Int) (p2 : Case) (y0 : Bool) (H : M_77z p0 p1 p2 = some y0) (K : Kp) (G : List Ent) (hp0_chans : Slr TyChan K (sv vp0_chans) p0.chans) (hp0_waiting : Slr TyWaiter K (sv vp0_waiting) p0.waiting) :
  Fc Try.prog 16 #[(.agg (Desk.cells p0 vp0_chans vp0_waiting).toArray), (.int .i64 p1), (.agg (Case.cells p2).toArray)] K (G) (fun v K' G' => v = (.bool y0) ∧ G = G') := by
 refine Fc_body Try.func16 rfl Try.ntmps16 Try.results16 rfl ?_
 unfold M_77z at H
 refine Cw_seq<|Cw_region<|?_
 refine Ow_cons rfl (OpW_box (cs := (Desk.cells p0 vp0_chans vp0_waiting)) rfl rfl rfl (fun b10 => ?_))
 refine Ow_cons rfl (OpW_box (cs := (Case.cells p2)) rfl rfl rfl (fun b11 => ?_))
 refine Ow_q rfl rfl rfl (Qt_assign rfl)<|Ow_nil<|Cw_seq<|Cw_region<|Ow_q rfl rfl rfl (Qt_fieldAddr (m := 0) rfl rfl rfl rfl rfl)<|Ow_q rfl rfl rfl (Qt_load1 (v := (sv vp0_chans)) rfl rfl rfl (Rdc.blk Mb1 rfl))<|Ow_q rfl rfl rfl (Qt_loadA (m := 3) (cs := (Case.cells p2)) rfl rfl rfl rfl ⟨rfl, Rdc.blk Mb0 rfl⟩)<|?_
 obtain ⟨x19, hx20, H⟩ := bnd H
 refine Ow_cons rfl (OpW_call rfl Try.call39 rfl rfl (c_M_47z p0.chans vp0_chans p2 x19 hx20 _ _ hp0_chans) ?_)
 rintro _ _ _ - ⟨rfl, rfl, rfl⟩
 refine Ow_q rfl rfl rfl (Qt_move rfl) ?_
 refine Ow_caseG rfl rfl rfl ?_ ?_
 ·intro h21
  have H := ift h21 H
  refine Ow_pass rfl rfl rfl rfl rfl rfl rfl<|Ow_pass rfl rfl rfl rfl rfl rfl rfl<|Ow_pass rfl rfl rfl rfl rfl rfl rfl<|Ow_pass rfl rfl rfl rfl rfl rfl rfl<|Ow_pass rfl rfl rfl rfl rfl rfl rfl<|Ow_q rfl rfl rfl (Qt_pick_t rfl rfl)<|Ow_q rfl rfl rfl (Qt_assign rfl)<|Ow_nil<|Cw_ret<|?_
  obtain ey0 := inj1 H
  subst y0
  refine ⟨(by first | exact .inl rfl | exact .inr rfl), [(.bool true)], ⟨(.bool true), _, rfl, rfl, rfl⟩, ?_⟩
  refine Re0<|Re0<|Shift.done<|?_
  exact ⟨rfl, rfl⟩
 ·intro h21
  have H := iff_ (btf h21) H
  refine Ow_qw rfl rfl rfl rfl rfl rfl (Qt_loadA (m := 3) (cs := (Desk.cells p0 vp0_chans vp0_waiting)) rfl rfl rfl rfl ⟨rfl, Rdc.blk Mb1 rfl⟩)<|Ow_qw rfl rfl rfl rfl rfl rfl (Qt_move rfl)<|Ow_qw rfl rfl rfl rfl rfl rfl (Qt_loadA (m := 3) (cs := (Case.cells p2)) rfl rfl rfl rfl ⟨rfl, Rdc.blk Mb0 rfl⟩)<|?_
  obtain ⟨x22, hx23, H⟩ := bnd H
  refine Ow_want rfl rfl rfl rfl (OpW_call rfl Try.call40 rfl rfl (c_M_127z p0 vp0_chans vp0_waiting p1 p2 x22 hx23 _ _ hp0_chans hp0_waiting) ?_)
  rintro _ K24 _ hK25 ⟨rfl, rfl⟩
  refine Ow_qw rfl rfl rfl rfl rfl rfl (Qt_cmp rfl rfl rfl)<|Ow_q rfl rfl rfl (Qt_pick_f rfl rfl)<|Ow_q rfl rfl rfl (Qt_assign rfl)<|Ow_nil<|Cw_ret<|?_
  obtain ey0 := inj1 H
  subst y0
  refine ⟨(by first | exact .inl rfl | exact .inr rfl), [(.bool (dcd (x22 ≥ 0)))], ⟨(.bool (dcd (x22 ≥ 0))), _, rfl, rfl, rfl⟩, ?_⟩
  refine Re0<|Re0<|Shift.done<|?_
  exact ⟨rfl, rfl⟩

set_option maxHeartbeats 1000000 in
theorem c_M_129z (p0 : Desk) (vp0_chans : SV) (vp0_waiting : SV) (p1 : Int) (p2 : Op) (vp2_cases : SV) (vp2_draws : SV) (y0 : Int) (H : M_129z p0 p1 p2 = some y0) (K : Kp) (G : List Ent) (hp0_chans : Slr TyChan K (sv vp0_chans) p0.chans) (hp0_waiting : Slr TyWaiter K (sv vp0_waiting) p0.waiting) (hp2_cases : Slr TyCase K (sv vp2_cases) p2.cases) (hp2_draws : Slr Ty.i64 K (sv vp2_draws) p2.draws) :
  Fc Try.prog 18 #[(.agg (Desk.cells p0 vp0_chans vp0_waiting).toArray), (.int .i64 p1), (.agg (Op.cells p2 vp2_cases vp2_draws).toArray)] K (G) (fun v K' G' => v = (.int .i64 y0) ∧ G = G') := by
 refine Fc_body Try.func18 rfl Try.ntmps18 Try.results18 rfl ?_
 unfold M_129z at H
 refine Cw_seq<|Cw_region<|?_
 refine Ow_cons rfl (OpW_box (cs := (Desk.cells p0 vp0_chans vp0_waiting)) rfl rfl rfl (fun b74 => ?_))
 refine Ow_cons rfl (OpW_box (cs := (Op.cells p2 vp2_cases vp2_draws)) rfl rfl rfl (fun b75 => ?_))
 refine Ow_q rfl rfl rfl (Qt_assign rfl)<|Ow_nil<|?_
 refine Cw_join (fun env' K' G' => [] = env' ∧ G = G' ∧ M_179z = some y0) ?_ ?_
 ·skip
  refine Cw_seq<|Cw_region<|Ow_q rfl rfl rfl (Qt_loadA (m := 7) (cs := (Op.cells p2 vp2_cases vp2_draws)) rfl rfl rfl rfl ⟨rfl, Rdc.blk Mb0 rfl⟩)<|?_
  obtain ⟨x145, hx146, H⟩ := bnd H
  refine Ow_cons rfl (OpW_call rfl Try.call43 rfl rfl (c_M_124z p2 vp2_cases vp2_draws x145 hx146 _ _ hp2_cases hp2_draws) ?_)
  rintro _ K149 _ hK150 ⟨v147, rs148, rfl, rfl, hs151⟩
  refine Ow_q rfl rfl rfl (Q_lenR (T := Ty.i64) Mb0 hs151 rfl rfl rfl)<|Ow_q rfl rfl rfl (Qt_move rfl)<|Ow_nil<|Cw_block<|?_
  refine Cw_loopM (fun n214 env' K' G' => ∃ (i213 : Int), [(1, (.int .i64 p1)), (3, (.pointer (some ((⟨b74, 0, none⟩ : Addr).add 0)))), (5, (.pointer (some ((⟨b75, 0, none⟩ : Addr).add 0)))), (10, (sv v147)), (11, (.int .i64 (x145.length : Int))), (12, (.int .i64 i213))] = env' ∧ (.blk b75 41 (Op.cells p2 vp2_cases vp2_draws)) :: (.blk b74 34 (Desk.cells p0 vp0_chans vp0_waiting)) :: (.row (sv v147) 3 1 rs148.flatten) :: G = G' ∧ lp1 (M_128z p1 x145 p2 p0) n214 i213 = some y0) BIG ?_ ?_
  ·skip
   refine Pu2<|Pu2<|Shift.done<|?_
   exact ⟨_, by exact ⟨rfl, rfl, rfl, rfl, rfl, rfl, trivial⟩, 0, rfl, rfl, H⟩
  rintro n214 _ K215 _ hK216 ⟨i213, rfl, rfl, H⟩
  obtain ⟨m217, k218, rfl, hkk219, H⟩ := lps1 H
  unfold M_128z at H
  refine Cw_seq<|Cw_region<|Ow_q rfl rfl rfl (Qt_cmp rfl rfl rfl)<|Ow_nil<|Cw_seq<|?_
  refine Cw_cond rfl ?_ ?_
  ·intro h221
   have h221 := dcd_t (h221)
   have H := ift h221 H
   refine Cw_skip<|Cw_seq<|Cw_block<|Cw_seq<|Cw_region<|?_
   obtain ⟨x249, hx250, H⟩ := bnd H
   have hs251 := (hs151).mono hK216
   obtain ⟨r252, hq253, hr254⟩ := RowR.at hs251 hx250
   obtain rfl := hr254
   refine Ow_q rfl rfl rfl (Q_ixR (T := Ty.i64) Mb2 hs251 hq253 (getI_ix hx250).1 rfl rfl rfl rfl rfl)<|Ow_q rfl rfl rfl (Qt_load1 (v := (.int .i64 x249)) rfl rfl rfl (Rd_row (T := Ty.i64) Mb2 hs251 hq253 rfl rfl))<|Ow_q rfl rfl rfl (Qt_assign rfl)<|Ow_nil<|Cw_seq<|?_
   obtain ⟨x255, hx256, H⟩ := bnd H
   obtain ⟨x261, hx262, H⟩ := bnd H
   refine Cw_region_any [.blk b75 41 (Op.cells p2 vp2_cases vp2_draws), .blk b74 34 (Desk.cells p0 vp0_chans vp0_waiting), .row (sv v147) 3 1 rs148.flatten] rfl (Inc.cons Mb0 (Inc.cons Mb1 (Inc.cons Mb2 Inc.nil)))<|Awq 0 rfl (by kernel_rfl) rfl rfl rfl (Qt_loadA (m := 3) (cs := (Desk.cells p0 vp0_chans vp0_waiting)) rfl rfl rfl rfl ⟨rfl, Rdc.blk Mb1 rfl⟩)<|Awq 1 rfl (by kernel_rfl) rfl rfl rfl (Qt_move rfl)<|Awq 2 rfl (by kernel_rfl) rfl rfl rfl (Qt_fieldAddr (m := 5) rfl rfl rfl rfl rfl)<|Awq 3 rfl (by kernel_rfl) rfl rfl rfl (Qt_load1 (v := (sv vp2_cases)) rfl rfl rfl (Rdc.blk Mb0 rfl))<|Awq 4 rfl (by kernel_rfl) rfl rfl rfl (Qt_move rfl)<|?_
   have hs267 := ((hp2_cases).mono hK150).mono hK216
   obtain ⟨r268, hr269, hk270⟩ := Slr.at hs267 hx256
   obtain rfl := hr269
   refine Awq 5 rfl (by kernel_rfl) rfl rfl rfl (Q_ix (T := TyCase) hs267 hx256 rfl rfl rfl rfl rfl)<|Awq 6 rfl (by kernel_rfl) rfl rfl rfl (Qt_loadA (m := 3) (cs := (Case.cells x255)) rfl rfl rfl rfl ⟨rfl, Rdc.k hk270 rfl⟩)<|?_
   refine Aw_one 7 (by kernel_rfl) (Ax_mk rfl rfl ?_)
   have hs271 := ((hp0_chans).mono hK150).mono hK216
   have hs272 := ((hp0_waiting).mono hK150).mono hK216
   refine OpW_call rfl Try.call16 rfl rfl (c_M_77z p0 vp0_chans vp0_waiting p1 x255 x261 hx262 _ _ hs271 hs272) ?_
   rintro _ K273 _ hK274 ⟨rfl, rfl⟩
   refine ⟨(Inc.cons Mb0 (Inc.cons Mb1 (Inc.cons Mb2 Inc.nil))), ?_⟩
   refine Aw_done (by kernel_rfl) ?_
   refine Cw_cond rfl ?_ ?_
   ·intro h275
    have H := ift h275 H
    refine Cw_seq<|Cw_region<|Ow_q rfl rfl rfl (Qt_move rfl)<|Ow_q rfl rfl rfl (Qt_assign rfl)<|Ow_nil<|Cw_ret<|?_
    obtain ey0 := inj1 H
    subst y0
    refine ⟨(by first | exact .inl rfl | exact .inr rfl), [(.int .i64 x249)], ⟨(.int .i64 x249), _, rfl, rfl, rfl⟩, ?_⟩
    refine Re0<|Re0<|Re0<|Shift.done<|?_
    exact ⟨rfl, rfl⟩
   ·intro h275
    have H := iff_ (btf h275) H
    refine Cw_skip<|Cw_region<|Ow_q rfl rfl rfl (Qt_arith (e := wI (i213 + 1)) rfl rfl rfl rfl)<|Ow_q rfl rfl rfl (Qt_move rfl)<|Ow_nil<|Pu2<|Pu2<|Pu2<|Shift.done<|?_
    exact ⟨_, by exact ⟨rfl, rfl, rfl, rfl, rfl, rfl, trivial⟩, _, Nat.lt_succ_self _, (wI (i213 + 1)), rfl, rfl, (hkk219 ▸ H)⟩
  ·intro h221
   have h221 := dcd_f (h221)
   have H := iff_ h221 H
   refine Cw_exit<|Re0<|Re0<|Re0<|Shift.done<|?_
   exact ⟨[], trivial, rfl, rfl, H⟩
 rintro _ K276 _ hK277 ⟨rfl, rfl, H⟩
 unfold M_179z at H
 refine Cw_seq<|Cw_region<|Ow_q rfl rfl rfl (Qt_assign rfl)<|Ow_nil<|Cw_ret<|?_
 obtain ey0 := inj1 H
 subst y0
 refine ⟨(by first | exact .inl rfl | exact .inr rfl), [(.int .i64 (-1))], ⟨(.int .i64 (-1)), _, rfl, rfl, rfl⟩, ?_⟩
 exact Shift.done ⟨rfl, rfl⟩

set_option maxHeartbeats 1000000 in
theorem c_M_130z (p0 : Desk) (vp0_chans : SV) (rsp0_chans : List (List Value)) (vp0_waiting : SV) (rsp0_waiting : List (List Value)) (p1 : Int) (y0 : Bool) (H : M_130z p0 p1 = some y0) (K : Kp) (G : List Ent) (hp0_chans : RowR TyChan K rsp0_chans p0.chans) (hp0_waiting : RowR TyWaiter K rsp0_waiting p0.waiting) :
  Fc Try.prog 45 #[(.agg (Desk.cells p0 vp0_chans vp0_waiting).toArray), (.int .i64 p1)] K ((.row (sv vp0_chans) 71 3 rsp0_chans.flatten) :: (.row (sv vp0_waiting) 52 8 rsp0_waiting.flatten) :: G) (fun v K' G' => v = (.bool y0) ∧ K = K' ∧ (.row (sv vp0_chans) 71 3 rsp0_chans.flatten) :: (.row (sv vp0_waiting) 52 8 rsp0_waiting.flatten) :: G = G') := by
 refine Fc_body Try.func45 rfl Try.ntmps45 Try.results45 rfl ?_
 unfold M_130z at H
 refine Cw_seq<|Cw_region<|?_
 refine Ow_cons rfl (OpW_box (cs := (Desk.cells p0 vp0_chans vp0_waiting)) rfl rfl rfl (fun b3 => ?_))
 refine Ow_q rfl rfl rfl (Qt_assign rfl)<|Ow_nil<|Cw_seq<|Cw_region<|Ow_q rfl rfl rfl (Qt_move rfl)<|Ow_q rfl rfl rfl (Qt_cmp rfl rfl rfl)<|Ow_q rfl rfl rfl (Qt_move rfl)<|?_
 refine Ow_caseG rfl rfl rfl ?_ ?_
 ·intro h5
  have h5 := dcd_t (h5)
  have H := ift h5 H
  refine Ow_qw rfl rfl rfl rfl rfl rfl (Qt_move rfl)<|Ow_qw rfl rfl rfl rfl rfl rfl (Qt_fieldAddr (m := 0) rfl rfl rfl rfl rfl)<|Ow_qw rfl rfl rfl rfl rfl rfl (Qt_load1 (v := (sv vp0_chans)) rfl rfl rfl (Rdc.blk Mb0 rfl))<|Ow_qw rfl rfl rfl rfl rfl rfl (Q_lenR (T := TyChan) Mb1 hp0_chans rfl rfl rfl)<|Ow_qw rfl rfl rfl rfl rfl rfl (Qt_cmp rfl rfl rfl)<|Ow_q rfl rfl rfl (Qt_pick_t rfl rfl)<|Ow_q rfl rfl rfl (Qt_assign rfl)<|Ow_nil<|Cw_ret<|?_
  obtain ey0 := inj1 H
  subst y0
  refine ⟨(by first | exact .inl rfl | exact .inr rfl), [(.bool (dcd (p1 < (p0.chans.length : Int))))], ⟨(.bool (dcd (p1 < (p0.chans.length : Int)))), _, rfl, rfl, rfl⟩, ?_⟩
  refine Pu2<|Pu2<|Re2<|Shift.done<|?_
  exact ⟨rfl, rfl, rfl⟩
 ·intro h5
  have h5 := dcd_f (h5)
  have H := iff_ h5 H
  refine Ow_pass rfl rfl rfl rfl rfl rfl rfl<|Ow_pass rfl rfl rfl rfl rfl rfl rfl<|Ow_pass rfl rfl rfl rfl rfl rfl rfl<|Ow_pass rfl rfl rfl rfl rfl rfl rfl<|Ow_pass rfl rfl rfl rfl rfl rfl rfl<|Ow_q rfl rfl rfl (Qt_pick_f rfl rfl)<|Ow_q rfl rfl rfl (Qt_assign rfl)<|Ow_nil<|Cw_ret<|?_
  obtain ey0 := inj1 H
  subst y0
  refine ⟨(by first | exact .inl rfl | exact .inr rfl), [(.bool false)], ⟨(.bool false), _, rfl, rfl, rfl⟩, ?_⟩
  refine Pu2<|Pu2<|Re2<|Shift.done<|?_
  exact ⟨rfl, rfl, rfl⟩

set_option maxHeartbeats 1000000 in
theorem c_M_78z (p0 : Desk) (vp0_chans : SV) (rsp0_chans : List (List Value)) (vp0_waiting : SV) (rsp0_waiting : List (List Value)) (p1 : Int) (p2 : Case) (y0 : Int) (H : M_78z p0 p1 p2 = some y0) (K : Kp) (G : List Ent) (hp0_chans : RowR TyChan K rsp0_chans p0.chans) (hp0_waiting : RowR TyWaiter K rsp0_waiting p0.waiting) :
  Fc Try.prog 40 #[(.agg (Desk.cells p0 vp0_chans vp0_waiting).toArray), (.int .i64 p1), (.agg (Case.cells p2).toArray)] K ((.row (sv vp0_chans) 71 3 rsp0_chans.flatten) :: (.row (sv vp0_waiting) 52 8 rsp0_waiting.flatten) :: G) (fun v K' G' => v = (.int .i64 y0) ∧ (.row (sv vp0_chans) 71 3 rsp0_chans.flatten) :: (.row (sv vp0_waiting) 52 8 rsp0_waiting.flatten) :: G = G') := by
 refine Fc_body Try.func40 rfl Try.ntmps40 Try.results40 rfl ?_
 unfold M_78z at H
 refine Cw_seq<|Cw_region<|?_
 refine Ow_cons rfl (OpW_box (cs := (Desk.cells p0 vp0_chans vp0_waiting)) rfl rfl rfl (fun b11 => ?_))
 refine Ow_cons rfl (OpW_box (cs := [(.int .i64 p1)]) rfl rfl rfl (fun b12 => ?_))
 refine Ow_cons rfl (OpW_box (cs := (Case.cells p2)) rfl rfl rfl (fun b13 => ?_))
 refine Ow_q rfl rfl rfl (Qt_assign rfl)<|Ow_nil<|Cw_seq<|Cw_seq<|Cw_region<|Ow_q rfl rfl rfl (Qt_loadA (m := 3) (cs := (Desk.cells p0 vp0_chans vp0_waiting)) rfl rfl rfl rfl ⟨rfl, Rdc.blk Mb2 rfl⟩)<|Ow_q rfl rfl rfl (Qt_fieldAddr (m := 1) rfl rfl rfl rfl rfl)<|Ow_q rfl rfl rfl (Qt_load1 (v := (.int .i64 p2.channel)) rfl rfl rfl (Rdc.blk Mb0 rfl))<|?_
 obtain ⟨x17, hx18, H⟩ := bnd H
 refine Ow.shift (Pu4 (Shift.done ?_))
 refine Ow.shift (Pu4 (Shift.done ?_))
 refine Ow_cons rfl (OpW_call rfl Try.call45 rfl rfl (c_M_130z p0 vp0_chans rsp0_chans vp0_waiting rsp0_waiting p2.channel x17 hx18 _ _ hp0_chans hp0_waiting) ?_)
 rintro _ _ _ - ⟨rfl, rfl, rfl⟩
 refine Ow_q rfl rfl rfl (Qt_not rfl)<|Ow_nil<|?_
 refine Cw_cond rfl ?_ ?_
 ·intro h19
  have h19 := nt_t (h19)
  have H := iff_ (btf h19) H
  refine Cw_seq<|Cw_region<|Ow_q rfl rfl rfl (Qt_assign rfl)<|Ow_nil<|Cw_ret<|?_
  obtain ey0 := inj1 H
  subst y0
  refine ⟨(by first | exact .inl rfl | exact .inr rfl), [(.int .i64 (-1))], ⟨(.int .i64 (-1)), _, rfl, rfl, rfl⟩, ?_⟩
  refine Pu1<|Pu1<|Re2<|Re2<|Re2<|Shift.done<|?_
  exact ⟨rfl, rfl⟩
 ·intro h19
  have h19 := nt_f (h19)
  have H := ift h19 H
  refine Cw_skip<|Cw_seq<|Cw_region<|Ow_q rfl rfl rfl (Qt_fieldAddr (m := 1) rfl rfl rfl rfl rfl)<|Ow_q rfl rfl rfl (Qt_load1 (v := (sv vp0_waiting)) rfl rfl rfl (Rdc.blk Mb4 rfl))<|Ow_q rfl rfl rfl (Qt_makeFunc rfl rfl)<|?_
  obtain ⟨x20, hx21, H⟩ := bnd H
  refine Ow.shift (Pu3 (Shift.done ?_))
  refine Ow.shift (Pu3 (Shift.done ?_))
  refine Ow.shift (Pu3 (Shift.done ?_))
  refine Ow_cons rfl (OpW_call rfl Try.call68 rfl rfl (c_M_132z p0.waiting vp0_waiting rsp0_waiting b13 p2 b12 p1 x20 hx21 _ _ hp0_waiting) ?_)
  rintro _ K22 _ hK23 ⟨rfl, rfl⟩
  refine Ow_q rfl rfl rfl (Qt_assign rfl)<|Ow_nil<|Cw_ret<|?_
  obtain ey0 := inj1 H
  subst y0
  refine ⟨(by first | exact .inl rfl | exact .inr rfl), [(.int .i64 x20)], ⟨(.int .i64 x20), _, rfl, rfl, rfl⟩, ?_⟩
  refine Pu2<|Pu3<|Re2<|Re2<|Re2<|Shift.done<|?_
  exact ⟨rfl, rfl⟩

set_option maxHeartbeats 1000000 in
theorem c_M_79z (bp0 : Nat) (p0 : Desk_work) (vp0_desk_chans : SV) (rsp0_desk_chans : List (List Value)) (vp0_desk_waiting : SV) (rsp0_desk_waiting : List (List Value)) (vp0_done : SV) (rsp0_done : List (List Value)) (p1 : Int) (p2 : Int) (y0 : Int) (z0_waiting : List Waiter) (z0_done : List Done) (H : M_79z p0 p1 p2 = some (y0, z0_waiting, z0_done)) (K : Kp) (G : List Ent) (hp0_desk_chans : RowR TyChan K rsp0_desk_chans p0.desk.chans) (hp0_desk_waiting : RowR TyWaiter K rsp0_desk_waiting p0.desk.waiting) (hp0_done : RowR TyDone K rsp0_done p0.done) :
  Fc Try.prog 78 #[(.pointer (some ((⟨bp0, 0, none⟩ : Addr).add 0))), (.int .i64 p1), (.int .i64 p2)] K ((.blk bp0 92 (Desk_work.cells p0 vp0_desk_chans vp0_desk_waiting vp0_done)) :: (.row (sv vp0_desk_chans) 71 3 rsp0_desk_chans.flatten) :: (.row (sv vp0_desk_waiting) 52 8 rsp0_desk_waiting.flatten) :: (.row (sv vp0_done) 75 6 rsp0_done.flatten) :: G) (fun v K' G' => ∃ (wz0_waiting : SV) (rswz0_waiting : List (List Value)) (wz0_done : SV) (rswz0_done : List (List Value)), v = (.int .u64 y0) ∧ (.blk bp0 92 (Desk_work.cells (Desk_work.mk (Desk.mk p0.desk.chans z0_waiting p0.desk.tick) z0_done) vp0_desk_chans wz0_waiting wz0_done)) :: (.row (sv wz0_waiting) 52 8 rswz0_waiting.flatten) :: (.row (sv wz0_done) 75 6 rswz0_done.flatten) :: (.row (sv vp0_desk_chans) 71 3 rsp0_desk_chans.flatten) :: G = G' ∧ RowR TyWaiter K' rswz0_waiting z0_waiting ∧ RowR TyDone K' rswz0_done z0_done) := by
 refine Fc_body Try.func78 rfl Try.ntmps78 Try.results78 rfl ?_
 unfold M_79z at H
 refine Cw_seq<|Cw_region<|Ow_q rfl rfl rfl (Qt_assign rfl)<|Ow_nil<|Cw_seq<|Cw_region<|Ow_q rfl rfl rfl (Qt_move rfl)<|Ow_q rfl rfl rfl (Qt_nilCheck rfl)<|Ow_q rfl rfl rfl (Qt_fieldAddr (m := 0) rfl rfl rfl rfl rfl)<|Ow_q rfl rfl rfl (Qt_fieldAddr (m := 1) rfl rfl rfl rfl rfl)<|?_
 refine Ow_q rfl rfl rfl (Qt_load1 (v := (sv vp0_desk_waiting)) rfl rfl rfl (Rdc.blk Mb0 rfl))<|Ow_q rfl rfl rfl (Qt_move rfl)<|?_
 obtain ⟨x43, hx44, H⟩ := bnd H
 obtain ⟨r45, hq46, hr47⟩ := RowR.at hp0_desk_waiting hx44
 obtain ⟨v48, v49, rfl, hs50, hs51⟩ := hr47
 refine Ow_q rfl rfl rfl (Q_ixR (T := TyWaiter) Mb2 hp0_desk_waiting hq46 (getI_ix hx44).1 rfl rfl rfl rfl rfl)<|Ow_q rfl rfl rfl (Qt_fieldAddr (m := 1) rfl rfl rfl rfl rfl)<|Ow_q rfl rfl rfl (Qt_loadA (m := 7) (cs := (Op.cells x43.op v48 v49)) rfl rfl rfl rfl ⟨rfl, Rd_row (T := TyWaiter) Mb2 hp0_desk_waiting hq46 rfl rfl⟩)<|?_
 refine Ow_cons rfl (OpW_alloc (cs := (Op.cells (Op.mk 0 0 0 0 0 [] []) nilS nilS)) rfl rfl rfl rfl (fun b52 => ?_))
 refine Ow_cons rfl (OpW_store (vs := (Op.cells x43.op v48 v49)) (all' := (Op.cells x43.op v48 v49)) rfl rfl rfl rfl rfl .here rfl rfl rfl ?_)
 refine Ow_nil<|Cw_seq<|Cw_region<|Ow_q rfl rfl rfl (Qt_loadA (m := 7) (cs := (Op.cells x43.op v48 v49)) rfl rfl rfl rfl ⟨rfl, Rdc.blk Mb0 rfl⟩)<|Ow_q rfl rfl rfl (Qt_move rfl)<|?_
 obtain ⟨x53, x54, hx55, H⟩ := bnd2 H
 refine Ow_cons rfl (OpW_call rfl Try.call70 rfl rfl (c_M_24z x43.op v48 v49 p2 true x53 x54 hx55 _ _ hs50 hs51) ?_)
 rintro _ K56 _ hK57 ⟨rfl, rfl⟩
 refine Ow_q rfl rfl rfl (Qt_move rfl)<|Ow_q rfl rfl rfl (Qt_extract rfl rfl)<|Ow_q rfl rfl rfl (Qt_extract rfl rfl)<|Ow_q rfl rfl rfl (Qt_assign rfl)<|Ow_q rfl rfl rfl (Qt_assign rfl)<|Ow_nil<|Cw_seq<|Cw_region<|Ow_q rfl rfl rfl (Qt_loadA (m := 7) (cs := (Op.cells x43.op v48 v49)) rfl rfl rfl rfl ⟨rfl, Rdc.blk Mb0 rfl⟩)<|?_
 obtain ⟨x58, hx59, H⟩ := bnd H
 have hs60 := (hs50).mono hK57
 have hs61 := (hs51).mono hK57
 refine Ow_cons rfl (OpW_call rfl Try.call49 rfl rfl (c_M_43z x43.op v48 v49 x58 hx59 _ _ hs60 hs61) ?_)
 rintro _ K63 _ hK64 ⟨v62, rfl, rfl, hs65⟩
 refine Ow_q rfl rfl rfl (Qt_move rfl) ?_
 obtain ⟨x66, hx67, H⟩ := bnd H
 obtain ⟨r68, hr69, hk70⟩ := Slr.at hs65 hx67
 obtain rfl := hr69
 refine Ow_q rfl rfl rfl (Q_ix (T := TyCase) hs65 hx67 rfl rfl rfl rfl rfl)<|Ow_q rfl rfl rfl (Qt_fieldAddr (m := 2) rfl rfl rfl rfl rfl)<|Ow_q rfl rfl rfl (Qt_load1 (v := (.int .u64 x66.value)) rfl rfl rfl (Rdc.k hk70 rfl))<|Ow_q rfl rfl rfl (Qt_assign rfl)<|Ow_nil<|Cw_seq<|Cw_region<|Ow_q rfl rfl rfl (Qt_move rfl)<|Ow_q rfl rfl rfl (Qt_move rfl)<|Ow_q rfl rfl rfl (Qt_move rfl)<|?_
 refine Ow_q rfl rfl rfl (Qt_build (cs := (Result.cells (Result.mk 1 0 0 false 0))) rfl rfl rfl rfl rfl rfl) ?_
 obtain ⟨x71, x72, hx73, H⟩ := bnd2 H
 refine Ow.shift (Pu4 (Shift.done ?_))
 refine Ow.shift (Pu4 (Shift.done ?_))
 refine Ow.shift (Pu4 (Shift.done ?_))
 refine Ow.shift (Pu4 (Shift.done ?_))
 have hs74 := ((hp0_desk_chans).mono hK57).mono hK64
 have hs75 := ((hp0_desk_waiting).mono hK57).mono hK64
 have hs76 := ((hp0_done).mono hK57).mono hK64
 refine Ow_cons rfl (OpW_call rfl Try.call76 rfl rfl (c_M_45z bp0 p0 vp0_desk_chans rsp0_desk_chans vp0_desk_waiting rsp0_desk_waiting vp0_done rsp0_done p1 x53 (Result.mk 1 0 0 false 0) x71 x72 hx73 _ _ hs74 hs75 hs76) ?_)
 rintro _ K81 _ hK82 ⟨v77, rs78, v79, rs80, rfl, rfl, hs83, hs84⟩
 refine Ow_nil<|Cw_seq<|Cw_region<|Ow_q rfl rfl rfl (Qt_move rfl)<|Ow_q rfl rfl rfl (Qt_assign rfl)<|Ow_nil<|Cw_ret<|?_
 obtain ⟨ey0, ez0_waiting, ez0_done⟩ := inj3 H
 subst y0 z0_waiting z0_done
 refine ⟨(by first | exact .inl rfl | exact .inr rfl), [(.int .u64 x66.value)], ⟨(.int .u64 x66.value), _, rfl, rfl, rfl⟩, ?_⟩
 refine Pu3<|Pu3<|Pu3<|Pu3<|Re4<|Shift.done<|?_
 exact ⟨v77, rs78, v79, rs80, rfl, rfl, hs83, hs84⟩

set_option maxHeartbeats 1000000 in
theorem c_M_28z (bp0 : Nat) (p0 : Desk_work) (vp0_desk_chans : SV) (rsp0_desk_chans : List (List Value)) (vp0_desk_waiting : SV) (rsp0_desk_waiting : List (List Value)) (vp0_done : SV) (rsp0_done : List (List Value)) (p1 : Int) (p2 : Case) (y0 : Result) (z0_chans : List Chan) (z0_waiting : List Waiter) (z0_done : List Done) (H : M_28z p0 p1 p2 = some (y0, z0_chans, z0_waiting, z0_done)) (K : Kp) (G : List Ent) (hp0_desk_chans : RowR TyChan K rsp0_desk_chans p0.desk.chans) (hp0_desk_waiting : RowR TyWaiter K rsp0_desk_waiting p0.desk.waiting) (hp0_done : RowR TyDone K rsp0_done p0.done) :
  Fc Try.prog 48 #[(.pointer (some ((⟨bp0, 0, none⟩ : Addr).add 0))), (.int .i64 p1), (.agg (Case.cells p2).toArray)] K ((.blk bp0 92 (Desk_work.cells p0 vp0_desk_chans vp0_desk_waiting vp0_done)) :: (.row (sv vp0_desk_chans) 71 3 rsp0_desk_chans.flatten) :: (.row (sv vp0_desk_waiting) 52 8 rsp0_desk_waiting.flatten) :: (.row (sv vp0_done) 75 6 rsp0_done.flatten) :: G) (fun v K' G' => ∃ (wz0_chans : SV) (rswz0_chans : List (List Value)) (wz0_waiting : SV) (rswz0_waiting : List (List Value)) (wz0_done : SV) (rswz0_done : List (List Value)), v = (.agg (Result.cells y0).toArray) ∧ (.blk bp0 92 (Desk_work.cells (Desk_work.mk (Desk.mk z0_chans z0_waiting p0.desk.tick) z0_done) wz0_chans wz0_waiting wz0_done)) :: (.row (sv wz0_chans) 71 3 rswz0_chans.flatten) :: (.row (sv wz0_waiting) 52 8 rswz0_waiting.flatten) :: (.row (sv wz0_done) 75 6 rswz0_done.flatten) :: G = G' ∧ RowR TyChan K' rswz0_chans z0_chans ∧ RowR TyWaiter K' rswz0_waiting z0_waiting ∧ RowR TyDone K' rswz0_done z0_done) := by
 refine Fc_body Try.func48 rfl Try.ntmps48 Try.results48 rfl ?_
 unfold M_28z at H
 refine Cw_seq<|Cw_region<|?_
 refine Ow_cons rfl (OpW_box (cs := (Case.cells p2)) rfl rfl rfl (fun b269 => ?_))
 refine Ow_cons rfl (OpW_alloc (cs := (Result.cells (Result.mk 0 0 0 false 0))) rfl rfl rfl rfl (fun b270 => ?_))
 refine Ow_nil<|Cw_seq<|?_
 obtain ⟨x271, hx272, H⟩ := bnd H
 refine Cw_region_any [.blk b270 73 (Result.cells (Result.mk 0 0 0 false 0)), .blk b269 45 (Case.cells p2), .blk bp0 92 (Desk_work.cells p0 vp0_desk_chans vp0_desk_waiting vp0_done), .row (sv vp0_desk_chans) 71 3 rsp0_desk_chans.flatten, .row (sv vp0_desk_waiting) 52 8 rsp0_desk_waiting.flatten, .row (sv vp0_done) 75 6 rsp0_done.flatten] rfl (Inc.cons Mb0 (Inc.cons Mb1 (Inc.cons Mb2 (Inc.cons Mb3 (Inc.cons Mb4 (Inc.cons Mb5 Inc.nil))))))<|Awq 0 rfl (by kernel_rfl) rfl rfl rfl (Qt_move rfl)<|Awq 1 rfl (by kernel_rfl) rfl rfl rfl (Qt_nilCheck rfl)<|Awq 2 rfl (by kernel_rfl) rfl rfl rfl (Qt_fieldAddr (m := 0) rfl rfl rfl rfl rfl)<|Awq 3 rfl (by kernel_rfl) rfl rfl rfl (Qt_fieldAddr (m := 0) rfl rfl rfl rfl rfl)<|Awq 4 rfl (by kernel_rfl) rfl rfl rfl (Qt_load1 (v := (sv vp0_desk_chans)) rfl rfl rfl (Rdc.blk Mb2 rfl))<|Awq 5 rfl (by kernel_rfl) rfl rfl rfl (Qt_fieldAddr (m := 1) rfl rfl rfl rfl rfl)<|Awq 6 rfl (by kernel_rfl) rfl rfl rfl (Qt_load1 (v := (.int .i64 p2.channel)) rfl rfl rfl (Rdc.blk Mb1 rfl))<|?_
 obtain ⟨r278, hq279, hr280⟩ := RowR.at hp0_desk_chans hx272
 obtain ⟨v281, rfl, hs282⟩ := hr280
 refine Awq 7 rfl (by kernel_rfl) rfl rfl rfl (Q_ixR (T := TyChan) Mb3 hp0_desk_chans hq279 (getI_ix hx272).1 rfl rfl rfl rfl rfl)<|Awq 8 rfl (by kernel_rfl) rfl rfl rfl (Qt_assign rfl)<|Aw_done (by kernel_rfl)<|Cw_seq<|?_
 obtain ⟨x283, hx284, H⟩ := bnd H
 refine Cw_region_any [.blk b270 73 (Result.cells (Result.mk 0 0 0 false 0)), .blk b269 45 (Case.cells p2), .blk bp0 92 (Desk_work.cells p0 vp0_desk_chans vp0_desk_waiting vp0_done), .row (sv vp0_desk_chans) 71 3 rsp0_desk_chans.flatten, .row (sv vp0_desk_waiting) 52 8 rsp0_desk_waiting.flatten, .row (sv vp0_done) 75 6 rsp0_done.flatten] rfl (Inc.cons Mb0 (Inc.cons Mb1 (Inc.cons Mb2 (Inc.cons Mb3 (Inc.cons Mb4 (Inc.cons Mb5 Inc.nil))))))<|Awq 0 rfl (by kernel_rfl) rfl rfl rfl (Qt_move rfl)<|Awq 1 rfl (by kernel_rfl) rfl rfl rfl (Qt_nilCheck rfl)<|Awq 2 rfl (by kernel_rfl) rfl rfl rfl (Qt_fieldAddr (m := 0) rfl rfl rfl rfl rfl)<|Awq 3 rfl (by kernel_rfl) rfl rfl rfl (Qt_loadA (m := 3) (cs := (Desk.cells p0.desk vp0_desk_chans vp0_desk_waiting)) rfl rfl rfl rfl ⟨rfl, Rdc.blk Mb2 rfl⟩)<|Awq 4 rfl (by kernel_rfl) rfl rfl rfl (Qt_move rfl)<|Awq 5 rfl (by kernel_rfl) rfl rfl rfl (Qt_loadA (m := 3) (cs := (Case.cells p2)) rfl rfl rfl rfl ⟨rfl, Rdc.blk Mb1 rfl⟩)<|?_
 refine Aw_one 6 (by kernel_rfl) (Ax_mk rfl rfl ?_)
 refine OpW.shift (Pu4 (Shift.done ?_))
 refine OpW.shift (Pu4 (Shift.done ?_))
 refine OpW_call rfl Try.call40 rfl rfl (c_M_78z p0.desk vp0_desk_chans rsp0_desk_chans vp0_desk_waiting rsp0_desk_waiting p1 p2 x283 hx284 _ _ hp0_desk_chans hp0_desk_waiting) ?_
 rintro _ K287 _ hK288 ⟨rfl, rfl⟩
 refine ⟨(Inc.cons Mb2 (Inc.cons Mb3 (Inc.cons Mb4 (Inc.cons Mb0 (Inc.cons Mb1 (Inc.cons Mb5 Inc.nil)))))), ?_⟩
 refine Awq 7 rfl (by kernel_rfl) rfl rfl rfl (Qt_assign rfl)<|Aw_done (by kernel_rfl)<|Cw_seq<|Cw_block<|?_
 refine Cw_join (fun env' K' G' => ∃ (t539 : Bool), [(0, (.pointer (some ((⟨bp0, 0, none⟩ : Addr).add 0)))), (5, (.pointer (some ((⟨b269, 0, none⟩ : Addr).add 0)))), (6, (.pointer (some ((⟨b270, 0, none⟩ : Addr).add 0)))), (7, (.pointer (some ((elA (sv vp0_desk_chans) p2.channel.toNat 3).add 0)))), (8, (.int .i64 x283)), (27, (.bool t539))] = env' ∧ K287 = K' ∧ (.blk bp0 92 (Desk_work.cells p0 vp0_desk_chans vp0_desk_waiting vp0_done)) :: (.blk b270 73 (Result.cells (Result.mk 0 0 0 false 0))) :: (.blk b269 45 (Case.cells p2)) :: (.row (sv vp0_desk_chans) 71 3 rsp0_desk_chans.flatten) :: (.row (sv vp0_desk_waiting) 52 8 rsp0_desk_waiting.flatten) :: (.row (sv vp0_done) 75 6 rsp0_done.flatten) :: G = G' ∧ M_4z x271 p2 x283 p0 t539 = some (y0, z0_chans, z0_waiting, z0_done)) ?_ ?_
 ·skip
  refine Cw_region<|Ow_q rfl rfl rfl (Qt_fieldAddr (m := 0) rfl rfl rfl rfl rfl)<|Ow_q rfl rfl rfl (Qt_load1 (v := (.bool p2.send)) rfl rfl rfl (Rdc.blk Mb3 rfl))<|Ow_q rfl rfl rfl (Qt_move rfl)<|?_
  refine Ow_caseG rfl rfl rfl ?_ ?_
  ·intro h540
   have H := ift h540 H
   refine Ow_qw rfl rfl rfl rfl rfl rfl (Qt_move rfl)<|Ow_qw rfl rfl rfl rfl rfl rfl (Qt_nilCheck rfl)<|Ow_qw rfl rfl rfl rfl rfl rfl (Qt_fieldAddr (m := 2) rfl rfl rfl rfl rfl)<|?_
   have hs541 := (hp0_desk_chans).mono hK288
   refine Ow_qw rfl rfl rfl rfl rfl rfl (Qt_load1 (v := (.bool x271.closed)) rfl rfl rfl (Rd_row (T := TyChan) Mb0 hs541 hq279 rfl rfl))<|Ow_q rfl rfl rfl (Qt_pick_t rfl rfl)<|Ow_q rfl rfl rfl (Qt_assign rfl)<|Ow_nil<|Pu5<|Pu2<|Pu2<|Pu4<|Pu4<|Pu5<|?_
   exact Shift.done ⟨_, by exact ⟨rfl, rfl, rfl, rfl, rfl, rfl, trivial⟩, x271.closed, rfl, rfl, rfl, H⟩
  ·intro h540
   have H := iff_ (btf h540) H
   refine Ow_pass rfl rfl rfl rfl rfl rfl rfl<|Ow_pass rfl rfl rfl rfl rfl rfl rfl<|Ow_pass rfl rfl rfl rfl rfl rfl rfl<|Ow_pass rfl rfl rfl rfl rfl rfl rfl<|Ow_q rfl rfl rfl (Qt_pick_f rfl rfl)<|Ow_q rfl rfl rfl (Qt_assign rfl)<|Ow_nil<|Pu5<|Pu2<|Pu2<|?_
   refine Pu4<|Pu4<|Pu5<|Shift.done<|?_
   exact ⟨_, by exact ⟨rfl, rfl, rfl, rfl, rfl, rfl, trivial⟩, false, rfl, rfl, rfl, H⟩
 rintro _ _ _ - ⟨t539, rfl, rfl, rfl, H⟩
 unfold M_4z at H
 refine Cw_cond rfl ?_ ?_
 ·intro h542
  have H := ift h542 H
  refine Cw_seq<|Cw_region<|Ow_q rfl rfl rfl (Qt_build (cs := (Result.cells (Result.mk 5 0 0 false 0))) rfl rfl rfl rfl rfl rfl)<|?_
  refine Ow_cons rfl (OpW_store (vs := (Result.cells (Result.mk 5 0 0 false 0))) (all' := (Result.cells (Result.mk 5 0 0 false 0))) rfl rfl rfl rfl rfl (.there .here) rfl rfl rfl ?_)
  refine Ow_nil<|Cw_ret<|?_
  obtain ⟨ey0, ez0_chans, ez0_waiting, ez0_done⟩ := inj4 H
  subst y0 z0_chans z0_waiting z0_done
  refine ⟨(by first | exact .inl rfl | exact .inr rfl), [(.agg (Result.cells (Result.mk 5 0 0 false 0)).toArray)], ⟨(.agg (Result.cells (Result.mk 5 0 0 false 0)).toArray), _, rfl, ⟨_, 5, (Result.cells (Result.mk 5 0 0 false 0)), rfl, rfl, rfl, rfl, ⟨rfl, Rdc.blk Mb1 rfl⟩, rfl⟩, rfl⟩, ?_⟩
  refine Pu5<|Pu5<|Pu5<|Pu3<|Re4<|Re4<|?_
  have hs543 := (hp0_desk_chans).mono hK288
  have hs544 := (hp0_desk_waiting).mono hK288
  have hs545 := (hp0_done).mono hK288
  exact Shift.done ⟨vp0_desk_chans, rsp0_desk_chans, vp0_desk_waiting, rsp0_desk_waiting, vp0_done, rsp0_done, rfl, rfl, hs543, hs544, hs545⟩
 ·intro h542
  have H := iff_ (btf h542) H
  refine Cw_join (fun env' K' G' => ∃ (t547 : Bool), [(0, (.pointer (some ((⟨bp0, 0, none⟩ : Addr).add 0)))), (5, (.pointer (some ((⟨b269, 0, none⟩ : Addr).add 0)))), (6, (.pointer (some ((⟨b270, 0, none⟩ : Addr).add 0)))), (7, (.pointer (some ((elA (sv vp0_desk_chans) p2.channel.toNat 3).add 0)))), (8, (.int .i64 x283)), (37, (.bool t547))] = env' ∧ K287 = K' ∧ (.blk bp0 92 (Desk_work.cells p0 vp0_desk_chans vp0_desk_waiting vp0_done)) :: (.blk b270 73 (Result.cells (Result.mk 0 0 0 false 0))) :: (.blk b269 45 (Case.cells p2)) :: (.row (sv vp0_desk_chans) 71 3 rsp0_desk_chans.flatten) :: (.row (sv vp0_desk_waiting) 52 8 rsp0_desk_waiting.flatten) :: (.row (sv vp0_done) 75 6 rsp0_done.flatten) :: G = G' ∧ M_27z x271 p2 x283 p0 t547 = some (y0, z0_chans, z0_waiting, z0_done)) ?_ ?_
  ·skip
   refine Cw_region<|Ow_q rfl rfl rfl (Qt_fieldAddr (m := 0) rfl rfl rfl rfl rfl)<|Ow_q rfl rfl rfl (Qt_load1 (v := (.bool p2.send)) rfl rfl rfl (Rdc.blk Mb2 rfl))<|Ow_q rfl rfl rfl (Qt_move rfl)<|?_
   refine Ow_caseG rfl rfl rfl ?_ ?_
   ·intro h548
    have H := ift h548 H
    refine Ow_qw rfl rfl rfl rfl rfl rfl (Qt_move rfl)<|Ow_qw rfl rfl rfl rfl rfl rfl (Qt_cmp rfl rfl rfl)<|Ow_q rfl rfl rfl (Qt_pick_t rfl rfl)<|Ow_q rfl rfl rfl (Qt_assign rfl)<|Ow_nil<|Pu5<|Pu5<|Pu5<|Pu5<|Pu5<|?_
    refine Pu5<|Shift.done<|?_
    exact ⟨_, by exact ⟨rfl, rfl, rfl, rfl, rfl, rfl, trivial⟩, (dcd (x283 ≥ 0)), rfl, rfl, rfl, H⟩
   ·intro h548
    have H := iff_ (btf h548) H
    refine Ow_pass rfl rfl rfl rfl rfl rfl rfl<|Ow_pass rfl rfl rfl rfl rfl rfl rfl<|Ow_q rfl rfl rfl (Qt_pick_f rfl rfl)<|Ow_q rfl rfl rfl (Qt_assign rfl)<|Ow_nil<|Pu5<|Pu5<|Pu5<|Pu5<|Pu5<|?_
    refine Pu5<|Shift.done<|?_
    exact ⟨_, by exact ⟨rfl, rfl, rfl, rfl, rfl, rfl, trivial⟩, false, rfl, rfl, rfl, H⟩
  rintro _ _ _ - ⟨t547, rfl, rfl, rfl, H⟩
  unfold M_27z at H
  refine Cw_cond rfl ?_ ?_
  ·intro h549
   have H := ift h549 H
   refine Cw_seq ?_
   obtain ⟨x550, hx551, H⟩ := bnd H
   obtain ⟨x560, x561, hx562, H⟩ := bnd2 H
   refine Cw_region_any [.blk bp0 92 (Desk_work.cells p0 vp0_desk_chans vp0_desk_waiting vp0_done), .blk b270 73 (Result.cells (Result.mk 0 0 0 false 0)), .blk b269 45 (Case.cells p2), .row (sv vp0_desk_chans) 71 3 rsp0_desk_chans.flatten, .row (sv vp0_desk_waiting) 52 8 rsp0_desk_waiting.flatten, .row (sv vp0_done) 75 6 rsp0_done.flatten] rfl (Inc.cons Mb0 (Inc.cons Mb1 (Inc.cons Mb2 (Inc.cons Mb3 (Inc.cons Mb4 (Inc.cons Mb5 Inc.nil))))))<|Awq 0 rfl (by kernel_rfl) rfl rfl rfl (Qt_move rfl)<|Awq 1 rfl (by kernel_rfl) rfl rfl rfl (Qt_nilCheck rfl)<|Awq 2 rfl (by kernel_rfl) rfl rfl rfl (Qt_fieldAddr (m := 0) rfl rfl rfl rfl rfl)<|Awq 3 rfl (by kernel_rfl) rfl rfl rfl (Qt_fieldAddr (m := 1) rfl rfl rfl rfl rfl)<|Awq 4 rfl (by kernel_rfl) rfl rfl rfl (Qt_load1 (v := (sv vp0_desk_waiting)) rfl rfl rfl (Rdc.blk Mb0 rfl))<|Awq 5 rfl (by kernel_rfl) rfl rfl rfl (Qt_move rfl)<|?_
   have hs565 := (hp0_desk_waiting).mono hK288
   obtain ⟨r566, hq567, hr568⟩ := RowR.at hs565 hx551
   obtain ⟨v569, v570, rfl, hs571, hs572⟩ := hr568
   refine Awq 6 rfl (by kernel_rfl) rfl rfl rfl (Q_ixR (T := TyWaiter) Mb4 hs565 hq567 (getI_ix hx551).1 rfl rfl rfl rfl rfl)<|Awq 7 rfl (by kernel_rfl) rfl rfl rfl (Qt_fieldAddr (m := 1) rfl rfl rfl rfl rfl)<|Awq 8 rfl (by kernel_rfl) rfl rfl rfl (Qt_loadA (m := 7) (cs := (Op.cells x550.op v569 v570)) rfl rfl rfl rfl ⟨rfl, Rd_row (T := TyWaiter) Mb4 hs565 hq567 rfl rfl⟩)<|Awq 9 rfl (by kernel_rfl) rfl rfl rfl (Qt_fieldAddr (m := 1) rfl rfl rfl rfl rfl)<|Awq 10 rfl (by kernel_rfl) rfl rfl rfl (Qt_load1 (v := (.int .i64 p2.channel)) rfl rfl rfl (Rdc.blk Mb2 rfl))<|?_
   refine Aw_one 11 (by kernel_rfl) (Ax_mk rfl rfl ?_)
   refine OpW_call rfl Try.call70 rfl rfl (c_M_24z x550.op v569 v570 p2.channel false x560 x561 hx562 _ _ hs571 hs572) ?_
   rintro _ K573 _ hK574 ⟨rfl, rfl⟩
   refine ⟨(Inc.cons Mb0 (Inc.cons Mb1 (Inc.cons Mb2 (Inc.cons Mb3 (Inc.cons Mb4 (Inc.cons Mb5 Inc.nil)))))), ?_⟩
   refine Awq 12 rfl (by kernel_rfl) rfl rfl rfl (Qt_move rfl)<|Awq 13 rfl (by kernel_rfl) rfl rfl rfl (Qt_extract rfl rfl)<|Awq 14 rfl (by kernel_rfl) rfl rfl rfl (Qt_extract rfl rfl)<|Awq 15 rfl (by kernel_rfl) rfl rfl rfl (Qt_assign rfl)<|Awq 16 rfl (by kernel_rfl) rfl rfl rfl (Qt_assign rfl)<|Aw_done (by kernel_rfl)<|Cw_seq<|Cw_region<|Ow_q rfl rfl rfl (Qt_move rfl)<|Ow_q rfl rfl rfl (Qt_move rfl)<|?_
   refine Ow_q rfl rfl rfl (Qt_move rfl)<|Ow_q rfl rfl rfl (Qt_fieldAddr (m := 2) rfl rfl rfl rfl rfl)<|Ow_q rfl rfl rfl (Qt_load1 (v := (.int .u64 p2.value)) rfl rfl rfl (Rdc.blk Mb2 rfl))<|Ow_q rfl rfl rfl (Qt_build (cs := (Result.cells (Result.mk 2 0 p2.value true 0))) rfl rfl rfl rfl rfl rfl)<|?_
   obtain ⟨x575, x576, hx577, H⟩ := bnd2 H
   refine Ow.shift (Pu5 (Shift.done ?_))
   refine Ow.shift (Pu5 (Shift.done ?_))
   refine Ow.shift (Pu5 (Shift.done ?_))
   refine Ow.shift (Pu3 (Shift.done ?_))
   have hs578 := ((hp0_desk_chans).mono hK288).mono hK574
   have hs579 := (hs565).mono hK574
   have hs580 := ((hp0_done).mono hK288).mono hK574
   refine Ow_cons rfl (OpW_call rfl Try.call76 rfl rfl (c_M_45z bp0 p0 vp0_desk_chans rsp0_desk_chans vp0_desk_waiting rsp0_desk_waiting vp0_done rsp0_done x283 x560 (Result.mk 2 0 p2.value true 0) x575 x576 hx577 _ _ hs578 hs579 hs580) ?_)
   rintro _ K585 _ hK586 ⟨v581, rs582, v583, rs584, rfl, rfl, hs587, hs588⟩
   refine Ow_nil<|Cw_seq<|Cw_region<|Ow_q rfl rfl rfl (Qt_build (cs := (Result.cells (Result.mk 1 0 0 false 0))) rfl rfl rfl rfl rfl rfl)<|?_
   refine Ow_cons rfl (OpW_store (vs := (Result.cells (Result.mk 1 0 0 false 0))) (all' := (Result.cells (Result.mk 1 0 0 false 0))) rfl rfl rfl rfl rfl (.there (.there (.there (.there .here)))) rfl rfl rfl ?_)
   refine Ow_nil<|Cw_ret<|?_
   obtain ⟨ey0, ez0_chans, ez0_waiting, ez0_done⟩ := inj4 H
   subst y0 z0_chans z0_waiting z0_done
   refine ⟨(by first | exact .inl rfl | exact .inr rfl), [(.agg (Result.cells (Result.mk 1 0 0 false 0)).toArray)], ⟨(.agg (Result.cells (Result.mk 1 0 0 false 0)).toArray), _, rfl, ⟨_, 5, (Result.cells (Result.mk 1 0 0 false 0)), rfl, rfl, rfl, rfl, ⟨rfl, Rdc.blk Mb4 rfl⟩, rfl⟩, rfl⟩, ?_⟩
   refine Pu2<|Pu2<|Pu3<|Pu3<|Re4<|Re4<|?_
   have hs589 := (hs578).mono hK586
   exact Shift.done ⟨vp0_desk_chans, rsp0_desk_chans, v581, rs582, v583, rs584, rfl, rfl, hs589, hs587, hs588⟩
  ·intro h549
   have H := iff_ (btf h549) H
   refine Cw_seq<|Cw_region<|Ow_q rfl rfl rfl (Qt_fieldAddr (m := 0) rfl rfl rfl rfl rfl)<|Ow_q rfl rfl rfl (Qt_load1 (v := (.bool p2.send)) rfl rfl rfl (Rdc.blk Mb2 rfl))<|Ow_q rfl rfl rfl (Qt_assign rfl)<|Ow_nil<|?_
   refine Cw_cond rfl ?_ ?_
   ·intro h590
    have H := ift h590 H
    refine Cw_join (fun env' K' G' => ∃ (l658 : List Chan) (rs660 : List (List Value)), [(6, (.pointer (some ((⟨b270, 0, none⟩ : Addr).add 0))))] = env' ∧ (.blk bp0 92 (Desk_work.cells (Desk_work.mk (Desk.mk l658 p0.desk.waiting p0.desk.tick) p0.done) vp0_desk_chans vp0_desk_waiting vp0_done)) :: (.blk b270 73 (Result.cells (Result.mk 0 0 0 false 0))) :: (.row (sv vp0_desk_chans) 71 3 rs660.flatten) :: (.row (sv vp0_desk_waiting) 52 8 rsp0_desk_waiting.flatten) :: (.row (sv vp0_done) 75 6 rsp0_done.flatten) :: G = G' ∧ M_214z p0 l658 = some (y0, z0_chans, z0_waiting, z0_done) ∧ RowR TyChan K' rs660 l658) ?_ ?_
    ·skip
     obtain ⟨x662, hx663, H⟩ := bnd H
     obtain ⟨x670, hx671, H⟩ := bnd H
     refine Cw_region_any [.blk b270 73 (Result.cells (Result.mk 0 0 0 false 0)), .blk b269 45 (Case.cells p2), .row (sv vp0_desk_waiting) 52 8 rsp0_desk_waiting.flatten, .row (sv vp0_done) 75 6 rsp0_done.flatten] rfl (Inc.cons Mb1 (Inc.cons Mb2 (Inc.cons Mb4 (Inc.cons Mb5 Inc.nil))))<|Awq 0 rfl (by kernel_rfl) rfl rfl rfl (Qt_move rfl)<|Awq 1 rfl (by kernel_rfl) rfl rfl rfl (Qt_move rfl)<|Awq 2 rfl (by kernel_rfl) rfl rfl rfl (Qt_nilCheck rfl)<|Awq 3 rfl (by kernel_rfl) rfl rfl rfl (Qt_fieldAddr (m := 1) rfl rfl rfl rfl rfl)<|Awq 6 rfl (by kernel_rfl) rfl rfl rfl (Qt_fieldAddr (m := 2) rfl rfl rfl rfl rfl)<|Awq 7 rfl (by kernel_rfl) rfl rfl rfl (Qt_load1 (v := (.int .u64 p2.value)) rfl rfl rfl (Rdc.blk Mb1 rfl))<|?_
     refine Aw_two 4 8 (by kernel_rfl) ?_ ?_
     ·skip
      have hs681 := (hp0_desk_chans).mono hK288
      refine id (Ax_mk rfl rfl (OpW_of_Qt rfl rfl (Qt_load1 (v := (sv v281)) rfl rfl rfl (Rd_row (T := TyChan) Mb3 hs681 hq279 rfl rfl)) ⟨(Inc.cons Mb1 (Inc.cons Mb2 (Inc.cons Mb4 (Inc.cons Mb5 Inc.nil)))), ?_⟩))
      refine Aw_two 5 8 (by kernel_rfl) ?_ ?_
      ·skip
       refine id (Ax_mk rfl rfl ?_)
       have hs682 := (hs282).mono hK288
       refine OpW_call rfl Try.call77 rfl rfl (c_M_26z x271.buffer v281 x662 hx663 _ _ hs682) ?_
       rintro _ _ _ - ⟨v683, rs684, rfl, rfl, rfl, hs685⟩
       refine ⟨(Inc.cons Mb2 (Inc.cons Mb3 (Inc.cons Mb5 (Inc.cons Mb6 Inc.nil)))), ?_⟩
       refine Aw_one 8 (by kernel_rfl) (Ax_mk rfl rfl ?_)
       have hR687 : RowR Ty.u64 K287 [[(.int .u64 p2.value)]] [p2.value] := RowR.cons rfl (RowR.nil)
       refine O_lit (T := Ty.u64) (rows := [[(.int .u64 p2.value)]]) (l := [p2.value]) rfl rfl rfl hR687 rfl rfl rfl rfl rfl rfl rfl rfl (fun v686 => ⟨(Inc.cons Mb3 (Inc.cons Mb4 (Inc.cons Mb6 (Inc.cons Mb7 Inc.nil)))), ?_⟩)
       refine Aw_one 9 (by kernel_rfl) (Ax_mk rfl rfl ?_)
       refine O_appRow (T := Ty.u64) (bytes := 8) rfl rfl rfl Mb1 hs685 (SrcT.row Mb0 hR687 rfl) hx671 rfl rfl rfl rfl rfl rfl rfl rfl (fun v688 rs689 hR690 => ⟨_, (.there .here), ⟨(Inc.cons Mb3 (Inc.cons Mb4 (Inc.cons Mb6 (Inc.cons Mb7 Inc.nil)))), ?_⟩⟩)
       refine Aw.shift (Re0 (Shift.done ⟨(Inc.cons Mb2 (Inc.cons Mb3 (Inc.cons Mb5 (Inc.cons Mb6 Inc.nil)))), ?_⟩))
       refine Awq 10 rfl (by kernel_rfl) rfl rfl rfl (Qt_nilCheck rfl)<|Awq 11 rfl (by kernel_rfl) rfl rfl rfl (Qt_fieldAddr (m := 1) rfl rfl rfl rfl rfl)<|?_
       refine Aw_one 12 (by kernel_rfl) (Ax_mk rfl rfl ?_)
       refine OpW.shift (Shift.settle (T := Ty.u64) .here hR690 rfl (fun K691 hK692 hs693 => Shift.done ?_))
       have hs694 := (hs681).mono hK692
       refine O_storeR (T := TyChan) (vs := [(sv v688)]) (r' := (Chan.cells (Chan.mk x271.capacity x670 x271.closed) v688)) (l' := (setI p0.desk.chans p2.channel (Chan.mk x271.capacity x670 x271.closed))) rfl rfl rfl rfl rfl (.there (.there (.there (.there .here)))) hs694 hq279 rfl rfl rfl (RowR.set p2.channel hs694 ⟨v688, rfl, hs693⟩) (fun hR695 => ⟨(Inc.cons Mb2 (Inc.cons Mb3 (Inc.cons Mb5 (Inc.cons Mb6 Inc.nil)))), ?_⟩)
       have hE696 := set_at hq279 (v := (Chan.cells (Chan.mk x271.capacity x670 x271.closed) v688))
       refine Aw_done (by kernel_rfl)<|Pu6<|Pu6<|Pu6<|Pu5<|Pu5<|Re5<|Re5<|Shift.done<|?_
       exact ⟨_, by exact ⟨rfl, trivial⟩, (setI p0.desk.chans p2.channel (Chan.mk x271.capacity x670 x271.closed)), (rsp0_desk_chans.set p2.channel.toNat (Chan.cells (Chan.mk x271.capacity x670 x271.closed) v688)), rfl, rfl, H, hR695⟩
      ·skip
       refine id (Ax_mk rfl rfl ?_)
       have hR698 : RowR Ty.u64 K287 [[(.int .u64 p2.value)]] [p2.value] := RowR.cons rfl (RowR.nil)
       refine O_lit (T := Ty.u64) (rows := [[(.int .u64 p2.value)]]) (l := [p2.value]) rfl rfl rfl hR698 rfl rfl rfl rfl rfl rfl rfl rfl (fun v697 => ⟨(Inc.cons Mb2 (Inc.cons Mb3 (Inc.cons Mb5 (Inc.cons Mb6 Inc.nil)))), ?_⟩)
       refine Aw_one 5 (by kernel_rfl) (Ax_mk rfl rfl ?_)
       have hs699 := (hs282).mono hK288
       refine OpW_call rfl Try.call77 rfl rfl (c_M_26z x271.buffer v281 x662 hx663 _ _ hs699) ?_
       rintro _ _ _ - ⟨v700, rs701, rfl, rfl, rfl, hs702⟩
       refine ⟨(Inc.cons Mb3 (Inc.cons Mb4 (Inc.cons Mb6 (Inc.cons Mb7 Inc.nil)))), ?_⟩
       refine Aw_one 9 (by kernel_rfl) (Ax_mk rfl rfl ?_)
       refine O_appRow (T := Ty.u64) (bytes := 8) rfl rfl rfl Mb0 hs702 (SrcT.row Mb1 hR698 rfl) hx671 rfl rfl rfl rfl rfl rfl rfl rfl (fun v703 rs704 hR705 => ⟨_, .here, ⟨(Inc.cons Mb3 (Inc.cons Mb4 (Inc.cons Mb6 (Inc.cons Mb7 Inc.nil)))), ?_⟩⟩)
       refine Aw.shift (Re1 (Shift.done ⟨(Inc.cons Mb2 (Inc.cons Mb3 (Inc.cons Mb5 (Inc.cons Mb6 Inc.nil)))), ?_⟩))
       refine Awq 10 rfl (by kernel_rfl) rfl rfl rfl (Qt_nilCheck rfl)<|Awq 11 rfl (by kernel_rfl) rfl rfl rfl (Qt_fieldAddr (m := 1) rfl rfl rfl rfl rfl)<|?_
       refine Aw_one 12 (by kernel_rfl) (Ax_mk rfl rfl ?_)
       refine OpW.shift (Shift.settle (T := Ty.u64) .here hR705 rfl (fun K706 hK707 hs708 => Shift.done ?_))
       have hs709 := (hs681).mono hK707
       refine O_storeR (T := TyChan) (vs := [(sv v703)]) (r' := (Chan.cells (Chan.mk x271.capacity x670 x271.closed) v703)) (l' := (setI p0.desk.chans p2.channel (Chan.mk x271.capacity x670 x271.closed))) rfl rfl rfl rfl rfl (.there (.there (.there (.there .here)))) hs709 hq279 rfl rfl rfl (RowR.set p2.channel hs709 ⟨v703, rfl, hs708⟩) (fun hR710 => ⟨(Inc.cons Mb2 (Inc.cons Mb3 (Inc.cons Mb5 (Inc.cons Mb6 Inc.nil)))), ?_⟩)
       have hE711 := set_at hq279 (v := (Chan.cells (Chan.mk x271.capacity x670 x271.closed) v703))
       refine Aw_done (by kernel_rfl)<|Pu6<|Pu6<|Pu6<|Pu5<|Pu5<|Re5<|Re5<|Shift.done<|?_
       exact ⟨_, by exact ⟨rfl, trivial⟩, (setI p0.desk.chans p2.channel (Chan.mk x271.capacity x670 x271.closed)), (rsp0_desk_chans.set p2.channel.toNat (Chan.cells (Chan.mk x271.capacity x670 x271.closed) v703)), rfl, rfl, H, hR710⟩
     ·skip
      refine id (Ax_mk rfl rfl ?_)
      have hR713 : RowR Ty.u64 K287 [[(.int .u64 p2.value)]] [p2.value] := RowR.cons rfl (RowR.nil)
      refine O_lit (T := Ty.u64) (rows := [[(.int .u64 p2.value)]]) (l := [p2.value]) rfl rfl rfl hR713 rfl rfl rfl rfl rfl rfl rfl rfl (fun v712 => ⟨(Inc.cons Mb2 (Inc.cons Mb3 (Inc.cons Mb5 (Inc.cons Mb6 Inc.nil)))), ?_⟩)
      have hs714 := (hp0_desk_chans).mono hK288
      refine Aw_one 4 (by kernel_rfl) (Ax_mk rfl rfl (OpW_of_Qt rfl rfl (Qt_load1 (v := (sv v281)) rfl rfl rfl (Rd_row (T := TyChan) Mb4 hs714 hq279 rfl rfl)) ⟨(Inc.cons Mb2 (Inc.cons Mb3 (Inc.cons Mb5 (Inc.cons Mb6 Inc.nil)))), ?_⟩))
      refine Aw_one 5 (by kernel_rfl) (Ax_mk rfl rfl ?_)
      have hs715 := (hs282).mono hK288
      refine OpW_call rfl Try.call77 rfl rfl (c_M_26z x271.buffer v281 x662 hx663 _ _ hs715) ?_
      rintro _ _ _ - ⟨v716, rs717, rfl, rfl, rfl, hs718⟩
      refine ⟨(Inc.cons Mb3 (Inc.cons Mb4 (Inc.cons Mb6 (Inc.cons Mb7 Inc.nil)))), ?_⟩
      refine Aw_one 9 (by kernel_rfl) (Ax_mk rfl rfl ?_)
      refine O_appRow (T := Ty.u64) (bytes := 8) rfl rfl rfl Mb0 hs718 (SrcT.row Mb1 hR713 rfl) hx671 rfl rfl rfl rfl rfl rfl rfl rfl (fun v719 rs720 hR721 => ⟨_, .here, ⟨(Inc.cons Mb3 (Inc.cons Mb4 (Inc.cons Mb6 (Inc.cons Mb7 Inc.nil)))), ?_⟩⟩)
      refine Aw.shift (Re1 (Shift.done ⟨(Inc.cons Mb2 (Inc.cons Mb3 (Inc.cons Mb5 (Inc.cons Mb6 Inc.nil)))), ?_⟩))
      refine Awq 10 rfl (by kernel_rfl) rfl rfl rfl (Qt_nilCheck rfl)<|Awq 11 rfl (by kernel_rfl) rfl rfl rfl (Qt_fieldAddr (m := 1) rfl rfl rfl rfl rfl)<|?_
      refine Aw_one 12 (by kernel_rfl) (Ax_mk rfl rfl ?_)
      refine OpW.shift (Shift.settle (T := Ty.u64) .here hR721 rfl (fun K722 hK723 hs724 => Shift.done ?_))
      have hs725 := (hs714).mono hK723
      refine O_storeR (T := TyChan) (vs := [(sv v719)]) (r' := (Chan.cells (Chan.mk x271.capacity x670 x271.closed) v719)) (l' := (setI p0.desk.chans p2.channel (Chan.mk x271.capacity x670 x271.closed))) rfl rfl rfl rfl rfl (.there (.there (.there (.there .here)))) hs725 hq279 rfl rfl rfl (RowR.set p2.channel hs725 ⟨v719, rfl, hs724⟩) (fun hR726 => ⟨(Inc.cons Mb2 (Inc.cons Mb3 (Inc.cons Mb5 (Inc.cons Mb6 Inc.nil)))), ?_⟩)
      have hE727 := set_at hq279 (v := (Chan.cells (Chan.mk x271.capacity x670 x271.closed) v719))
      refine Aw_done (by kernel_rfl)<|Pu6<|Pu6<|Pu6<|Pu5<|Pu5<|Re5<|Re5<|Shift.done<|?_
      exact ⟨_, by exact ⟨rfl, trivial⟩, (setI p0.desk.chans p2.channel (Chan.mk x271.capacity x670 x271.closed)), (rsp0_desk_chans.set p2.channel.toNat (Chan.cells (Chan.mk x271.capacity x670 x271.closed) v719)), rfl, rfl, H, hR726⟩
    rintro _ K728 _ hK729 ⟨l658, rs660, rfl, rfl, H, hR659⟩
    unfold M_214z at H
    refine Cw_seq<|Cw_region<|Ow_q rfl rfl rfl (Qt_build (cs := (Result.cells (Result.mk 1 0 0 false 0))) rfl rfl rfl rfl rfl rfl)<|?_
    refine Ow_cons rfl (OpW_store (vs := (Result.cells (Result.mk 1 0 0 false 0))) (all' := (Result.cells (Result.mk 1 0 0 false 0))) rfl rfl rfl rfl rfl (.there .here) rfl rfl rfl ?_)
    refine Ow_nil<|Cw_ret<|?_
    obtain ⟨ey0, ez0_chans, ez0_waiting, ez0_done⟩ := inj4 H
    subst y0 z0_chans z0_waiting z0_done
    refine ⟨(by first | exact .inl rfl | exact .inr rfl), [(.agg (Result.cells (Result.mk 1 0 0 false 0)).toArray)], ⟨(.agg (Result.cells (Result.mk 1 0 0 false 0)).toArray), _, rfl, ⟨_, 5, (Result.cells (Result.mk 1 0 0 false 0)), rfl, rfl, rfl, rfl, ⟨rfl, Rdc.blk Mb1 rfl⟩, rfl⟩, rfl⟩, ?_⟩
    refine Pu4<|Pu4<|Pu4<|Pu3<|Re4<|?_
    have hs730 := ((hp0_desk_waiting).mono hK288).mono hK729
    have hs731 := ((hp0_done).mono hK288).mono hK729
    exact Shift.done ⟨vp0_desk_chans, rs660, vp0_desk_waiting, rsp0_desk_waiting, vp0_done, rsp0_done, rfl, rfl, hR659, hs730, hs731⟩
   ·intro h590
    have H := iff_ (btf h590) H
    refine Cw_seq<|Cw_region<|Ow_q rfl rfl rfl (Qt_move rfl)<|Ow_q rfl rfl rfl (Qt_nilCheck rfl)<|Ow_q rfl rfl rfl (Qt_fieldAddr (m := 1) rfl rfl rfl rfl rfl)<|?_
    have hs732 := (hp0_desk_chans).mono hK288
    refine Ow_q rfl rfl rfl (Qt_load1 (v := (sv v281)) rfl rfl rfl (Rd_row (T := TyChan) Mb3 hs732 hq279 rfl rfl)) ?_
    have hs733 := (hs282).mono hK288
    refine Ow_q rfl rfl rfl (Q_len (T := Ty.u64) hs733 rfl rfl)<|Ow_q rfl rfl rfl (Qt_cmp rfl rfl rfl)<|Ow_q rfl rfl rfl (Qt_assign rfl)<|Ow_nil<|?_
    refine Cw_cond rfl ?_ ?_
    ·intro h734
     have h734 := dcd_t (h734)
     have H := ift h734 H
     refine Cw_seq<|Cw_region<|Ow_q rfl rfl rfl (Qt_move rfl)<|Ow_q rfl rfl rfl (Qt_nilCheck rfl)<|Ow_q rfl rfl rfl (Qt_fieldAddr (m := 1) rfl rfl rfl rfl rfl)<|Ow_q rfl rfl rfl (Qt_load1 (v := (sv v281)) rfl rfl rfl (Rd_row (T := TyChan) Mb3 hs732 hq279 rfl rfl))<|?_
     obtain ⟨x735, hx736, H⟩ := bnd H
     obtain ⟨r737, hr738, hk739⟩ := Slr.at hs733 hx736
     obtain rfl := hr738
     refine Ow_q rfl rfl rfl (Q_ix (T := Ty.u64) hs733 hx736 rfl rfl rfl rfl rfl)<|Ow_q rfl rfl rfl (Qt_load1 (v := (.int .u64 x735)) rfl rfl rfl (Rdc.k hk739 rfl))<|Ow_q rfl rfl rfl (Qt_assign rfl)<|Ow_nil<|Cw_seq<|Cw_region<|Ow_q rfl rfl rfl (Qt_move rfl)<|Ow_q rfl rfl rfl (Qt_move rfl)<|Ow_q rfl rfl rfl (Qt_nilCheck rfl)<|Ow_q rfl rfl rfl (Qt_fieldAddr (m := 1) rfl rfl rfl rfl rfl)<|?_
     refine Ow_q rfl rfl rfl (Qt_load1 (v := (sv v281)) rfl rfl rfl (Rd_row (T := TyChan) Mb3 hs732 hq279 rfl rfl)) ?_
     obtain ⟨x740, hx741, H⟩ := bnd H
     have hs742 := Slr.cutL hs733 hx741
     refine Ow_q rfl rfl rfl (Q_cutL (T := Ty.u64) hs733 hx741 rfl rfl rfl rfl rfl) ?_
     obtain ⟨x743, hx744, H⟩ := bnd H
     refine Ow_cons rfl (OpW_call rfl Try.call77 rfl rfl (c_M_26z x740 (cutS v281 1 ((1 : Int).toNat) x271.buffer.length) x743 hx744 _ _ hs742) ?_)
     rintro _ _ _ - ⟨v745, rs746, rfl, rfl, rfl, hs747⟩
     refine Ow_q rfl rfl rfl (Qt_nilCheck rfl)<|Ow_q rfl rfl rfl (Qt_fieldAddr (m := 1) rfl rfl rfl rfl rfl)<|?_
     refine Ow.shift (Shift.settle (T := Ty.u64) .here hs747 rfl (fun K748 hK749 hs750 => Shift.done ?_))
     have hs751 := (hs732).mono hK749
     refine Ow_cons rfl (O_storeR (T := TyChan) (vs := [(sv v745)]) (r' := (Chan.cells (Chan.mk x271.capacity x743 x271.closed) v745)) (l' := (setI p0.desk.chans p2.channel (Chan.mk x271.capacity x743 x271.closed))) rfl rfl rfl rfl rfl (.there (.there (.there (.there .here)))) hs751 hq279 rfl rfl rfl (RowR.set p2.channel hs751 ⟨v745, rfl, hs750⟩) (fun hR752 => ?_))
     have hE753 := set_at hq279 (v := (Chan.cells (Chan.mk x271.capacity x743 x271.closed) v745))
     refine Ow_nil ?_
     refine Cw_join (fun env' K' G' => ∃ (l833 : List Chan) (rs835 : List (List Value)) (v836 : SV) (l837 : List Waiter) (rs839 : List (List Value)) (v840 : SV) (l841 : List Done) (rs843 : List (List Value)), [(6, (.pointer (some ((⟨b270, 0, none⟩ : Addr).add 0)))), (11, (.int .u64 x735))] = env' ∧ (.blk bp0 92 (Desk_work.cells (Desk_work.mk (Desk.mk l833 l837 p0.desk.tick) l841) vp0_desk_chans v836 v840)) :: (.blk b270 73 (Result.cells (Result.mk 0 0 0 false 0))) :: (.row (sv vp0_desk_chans) 71 3 rs835.flatten) :: (.row (sv v836) 52 8 rs839.flatten) :: (.row (sv v840) 75 6 rs843.flatten) :: G = G' ∧ M_133z x735 p0 l833 l837 l841 = some (y0, z0_chans, z0_waiting, z0_done) ∧ RowR TyChan K' rs835 l833 ∧ RowR TyWaiter K' rs839 l837 ∧ RowR TyDone K' rs843 l841) ?_ ?_
     ·skip
      refine Cw_seq<|Cw_region<|Ow_q rfl rfl rfl (Qt_move rfl)<|Ow_q rfl rfl rfl (Qt_cmp rfl rfl rfl)<|Ow_nil<|?_
      refine Cw_cond rfl ?_ ?_
      ·intro h844
       have h844 := dcd_t (h844)
       have H := ift h844 H
       obtain ⟨x845, x846, x847, hx848, H⟩ := bnd3 H
       obtain ⟨x861, hx862, H⟩ := bnd H
       refine Cw_region_any [.blk b270 73 (Result.cells (Result.mk 0 0 0 false 0)), .blk b269 45 (Case.cells p2)] rfl (Inc.cons Mb2 (Inc.cons Mb3 Inc.nil))<|Awq 0 rfl (by kernel_rfl) rfl rfl rfl (Qt_move rfl)<|Awq 1 rfl (by kernel_rfl) rfl rfl rfl (Qt_move rfl)<|Awq 2 rfl (by kernel_rfl) rfl rfl rfl (Qt_nilCheck rfl)<|Awq 3 rfl (by kernel_rfl) rfl rfl rfl (Qt_fieldAddr (m := 1) rfl rfl rfl rfl rfl)<|Awq 5 rfl (by kernel_rfl) rfl rfl rfl (Qt_move rfl)<|Awq 6 rfl (by kernel_rfl) rfl rfl rfl (Qt_move rfl)<|Awq 7 rfl (by kernel_rfl) rfl rfl rfl (Qt_fieldAddr (m := 1) rfl rfl rfl rfl rfl)<|Awq 8 rfl (by kernel_rfl) rfl rfl rfl (Qt_load1 (v := (.int .i64 p2.channel)) rfl rfl rfl (Rdc.blk Mb1 rfl))<|?_
       refine Aw_two 4 9 (by kernel_rfl) ?_ ?_
       ·skip
        refine id (Ax_mk rfl rfl (OpW_of_Qt rfl rfl (Qt_load1 (v := (sv v745)) rfl rfl rfl (Rd_row (T := TyChan) Mb4 hR752 hE753 rfl rfl)) ⟨(Inc.cons Mb2 (Inc.cons Mb3 Inc.nil)), ?_⟩))
        refine Aw_one 9 (by kernel_rfl) (Ax_mk rfl rfl ?_)
        refine OpW.shift (Pu6 (Shift.done ?_))
        refine OpW.shift (Pu6 (Shift.done ?_))
        refine OpW.shift (Pu6 (Shift.done ?_))
        refine OpW.shift (Pu4 (Shift.done ?_))
        have hs871 := ((hp0_desk_waiting).mono hK288).mono hK749
        have hs872 := ((hp0_done).mono hK288).mono hK749
        refine OpW_call rfl Try.call78 rfl rfl (c_M_79z bp0 (Desk_work.mk (Desk.mk (setI p0.desk.chans p2.channel (Chan.mk x271.capacity x743 x271.closed)) p0.desk.waiting p0.desk.tick) p0.done) vp0_desk_chans (rsp0_desk_chans.set p2.channel.toNat (Chan.cells (Chan.mk x271.capacity x743 x271.closed) v745)) vp0_desk_waiting rsp0_desk_waiting vp0_done rsp0_done x283 p2.channel x845 x846 x847 hx848 _ _ hR752 hs871 hs872) ?_
        rintro _ K877 _ hK878 ⟨v873, rs874, v875, rs876, rfl, rfl, hs879, hs880⟩
        refine ⟨(Inc.cons Mb5 (Inc.cons Mb6 Inc.nil)), ?_⟩
        refine Aw_one 10 (by kernel_rfl) (Ax_mk rfl rfl ?_)
        have hR882 : RowR Ty.u64 K877 [[(.int .u64 x845)]] [x845] := RowR.cons rfl (RowR.nil)
        refine O_lit (T := Ty.u64) (rows := [[(.int .u64 x845)]]) (l := [x845]) rfl rfl rfl hR882 rfl rfl rfl rfl rfl rfl rfl rfl (fun v881 => ⟨(Inc.cons Mb6 (Inc.cons Mb7 Inc.nil)), ?_⟩)
        refine Aw_one 11 (by kernel_rfl) (Ax_mk rfl rfl ?_)
        have hs887 := (hs750).mono hK878
        refine O_appTok (T := Ty.u64) (bytes := 8) (q := 0) rfl rfl rfl hs887 Mb5 rfl (SrcT.row Mb0 hR882 rfl) hx862 rfl rfl rfl rfl rfl rfl rfl rfl (fun v883 K884 hK885 hs886 => ⟨_, (.there (.there (.there (.there (.there .here))))), ⟨(Inc.cons Mb6 (Inc.cons Mb7 Inc.nil)), ?_⟩⟩)
        refine Aw.shift (Re0 (Shift.done ⟨(Inc.cons Mb5 (Inc.cons Mb6 Inc.nil)), ?_⟩))
        refine Awq 12 rfl (by kernel_rfl) rfl rfl rfl (Qt_nilCheck rfl)<|Awq 13 rfl (by kernel_rfl) rfl rfl rfl (Qt_fieldAddr (m := 1) rfl rfl rfl rfl rfl)<|?_
        refine Aw_one 14 (by kernel_rfl) (Ax_mk rfl rfl ?_)
        have hs888 := ((hR752).mono hK878).mono hK885
        refine O_storeR (T := TyChan) (vs := [(sv v883)]) (r' := (Chan.cells (Chan.mk x271.capacity x861 x271.closed) v883)) (l' := (setI (setI p0.desk.chans p2.channel (Chan.mk x271.capacity x743 x271.closed)) p2.channel (Chan.mk x271.capacity x861 x271.closed))) rfl rfl rfl rfl rfl (.there (.there (.there .here))) hs888 hE753 rfl rfl rfl (RowR.set p2.channel hs888 ⟨v883, rfl, hs886⟩) (fun hR889 => ⟨(Inc.cons Mb5 (Inc.cons Mb6 Inc.nil)), ?_⟩)
        have hE890 := set_at hE753 (v := (Chan.cells (Chan.mk x271.capacity x861 x271.closed) v883))
        refine Aw_done (by kernel_rfl)<|Pu2<|Pu2<|Pu3<|Pu5<|Pu4<|Re5<|Re5<|?_
        have hs891 := (hs879).mono hK885
        have hs892 := (hs880).mono hK885
        exact Shift.done ⟨_, by exact ⟨rfl, rfl, trivial⟩, (setI (setI p0.desk.chans p2.channel (Chan.mk x271.capacity x743 x271.closed)) p2.channel (Chan.mk x271.capacity x861 x271.closed)), ((rsp0_desk_chans.set p2.channel.toNat (Chan.cells (Chan.mk x271.capacity x743 x271.closed) v745)).set p2.channel.toNat (Chan.cells (Chan.mk x271.capacity x861 x271.closed) v883)), v873, x846, rs874, v875, x847, rs876, rfl, rfl, H, hR889, hs891, hs892⟩
       ·skip
        refine id (Ax_mk rfl rfl ?_)
        refine OpW.shift (Pu6 (Shift.done ?_))
        refine OpW.shift (Pu6 (Shift.done ?_))
        refine OpW.shift (Pu6 (Shift.done ?_))
        refine OpW.shift (Pu4 (Shift.done ?_))
        have hs893 := ((hp0_desk_waiting).mono hK288).mono hK749
        have hs894 := ((hp0_done).mono hK288).mono hK749
        refine OpW_call rfl Try.call78 rfl rfl (c_M_79z bp0 (Desk_work.mk (Desk.mk (setI p0.desk.chans p2.channel (Chan.mk x271.capacity x743 x271.closed)) p0.desk.waiting p0.desk.tick) p0.done) vp0_desk_chans (rsp0_desk_chans.set p2.channel.toNat (Chan.cells (Chan.mk x271.capacity x743 x271.closed) v745)) vp0_desk_waiting rsp0_desk_waiting vp0_done rsp0_done x283 p2.channel x845 x846 x847 hx848 _ _ hR752 hs893 hs894) ?_
        rintro _ K899 _ hK900 ⟨v895, rs896, v897, rs898, rfl, rfl, hs901, hs902⟩
        refine ⟨(Inc.cons Mb5 (Inc.cons Mb6 Inc.nil)), ?_⟩
        refine Aw_two 4 10 (by kernel_rfl) ?_ ?_
        ·skip
         have hs903 := (hR752).mono hK900
         refine id (Ax_mk rfl rfl (OpW_of_Qt rfl rfl (Qt_load1 (v := (sv v745)) rfl rfl rfl (Rd_row (T := TyChan) Mb3 hs903 hE753 rfl rfl)) ⟨(Inc.cons Mb5 (Inc.cons Mb6 Inc.nil)), ?_⟩))
         refine Aw_one 10 (by kernel_rfl) (Ax_mk rfl rfl ?_)
         have hR905 : RowR Ty.u64 K899 [[(.int .u64 x845)]] [x845] := RowR.cons rfl (RowR.nil)
         refine O_lit (T := Ty.u64) (rows := [[(.int .u64 x845)]]) (l := [x845]) rfl rfl rfl hR905 rfl rfl rfl rfl rfl rfl rfl rfl (fun v904 => ⟨(Inc.cons Mb6 (Inc.cons Mb7 Inc.nil)), ?_⟩)
         refine Aw_one 11 (by kernel_rfl) (Ax_mk rfl rfl ?_)
         have hs910 := (hs750).mono hK900
         refine O_appTok (T := Ty.u64) (bytes := 8) (q := 0) rfl rfl rfl hs910 Mb5 rfl (SrcT.row Mb0 hR905 rfl) hx862 rfl rfl rfl rfl rfl rfl rfl rfl (fun v906 K907 hK908 hs909 => ⟨_, (.there (.there (.there (.there (.there .here))))), ⟨(Inc.cons Mb6 (Inc.cons Mb7 Inc.nil)), ?_⟩⟩)
         refine Aw.shift (Re0 (Shift.done ⟨(Inc.cons Mb5 (Inc.cons Mb6 Inc.nil)), ?_⟩))
         refine Awq 12 rfl (by kernel_rfl) rfl rfl rfl (Qt_nilCheck rfl)<|Awq 13 rfl (by kernel_rfl) rfl rfl rfl (Qt_fieldAddr (m := 1) rfl rfl rfl rfl rfl)<|?_
         refine Aw_one 14 (by kernel_rfl) (Ax_mk rfl rfl ?_)
         have hs911 := (hs903).mono hK908
         refine O_storeR (T := TyChan) (vs := [(sv v906)]) (r' := (Chan.cells (Chan.mk x271.capacity x861 x271.closed) v906)) (l' := (setI (setI p0.desk.chans p2.channel (Chan.mk x271.capacity x743 x271.closed)) p2.channel (Chan.mk x271.capacity x861 x271.closed))) rfl rfl rfl rfl rfl (.there (.there (.there .here))) hs911 hE753 rfl rfl rfl (RowR.set p2.channel hs911 ⟨v906, rfl, hs909⟩) (fun hR912 => ⟨(Inc.cons Mb5 (Inc.cons Mb6 Inc.nil)), ?_⟩)
         have hE913 := set_at hE753 (v := (Chan.cells (Chan.mk x271.capacity x861 x271.closed) v906))
         refine Aw_done (by kernel_rfl)<|Pu2<|Pu2<|Pu3<|Pu5<|Pu4<|Re5<|Re5<|?_
         have hs914 := (hs901).mono hK908
         have hs915 := (hs902).mono hK908
         exact Shift.done ⟨_, by exact ⟨rfl, rfl, trivial⟩, (setI (setI p0.desk.chans p2.channel (Chan.mk x271.capacity x743 x271.closed)) p2.channel (Chan.mk x271.capacity x861 x271.closed)), ((rsp0_desk_chans.set p2.channel.toNat (Chan.cells (Chan.mk x271.capacity x743 x271.closed) v745)).set p2.channel.toNat (Chan.cells (Chan.mk x271.capacity x861 x271.closed) v906)), v895, x846, rs896, v897, x847, rs898, rfl, rfl, H, hR912, hs914, hs915⟩
        ·skip
         refine id (Ax_mk rfl rfl ?_)
         have hR917 : RowR Ty.u64 K899 [[(.int .u64 x845)]] [x845] := RowR.cons rfl (RowR.nil)
         refine O_lit (T := Ty.u64) (rows := [[(.int .u64 x845)]]) (l := [x845]) rfl rfl rfl hR917 rfl rfl rfl rfl rfl rfl rfl rfl (fun v916 => ⟨(Inc.cons Mb6 (Inc.cons Mb7 Inc.nil)), ?_⟩)
         have hs918 := (hR752).mono hK900
         refine Aw_one 4 (by kernel_rfl) (Ax_mk rfl rfl (OpW_of_Qt rfl rfl (Qt_load1 (v := (sv v745)) rfl rfl rfl (Rd_row (T := TyChan) Mb4 hs918 hE753 rfl rfl)) ⟨(Inc.cons Mb6 (Inc.cons Mb7 Inc.nil)), ?_⟩))
         refine Aw_one 11 (by kernel_rfl) (Ax_mk rfl rfl ?_)
         have hs923 := (hs750).mono hK900
         refine O_appTok (T := Ty.u64) (bytes := 8) (q := 0) rfl rfl rfl hs923 Mb5 rfl (SrcT.row Mb0 hR917 rfl) hx862 rfl rfl rfl rfl rfl rfl rfl rfl (fun v919 K920 hK921 hs922 => ⟨_, (.there (.there (.there (.there (.there .here))))), ⟨(Inc.cons Mb6 (Inc.cons Mb7 Inc.nil)), ?_⟩⟩)
         refine Aw.shift (Re0 (Shift.done ⟨(Inc.cons Mb5 (Inc.cons Mb6 Inc.nil)), ?_⟩))
         refine Awq 12 rfl (by kernel_rfl) rfl rfl rfl (Qt_nilCheck rfl)<|Awq 13 rfl (by kernel_rfl) rfl rfl rfl (Qt_fieldAddr (m := 1) rfl rfl rfl rfl rfl)<|?_
         refine Aw_one 14 (by kernel_rfl) (Ax_mk rfl rfl ?_)
         have hs924 := (hs918).mono hK921
         refine O_storeR (T := TyChan) (vs := [(sv v919)]) (r' := (Chan.cells (Chan.mk x271.capacity x861 x271.closed) v919)) (l' := (setI (setI p0.desk.chans p2.channel (Chan.mk x271.capacity x743 x271.closed)) p2.channel (Chan.mk x271.capacity x861 x271.closed))) rfl rfl rfl rfl rfl (.there (.there (.there .here))) hs924 hE753 rfl rfl rfl (RowR.set p2.channel hs924 ⟨v919, rfl, hs922⟩) (fun hR925 => ⟨(Inc.cons Mb5 (Inc.cons Mb6 Inc.nil)), ?_⟩)
         have hE926 := set_at hE753 (v := (Chan.cells (Chan.mk x271.capacity x861 x271.closed) v919))
         refine Aw_done (by kernel_rfl)<|Pu2<|Pu2<|Pu3<|Pu5<|Pu4<|Re5<|Re5<|?_
         have hs927 := (hs901).mono hK921
         have hs928 := (hs902).mono hK921
         exact Shift.done ⟨_, by exact ⟨rfl, rfl, trivial⟩, (setI (setI p0.desk.chans p2.channel (Chan.mk x271.capacity x743 x271.closed)) p2.channel (Chan.mk x271.capacity x861 x271.closed)), ((rsp0_desk_chans.set p2.channel.toNat (Chan.cells (Chan.mk x271.capacity x743 x271.closed) v745)).set p2.channel.toNat (Chan.cells (Chan.mk x271.capacity x861 x271.closed) v919)), v895, x846, rs896, v897, x847, rs898, rfl, rfl, H, hR925, hs927, hs928⟩
      ·intro h844
       have h844 := dcd_f (h844)
       have H := iff_ h844 H
       refine Cw_skip<|Pu6<|Pu6<|Pu6<|Pu5<|Pu5<|Re5<|Re5<|?_
       have hs929 := ((hp0_desk_waiting).mono hK288).mono hK749
       have hs930 := ((hp0_done).mono hK288).mono hK749
       exact Shift.done ⟨_, by exact ⟨rfl, rfl, trivial⟩, (setI p0.desk.chans p2.channel (Chan.mk x271.capacity x743 x271.closed)), (rsp0_desk_chans.set p2.channel.toNat (Chan.cells (Chan.mk x271.capacity x743 x271.closed) v745)), vp0_desk_waiting, p0.desk.waiting, rsp0_desk_waiting, vp0_done, p0.done, rsp0_done, rfl, rfl, H, hR752, hs929, hs930⟩
     rintro _ K931 _ hK932 ⟨l833, rs835, v836, l837, rs839, v840, l841, rs843, rfl, rfl, H, hR834, hR838, hR842⟩
     unfold M_133z at H
     refine Cw_seq<|Cw_region<|Ow_q rfl rfl rfl (Qt_move rfl)<|Ow_q rfl rfl rfl (Qt_build (cs := (Result.cells (Result.mk 2 0 x735 true 0))) rfl rfl rfl rfl rfl rfl)<|?_
     refine Ow_cons rfl (OpW_store (vs := (Result.cells (Result.mk 2 0 x735 true 0))) (all' := (Result.cells (Result.mk 2 0 x735 true 0))) rfl rfl rfl rfl rfl (.there .here) rfl rfl rfl ?_)
     refine Ow_nil<|Cw_ret<|?_
     obtain ⟨ey0, ez0_chans, ez0_waiting, ez0_done⟩ := inj4 H
     subst y0 z0_chans z0_waiting z0_done
     refine ⟨(by first | exact .inl rfl | exact .inr rfl), [(.agg (Result.cells (Result.mk 2 0 x735 true 0)).toArray)], ⟨(.agg (Result.cells (Result.mk 2 0 x735 true 0)).toArray), _, rfl, ⟨_, 5, (Result.cells (Result.mk 2 0 x735 true 0)), rfl, rfl, rfl, rfl, ⟨rfl, Rdc.blk Mb1 rfl⟩, rfl⟩, rfl⟩, ?_⟩
     refine Pu4<|Pu4<|Pu4<|Pu3<|Re4<|Shift.done<|?_
     exact ⟨vp0_desk_chans, rs835, v836, rs839, v840, rs843, rfl, rfl, hR834, hR838, hR842⟩
    ·intro h734
     have h734 := dcd_f (h734)
     have H := iff_ h734 H
     refine Cw_seq<|Cw_region<|Ow_q rfl rfl rfl (Qt_move rfl)<|Ow_q rfl rfl rfl (Qt_cmp rfl rfl rfl)<|Ow_q rfl rfl rfl (Qt_assign rfl)<|Ow_nil<|?_
     refine Cw_cond rfl ?_ ?_
     ·intro h933
      have h933 := dcd_t (h933)
      have H := ift h933 H
      refine Cw_seq<|Cw_region<|Ow_q rfl rfl rfl (Qt_move rfl)<|Ow_q rfl rfl rfl (Qt_move rfl)<|Ow_q rfl rfl rfl (Qt_fieldAddr (m := 1) rfl rfl rfl rfl rfl)<|Ow_q rfl rfl rfl (Qt_load1 (v := (.int .i64 p2.channel)) rfl rfl rfl (Rdc.blk Mb2 rfl))<|?_
      obtain ⟨x934, x935, x936, hx937, H⟩ := bnd3 H
      refine Ow.shift (Pu5 (Shift.done ?_))
      refine Ow.shift (Pu5 (Shift.done ?_))
      refine Ow.shift (Pu5 (Shift.done ?_))
      refine Ow.shift (Pu3 (Shift.done ?_))
      have hs938 := (hp0_desk_waiting).mono hK288
      have hs939 := (hp0_done).mono hK288
      refine Ow_cons rfl (OpW_call rfl Try.call78 rfl rfl (c_M_79z bp0 p0 vp0_desk_chans rsp0_desk_chans vp0_desk_waiting rsp0_desk_waiting vp0_done rsp0_done x283 p2.channel x934 x935 x936 hx937 _ _ hs732 hs938 hs939) ?_)
      rintro _ K944 _ hK945 ⟨v940, rs941, v942, rs943, rfl, rfl, hs946, hs947⟩
      refine Ow_q rfl rfl rfl (Qt_build (cs := (Result.cells (Result.mk 2 0 x934 true 0))) rfl rfl rfl rfl rfl rfl) ?_
      refine Ow_cons rfl (OpW_store (vs := (Result.cells (Result.mk 2 0 x934 true 0))) (all' := (Result.cells (Result.mk 2 0 x934 true 0))) rfl rfl rfl rfl rfl (.there (.there (.there (.there .here)))) rfl rfl rfl ?_)
      refine Ow_nil<|Cw_ret<|?_
      obtain ⟨ey0, ez0_chans, ez0_waiting, ez0_done⟩ := inj4 H
      subst y0 z0_chans z0_waiting z0_done
      refine ⟨(by first | exact .inl rfl | exact .inr rfl), [(.agg (Result.cells (Result.mk 2 0 x934 true 0)).toArray)], ⟨(.agg (Result.cells (Result.mk 2 0 x934 true 0)).toArray), _, rfl, ⟨_, 5, (Result.cells (Result.mk 2 0 x934 true 0)), rfl, rfl, rfl, rfl, ⟨rfl, Rdc.blk Mb4 rfl⟩, rfl⟩, rfl⟩, ?_⟩
      refine Pu2<|Pu2<|Pu3<|Pu3<|Re4<|Re4<|?_
      have hs948 := (hs732).mono hK945
      exact Shift.done ⟨vp0_desk_chans, rsp0_desk_chans, v940, rs941, v942, rs943, rfl, rfl, hs948, hs946, hs947⟩
     ·intro h933
      have h933 := dcd_f (h933)
      have H := iff_ h933 H
      refine Cw_skip<|Cw_seq<|Cw_region<|Ow_q rfl rfl rfl (Qt_build (cs := (Result.cells (Result.mk 2 0 0 false 0))) rfl rfl rfl rfl rfl rfl)<|?_
      refine Ow_cons rfl (OpW_store (vs := (Result.cells (Result.mk 2 0 0 false 0))) (all' := (Result.cells (Result.mk 2 0 0 false 0))) rfl rfl rfl rfl rfl (.there .here) rfl rfl rfl ?_)
      refine Ow_nil<|Cw_ret<|?_
      obtain ⟨ey0, ez0_chans, ez0_waiting, ez0_done⟩ := inj4 H
      subst y0 z0_chans z0_waiting z0_done
      refine ⟨(by first | exact .inl rfl | exact .inr rfl), [(.agg (Result.cells (Result.mk 2 0 0 false 0)).toArray)], ⟨(.agg (Result.cells (Result.mk 2 0 0 false 0)).toArray), _, rfl, ⟨_, 5, (Result.cells (Result.mk 2 0 0 false 0)), rfl, rfl, rfl, rfl, ⟨rfl, Rdc.blk Mb1 rfl⟩, rfl⟩, rfl⟩, ?_⟩
      refine Pu5<|Pu5<|Pu5<|Pu3<|Re4<|Re4<|?_
      have hs949 := (hp0_desk_waiting).mono hK288
      have hs950 := (hp0_done).mono hK288
      exact Shift.done ⟨vp0_desk_chans, rsp0_desk_chans, vp0_desk_waiting, rsp0_desk_waiting, vp0_done, rsp0_done, rfl, rfl, hs732, hs949, hs950⟩



end Go.Hx

namespace Go.Hx
open Go Go.Proofs
set_option linter.unusedSimpArgs false
set_option linter.unusedVariables false
set_option maxRecDepth 10000
set_option maxHeartbeats 1000000 in
theorem c_M_desk_Do (p0 : Desk) (vp0_chans : SV) (vp0_waiting : SV) (p1 : Int) (p2 : Op) (vp2_cases : SV) (vp2_draws : SV) (y0 : Desk) (y1 : List Done) (y2 : Bool) (H : M_desk_Do p0 p1 p2 = some (y0, y1, y2)) (K : Kp) (G : List Ent) (hp0_chans : Slr TyChan K (sv vp0_chans) p0.chans) (hp0_waiting : Slr TyWaiter K (sv vp0_waiting) p0.waiting) (hp2_cases : Slr TyCase K (sv vp2_cases) p2.cases) (hp2_draws : Slr Ty.i64 K (sv vp2_draws) p2.draws) :
  Fc Try.prog 22 #[(.agg (Desk.cells p0 vp0_chans vp0_waiting).toArray), (.int .i64 p1), (.agg (Op.cells p2 vp2_cases vp2_draws).toArray)] K (G) (fun v K' G' => ∃ (wy0_chans : SV) (rswy0_chans : List (List Value)) (wy0_waiting : SV) (rswy0_waiting : List (List Value)) (wy1 : SV) (rswy1 : List (List Value)), v = (.tuple #[(.agg (Desk.cells y0 wy0_chans wy0_waiting).toArray), (sv wy1), (.bool y2)]) ∧ (.row (sv wy0_chans) 71 3 rswy0_chans.flatten) :: (.row (sv wy0_waiting) 52 8 rswy0_waiting.flatten) :: (.row (sv wy1) 75 6 rswy1.flatten) :: G = G' ∧ RowR TyChan K' rswy0_chans y0.chans ∧ RowR TyWaiter K' rswy0_waiting y0.waiting ∧ RowR TyDone K' rswy1 y1) := by
 refine Fc_body Try.func22 rfl Try.ntmps22 Try.results22 rfl ?_
 unfold M_desk_Do at H
 refine Cw_seq<|Cw_region<|?_
 refine Ow_cons rfl (OpW_box (cs := (Desk.cells p0 vp0_chans vp0_waiting)) rfl rfl rfl (fun b187 => ?_))
 refine Ow_cons rfl (OpW_box (cs := (Op.cells p2 vp2_cases vp2_draws)) rfl rfl rfl (fun b188 => ?_))
 refine Ow_cons rfl (OpW_alloc (cs := (Desk.cells (Desk.mk [] [] 0) nilS nilS)) rfl rfl rfl rfl (fun b189 => ?_))
 refine Ow_q rfl rfl rfl (Qt_assign rfl)<|Ow_q rfl rfl rfl (Qt_assign rfl)<|Ow_nil<|Cw_seq<|Cw_region<|Ow_q rfl rfl rfl (Qt_loadA (m := 3) (cs := (Desk.cells p0 vp0_chans vp0_waiting)) rfl rfl rfl rfl ⟨rfl, Rdc.blk Mb2 rfl⟩)<|?_
 obtain ⟨x190, hx191, H⟩ := bnd H
 refine Ow_cons rfl (OpW_call rfl Try.call44 rfl rfl (c_M_71z p0 vp0_chans vp0_waiting x190 hx191 _ _ hp0_chans hp0_waiting) ?_)
 rintro _ _ _ - ⟨b192, v193, rs194, v195, rs196, v197, rs198, rfl, rfl, rfl, hs199, hs200, hs201⟩
 refine Ow_q rfl rfl rfl (Qt_assign rfl)<|Ow_nil<|Cw_seq<|Cw_region<|Ow_q rfl rfl rfl (Qt_build (cs := (Result.cells (Result.mk 0 (-1) 0 false 0))) rfl rfl rfl rfl rfl rfl)<|?_
 refine Ow_cons rfl (OpW_alloc (cs := (Result.cells (Result.mk 0 0 0 false 0))) rfl rfl rfl rfl (fun b202 => ?_))
 refine Ow_cons rfl (OpW_store (vs := (Result.cells (Result.mk 0 (-1) 0 false 0))) (all' := (Result.cells (Result.mk 0 (-1) 0 false 0))) rfl rfl rfl rfl rfl .here rfl rfl rfl ?_)
 refine Ow_nil ?_
 refine Cw_join (fun env' K' G' => ∃ (i347 : Int) (i348 : Int) (i349 : Int) (t350 : Bool) (i351 : Int) (v352 : SV) (l353 : List Chan) (rs355 : List (List Value)) (v356 : SV) (l357 : List Waiter) (rs359 : List (List Value)) (v360 : SV) (l361 : List Done) (rs363 : List (List Value)), [(1, (.int .i64 p1)), (6, (.pointer (some ((⟨b189, 0, none⟩ : Addr).add 0)))), (9, (.pointer (some ((⟨b192, 0, none⟩ : Addr).add 0)))), (10, (.pointer (some ((⟨b202, 0, none⟩ : Addr).add 0))))] = env' ∧ (.blk b202 73 (Result.cells (Result.mk i347 i348 i349 t350 i351))) :: (.blk b192 92 (Desk_work.cells (Desk_work.mk (Desk.mk l353 l357 x190.desk.tick) l361) v352 v356 v360)) :: (.blk b189 34 (Desk.cells (Desk.mk [] [] 0) nilS nilS)) :: (.row (sv v352) 71 3 rs355.flatten) :: (.row (sv v356) 52 8 rs359.flatten) :: (.row (sv v360) 75 6 rs363.flatten) :: G = G' ∧ M_5z p1 x190 i347 i348 i349 t350 i351 l353 l357 l361 = some (y0, y1, y2) ∧ RowR TyChan K' rs355 l353 ∧ RowR TyWaiter K' rs359 l357 ∧ RowR TyDone K' rs363 l361) ?_ ?_
 ·skip
  refine Cw_seq<|Cw_region<|Ow_q rfl rfl rfl (Qt_fieldAddr (m := 0) rfl rfl rfl rfl rfl)<|Ow_q rfl rfl rfl (Qt_load1 (v := (.int .i64 p2.kind)) rfl rfl rfl (Rdc.blk Mb6 rfl))<|Ow_nil<|Cw_block<|Cw_seq<|Cw_region<|Ow_q rfl rfl rfl (Qt_cmp rfl rfl rfl)<|Ow_q rfl rfl rfl (Qt_assign rfl)<|?_
  refine Ow_nil ?_
  refine Cw_cond rfl ?_ ?_
  ·intro h364
   have h364 := dcd_t (h364)
   have H := ift h364 H
   refine Cw_seq<|Cw_region<|Ow_q rfl rfl rfl (Qt_fieldAddr (m := 0) rfl rfl rfl rfl rfl)<|?_
   refine Ow_cons rfl (OpW_store (vs := [(.int .i64 5)]) (all' := (Result.cells (Result.mk 5 (-1) 0 false 0))) rfl rfl rfl rfl rfl .here rfl rfl rfl ?_)
   refine Ow_nil ?_
   refine Cw_join (fun env' K' G' => ∃ (t375 : Bool), [(1, (.int .i64 p1)), (5, (.pointer (some ((⟨b188, 0, none⟩ : Addr).add 0)))), (6, (.pointer (some ((⟨b189, 0, none⟩ : Addr).add 0)))), (9, (.pointer (some ((⟨b192, 0, none⟩ : Addr).add 0)))), (10, (.pointer (some ((⟨b202, 0, none⟩ : Addr).add 0)))), (101, (.bool t375))] = env' ∧ K = K' ∧ (.blk b202 73 (Result.cells (Result.mk 5 (-1) 0 false 0))) :: (.blk b192 92 (Desk_work.cells x190 v193 v195 v197)) :: (.blk b189 34 (Desk.cells (Desk.mk [] [] 0) nilS nilS)) :: (.blk b188 41 (Op.cells p2 vp2_cases vp2_draws)) :: (.row (sv v193) 71 3 rs194.flatten) :: (.row (sv v195) 52 8 rs196.flatten) :: (.row (sv v197) 75 6 rs198.flatten) :: G = G' ∧ M_80z p1 x190 p2 t375 = some (y0, y1, y2)) ?_ ?_
   ·skip
    refine Cw_region<|Ow_q rfl rfl rfl (Qt_loadA (m := 3) (cs := (Desk.cells p0 vp0_chans vp0_waiting)) rfl rfl rfl rfl ⟨rfl, Rdc.blk Mb7 rfl⟩)<|Ow_q rfl rfl rfl (Qt_fieldAddr (m := 2) rfl rfl rfl rfl rfl)<|Ow_q rfl rfl rfl (Qt_load1 (v := (.int .i64 p2.channel)) rfl rfl rfl (Rdc.blk Mb6 rfl))<|?_
    obtain ⟨x376, hx377, H⟩ := bnd H
    refine Ow_cons rfl (OpW_call rfl Try.call45 rfl rfl (c_M_42z p0 vp0_chans vp0_waiting p2.channel x376 hx377 _ _ hp0_chans hp0_waiting) ?_)
    rintro _ _ _ - ⟨rfl, rfl, rfl⟩
    refine Ow_q rfl rfl rfl (Qt_move rfl) ?_
    refine Ow_caseG rfl rfl rfl ?_ ?_
    ·intro h378
     have H := ift h378 H
     refine Ow_qw rfl rfl rfl rfl rfl rfl (Qt_fieldAddr (m := 0) rfl rfl rfl rfl rfl)<|Ow_qw rfl rfl rfl rfl rfl rfl (Qt_load1 (v := (sv vp0_chans)) rfl rfl rfl (Rdc.blk Mb7 rfl))<|Ow_qw rfl rfl rfl rfl rfl rfl (Qt_fieldAddr (m := 2) rfl rfl rfl rfl rfl)<|Ow_qw rfl rfl rfl rfl rfl rfl (Qt_load1 (v := (.int .i64 p2.channel)) rfl rfl rfl (Rdc.blk Mb6 rfl))<|?_
     obtain ⟨x379, hx380, H⟩ := bnd H
     obtain ⟨r381, hr382, hk383⟩ := Slr.at hp0_chans hx380
     obtain ⟨v384, rfl, hs385⟩ := hr382
     refine Ow_qw rfl rfl rfl rfl rfl rfl (Q_ix (T := TyChan) hp0_chans hx380 rfl rfl rfl rfl rfl)<|Ow_qw rfl rfl rfl rfl rfl rfl (Qt_fieldAddr (m := 2) rfl rfl rfl rfl rfl)<|Ow_qw rfl rfl rfl rfl rfl rfl (Qt_load1 (v := (.bool x379.closed)) rfl rfl rfl (Rdc.k hk383 rfl))<|Ow_qw rfl rfl rfl rfl rfl rfl (Qt_not rfl)<|Ow_q rfl rfl rfl (Qt_pick_t rfl rfl)<|Ow_nil<|Pu4<|Pu4<|Pu4<|Pu6<|?_
     refine Pu6<|Pu6<|Pu6<|Re7<|Shift.done<|?_
     exact ⟨_, by exact ⟨rfl, rfl, rfl, rfl, rfl, rfl, trivial⟩, (!(x379.closed)), rfl, rfl, rfl, H⟩
    ·intro h378
     have H := iff_ (btf h378) H
     refine Ow_pass rfl rfl rfl rfl rfl rfl rfl<|Ow_pass rfl rfl rfl rfl rfl rfl rfl<|Ow_pass rfl rfl rfl rfl rfl rfl rfl<|Ow_pass rfl rfl rfl rfl rfl rfl rfl<|Ow_pass rfl rfl rfl rfl rfl rfl rfl<|Ow_pass rfl rfl rfl rfl rfl rfl rfl<|Ow_pass rfl rfl rfl rfl rfl rfl rfl<|Ow_pass rfl rfl rfl rfl rfl rfl rfl<|Ow_q rfl rfl rfl (Qt_pick_f rfl rfl)<|Ow_nil<|?_
     refine Pu4<|Pu4<|Pu4<|Pu6<|Pu6<|Pu6<|Pu6<|Re7<|Shift.done<|?_
     exact ⟨_, by exact ⟨rfl, rfl, rfl, rfl, rfl, rfl, trivial⟩, false, rfl, rfl, rfl, H⟩
   rintro _ _ _ - ⟨t375, rfl, rfl, rfl, H⟩
   unfold M_80z at H
   refine Cw_cond rfl ?_ ?_
   ·intro h386
    have H := ift h386 H
    refine Cw_seq<|Cw_region<|Ow_q rfl rfl rfl (Qt_move rfl)<|Ow_q rfl rfl rfl (Qt_fieldAddr (m := 2) rfl rfl rfl rfl rfl)<|Ow_q rfl rfl rfl (Qt_load1 (v := (.int .i64 p2.channel)) rfl rfl rfl (Rdc.blk Mb3 rfl))<|?_
    obtain ⟨x387, x388, x389, hx390, H⟩ := bnd3 H
    refine Ow.shift (Pu6 (Shift.done ?_))
    refine Ow.shift (Pu6 (Shift.done ?_))
    refine Ow.shift (Pu6 (Shift.done ?_))
    refine Ow.shift (Pu4 (Shift.done ?_))
    refine Ow_cons rfl (OpW_call rfl Try.call46 rfl rfl (c_M_120z b192 x190 v193 rs194 v195 rs196 v197 rs198 p2.channel x387 x388 x389 hx390 _ _ hs199 hs200 hs201) ?_)
    rintro _ K397 _ hK398 ⟨v391, rs392, v393, rs394, v395, rs396, rfl, rfl, hs399, hs400, hs401⟩
    refine Ow_nil<|Cw_region<|Ow_q rfl rfl rfl (Qt_fieldAddr (m := 0) rfl rfl rfl rfl rfl)<|?_
    refine Ow_cons rfl (OpW_store (vs := [(.int .i64 6)]) (all' := (Result.cells (Result.mk 6 (-1) 0 false 0))) rfl rfl rfl rfl rfl (.there (.there (.there (.there .here)))) rfl rfl rfl ?_)
    refine Ow_nil<|Pu3<|Pu3<|Pu3<|Pu5<|Pu4<|Pu5<|Re6<|Shift.done<|?_
    exact ⟨_, by exact ⟨rfl, rfl, rfl, rfl, trivial⟩, 6, (-1), 0, false, 0, v391, x387, rs392, v393, x388, rs394, v395, x389, rs396, rfl, rfl, H, hs399, hs400, hs401⟩
   ·intro h386
    have H := iff_ (btf h386) H
    refine Cw_skip<|Pu6<|Pu6<|Pu6<|Pu5<|Pu5<|Pu5<|Re6<|Shift.done<|?_
    exact ⟨_, by exact ⟨rfl, rfl, rfl, rfl, trivial⟩, 5, (-1), 0, false, 0, v193, x190.desk.chans, rs194, v195, x190.desk.waiting, rs196, v197, x190.done, rs198, rfl, rfl, H, hs199, hs200, hs201⟩
  ·intro h364
   have h364 := dcd_f (h364)
   have H := iff_ h364 H
   refine Cw_join (fun env' K' G' => ∃ (t403 : Bool), [(1, (.int .i64 p1)), (3, (.pointer (some ((⟨b187, 0, none⟩ : Addr).add 0)))), (5, (.pointer (some ((⟨b188, 0, none⟩ : Addr).add 0)))), (6, (.pointer (some ((⟨b189, 0, none⟩ : Addr).add 0)))), (9, (.pointer (some ((⟨b192, 0, none⟩ : Addr).add 0)))), (10, (.pointer (some ((⟨b202, 0, none⟩ : Addr).add 0)))), (107, (.bool t403))] = env' ∧ K = K' ∧ (.blk b202 73 (Result.cells (Result.mk 0 (-1) 0 false 0))) :: (.blk b192 92 (Desk_work.cells x190 v193 v195 v197)) :: (.blk b189 34 (Desk.cells (Desk.mk [] [] 0) nilS nilS)) :: (.blk b188 41 (Op.cells p2 vp2_cases vp2_draws)) :: (.blk b187 34 (Desk.cells p0 vp0_chans vp0_waiting)) :: (.row (sv v193) 71 3 rs194.flatten) :: (.row (sv v195) 52 8 rs196.flatten) :: (.row (sv v197) 75 6 rs198.flatten) :: G = G' ∧ M_48z p1 x190 p2 p0 t403 = some (y0, y1, y2)) ?_ ?_
   ·skip
    refine Cw_seq<|Cw_region<|Ow_q rfl rfl rfl (Qt_cmp rfl rfl rfl)<|Ow_q rfl rfl rfl (Qt_assign rfl)<|Ow_nil<|?_
    refine Cw_cond rfl ?_ ?_
    ·intro h404
     have h404 := dcd_t (h404)
     have H := ift h404 H
     refine Cw_skip<|Pu4<|Pu4<|Pu4<|Pu7<|Pu7<|Pu7<|Pu7<|Pu7<|Shift.done<|?_
     exact ⟨_, by exact ⟨rfl, rfl, rfl, rfl, rfl, rfl, rfl, trivial⟩, (dcd (p2.kind = 5)), rfl, rfl, rfl, H⟩
    ·intro h404
     have h404 := dcd_f (h404)
     have H := iff_ h404 H
     refine Cw_region<|Ow_q rfl rfl rfl (Qt_cmp rfl rfl rfl)<|Ow_q rfl rfl rfl (Qt_assign rfl)<|Ow_nil<|Pu4<|Pu4<|Pu4<|Pu7<|Pu7<|Pu7<|?_
     refine Pu7<|Pu7<|Shift.done<|?_
     exact ⟨_, by exact ⟨rfl, rfl, rfl, rfl, rfl, rfl, rfl, trivial⟩, (dcd (p2.kind = 6)), rfl, rfl, rfl, H⟩
   rintro _ _ _ - ⟨t403, rfl, rfl, rfl, H⟩
   unfold M_48z at H
   refine Cw_cond rfl ?_ ?_
   ·intro h405
    have H := ift h405 H
    refine Cw_seq<|Cw_region<|Ow_q rfl rfl rfl (Qt_fieldAddr (m := 0) rfl rfl rfl rfl rfl)<|?_
    refine Ow_cons rfl (OpW_store (vs := [(.int .i64 7)]) (all' := (Result.cells (Result.mk 7 (-1) 0 false 0))) rfl rfl rfl rfl rfl .here rfl rfl rfl ?_)
    refine Ow_nil<|Cw_seq<|Cw_region<|Ow_q rfl rfl rfl (Qt_loadA (m := 3) (cs := (Desk.cells p0 vp0_chans vp0_waiting)) rfl rfl rfl rfl ⟨rfl, Rdc.blk Mb4 rfl⟩)<|Ow_q rfl rfl rfl (Qt_fieldAddr (m := 2) rfl rfl rfl rfl rfl)<|Ow_q rfl rfl rfl (Qt_load1 (v := (.int .i64 p2.channel)) rfl rfl rfl (Rdc.blk Mb3 rfl))<|?_
    obtain ⟨x406, hx407, H⟩ := bnd H
    refine Ow_cons rfl (OpW_call rfl Try.call45 rfl rfl (c_M_42z p0 vp0_chans vp0_waiting p2.channel x406 hx407 _ _ hp0_chans hp0_waiting) ?_)
    rintro _ _ _ - ⟨rfl, rfl, rfl⟩
    refine Ow_nil ?_
    refine Cw_cond rfl ?_ ?_
    ·intro h408
     have H := ift h408 H
     refine Cw_seq<|Cw_region<|Ow_q rfl rfl rfl (Qt_fieldAddr (m := 0) rfl rfl rfl rfl rfl)<|Ow_q rfl rfl rfl (Qt_load1 (v := (sv vp0_chans)) rfl rfl rfl (Rdc.blk Mb4 rfl))<|Ow_q rfl rfl rfl (Qt_fieldAddr (m := 2) rfl rfl rfl rfl rfl)<|Ow_q rfl rfl rfl (Qt_load1 (v := (.int .i64 p2.channel)) rfl rfl rfl (Rdc.blk Mb3 rfl))<|?_
     obtain ⟨x409, hx410, H⟩ := bnd H
     obtain ⟨r411, hr412, hk413⟩ := Slr.at hp0_chans hx410
     obtain ⟨v414, rfl, hs415⟩ := hr412
     refine Ow_q rfl rfl rfl (Q_ix (T := TyChan) hp0_chans hx410 rfl rfl rfl rfl rfl)<|Ow_q rfl rfl rfl (Qt_fieldAddr (m := 0) rfl rfl rfl rfl rfl)<|Ow_q rfl rfl rfl (Qt_load1 (v := (.int .i64 x409.capacity)) rfl rfl rfl (Rdc.k hk413 rfl))<|Ow_q rfl rfl rfl (Qt_fieldAddr (m := 4) rfl rfl rfl rfl rfl)<|?_
     refine Ow_cons rfl (OpW_store (vs := [(.int .i64 x409.capacity)]) (all' := (Result.cells (Result.mk 7 (-1) 0 false x409.capacity))) rfl rfl rfl rfl rfl .here rfl rfl rfl ?_)
     refine Ow_nil<|Cw_seq<|Cw_region<|Ow_q rfl rfl rfl (Qt_fieldAddr (m := 0) rfl rfl rfl rfl rfl)<|Ow_q rfl rfl rfl (Qt_load1 (v := (.int .i64 p2.kind)) rfl rfl rfl (Rdc.blk Mb3 rfl))<|Ow_q rfl rfl rfl (Qt_cmp rfl rfl rfl)<|Ow_nil<|?_
     refine Cw_cond rfl ?_ ?_
     ·intro h416
      have h416 := dcd_t (h416)
      have H := ift h416 H
      refine Cw_region<|Ow_q rfl rfl rfl (Qt_fieldAddr (m := 0) rfl rfl rfl rfl rfl)<|Ow_q rfl rfl rfl (Qt_load1 (v := (sv vp0_chans)) rfl rfl rfl (Rdc.blk Mb4 rfl))<|Ow_q rfl rfl rfl (Qt_fieldAddr (m := 2) rfl rfl rfl rfl rfl)<|Ow_q rfl rfl rfl (Qt_load1 (v := (.int .i64 p2.channel)) rfl rfl rfl (Rdc.blk Mb3 rfl))<|?_
      obtain ⟨x417, hx418, H⟩ := bnd H
      obtain ⟨r419, hr420, hk421⟩ := Slr.at hp0_chans hx418
      obtain ⟨v422, rfl, hs423⟩ := hr420
      refine Ow_q rfl rfl rfl (Q_ix (T := TyChan) hp0_chans hx418 rfl rfl rfl rfl rfl)<|Ow_q rfl rfl rfl (Qt_fieldAddr (m := 1) rfl rfl rfl rfl rfl)<|Ow_q rfl rfl rfl (Qt_load1 (v := (sv v422)) rfl rfl rfl (Rdc.k hk421 rfl))<|Ow_q rfl rfl rfl (Q_len (T := Ty.u64) hs423 rfl rfl)<|Ow_q rfl rfl rfl (Qt_fieldAddr (m := 4) rfl rfl rfl rfl rfl)<|?_
      refine Ow_cons rfl (OpW_store (vs := [(.int .i64 (x417.buffer.length : Int))]) (all' := (Result.cells (Result.mk 7 (-1) 0 false (x417.buffer.length : Int)))) rfl rfl rfl rfl rfl .here rfl rfl rfl ?_)
      refine Ow_nil<|Pu7<|Pu7<|Pu7<|Pu5<|Pu5<|Pu5<|Re6<|Re6<|Shift.done<|?_
      exact ⟨_, by exact ⟨rfl, rfl, rfl, rfl, trivial⟩, 7, (-1), 0, false, (x417.buffer.length : Int), v193, x190.desk.chans, rs194, v195, x190.desk.waiting, rs196, v197, x190.done, rs198, rfl, rfl, H, hs199, hs200, hs201⟩
     ·intro h416
      have h416 := dcd_f (h416)
      have H := iff_ h416 H
      refine Cw_skip<|Pu7<|Pu7<|Pu7<|Pu5<|Pu5<|Pu5<|Re6<|Re6<|Shift.done<|?_
      exact ⟨_, by exact ⟨rfl, rfl, rfl, rfl, trivial⟩, 7, (-1), 0, false, x409.capacity, v193, x190.desk.chans, rs194, v195, x190.desk.waiting, rs196, v197, x190.done, rs198, rfl, rfl, H, hs199, hs200, hs201⟩
    ·intro h408
     have H := iff_ (btf h408) H
     refine Cw_skip<|Pu7<|Pu7<|Pu7<|Pu5<|Pu5<|Pu5<|Re6<|Re6<|Shift.done<|?_
     exact ⟨_, by exact ⟨rfl, rfl, rfl, rfl, trivial⟩, 7, (-1), 0, false, 0, v193, x190.desk.chans, rs194, v195, x190.desk.waiting, rs196, v197, x190.done, rs198, rfl, rfl, H, hs199, hs200, hs201⟩
   ·intro h405
    have H := iff_ (btf h405) H
    refine Cw_seq<|Cw_region<|Ow_q rfl rfl rfl (Qt_loadA (m := 3) (cs := (Desk.cells p0 vp0_chans vp0_waiting)) rfl rfl rfl rfl ⟨rfl, Rdc.blk Mb4 rfl⟩)<|Ow_q rfl rfl rfl (Qt_move rfl)<|Ow_q rfl rfl rfl (Qt_loadA (m := 7) (cs := (Op.cells p2 vp2_cases vp2_draws)) rfl rfl rfl rfl ⟨rfl, Rdc.blk Mb3 rfl⟩)<|?_
    obtain ⟨x424, hx425, H⟩ := bnd H
    refine Ow_cons rfl (OpW_call rfl Try.call18 rfl rfl (c_M_129z p0 vp0_chans vp0_waiting p1 p2 vp2_cases vp2_draws x424 hx425 _ _ hp0_chans hp0_waiting hp2_cases hp2_draws) ?_)
    rintro _ K426 _ hK427 ⟨rfl, rfl⟩
    refine Ow_q rfl rfl rfl (Qt_assign rfl)<|Ow_nil<|?_
    refine Cw_join (fun env' K' G' => ∃ (i445 : Int), [(1, (.int .i64 p1)), (3, (.pointer (some ((⟨b187, 0, none⟩ : Addr).add 0)))), (5, (.pointer (some ((⟨b188, 0, none⟩ : Addr).add 0)))), (6, (.pointer (some ((⟨b189, 0, none⟩ : Addr).add 0)))), (9, (.pointer (some ((⟨b192, 0, none⟩ : Addr).add 0)))), (10, (.pointer (some ((⟨b202, 0, none⟩ : Addr).add 0)))), (11, (.int .i64 i445))] = env' ∧ (.blk b202 73 (Result.cells (Result.mk 0 (-1) 0 false 0))) :: (.blk b192 92 (Desk_work.cells x190 v193 v195 v197)) :: (.blk b189 34 (Desk.cells (Desk.mk [] [] 0) nilS nilS)) :: (.blk b188 41 (Op.cells p2 vp2_cases vp2_draws)) :: (.blk b187 34 (Desk.cells p0 vp0_chans vp0_waiting)) :: (.row (sv v193) 71 3 rs194.flatten) :: (.row (sv v195) 52 8 rs196.flatten) :: (.row (sv v197) 75 6 rs198.flatten) :: G = G' ∧ M_82z p1 x190 p2 p0 i445 = some (y0, y1, y2)) ?_ ?_
    ·skip
     refine Cw_seq<|Cw_region<|Ow_q rfl rfl rfl (Qt_loadA (m := 7) (cs := (Op.cells p2 vp2_cases vp2_draws)) rfl rfl rfl rfl ⟨rfl, Rdc.blk Mb3 rfl⟩)<|?_
     obtain ⟨x446, x447, hx448, H⟩ := bnd2 H
     have hs449 := (hp2_cases).mono hK427
     have hs450 := (hp2_draws).mono hK427
     refine Ow_cons rfl (OpW_call rfl Try.call47 rfl rfl (c_M_8z p2 vp2_cases vp2_draws x446 x447 hx448 _ _ hs449 hs450) ?_)
     rintro _ _ _ - ⟨rfl, rfl, rfl⟩
     refine Ow_q rfl rfl rfl (Qt_move rfl)<|Ow_q rfl rfl rfl (Qt_extract rfl rfl)<|Ow_q rfl rfl rfl (Qt_extract rfl rfl)<|?_
     refine Ow_cons rfl (OpW_alloc (cs := (Case.cells (Case.mk false 0 0))) rfl rfl rfl rfl (fun b451 => ?_))
     refine Ow_cons rfl (OpW_store (vs := (Case.cells x446)) (all' := (Case.cells x446)) rfl rfl rfl rfl rfl .here rfl rfl rfl ?_)
     refine Ow_q rfl rfl rfl (Qt_assign rfl)<|Ow_nil<|?_
     refine Cw_join (fun env' K' G' => ∃ (t459 : Bool), [(1, (.int .i64 p1)), (3, (.pointer (some ((⟨b187, 0, none⟩ : Addr).add 0)))), (5, (.pointer (some ((⟨b188, 0, none⟩ : Addr).add 0)))), (6, (.pointer (some ((⟨b189, 0, none⟩ : Addr).add 0)))), (9, (.pointer (some ((⟨b192, 0, none⟩ : Addr).add 0)))), (10, (.pointer (some ((⟨b202, 0, none⟩ : Addr).add 0)))), (11, (.int .i64 x424)), (34, (.bool t459))] = env' ∧ (.blk b202 73 (Result.cells (Result.mk 0 (-1) 0 false 0))) :: (.blk b192 92 (Desk_work.cells x190 v193 v195 v197)) :: (.blk b189 34 (Desk.cells (Desk.mk [] [] 0) nilS nilS)) :: (.blk b188 41 (Op.cells p2 vp2_cases vp2_draws)) :: (.blk b187 34 (Desk.cells p0 vp0_chans vp0_waiting)) :: (.row (sv v193) 71 3 rs194.flatten) :: (.row (sv v195) 52 8 rs196.flatten) :: (.row (sv v197) 75 6 rs198.flatten) :: G = G' ∧ M_83z p1 x424 x190 p2 p0 t459 = some (y0, y1, y2)) ?_ ?_
     ·skip
      refine Cw_region<|Ow_q rfl rfl rfl (Qt_move rfl)<|Ow_q rfl rfl rfl (Qt_move rfl)<|?_
      refine Ow_caseG rfl rfl rfl ?_ ?_
      ·intro h460
       have H := ift h460 H
       refine Ow_qw rfl rfl rfl rfl rfl rfl (Qt_loadA (m := 3) (cs := (Desk.cells p0 vp0_chans vp0_waiting)) rfl rfl rfl rfl ⟨rfl, Rdc.blk Mb5 rfl⟩)<|Ow_qw rfl rfl rfl rfl rfl rfl (Qt_move rfl)<|Ow_qw rfl rfl rfl rfl rfl rfl (Qt_loadA (m := 3) (cs := (Case.cells x446)) rfl rfl rfl rfl ⟨rfl, Rdc.blk Mb0 rfl⟩)<|?_
       obtain ⟨x461, hx462, H⟩ := bnd H
       have hs463 := (hp0_chans).mono hK427
       have hs464 := (hp0_waiting).mono hK427
       refine Ow_want rfl rfl rfl rfl (OpW_call rfl Try.call16 rfl rfl (c_M_77z p0 vp0_chans vp0_waiting p1 x446 x461 hx462 _ _ hs463 hs464) ?_)
       rintro _ K465 _ hK466 ⟨rfl, rfl⟩
       refine Ow_q rfl rfl rfl (Qt_pick_t rfl rfl)<|Ow_nil<|Pu8<|Pu8<|Pu8<|Pu8<|Pu8<|Pu8<|Pu8<|Pu8<|?_
       refine Re8<|Shift.done<|?_
       exact ⟨_, by exact ⟨rfl, rfl, rfl, rfl, rfl, rfl, rfl, rfl, trivial⟩, x461, rfl, rfl, H⟩
      ·intro h460
       have H := iff_ (btf h460) H
       refine Ow_pass rfl rfl rfl rfl rfl rfl rfl<|Ow_pass rfl rfl rfl rfl rfl rfl rfl<|Ow_pass rfl rfl rfl rfl rfl rfl rfl<|Ow_pass rfl rfl rfl rfl rfl rfl rfl<|Ow_q rfl rfl rfl (Qt_pick_f rfl rfl)<|Ow_nil<|Pu8<|Pu8<|Pu8<|Pu8<|?_
       refine Pu8<|Pu8<|Pu8<|Pu8<|Re8<|Shift.done<|?_
       exact ⟨_, by exact ⟨rfl, rfl, rfl, rfl, rfl, rfl, rfl, rfl, trivial⟩, false, rfl, rfl, H⟩
     rintro _ K467 _ hK468 ⟨t459, rfl, rfl, H⟩
     unfold M_83z at H
     refine Cw_cond rfl ?_ ?_
     ·intro h469
      have H := ift h469 H
      refine Cw_region<|Ow_q rfl rfl rfl (Qt_assign rfl)<|Ow_nil<|Pu7<|Pu7<|Pu7<|Pu7<|Pu7<|Pu7<|Pu7<|?_
      refine Pu7<|Shift.done<|?_
      exact ⟨_, by exact ⟨rfl, rfl, rfl, rfl, rfl, rfl, rfl, trivial⟩, 0, rfl, rfl, H⟩
     ·intro h469
      have H := iff_ (btf h469) H
      refine Cw_skip<|Pu7<|Pu7<|Pu7<|Pu7<|Pu7<|Pu7<|Pu7<|Pu7<|Shift.done<|?_
      exact ⟨_, by exact ⟨rfl, rfl, rfl, rfl, rfl, rfl, rfl, trivial⟩, x424, rfl, rfl, H⟩
    rintro _ K470 _ hK471 ⟨i445, rfl, rfl, H⟩
    unfold M_82z at H
    refine Cw_block<|Cw_seq<|Cw_region<|Ow_q rfl rfl rfl (Qt_move rfl)<|Ow_q rfl rfl rfl (Qt_cmp rfl rfl rfl)<|Ow_q rfl rfl rfl (Qt_assign rfl)<|Ow_nil<|?_
    refine Cw_cond rfl ?_ ?_
    ·intro h472
     have h472 := dcd_t (h472)
     have H := ift h472 H
     refine Cw_seq<|Cw_region<|Ow_q rfl rfl rfl (Qt_move rfl)<|Ow_q rfl rfl rfl (Qt_move rfl)<|Ow_q rfl rfl rfl (Qt_loadA (m := 7) (cs := (Op.cells p2 vp2_cases vp2_draws)) rfl rfl rfl rfl ⟨rfl, Rdc.blk Mb3 rfl⟩)<|?_
     obtain ⟨x473, hx474, H⟩ := bnd H
     have hs475 := ((hp2_cases).mono hK427).mono hK471
     have hs476 := ((hp2_draws).mono hK427).mono hK471
     refine Ow_cons rfl (OpW_call rfl Try.call49 rfl rfl (c_M_43z p2 vp2_cases vp2_draws x473 hx474 _ _ hs475 hs476) ?_)
     rintro _ K478 _ hK479 ⟨v477, rfl, rfl, hs480⟩
     refine Ow_q rfl rfl rfl (Qt_move rfl) ?_
     obtain ⟨x481, hx482, H⟩ := bnd H
     obtain ⟨r483, hr484, hk485⟩ := Slr.at hs480 hx482
     obtain rfl := hr484
     refine Ow_q rfl rfl rfl (Q_ix (T := TyCase) hs480 hx482 rfl rfl rfl rfl rfl)<|Ow_q rfl rfl rfl (Qt_loadA (m := 3) (cs := (Case.cells x481)) rfl rfl rfl rfl ⟨rfl, Rdc.k hk485 rfl⟩)<|?_
     obtain ⟨x486, x487, x488, x489, hx490, H⟩ := bnd4 H
     refine Ow.shift (Pu7 (Shift.done ?_))
     refine Ow.shift (Pu7 (Shift.done ?_))
     refine Ow.shift (Pu7 (Shift.done ?_))
     refine Ow.shift (Pu4 (Shift.done ?_))
     have hs491 := (((hs199).mono hK427).mono hK471).mono hK479
     have hs492 := (((hs200).mono hK427).mono hK471).mono hK479
     have hs493 := (((hs201).mono hK427).mono hK471).mono hK479
     refine Ow_cons rfl (OpW_call rfl Try.call48 rfl rfl (c_M_28z b192 x190 v193 rs194 v195 rs196 v197 rs198 p1 x481 x486 x487 x488 x489 hx490 _ _ hs491 hs492 hs493) ?_)
     rintro _ K500 _ hK501 ⟨v494, rs495, v496, rs497, v498, rs499, rfl, rfl, hs502, hs503, hs504⟩
     refine Ow_cons rfl (OpW_store (vs := (Result.cells x486)) (all' := (Result.cells x486)) rfl rfl rfl rfl rfl (.there (.there (.there (.there .here)))) rfl rfl rfl ?_)
     refine Ow_nil<|Cw_region<|Ow_q rfl rfl rfl (Qt_loadA (m := 7) (cs := (Op.cells p2 vp2_cases vp2_draws)) rfl rfl rfl rfl ⟨rfl, Rdc.blk Mb6 rfl⟩)<|Ow_q rfl rfl rfl (Qt_move rfl)<|?_
     obtain ⟨x505, hx506, H⟩ := bnd H
     have hs507 := ((hs475).mono hK479).mono hK501
     have hs508 := ((hs476).mono hK479).mono hK501
     refine Ow_cons rfl (OpW_call rfl Try.call50 rfl rfl (c_M_72z p2 vp2_cases vp2_draws i445 x505 hx506 _ _ hs507 hs508) ?_)
     rintro _ _ _ - ⟨rfl, rfl, rfl⟩
     refine Ow_q rfl rfl rfl (Qt_fieldAddr (m := 1) rfl rfl rfl rfl rfl) ?_
     refine Ow_cons rfl (OpW_store (vs := [(.int .i64 x505)]) (all' := (Result.cells (Result.mk x486.kind x505 x486.value x486.ok x486.number))) rfl rfl rfl rfl rfl (.there (.there (.there (.there .here)))) rfl rfl rfl ?_)
     refine Ow_nil<|Pu3<|Pu3<|Pu3<|Pu5<|Pu4<|Pu5<|Re6<|Re6<|Shift.done<|?_
     exact ⟨_, by exact ⟨rfl, rfl, rfl, rfl, trivial⟩, x486.kind, x505, x486.value, x486.ok, x486.number, v494, x487, rs495, v496, x488, rs497, v498, x489, rs499, rfl, rfl, H, hs502, hs503, hs504⟩
    ·intro h472
     have h472 := dcd_f (h472)
     have H := iff_ h472 H
     refine Cw_seq<|Cw_region<|Ow_q rfl rfl rfl (Qt_fieldAddr (m := 1) rfl rfl rfl rfl rfl)<|Ow_q rfl rfl rfl (Qt_load1 (v := (.int .i64 p2.mode)) rfl rfl rfl (Rdc.blk Mb3 rfl))<|Ow_q rfl rfl rfl (Qt_cmp rfl rfl rfl)<|Ow_q rfl rfl rfl (Qt_assign rfl)<|Ow_nil<|?_
     refine Cw_cond rfl ?_ ?_
     ·intro h509
      have h509 := dcd_t (h509)
      have H := ift h509 H
      refine Cw_region<|Ow_q rfl rfl rfl (Qt_fieldAddr (m := 0) rfl rfl rfl rfl rfl)<|?_
      refine Ow_cons rfl (OpW_store (vs := [(.int .i64 3)]) (all' := (Result.cells (Result.mk 3 (-1) 0 false 0))) rfl rfl rfl rfl rfl .here rfl rfl rfl ?_)
      refine Ow_nil<|Pu7<|Pu7<|Pu7<|Pu5<|Pu5<|Pu5<|Re6<|Re6<|?_
      have hs510 := ((hs199).mono hK427).mono hK471
      have hs511 := ((hs200).mono hK427).mono hK471
      have hs512 := ((hs201).mono hK427).mono hK471
      exact Shift.done ⟨_, by exact ⟨rfl, rfl, rfl, rfl, trivial⟩, 3, (-1), 0, false, 0, v193, x190.desk.chans, rs194, v195, x190.desk.waiting, rs196, v197, x190.done, rs198, rfl, rfl, H, hs510, hs511, hs512⟩
     ·intro h509
      have h509 := dcd_f (h509)
      have H := iff_ h509 H
      refine Cw_join (fun env' K' G' => ∃ (t514 : Bool), [(1, (.int .i64 p1)), (5, (.pointer (some ((⟨b188, 0, none⟩ : Addr).add 0)))), (6, (.pointer (some ((⟨b189, 0, none⟩ : Addr).add 0)))), (9, (.pointer (some ((⟨b192, 0, none⟩ : Addr).add 0)))), (10, (.pointer (some ((⟨b202, 0, none⟩ : Addr).add 0)))), (73, (.bool t514))] = env' ∧ K470 = K' ∧ (.blk b202 73 (Result.cells (Result.mk 0 (-1) 0 false 0))) :: (.blk b192 92 (Desk_work.cells x190 v193 v195 v197)) :: (.blk b189 34 (Desk.cells (Desk.mk [] [] 0) nilS nilS)) :: (.blk b188 41 (Op.cells p2 vp2_cases vp2_draws)) :: (.row (sv v193) 71 3 rs194.flatten) :: (.row (sv v195) 52 8 rs196.flatten) :: (.row (sv v197) 75 6 rs198.flatten) :: G = G' ∧ M_81z p1 x190 p2 t514 = some (y0, y1, y2)) ?_ ?_
      ·skip
       refine Cw_region<|Ow_q rfl rfl rfl (Qt_fieldAddr (m := 1) rfl rfl rfl rfl rfl)<|Ow_q rfl rfl rfl (Qt_load1 (v := (.int .i64 p2.mode)) rfl rfl rfl (Rdc.blk Mb3 rfl))<|Ow_q rfl rfl rfl (Qt_cmp rfl rfl rfl)<|Ow_q rfl rfl rfl (Qt_move rfl)<|?_
       refine Ow_caseG rfl rfl rfl ?_ ?_
       ·intro h515
        have h515 := dcd_t (h515)
        have H := ift h515 H
        refine Ow_qw rfl rfl rfl rfl rfl rfl (Qt_fieldAddr (m := 4) rfl rfl rfl rfl rfl)<|Ow_qw rfl rfl rfl rfl rfl rfl (Qt_load1 (v := (.int .i64 p2.deadline)) rfl rfl rfl (Rdc.blk Mb3 rfl))<|Ow_qw rfl rfl rfl rfl rfl rfl (Qt_fieldAddr (m := 2) rfl rfl rfl rfl rfl)<|Ow_qw rfl rfl rfl rfl rfl rfl (Qt_load1 (v := (.int .i64 p0.tick)) rfl rfl rfl (Rdc.blk Mb4 rfl))<|Ow_qw rfl rfl rfl rfl rfl rfl (Qt_cmp rfl rfl rfl)<|Ow_q rfl rfl rfl (Qt_pick_t rfl rfl)<|Ow_q rfl rfl rfl (Qt_assign rfl)<|Ow_nil<|Pu7<|Pu7<|?_
        refine Pu7<|Pu6<|Pu6<|Pu6<|Pu6<|Re7<|Shift.done<|?_
        exact ⟨_, by exact ⟨rfl, rfl, rfl, rfl, rfl, rfl, trivial⟩, (dcd (p2.deadline ≤ p0.tick)), rfl, rfl, rfl, H⟩
       ·intro h515
        have h515 := dcd_f (h515)
        have H := iff_ h515 H
        refine Ow_pass rfl rfl rfl rfl rfl rfl rfl<|Ow_pass rfl rfl rfl rfl rfl rfl rfl<|Ow_pass rfl rfl rfl rfl rfl rfl rfl<|Ow_pass rfl rfl rfl rfl rfl rfl rfl<|Ow_pass rfl rfl rfl rfl rfl rfl rfl<|Ow_q rfl rfl rfl (Qt_pick_f rfl rfl)<|Ow_q rfl rfl rfl (Qt_assign rfl)<|Ow_nil<|Pu7<|Pu7<|?_
        refine Pu7<|Pu6<|Pu6<|Pu6<|Pu6<|Re7<|Shift.done<|?_
        exact ⟨_, by exact ⟨rfl, rfl, rfl, rfl, rfl, rfl, trivial⟩, false, rfl, rfl, rfl, H⟩
      rintro _ _ _ - ⟨t514, rfl, rfl, rfl, H⟩
      unfold M_81z at H
      refine Cw_cond rfl ?_ ?_
      ·intro h516
       have H := ift h516 H
       refine Cw_region<|Ow_q rfl rfl rfl (Qt_fieldAddr (m := 0) rfl rfl rfl rfl rfl)<|?_
       refine Ow_cons rfl (OpW_store (vs := [(.int .i64 4)]) (all' := (Result.cells (Result.mk 4 (-1) 0 false 0))) rfl rfl rfl rfl rfl .here rfl rfl rfl ?_)
       refine Ow_nil<|Pu6<|Pu6<|Pu6<|Pu5<|Pu5<|Pu5<|Re6<|?_
       have hs517 := ((hs199).mono hK427).mono hK471
       have hs518 := ((hs200).mono hK427).mono hK471
       have hs519 := ((hs201).mono hK427).mono hK471
       exact Shift.done ⟨_, by exact ⟨rfl, rfl, rfl, rfl, trivial⟩, 4, (-1), 0, false, 0, v193, x190.desk.chans, rs194, v195, x190.desk.waiting, rs196, v197, x190.done, rs198, rfl, rfl, H, hs517, hs518, hs519⟩
      ·intro h516
       have H := iff_ (btf h516) H
       refine Cw_join (fun env' K' G' => ∃ (v546 : SV) (l547 : List Waiter) (rs549 : List (List Value)), [(6, (.pointer (some ((⟨b189, 0, none⟩ : Addr).add 0)))), (9, (.pointer (some ((⟨b192, 0, none⟩ : Addr).add 0))))] = env' ∧ K470 = K' ∧ (.blk b192 92 (Desk_work.cells (Desk_work.mk (Desk.mk x190.desk.chans l547 x190.desk.tick) x190.done) v193 v546 v197)) :: (.blk b189 34 (Desk.cells (Desk.mk [] [] 0) nilS nilS)) :: (.row (sv v546) 52 8 rs549.flatten) :: (.row (sv v193) 71 3 rs194.flatten) :: (.row (sv v197) 75 6 rs198.flatten) :: G = G' ∧ M_215z x190 l547 = some (y0, y1, y2) ∧ RowR TyWaiter K' rs549 l547) ?_ ?_
       ·skip
        obtain ⟨x554, hx555, H⟩ := bnd H
        refine Cw_region_any [.blk b202 73 (Result.cells (Result.mk 0 (-1) 0 false 0)), .blk b189 34 (Desk.cells (Desk.mk [] [] 0) nilS nilS), .blk b188 41 (Op.cells p2 vp2_cases vp2_draws), .row (sv v193) 71 3 rs194.flatten, .row (sv v197) 75 6 rs198.flatten] rfl (Inc.cons Mb0 (Inc.cons Mb2 (Inc.cons Mb3 (Inc.cons Mb4 (Inc.cons Mb6 Inc.nil)))))<|Awq 0 rfl (by kernel_rfl) rfl rfl rfl (Qt_move rfl)<|Awq 1 rfl (by kernel_rfl) rfl rfl rfl (Qt_move rfl)<|Awq 2 rfl (by kernel_rfl) rfl rfl rfl (Qt_nilCheck rfl)<|Awq 3 rfl (by kernel_rfl) rfl rfl rfl (Qt_fieldAddr (m := 0) rfl rfl rfl rfl rfl)<|Awq 4 rfl (by kernel_rfl) rfl rfl rfl (Qt_fieldAddr (m := 1) rfl rfl rfl rfl rfl)<|Awq 6 rfl (by kernel_rfl) rfl rfl rfl (Qt_move rfl)<|Awq 7 rfl (by kernel_rfl) rfl rfl rfl (Qt_loadA (m := 7) (cs := (Op.cells p2 vp2_cases vp2_draws)) rfl rfl rfl rfl ⟨rfl, Rdc.blk Mb2 rfl⟩)<|Awq 8 rfl (by kernel_rfl) rfl rfl rfl (Qt_build (cs := (Waiter.cells (Waiter.mk p1 p2) vp2_cases vp2_draws)) rfl rfl rfl rfl rfl rfl)<|?_
        refine Aw_two 5 9 (by kernel_rfl) ?_ ?_
        ·skip
         refine id (Ax_mk rfl rfl (OpW_of_Qt rfl rfl (Qt_load1 (v := (sv v195)) rfl rfl rfl (Rdc.blk Mb1 rfl)) ⟨(Inc.cons Mb0 (Inc.cons Mb2 (Inc.cons Mb3 (Inc.cons Mb4 (Inc.cons Mb6 Inc.nil))))), ?_⟩))
         refine Aw_one 9 (by kernel_rfl) (Ax_mk rfl rfl ?_)
         have hs562 := ((hp2_cases).mono hK427).mono hK471
         have hs563 := ((hp2_draws).mono hK427).mono hK471
         have hR561 : RowR TyWaiter K470 [(Waiter.cells (Waiter.mk p1 p2) vp2_cases vp2_draws)] [(Waiter.mk p1 p2)] := RowR.cons ⟨vp2_cases, vp2_draws, rfl, hs562, hs563⟩ (RowR.nil)
         refine O_lit (T := TyWaiter) (rows := [(Waiter.cells (Waiter.mk p1 p2) vp2_cases vp2_draws)]) (l := [(Waiter.mk p1 p2)]) rfl rfl rfl hR561 rfl rfl rfl rfl rfl rfl rfl rfl (fun v560 => ⟨(Inc.cons Mb1 (Inc.cons Mb3 (Inc.cons Mb4 (Inc.cons Mb5 (Inc.cons Mb7 Inc.nil))))), ?_⟩)
         refine Aw_one 10 (by kernel_rfl) (Ax_mk rfl rfl ?_)
         have hs567 := ((hs200).mono hK427).mono hK471
         refine O_appRow (T := TyWaiter) (bytes := 96) rfl rfl rfl Mb6 hs567 (SrcT.row Mb0 hR561 rfl) hx555 rfl rfl rfl rfl rfl rfl rfl rfl (fun v564 rs565 hR566 => ⟨_, (.there (.there (.there (.there (.there (.there .here)))))), ⟨(Inc.cons Mb1 (Inc.cons Mb3 (Inc.cons Mb4 (Inc.cons Mb5 (Inc.cons Mb7 Inc.nil))))), ?_⟩⟩)
         refine Aw.shift (Re0 (Shift.done ⟨(Inc.cons Mb0 (Inc.cons Mb2 (Inc.cons Mb3 (Inc.cons Mb4 (Inc.cons Mb6 Inc.nil))))), ?_⟩))
         refine Awq 11 rfl (by kernel_rfl) rfl rfl rfl (Qt_nilCheck rfl)<|Awq 12 rfl (by kernel_rfl) rfl rfl rfl (Qt_fieldAddr (m := 0) rfl rfl rfl rfl rfl)<|Awq 13 rfl (by kernel_rfl) rfl rfl rfl (Qt_fieldAddr (m := 1) rfl rfl rfl rfl rfl)<|?_
         refine Aw_one 14 (by kernel_rfl) (Ax_mk rfl rfl ?_)
         refine OpW_store (vs := [(sv v564)]) (all' := (Desk_work.cells (Desk_work.mk (Desk.mk x190.desk.chans x554 x190.desk.tick) x190.done) v193 v564 v197)) rfl rfl rfl rfl rfl (.there .here) rfl rfl rfl ⟨(Inc.cons Mb0 (Inc.cons Mb2 (Inc.cons Mb3 (Inc.cons Mb4 (Inc.cons Mb6 Inc.nil))))), ?_⟩
         refine Aw_done (by kernel_rfl)<|Pu6<|Pu5<|Pu6<|Pu5<|Pu5<|Re5<|Re5<|Shift.done<|?_
         exact ⟨_, by exact ⟨rfl, rfl, trivial⟩, v564, x554, rs565, rfl, rfl, rfl, H, hR566⟩
        ·skip
         refine id (Ax_mk rfl rfl ?_)
         have hs570 := ((hp2_cases).mono hK427).mono hK471
         have hs571 := ((hp2_draws).mono hK427).mono hK471
         have hR569 : RowR TyWaiter K470 [(Waiter.cells (Waiter.mk p1 p2) vp2_cases vp2_draws)] [(Waiter.mk p1 p2)] := RowR.cons ⟨vp2_cases, vp2_draws, rfl, hs570, hs571⟩ (RowR.nil)
         refine O_lit (T := TyWaiter) (rows := [(Waiter.cells (Waiter.mk p1 p2) vp2_cases vp2_draws)]) (l := [(Waiter.mk p1 p2)]) rfl rfl rfl hR569 rfl rfl rfl rfl rfl rfl rfl rfl (fun v568 => ⟨(Inc.cons Mb1 (Inc.cons Mb3 (Inc.cons Mb4 (Inc.cons Mb5 (Inc.cons Mb7 Inc.nil))))), ?_⟩)
         refine Aw_one 5 (by kernel_rfl) (Ax_mk rfl rfl (OpW_of_Qt rfl rfl (Qt_load1 (v := (sv v195)) rfl rfl rfl (Rdc.blk Mb2 rfl)) ⟨(Inc.cons Mb1 (Inc.cons Mb3 (Inc.cons Mb4 (Inc.cons Mb5 (Inc.cons Mb7 Inc.nil))))), ?_⟩))
         refine Aw_one 10 (by kernel_rfl) (Ax_mk rfl rfl ?_)
         have hs575 := ((hs200).mono hK427).mono hK471
         refine O_appRow (T := TyWaiter) (bytes := 96) rfl rfl rfl Mb6 hs575 (SrcT.row Mb0 hR569 rfl) hx555 rfl rfl rfl rfl rfl rfl rfl rfl (fun v572 rs573 hR574 => ⟨_, (.there (.there (.there (.there (.there (.there .here)))))), ⟨(Inc.cons Mb1 (Inc.cons Mb3 (Inc.cons Mb4 (Inc.cons Mb5 (Inc.cons Mb7 Inc.nil))))), ?_⟩⟩)
         refine Aw.shift (Re0 (Shift.done ⟨(Inc.cons Mb0 (Inc.cons Mb2 (Inc.cons Mb3 (Inc.cons Mb4 (Inc.cons Mb6 Inc.nil))))), ?_⟩))
         refine Awq 11 rfl (by kernel_rfl) rfl rfl rfl (Qt_nilCheck rfl)<|Awq 12 rfl (by kernel_rfl) rfl rfl rfl (Qt_fieldAddr (m := 0) rfl rfl rfl rfl rfl)<|Awq 13 rfl (by kernel_rfl) rfl rfl rfl (Qt_fieldAddr (m := 1) rfl rfl rfl rfl rfl)<|?_
         refine Aw_one 14 (by kernel_rfl) (Ax_mk rfl rfl ?_)
         refine OpW_store (vs := [(sv v572)]) (all' := (Desk_work.cells (Desk_work.mk (Desk.mk x190.desk.chans x554 x190.desk.tick) x190.done) v193 v572 v197)) rfl rfl rfl rfl rfl (.there .here) rfl rfl rfl ⟨(Inc.cons Mb0 (Inc.cons Mb2 (Inc.cons Mb3 (Inc.cons Mb4 (Inc.cons Mb6 Inc.nil))))), ?_⟩
         refine Aw_done (by kernel_rfl)<|Pu6<|Pu5<|Pu6<|Pu5<|Pu5<|Re5<|Re5<|Shift.done<|?_
         exact ⟨_, by exact ⟨rfl, rfl, trivial⟩, v572, x554, rs573, rfl, rfl, rfl, H, hR574⟩
       rintro _ _ _ - ⟨v546, l547, rs549, rfl, rfl, rfl, H, hR548⟩
       unfold M_215z at H
       refine Cw_seq<|Cw_region<|Ow_q rfl rfl rfl (Qt_move rfl)<|Ow_q rfl rfl rfl (Qt_nilCheck rfl)<|Ow_q rfl rfl rfl (Qt_fieldAddr (m := 0) rfl rfl rfl rfl rfl)<|Ow_q rfl rfl rfl (Qt_loadA (m := 3) (cs := (Desk.cells (Desk.mk x190.desk.chans l547 x190.desk.tick) v193 v546)) rfl rfl rfl rfl ⟨rfl, Rdc.blk Mb0 rfl⟩)<|?_
       refine Ow_cons rfl (OpW_store (vs := (Desk.cells (Desk.mk x190.desk.chans l547 x190.desk.tick) v193 v546)) (all' := (Desk.cells (Desk.mk x190.desk.chans l547 x190.desk.tick) v193 v546)) rfl rfl rfl rfl rfl (.there .here) rfl rfl rfl ?_)
       refine Ow_q rfl rfl rfl (Qt_assign rfl)<|Ow_q rfl rfl rfl (Qt_assign rfl)<|Ow_nil<|Cw_ret<|?_
       obtain ⟨ey0, ey1, ey2⟩ := inj3 H
       subst y0 y1 y2
       refine ⟨(by first | exact .inl rfl | exact .inr rfl), [(.agg (Desk.cells (Desk.mk x190.desk.chans l547 x190.desk.tick) v193 v546).toArray), (sv nilS), (.bool true)], ⟨(.agg (Desk.cells (Desk.mk x190.desk.chans l547 x190.desk.tick) v193 v546).toArray), _, rfl, ⟨_, 3, (Desk.cells (Desk.mk x190.desk.chans l547 x190.desk.tick) v193 v546), rfl, rfl, rfl, rfl, ⟨rfl, Rdc.blk Mb1 rfl⟩, rfl⟩, ⟨(sv nilS), _, rfl, rfl, ⟨(.bool true), _, rfl, rfl, rfl⟩⟩⟩, ?_⟩
       have hR576 : RowR TyDone K470 [] [] := RowR.nil
       refine Shift.nilRow 75 6<|Pu3<|Pu4<|Re3<|Re3<|Re3<|?_
       have hs577 := ((hs199).mono hK427).mono hK471
       exact Shift.done ⟨v193, rs194, v546, rs549, nilS, ([] : List (List Value)), rfl, rfl, hs577, hR548, hR576⟩
 rintro _ K578 _ hK579 ⟨i347, i348, i349, t350, i351, v352, l353, rs355, v356, l357, rs359, v360, l361, rs363, rfl, rfl, H, hR354, hR358, hR362⟩
 unfold M_5z at H
 refine Cw_seq<|Cw_region<|Ow_q rfl rfl rfl (Qt_move rfl)<|Ow_q rfl rfl rfl (Qt_move rfl)<|Ow_q rfl rfl rfl (Qt_loadA (m := 5) (cs := (Result.cells (Result.mk i347 i348 i349 t350 i351))) rfl rfl rfl rfl ⟨rfl, Rdc.blk Mb0 rfl⟩)<|?_
 obtain ⟨x580, hx581, H⟩ := bnd H
 refine Ow.shift (Pu5 (Shift.done ?_))
 refine Ow.shift (Pu5 (Shift.done ?_))
 refine Ow.shift (Pu5 (Shift.done ?_))
 refine Ow.shift (Pu4 (Shift.done ?_))
 refine Ow_cons rfl (OpW_call rfl Try.call51 rfl rfl (c_M_44z b192 (Desk_work.mk (Desk.mk l353 l357 x190.desk.tick) l361) v352 rs355 v356 rs359 v360 rs363 p1 (Result.mk i347 i348 i349 t350 i351) x580 hx581 _ _ hR354 hR358 hR362) ?_)
 rintro _ K584 _ hK585 ⟨v582, rs583, rfl, rfl, hs586⟩
 refine Ow_nil<|Cw_seq<|Cw_region_any [.blk b192 92 (Desk_work.cells (Desk_work.mk (Desk.mk l353 l357 x190.desk.tick) x580) v352 v356 v582), .row (sv v582) 75 6 rs583.flatten, .row (sv v352) 71 3 rs355.flatten, .row (sv v356) 52 8 rs359.flatten, .blk b202 73 (Result.cells (Result.mk i347 i348 i349 t350 i351))] rfl (Inc.cons Mb0 (Inc.cons Mb1 (Inc.cons Mb2 (Inc.cons Mb3 (Inc.cons Mb4 Inc.nil)))))<|Awq 0 rfl (by kernel_rfl) rfl rfl rfl (Qt_move rfl)<|Awq 1 rfl (by kernel_rfl) rfl rfl rfl (Qt_nilCheck rfl)<|Awq 2 rfl (by kernel_rfl) rfl rfl rfl (Qt_fieldAddr (m := 0) rfl rfl rfl rfl rfl)<|Awq 3 rfl (by kernel_rfl) rfl rfl rfl (Qt_loadA (m := 3) (cs := (Desk.cells (Desk.mk l353 l357 x190.desk.tick) v352 v356)) rfl rfl rfl rfl ⟨rfl, Rdc.blk Mb0 rfl⟩)<|Awq 4 rfl (by kernel_rfl) rfl rfl rfl (Qt_move rfl)<|Awq 5 rfl (by kernel_rfl) rfl rfl rfl (Qt_nilCheck rfl)<|Awq 6 rfl (by kernel_rfl) rfl rfl rfl (Qt_fieldAddr (m := 3) rfl rfl rfl rfl rfl)<|?_
 refine Awq 7 rfl (by kernel_rfl) rfl rfl rfl (Qt_load1 (v := (sv v582)) rfl rfl rfl (Rdc.blk Mb0 rfl)) ?_
 refine Aw_one 8 (by kernel_rfl) (Ax_mk rfl rfl ?_)
 refine OpW_store (vs := (Desk.cells (Desk.mk l353 l357 x190.desk.tick) v352 v356)) (all' := (Desk.cells (Desk.mk l353 l357 x190.desk.tick) v352 v356)) rfl rfl rfl rfl rfl (.there (.there (.there (.there (.there .here))))) rfl rfl rfl ⟨(Inc.cons Mb0 (Inc.cons Mb1 (Inc.cons Mb2 (Inc.cons Mb3 (Inc.cons Mb4 Inc.nil))))), ?_⟩
 refine Awq 9 rfl (by kernel_rfl) rfl rfl rfl (Qt_assign rfl)<|Awq 10 rfl (by kernel_rfl) rfl rfl rfl (Qt_assign rfl)<|Aw_done (by kernel_rfl)<|Cw_ret<|?_
 obtain ⟨ey0, ey1, ey2⟩ := inj3 H
 subst y0 y1 y2
 refine ⟨(by first | exact .inl rfl | exact .inr rfl), [(.agg (Desk.cells (Desk.mk l353 l357 x190.desk.tick) v352 v356).toArray), (sv v582), (.bool false)], ⟨(.agg (Desk.cells (Desk.mk l353 l357 x190.desk.tick) v352 v356).toArray), _, rfl, ⟨_, 3, (Desk.cells (Desk.mk l353 l357 x190.desk.tick) v352 v356), rfl, rfl, rfl, rfl, ⟨rfl, Rdc.blk Mb5 rfl⟩, rfl⟩, ⟨(sv v582), _, rfl, rfl, ⟨(.bool false), _, rfl, rfl, rfl⟩⟩⟩, ?_⟩
 refine Pu1<|Pu3<|Pu3<|Re3<|Re3<|Re3<|?_
 have hs587 := (hR354).mono hK585
 have hs588 := (hR358).mono hK585
 exact Shift.done ⟨v352, rs355, v356, rs359, v582, rs583, rfl, rfl, hs587, hs588, hs586⟩



end Go.Hx

namespace Go.Hx
open Go Go.Proofs
set_option linter.unusedSimpArgs false
set_option linter.unusedVariables false
set_option maxRecDepth 10000
set_option maxHeartbeats 1000000 in
theorem c_M_145z (bp0 : Nat) (p0 : Draw_Codes) (vp0_list : SV) (p1 : Config) (vp1_capacities : SV) (vp1_starts : SV) (p2 : Int) (y0 : Op) (z0_at_ : Int) (z0_value : Int) (H : M_145z p0 p1 p2 = some (y0, z0_at_, z0_value)) (K : Kp) (G : List Ent) (hp0_list : Slr Ty.u8 K (sv vp0_list) p0.list) (hp1_capacities : Slr Ty.i64 K (sv vp1_capacities) p1.capacities) (hp1_starts : Slr Ty.u64 K (sv vp1_starts) p1.starts) :
  Fc Try.prog 15 #[(.pointer (some ((⟨bp0, 0, none⟩ : Addr).add 0))), (.agg (Config.cells p1 vp1_capacities vp1_starts).toArray), (.int .i64 p2)] K ((.blk bp0 77 (Draw_Codes.cells p0 vp0_list)) :: G) (fun v K' G' => ∃ (wy0_cases : SV) (wy0_draws : SV), v = (.agg (Op.cells y0 wy0_cases wy0_draws).toArray) ∧ (.blk bp0 77 (Draw_Codes.cells (Draw_Codes.mk p0.list z0_at_ z0_value) vp0_list)) :: G = G' ∧ Slr TyCase K' (sv wy0_cases) y0.cases ∧ Slr Ty.i64 K' (sv wy0_draws) y0.draws) := by
 refine Fc_body Try.func15 rfl Try.ntmps15 Try.results15 rfl ?_
 unfold M_145z at H
 refine Cw_seq<|Cw_region<|?_
 refine Ow_cons rfl (OpW_box (cs := (Config.cells p1 vp1_capacities vp1_starts)) rfl rfl rfl (fun b241 => ?_))
 refine Ow_cons rfl (OpW_alloc (cs := (Op.cells (Op.mk 0 0 0 0 0 [] []) nilS nilS)) rfl rfl rfl rfl (fun b242 => ?_))
 refine Ow_nil<|Cw_seq<|Cw_region<|Ow_q rfl rfl rfl (Qt_build (cs := (Op.cells (Op.mk 4 0 0 0 0 [] []) nilS nilS)) rfl rfl rfl rfl rfl rfl)<|?_
 refine Ow_cons rfl (OpW_alloc (cs := (Op.cells (Op.mk 0 0 0 0 0 [] []) nilS nilS)) rfl rfl rfl rfl (fun b243 => ?_))
 refine Ow_cons rfl (OpW_store (vs := (Op.cells (Op.mk 4 0 0 0 0 [] []) nilS nilS)) (all' := (Op.cells (Op.mk 4 0 0 0 0 [] []) nilS nilS)) rfl rfl rfl rfl rfl .here rfl rfl rfl ?_)
 refine Ow_nil ?_
 refine Cw_join (fun env' K' G' => ∃ (i442 : Int) (i443 : Int) (v444 : SV) (l445 : List Case) (v447 : SV) (l448 : List Int), [(0, (.pointer (some ((⟨bp0, 0, none⟩ : Addr).add 0)))), (6, (.pointer (some ((⟨b242, 0, none⟩ : Addr).add 0)))), (7, (.pointer (some ((⟨b243, 0, none⟩ : Addr).add 0))))] = env' ∧ (.blk bp0 77 (Draw_Codes.cells (Draw_Codes.mk p0.list i442 i443) vp0_list)) :: (.blk b243 41 (Op.cells (Op.mk 4 0 0 0 0 l445 l448) v444 v447)) :: (.blk b242 41 (Op.cells (Op.mk 0 0 0 0 0 [] []) nilS nilS)) :: (.tok 45 3 [(sv v444)]) :: (.tok 3 1 [(sv v447)]) :: G = G' ∧ M_189z p0 i442 i443 l445 l448 = some (y0, z0_at_, z0_value) ∧ Slr TyCase K' (sv v444) l445 ∧ Slr Ty.i64 K' (sv v447) l448) ?_ ?_
 ·skip
  refine Cw_seq<|Cw_region<|Ow_q rfl rfl rfl (Qt_assign rfl)<|Ow_nil<|Cw_block<|?_
  refine Cw_loopM (fun n648 env' K' G' => ∃ (i639 : Int) (i640 : Int) (i641 : Int) (v642 : SV) (l643 : List Case) (v645 : SV) (l646 : List Int), [(0, (.pointer (some ((⟨bp0, 0, none⟩ : Addr).add 0)))), (2, (.int .i64 p2)), (4, (.pointer (some ((⟨b241, 0, none⟩ : Addr).add 0)))), (6, (.pointer (some ((⟨b242, 0, none⟩ : Addr).add 0)))), (7, (.pointer (some ((⟨b243, 0, none⟩ : Addr).add 0)))), (8, (.int .i64 i639))] = env' ∧ (.blk bp0 77 (Draw_Codes.cells (Draw_Codes.mk p0.list i640 i641) vp0_list)) :: (.blk b243 41 (Op.cells (Op.mk 4 0 0 0 0 l643 l646) v642 v645)) :: (.blk b242 41 (Op.cells (Op.mk 0 0 0 0 0 [] []) nilS nilS)) :: (.blk b241 29 (Config.cells p1 vp1_capacities vp1_starts)) :: (.tok 45 3 [(sv v642)]) :: (.tok 3 1 [(sv v645)]) :: G = G' ∧ lp5 (M_192z p2 p0 p1) n648 i639 i640 i641 l643 l646 = some (y0, z0_at_, z0_value) ∧ Slr TyCase K' (sv v642) l643 ∧ Slr Ty.i64 K' (sv v645) l646) BIG ?_ ?_
  ·skip
   refine Shift.nilTok1 45 3<|Shift.nilTok1 3 1<|Pu1<|Pu4<|Pu4<|Pu4<|Pu5<|Shift.done<|?_
   exact ⟨_, by exact ⟨rfl, rfl, rfl, rfl, rfl, rfl, trivial⟩, 0, p0.at_, p0.value, nilS, ([] : List Case), nilS, ([] : List Int), rfl, rfl, H, (Slr.nil TyCase _), (Slr.nil Ty.i64 _)⟩
  rintro n648 _ K649 _ hK650 ⟨i639, i640, i641, v642, l643, v645, l646, rfl, rfl, H, hs644, hs647⟩
  obtain ⟨m651, k652, rfl, hkk653, H⟩ := lps5 H
  unfold M_192z at H
  refine Cw_seq<|Cw_seq<|Cw_region<|Ow_q rfl rfl rfl (Qt_move rfl)<|Ow_q rfl rfl rfl (Qt_move rfl)<|Ow_q rfl rfl rfl (Qt_move rfl)<|Ow_q rfl rfl rfl (Qt_arith (e := wI (p2 + 1)) rfl rfl rfl rfl)<|?_
  obtain ⟨x659, x660, hx661, H⟩ := bnd2 H
  have hs662 := (hp0_list).mono hK650
  refine Ow_cons rfl (OpW_call rfl Try.call20 rfl rfl (c_M_0z bp0 (Draw_Codes.mk p0.list i640 i641) vp0_list (wI (p2 + 1)) x659 x660 hx661 _ _ hs662) ?_)
  rintro _ _ _ - ⟨rfl, rfl, rfl⟩
  refine Ow_q rfl rfl rfl (Qt_cmp rfl rfl rfl)<|Ow_nil<|?_
  refine Cw_cond rfl ?_ ?_
  ·intro h663
   have h663 := dcd_t (h663)
   have H := ift h663 H
   refine Cw_skip ?_
   refine Cw_join (fun env' K' G' => ∃ (i739 : Int) (i740 : Int) (v741 : SV) (l742 : List Case) (v744 : SV) (l745 : List Int), [(0, (.pointer (some ((⟨bp0, 0, none⟩ : Addr).add 0)))), (2, (.int .i64 p2)), (4, (.pointer (some ((⟨b241, 0, none⟩ : Addr).add 0)))), (6, (.pointer (some ((⟨b242, 0, none⟩ : Addr).add 0)))), (7, (.pointer (some ((⟨b243, 0, none⟩ : Addr).add 0)))), (8, (.int .i64 i639))] = env' ∧ (.blk bp0 77 (Draw_Codes.cells (Draw_Codes.mk p0.list i739 i740) vp0_list)) :: (.blk b243 41 (Op.cells (Op.mk 4 0 0 0 0 l742 l745) v741 v744)) :: (.blk b242 41 (Op.cells (Op.mk 0 0 0 0 0 [] []) nilS nilS)) :: (.blk b241 29 (Config.cells p1 vp1_capacities vp1_starts)) :: (.tok 45 3 [(sv v741)]) :: (.tok 3 1 [(sv v744)]) :: G = G' ∧ M_190z p2 i639 p0 p1 k652 i739 i740 l742 l745 = some (y0, z0_at_, z0_value) ∧ Slr TyCase K' (sv v741) l742 ∧ Slr Ty.i64 K' (sv v744) l745) ?_ ?_
   ·skip
    refine Cw_block ?_
    refine Cw_join (fun env' K' G' => ∃ (b766 : Nat) (i767 : Int) (i768 : Int) (t769 : Bool) (i770 : Int), [(0, (.pointer (some ((⟨bp0, 0, none⟩ : Addr).add 0)))), (2, (.int .i64 p2)), (4, (.pointer (some ((⟨b241, 0, none⟩ : Addr).add 0)))), (6, (.pointer (some ((⟨b242, 0, none⟩ : Addr).add 0)))), (7, (.pointer (some ((⟨b243, 0, none⟩ : Addr).add 0)))), (8, (.int .i64 i639)), (9, (.pointer (some ((⟨b766, 0, none⟩ : Addr).add 0))))] = env' ∧ K649 = K' ∧ (.blk bp0 77 (Draw_Codes.cells (Draw_Codes.mk p0.list i767 i768) vp0_list)) :: (.blk b766 45 (Case.cells (Case.mk t769 i770 0))) :: (.blk b243 41 (Op.cells (Op.mk 4 0 0 0 0 l643 l646) v642 v645)) :: (.blk b242 41 (Op.cells (Op.mk 0 0 0 0 0 [] []) nilS nilS)) :: (.blk b241 29 (Config.cells p1 vp1_capacities vp1_starts)) :: (.tok 45 3 [(sv v642)]) :: (.tok 3 1 [(sv v645)]) :: G = G' ∧ M_191z p2 i639 p0 l643 l646 p1 k652 i767 i768 t769 i770 = some (y0, z0_at_, z0_value)) ?_ ?_
    ·skip
     obtain ⟨x771, x772, hx773, H⟩ := bnd2 H
     obtain ⟨x774, x775, x776, hx777, H⟩ := bnd3 H
     refine Cw_region_any [.blk b243 41 (Op.cells (Op.mk 4 0 0 0 0 l643 l646) v642 v645), .blk b242 41 (Op.cells (Op.mk 0 0 0 0 0 [] []) nilS nilS), .blk b241 29 (Config.cells p1 vp1_capacities vp1_starts), .tok 45 3 [(sv v642)], .tok 3 1 [(sv v645)]] rfl (Inc.cons Mb1 (Inc.cons Mb2 (Inc.cons Mb3 (Inc.cons Mb4 (Inc.cons Mb5 Inc.nil)))))<|Awq 0 rfl (by kernel_rfl) rfl rfl rfl (Qt_move rfl)<|Awq 3 rfl (by kernel_rfl) rfl rfl rfl (Qt_move rfl)<|Awq 4 rfl (by kernel_rfl) rfl rfl rfl (Qt_loadA (m := 3) (cs := (Config.cells p1 vp1_capacities vp1_starts)) rfl rfl rfl rfl ⟨rfl, Rdc.blk Mb2 rfl⟩)<|?_
     refine Aw_two 1 7 (by kernel_rfl) ?_ ?_
     ·skip
      refine id (Ax_mk rfl rfl ?_)
      refine OpW_call rfl Try.call20 rfl rfl (c_M_0z bp0 (Draw_Codes.mk p0.list x660 ((Draw_Codes.mk p0.list i640 i641).value)) vp0_list 2 x771 x772 hx773 _ _ hs662) ?_
      rintro _ _ _ - ⟨rfl, rfl, rfl⟩
      refine ⟨(Inc.cons Mb1 (Inc.cons Mb2 (Inc.cons Mb3 (Inc.cons Mb4 (Inc.cons Mb5 Inc.nil))))), ?_⟩
      refine Awq 2 rfl (by kernel_rfl) rfl rfl rfl (Qt_cmp rfl rfl rfl) ?_
      refine Aw_two 5 7 (by kernel_rfl) ?_ ?_
      ·skip
       refine id (Ax_mk rfl rfl ?_)
       have hs781 := (hp1_capacities).mono hK650
       have hs782 := (hp1_starts).mono hK650
       refine OpW_call rfl Try.call36 rfl rfl (c_M_9z bp0 (Draw_Codes.mk p0.list x772 ((Draw_Codes.mk p0.list x660 ((Draw_Codes.mk p0.list i640 i641).value)).value)) vp0_list p1 vp1_capacities vp1_starts x774 x775 x776 hx777 _ _ hs662 hs781 hs782) ?_
       rintro _ _ _ - ⟨rfl, rfl, rfl⟩
       refine ⟨(Inc.cons Mb1 (Inc.cons Mb2 (Inc.cons Mb3 (Inc.cons Mb4 (Inc.cons Mb5 Inc.nil))))), ?_⟩
       refine Awq 6 rfl (by kernel_rfl) rfl rfl rfl (Qt_build (cs := (Case.cells (Case.mk (dcd (x771 = 1)) x774 0))) rfl rfl rfl rfl rfl rfl) ?_
       refine Aw_one 7 (by kernel_rfl) (Ax_mk rfl rfl ?_)
       refine OpW_alloc (cs := (Case.cells (Case.mk false 0 0))) rfl rfl rfl rfl (fun b783 => ⟨(Inc.cons Mb2 (Inc.cons Mb3 (Inc.cons Mb4 (Inc.cons Mb5 (Inc.cons Mb6 Inc.nil))))), ?_⟩)
       refine Aw_one 8 (by kernel_rfl) (Ax_mk rfl rfl ?_)
       refine OpW_store (vs := (Case.cells (Case.mk (dcd (x771 = 1)) x774 0))) (all' := (Case.cells (Case.mk (dcd (x771 = 1)) x774 0))) rfl rfl rfl rfl rfl .here rfl rfl rfl ⟨(Inc.cons Mb2 (Inc.cons Mb3 (Inc.cons Mb4 (Inc.cons Mb5 (Inc.cons Mb6 Inc.nil))))), ?_⟩
       refine Aw_done (by kernel_rfl)<|Pu6<|Pu6<|Pu6<|Pu6<|Pu6<|Pu5<|Pu6<|Shift.done<|?_
       exact ⟨_, by exact ⟨rfl, rfl, rfl, rfl, rfl, rfl, rfl, trivial⟩, b783, x775, x776, (dcd (x771 = 1)), x774, rfl, rfl, rfl, H⟩
      ·skip
       refine id (Ax_mk rfl rfl ?_)
       refine OpW_alloc (cs := (Case.cells (Case.mk false 0 0))) rfl rfl rfl rfl (fun b784 => ⟨(Inc.cons Mb2 (Inc.cons Mb3 (Inc.cons Mb4 (Inc.cons Mb5 (Inc.cons Mb6 Inc.nil))))), ?_⟩)
       refine Aw_one 5 (by kernel_rfl) (Ax_mk rfl rfl ?_)
       refine OpW.shift (Pu1 (Shift.done ?_))
       have hs785 := (hp1_capacities).mono hK650
       have hs786 := (hp1_starts).mono hK650
       refine OpW_call rfl Try.call36 rfl rfl (c_M_9z bp0 (Draw_Codes.mk p0.list x772 ((Draw_Codes.mk p0.list x660 ((Draw_Codes.mk p0.list i640 i641).value)).value)) vp0_list p1 vp1_capacities vp1_starts x774 x775 x776 hx777 _ _ hs662 hs785 hs786) ?_
       rintro _ _ _ - ⟨rfl, rfl, rfl⟩
       refine ⟨(Inc.cons Mb2 (Inc.cons Mb3 (Inc.cons Mb4 (Inc.cons Mb5 (Inc.cons Mb6 Inc.nil))))), ?_⟩
       refine Awq 6 rfl (by kernel_rfl) rfl rfl rfl (Qt_build (cs := (Case.cells (Case.mk (dcd (x771 = 1)) x774 0))) rfl rfl rfl rfl rfl rfl) ?_
       refine Aw_one 8 (by kernel_rfl) (Ax_mk rfl rfl ?_)
       refine OpW_store (vs := (Case.cells (Case.mk (dcd (x771 = 1)) x774 0))) (all' := (Case.cells (Case.mk (dcd (x771 = 1)) x774 0))) rfl rfl rfl rfl rfl (.there .here) rfl rfl rfl ⟨(Inc.cons Mb2 (Inc.cons Mb3 (Inc.cons Mb4 (Inc.cons Mb5 (Inc.cons Mb6 Inc.nil))))), ?_⟩
       refine Aw_done (by kernel_rfl)<|Pu6<|Pu6<|Pu6<|Pu6<|Pu6<|Pu6<|Pu6<|Shift.done<|?_
       exact ⟨_, by exact ⟨rfl, rfl, rfl, rfl, rfl, rfl, rfl, trivial⟩, b784, x775, x776, (dcd (x771 = 1)), x774, rfl, rfl, rfl, H⟩
     ·skip
      refine id (Ax_mk rfl rfl ?_)
      refine OpW_alloc (cs := (Case.cells (Case.mk false 0 0))) rfl rfl rfl rfl (fun b787 => ⟨(Inc.cons Mb2 (Inc.cons Mb3 (Inc.cons Mb4 (Inc.cons Mb5 (Inc.cons Mb6 Inc.nil))))), ?_⟩)
      refine Aw_one 1 (by kernel_rfl) (Ax_mk rfl rfl ?_)
      refine OpW.shift (Pu1 (Shift.done ?_))
      refine OpW_call rfl Try.call20 rfl rfl (c_M_0z bp0 (Draw_Codes.mk p0.list x660 ((Draw_Codes.mk p0.list i640 i641).value)) vp0_list 2 x771 x772 hx773 _ _ hs662) ?_
      rintro _ _ _ - ⟨rfl, rfl, rfl⟩
      refine ⟨(Inc.cons Mb2 (Inc.cons Mb3 (Inc.cons Mb4 (Inc.cons Mb5 (Inc.cons Mb6 Inc.nil))))), ?_⟩
      refine Awq 2 rfl (by kernel_rfl) rfl rfl rfl (Qt_cmp rfl rfl rfl) ?_
      refine Aw_one 5 (by kernel_rfl) (Ax_mk rfl rfl ?_)
      have hs788 := (hp1_capacities).mono hK650
      have hs789 := (hp1_starts).mono hK650
      refine OpW_call rfl Try.call36 rfl rfl (c_M_9z bp0 (Draw_Codes.mk p0.list x772 ((Draw_Codes.mk p0.list x660 ((Draw_Codes.mk p0.list i640 i641).value)).value)) vp0_list p1 vp1_capacities vp1_starts x774 x775 x776 hx777 _ _ hs662 hs788 hs789) ?_
      rintro _ _ _ - ⟨rfl, rfl, rfl⟩
      refine ⟨(Inc.cons Mb2 (Inc.cons Mb3 (Inc.cons Mb4 (Inc.cons Mb5 (Inc.cons Mb6 Inc.nil))))), ?_⟩
      refine Awq 6 rfl (by kernel_rfl) rfl rfl rfl (Qt_build (cs := (Case.cells (Case.mk (dcd (x771 = 1)) x774 0))) rfl rfl rfl rfl rfl rfl) ?_
      refine Aw_one 8 (by kernel_rfl) (Ax_mk rfl rfl ?_)
      refine OpW_store (vs := (Case.cells (Case.mk (dcd (x771 = 1)) x774 0))) (all' := (Case.cells (Case.mk (dcd (x771 = 1)) x774 0))) rfl rfl rfl rfl rfl (.there .here) rfl rfl rfl ⟨(Inc.cons Mb2 (Inc.cons Mb3 (Inc.cons Mb4 (Inc.cons Mb5 (Inc.cons Mb6 Inc.nil))))), ?_⟩
      refine Aw_done (by kernel_rfl)<|Pu6<|Pu6<|Pu6<|Pu6<|Pu6<|Pu6<|Pu6<|Shift.done<|?_
      exact ⟨_, by exact ⟨rfl, rfl, rfl, rfl, rfl, rfl, rfl, trivial⟩, b787, x775, x776, (dcd (x771 = 1)), x774, rfl, rfl, rfl, H⟩
    rintro _ _ _ - ⟨b766, i767, i768, t769, i770, rfl, rfl, rfl, H⟩
    unfold M_191z at H
    refine Cw_join (fun env' K' G' => ∃ (i794 : Int) (i795 : Int) (i796 : Int), [(0, (.pointer (some ((⟨bp0, 0, none⟩ : Addr).add 0)))), (2, (.int .i64 p2)), (4, (.pointer (some ((⟨b241, 0, none⟩ : Addr).add 0)))), (6, (.pointer (some ((⟨b242, 0, none⟩ : Addr).add 0)))), (7, (.pointer (some ((⟨b243, 0, none⟩ : Addr).add 0)))), (8, (.int .i64 i639)), (9, (.pointer (some ((⟨b766, 0, none⟩ : Addr).add 0))))] = env' ∧ K649 = K' ∧ (.blk bp0 77 (Draw_Codes.cells (Draw_Codes.mk p0.list i794 i795) vp0_list)) :: (.blk b766 45 (Case.cells (Case.mk t769 i770 i796))) :: (.blk b243 41 (Op.cells (Op.mk 4 0 0 0 0 l643 l646) v642 v645)) :: (.blk b242 41 (Op.cells (Op.mk 0 0 0 0 0 [] []) nilS nilS)) :: (.blk b241 29 (Config.cells p1 vp1_capacities vp1_starts)) :: (.tok 45 3 [(sv v642)]) :: (.tok 3 1 [(sv v645)]) :: G = G' ∧ M_87z p2 i639 p0 t769 i770 l643 l646 p1 k652 i794 i795 i796 = some (y0, z0_at_, z0_value)) ?_ ?_
    ·skip
     refine Cw_seq<|Cw_region<|Ow_q rfl rfl rfl (Qt_fieldAddr (m := 0) rfl rfl rfl rfl rfl)<|Ow_q rfl rfl rfl (Qt_load1 (v := (.bool t769)) rfl rfl rfl (Rdc.blk Mb1 rfl))<|Ow_nil<|?_
     refine Cw_cond rfl ?_ ?_
     ·intro h797
      have H := ift h797 H
      refine Cw_region<|Ow_q rfl rfl rfl (Qt_move rfl)<|?_
      obtain ⟨x798, x799, hx800, H⟩ := bnd2 H
      refine Ow_cons rfl (OpW_call rfl Try.call37 rfl rfl (c_M_144z bp0 (Draw_Codes.mk p0.list i767 i768) vp0_list x798 x799 hx800 _ _ hs662) ?_)
      rintro _ _ _ - ⟨rfl, rfl, rfl⟩
      refine Ow_q rfl rfl rfl (Qt_fieldAddr (m := 2) rfl rfl rfl rfl rfl) ?_
      refine Ow_cons rfl (OpW_store (vs := [(.int .u64 x798)]) (all' := (Case.cells (Case.mk t769 i770 x798))) rfl rfl rfl rfl rfl (.there .here) rfl rfl rfl ?_)
      refine Ow_nil<|Pu6<|Pu6<|Pu6<|Pu6<|Pu6<|Pu6<|Pu6<|Shift.done<|?_
      exact ⟨_, by exact ⟨rfl, rfl, rfl, rfl, rfl, rfl, rfl, trivial⟩, ((Draw_Codes.mk p0.list i767 i768).at_), x799, x798, rfl, rfl, rfl, H⟩
     ·intro h797
      have H := iff_ (btf h797) H
      refine Cw_skip<|Pu6<|Pu6<|Pu6<|Pu6<|Pu6<|Pu6<|Pu6<|Shift.done<|?_
      exact ⟨_, by exact ⟨rfl, rfl, rfl, rfl, rfl, rfl, rfl, trivial⟩, i767, i768, 0, rfl, rfl, rfl, H⟩
    rintro _ _ _ - ⟨i794, i795, i796, rfl, rfl, rfl, H⟩
    unfold M_87z at H
    refine Cw_seq<|Cw_region<|Ow_q rfl rfl rfl (Qt_fieldAddr (m := 5) rfl rfl rfl rfl rfl)<|Ow_q rfl rfl rfl (Qt_load1 (v := (sv v642)) rfl rfl rfl (Rdc.blk Mb2 rfl))<|Ow_q rfl rfl rfl (Qt_loadA (m := 3) (cs := (Case.cells (Case.mk t769 i770 i796))) rfl rfl rfl rfl ⟨rfl, Rdc.blk Mb1 rfl⟩)<|?_
    have hR802 : RowR TyCase K649 [(Case.cells (Case.mk t769 i770 i796))] [(Case.mk t769 i770 i796)] := RowR.cons rfl (RowR.nil)
    refine Ow_cons rfl (O_lit (T := TyCase) (rows := [(Case.cells (Case.mk t769 i770 i796))]) (l := [(Case.mk t769 i770 i796)]) rfl rfl rfl hR802 rfl rfl rfl rfl rfl rfl rfl rfl (fun v801 => ?_))
    obtain ⟨x803, hx804, H⟩ := bnd H
    refine Ow_cons rfl (O_appTok (T := TyCase) (bytes := 24) (q := 0) rfl rfl rfl hs644 Mb6 rfl (SrcT.row Mb0 hR802 rfl) hx804 rfl rfl rfl rfl rfl rfl rfl rfl (fun v805 K806 hK807 hs808 => ⟨_, (.there (.there (.there (.there (.there (.there .here)))))), ?_⟩))
    refine Ow.shift (Re0 (Shift.done ?_))
    refine Ow_q rfl rfl rfl (Qt_fieldAddr (m := 5) rfl rfl rfl rfl rfl) ?_
    refine Ow_cons rfl (OpW_store (vs := [(sv v805)]) (all' := (Op.cells (Op.mk 4 0 0 0 0 x803 l646) v805 v645)) rfl rfl rfl rfl rfl (.there (.there .here)) rfl rfl rfl ?_)
    refine Ow_nil ?_
    obtain ⟨x809, x810, hx811, H⟩ := bnd2 H
    obtain ⟨x815, hx816, H⟩ := bnd H
    refine Cw_region_any [.blk b766 45 (Case.cells (Case.mk t769 i770 i796)), .blk b242 41 (Op.cells (Op.mk 0 0 0 0 0 [] []) nilS nilS), .blk b241 29 (Config.cells p1 vp1_capacities vp1_starts), .tok 45 3 [(sv v805)]] rfl (Inc.cons Mb1 (Inc.cons Mb3 (Inc.cons Mb4 (Inc.cons Mb5 Inc.nil))))<|Awq 0 rfl (by kernel_rfl) rfl rfl rfl (Qt_fieldAddr (m := 6) rfl rfl rfl rfl rfl)<|Awq 2 rfl (by kernel_rfl) rfl rfl rfl (Qt_move rfl)<|Awq 3 rfl (by kernel_rfl) rfl rfl rfl (Qt_move rfl)<|Awq 4 rfl (by kernel_rfl) rfl rfl rfl (Qt_arith (e := wI (i639 + 1)) rfl rfl rfl rfl)<|?_
    refine Aw_two 1 5 (by kernel_rfl) ?_ ?_
    ·skip
     refine id (Ax_mk rfl rfl (OpW_of_Qt rfl rfl (Qt_load1 (v := (sv v645)) rfl rfl rfl (Rdc.blk Mb2 rfl)) ⟨(Inc.cons Mb1 (Inc.cons Mb3 (Inc.cons Mb4 (Inc.cons Mb5 Inc.nil)))), ?_⟩))
     refine Aw_one 5 (by kernel_rfl) (Ax_mk rfl rfl ?_)
     have hs822 := (hs662).mono hK807
     refine OpW_call rfl Try.call20 rfl rfl (c_M_0z bp0 (Draw_Codes.mk p0.list i794 i795) vp0_list (wI (i639 + 1)) x809 x810 hx811 _ _ hs822) ?_
     rintro _ _ _ - ⟨rfl, rfl, rfl⟩
     refine ⟨(Inc.cons Mb1 (Inc.cons Mb3 (Inc.cons Mb4 (Inc.cons Mb5 Inc.nil)))), ?_⟩
     refine Aw_one 6 (by kernel_rfl) (Ax_mk rfl rfl ?_)
     have hR824 : RowR Ty.i64 K806 [[(.int .i64 x809)]] [x809] := RowR.cons rfl (RowR.nil)
     refine O_lit (T := Ty.i64) (rows := [[(.int .i64 x809)]]) (l := [x809]) rfl rfl rfl hR824 rfl rfl rfl rfl rfl rfl rfl rfl (fun v823 => ⟨(Inc.cons Mb2 (Inc.cons Mb4 (Inc.cons Mb5 (Inc.cons Mb6 Inc.nil)))), ?_⟩)
     refine Aw_one 7 (by kernel_rfl) (Ax_mk rfl rfl ?_)
     have hs829 := (hs647).mono hK807
     refine O_appTok (T := Ty.i64) (bytes := 8) (q := 0) rfl rfl rfl hs829 Mb7 rfl (SrcT.row Mb0 hR824 rfl) hx816 rfl rfl rfl rfl rfl rfl rfl rfl (fun v825 K826 hK827 hs828 => ⟨_, (.there (.there (.there (.there (.there (.there (.there .here))))))), ⟨(Inc.cons Mb2 (Inc.cons Mb4 (Inc.cons Mb5 (Inc.cons Mb6 Inc.nil)))), ?_⟩⟩)
     refine Aw.shift (Re0 (Shift.done ⟨(Inc.cons Mb1 (Inc.cons Mb3 (Inc.cons Mb4 (Inc.cons Mb5 Inc.nil)))), ?_⟩))
     refine Awq 8 rfl (by kernel_rfl) rfl rfl rfl (Qt_fieldAddr (m := 6) rfl rfl rfl rfl rfl) ?_
     refine Aw_one 9 (by kernel_rfl) (Ax_mk rfl rfl ?_)
     refine OpW_store (vs := [(sv v825)]) (all' := (Op.cells (Op.mk 4 0 0 0 0 x803 x815) v805 v825)) rfl rfl rfl rfl rfl (.there (.there .here)) rfl rfl rfl ⟨(Inc.cons Mb1 (Inc.cons Mb3 (Inc.cons Mb4 (Inc.cons Mb5 Inc.nil)))), ?_⟩
     refine Aw_done (by kernel_rfl)<|Pu6<|Pu6<|Pu6<|Pu6<|Pu6<|Pu5<|Re6<|?_
     have hs830 := (hs808).mono hK827
     exact Shift.done ⟨_, by exact ⟨rfl, rfl, rfl, rfl, rfl, rfl, trivial⟩, x810, ((Draw_Codes.mk p0.list i794 i795).value), v805, x803, v825, x815, rfl, rfl, H, hs830, hs828⟩
    ·skip
     refine id (Ax_mk rfl rfl ?_)
     have hs831 := (hs662).mono hK807
     refine OpW_call rfl Try.call20 rfl rfl (c_M_0z bp0 (Draw_Codes.mk p0.list i794 i795) vp0_list (wI (i639 + 1)) x809 x810 hx811 _ _ hs831) ?_
     rintro _ _ _ - ⟨rfl, rfl, rfl⟩
     refine ⟨(Inc.cons Mb1 (Inc.cons Mb3 (Inc.cons Mb4 (Inc.cons Mb5 Inc.nil)))), ?_⟩
     refine Aw_two 1 6 (by kernel_rfl) ?_ ?_
     ·skip
      refine id (Ax_mk rfl rfl (OpW_of_Qt rfl rfl (Qt_load1 (v := (sv v645)) rfl rfl rfl (Rdc.blk Mb2 rfl)) ⟨(Inc.cons Mb1 (Inc.cons Mb3 (Inc.cons Mb4 (Inc.cons Mb5 Inc.nil)))), ?_⟩))
      refine Aw_one 6 (by kernel_rfl) (Ax_mk rfl rfl ?_)
      have hR833 : RowR Ty.i64 K806 [[(.int .i64 x809)]] [x809] := RowR.cons rfl (RowR.nil)
      refine O_lit (T := Ty.i64) (rows := [[(.int .i64 x809)]]) (l := [x809]) rfl rfl rfl hR833 rfl rfl rfl rfl rfl rfl rfl rfl (fun v832 => ⟨(Inc.cons Mb2 (Inc.cons Mb4 (Inc.cons Mb5 (Inc.cons Mb6 Inc.nil)))), ?_⟩)
      refine Aw_one 7 (by kernel_rfl) (Ax_mk rfl rfl ?_)
      have hs838 := (hs647).mono hK807
      refine O_appTok (T := Ty.i64) (bytes := 8) (q := 0) rfl rfl rfl hs838 Mb7 rfl (SrcT.row Mb0 hR833 rfl) hx816 rfl rfl rfl rfl rfl rfl rfl rfl (fun v834 K835 hK836 hs837 => ⟨_, (.there (.there (.there (.there (.there (.there (.there .here))))))), ⟨(Inc.cons Mb2 (Inc.cons Mb4 (Inc.cons Mb5 (Inc.cons Mb6 Inc.nil)))), ?_⟩⟩)
      refine Aw.shift (Re0 (Shift.done ⟨(Inc.cons Mb1 (Inc.cons Mb3 (Inc.cons Mb4 (Inc.cons Mb5 Inc.nil)))), ?_⟩))
      refine Awq 8 rfl (by kernel_rfl) rfl rfl rfl (Qt_fieldAddr (m := 6) rfl rfl rfl rfl rfl) ?_
      refine Aw_one 9 (by kernel_rfl) (Ax_mk rfl rfl ?_)
      refine OpW_store (vs := [(sv v834)]) (all' := (Op.cells (Op.mk 4 0 0 0 0 x803 x815) v805 v834)) rfl rfl rfl rfl rfl (.there (.there .here)) rfl rfl rfl ⟨(Inc.cons Mb1 (Inc.cons Mb3 (Inc.cons Mb4 (Inc.cons Mb5 Inc.nil)))), ?_⟩
      refine Aw_done (by kernel_rfl)<|Pu6<|Pu6<|Pu6<|Pu6<|Pu6<|Pu5<|Re6<|?_
      have hs839 := (hs808).mono hK836
      exact Shift.done ⟨_, by exact ⟨rfl, rfl, rfl, rfl, rfl, rfl, trivial⟩, x810, ((Draw_Codes.mk p0.list i794 i795).value), v805, x803, v834, x815, rfl, rfl, H, hs839, hs837⟩
     ·skip
      refine id (Ax_mk rfl rfl ?_)
      have hR841 : RowR Ty.i64 K806 [[(.int .i64 x809)]] [x809] := RowR.cons rfl (RowR.nil)
      refine O_lit (T := Ty.i64) (rows := [[(.int .i64 x809)]]) (l := [x809]) rfl rfl rfl hR841 rfl rfl rfl rfl rfl rfl rfl rfl (fun v840 => ⟨(Inc.cons Mb2 (Inc.cons Mb4 (Inc.cons Mb5 (Inc.cons Mb6 Inc.nil)))), ?_⟩)
      refine Aw_one 1 (by kernel_rfl) (Ax_mk rfl rfl (OpW_of_Qt rfl rfl (Qt_load1 (v := (sv v645)) rfl rfl rfl (Rdc.blk Mb3 rfl)) ⟨(Inc.cons Mb2 (Inc.cons Mb4 (Inc.cons Mb5 (Inc.cons Mb6 Inc.nil)))), ?_⟩))
      refine Aw_one 7 (by kernel_rfl) (Ax_mk rfl rfl ?_)
      have hs846 := (hs647).mono hK807
      refine O_appTok (T := Ty.i64) (bytes := 8) (q := 0) rfl rfl rfl hs846 Mb7 rfl (SrcT.row Mb0 hR841 rfl) hx816 rfl rfl rfl rfl rfl rfl rfl rfl (fun v842 K843 hK844 hs845 => ⟨_, (.there (.there (.there (.there (.there (.there (.there .here))))))), ⟨(Inc.cons Mb2 (Inc.cons Mb4 (Inc.cons Mb5 (Inc.cons Mb6 Inc.nil)))), ?_⟩⟩)
      refine Aw.shift (Re0 (Shift.done ⟨(Inc.cons Mb1 (Inc.cons Mb3 (Inc.cons Mb4 (Inc.cons Mb5 Inc.nil)))), ?_⟩))
      refine Awq 8 rfl (by kernel_rfl) rfl rfl rfl (Qt_fieldAddr (m := 6) rfl rfl rfl rfl rfl) ?_
      refine Aw_one 9 (by kernel_rfl) (Ax_mk rfl rfl ?_)
      refine OpW_store (vs := [(sv v842)]) (all' := (Op.cells (Op.mk 4 0 0 0 0 x803 x815) v805 v842)) rfl rfl rfl rfl rfl (.there (.there .here)) rfl rfl rfl ⟨(Inc.cons Mb1 (Inc.cons Mb3 (Inc.cons Mb4 (Inc.cons Mb5 Inc.nil)))), ?_⟩
      refine Aw_done (by kernel_rfl)<|Pu6<|Pu6<|Pu6<|Pu6<|Pu6<|Pu5<|Re6<|?_
      have hs847 := (hs808).mono hK844
      exact Shift.done ⟨_, by exact ⟨rfl, rfl, rfl, rfl, rfl, rfl, trivial⟩, x810, ((Draw_Codes.mk p0.list i794 i795).value), v805, x803, v842, x815, rfl, rfl, H, hs847, hs845⟩
   rintro _ K848 _ hK849 ⟨i739, i740, v741, l742, v744, l745, rfl, rfl, H, hs743, hs746⟩
   unfold M_190z at H
   refine Cw_region<|Ow_q rfl rfl rfl (Qt_move rfl)<|Ow_q rfl rfl rfl (Qt_arith (e := wI (i639 + 1)) rfl rfl rfl rfl)<|Ow_q rfl rfl rfl (Qt_assign rfl)<|Ow_nil<|Pu5<|Pu5<|Pu5<|Pu5<|Pu5<|?_
   refine Pu5<|Shift.done<|?_
   exact ⟨_, by exact ⟨rfl, rfl, rfl, rfl, rfl, rfl, trivial⟩, _, Nat.lt_succ_self _, (wI (i639 + 1)), i739, i740, v741, l742, v744, l745, rfl, rfl, (hkk653 ▸ H), hs743, hs746⟩
  ·intro h663
   have h663 := dcd_f (h663)
   have H := iff_ h663 H
   refine Cw_exit<|Pu5<|Pu5<|Pu4<|Pu4<|Pu4<|Re5<|Shift.done<|?_
   exact ⟨_, by exact ⟨rfl, rfl, rfl, trivial⟩, x660, ((Draw_Codes.mk p0.list i640 i641).value), v642, l643, v645, l646, rfl, rfl, H, hs644, hs647⟩
 rintro _ K850 _ hK851 ⟨i442, i443, v444, l445, v447, l448, rfl, rfl, H, hs446, hs449⟩
 unfold M_189z at H
 refine Cw_seq<|Cw_region<|Ow_q rfl rfl rfl (Qt_move rfl)<|Ow_q rfl rfl rfl (Qt_loadA (m := 7) (cs := (Op.cells (Op.mk 4 0 0 0 0 l445 l448) v444 v447)) rfl rfl rfl rfl ⟨rfl, Rdc.blk Mb1 rfl⟩)<|?_
 obtain ⟨x852, x853, x854, hx855, H⟩ := bnd3 H
 have hs856 := (hp0_list).mono hK851
 refine Ow_cons rfl (OpW_call rfl Try.call38 rfl rfl (c_M_49z bp0 (Draw_Codes.mk p0.list i442 i443) vp0_list (Op.mk 4 0 0 0 0 l445 l448) v444 v447 x852 x853 x854 hx855 _ _ hs856 hs446 hs449) ?_)
 rintro _ _ _ - ⟨v857, v858, rfl, rfl, rfl, hs859, hs860⟩
 refine Ow_cons rfl (OpW_store (vs := (Op.cells x852 v857 v858)) (all' := (Op.cells x852 v857 v858)) rfl rfl rfl rfl rfl (.there (.there .here)) rfl rfl rfl ?_)
 refine Ow_nil<|Cw_ret<|?_
 obtain ⟨ey0, ez0_at_, ez0_value⟩ := inj3 H
 subst y0 z0_at_ z0_value
 refine ⟨(by first | exact .inl rfl | exact .inr rfl), [(.agg (Op.cells x852 v857 v858).toArray)], ⟨(.agg (Op.cells x852 v857 v858).toArray), _, rfl, ⟨_, 7, (Op.cells x852 v857 v858), rfl, rfl, rfl, rfl, ⟨rfl, Rdc.blk Mb2 rfl⟩, rfl⟩, rfl⟩, ?_⟩
 refine Re1<|Re1<|Re1<|Re1<|Shift.done<|?_
 exact ⟨v857, v858, rfl, rfl, hs859, hs860⟩

set_option maxHeartbeats 1000000 in
theorem c_M_88z (bp0 : Nat) (p0 : Draw_Codes) (vp0_list : SV) (p1 : Config) (vp1_capacities : SV) (vp1_starts : SV) (y0 : Op) (z0_at_ : Int) (z0_value : Int) (H : M_88z p0 p1 = some (y0, z0_at_, z0_value)) (K : Kp) (G : List Ent) (hp0_list : Slr Ty.u8 K (sv vp0_list) p0.list) (hp1_capacities : Slr Ty.i64 K (sv vp1_capacities) p1.capacities) (hp1_starts : Slr Ty.u64 K (sv vp1_starts) p1.starts) :
  Fc Try.prog 21 #[(.pointer (some ((⟨bp0, 0, none⟩ : Addr).add 0))), (.agg (Config.cells p1 vp1_capacities vp1_starts).toArray)] K ((.blk bp0 77 (Draw_Codes.cells p0 vp0_list)) :: G) (fun v K' G' => ∃ (wy0_cases : SV) (wy0_draws : SV), v = (.agg (Op.cells y0 wy0_cases wy0_draws).toArray) ∧ (.blk bp0 77 (Draw_Codes.cells (Draw_Codes.mk p0.list z0_at_ z0_value) vp0_list)) :: G = G' ∧ Slr TyCase K' (sv wy0_cases) y0.cases ∧ Slr Ty.i64 K' (sv wy0_draws) y0.draws) := by
 refine Fc_body Try.func21 rfl Try.ntmps21 Try.results21 rfl ?_
 unfold M_88z at H
 refine Cw_seq<|Cw_region<|?_
 refine Ow_cons rfl (OpW_box (cs := (Config.cells p1 vp1_capacities vp1_starts)) rfl rfl rfl (fun b60 => ?_))
 refine Ow_cons rfl (OpW_alloc (cs := (Op.cells (Op.mk 0 0 0 0 0 [] []) nilS nilS)) rfl rfl rfl rfl (fun b61 => ?_))
 refine Ow_nil<|Cw_seq<|Cw_seq<|Cw_region<|Ow_q rfl rfl rfl (Qt_move rfl)<|?_
 obtain ⟨x115, x116, hx117, H⟩ := bnd2 H
 refine Ow.shift (Pu2 (Shift.done ?_))
 refine Ow_cons rfl (OpW_call rfl Try.call20 rfl rfl (c_M_0z bp0 p0 vp0_list 20 x115 x116 hx117 _ _ hp0_list) ?_)
 rintro _ _ _ - ⟨rfl, rfl, rfl⟩
 refine Ow_q rfl rfl rfl (Qt_assign rfl)<|Ow_nil<|Cw_block<|Cw_seq<|Cw_region<|Ow_q rfl rfl rfl (Qt_move rfl)<|Ow_q rfl rfl rfl (Qt_cmp rfl rfl rfl)<|Ow_q rfl rfl rfl (Qt_assign rfl)<|Ow_nil<|?_
 refine Cw_cond rfl ?_ ?_
 ·intro h118
  have h118 := dcd_t (h118)
  have H := ift h118 H
  refine Cw_seq<|Cw_region<|Ow_q rfl rfl rfl (Qt_move rfl)<|Ow_q rfl rfl rfl (Qt_move rfl)<|Ow_q rfl rfl rfl (Qt_loadA (m := 3) (cs := (Config.cells p1 vp1_capacities vp1_starts)) rfl rfl rfl rfl ⟨rfl, Rdc.blk Mb2 rfl⟩)<|?_
  obtain ⟨x119, x120, x121, hx122, H⟩ := bnd3 H
  refine Ow_cons rfl (OpW_call rfl Try.call36 rfl rfl (c_M_9z bp0 (Draw_Codes.mk p0.list x116 p0.value) vp0_list p1 vp1_capacities vp1_starts x119 x120 x121 hx122 _ _ hp0_list hp1_capacities hp1_starts) ?_)
  rintro _ _ _ - ⟨rfl, rfl, rfl⟩
  refine Ow_q rfl rfl rfl (Qt_move rfl) ?_
  obtain ⟨x123, x124, hx125, H⟩ := bnd2 H
  refine Ow_cons rfl (OpW_call rfl Try.call37 rfl rfl (c_M_144z bp0 (Draw_Codes.mk p0.list x120 x121) vp0_list x123 x124 hx125 _ _ hp0_list) ?_)
  rintro _ _ _ - ⟨rfl, rfl, rfl⟩
  refine Ow_q rfl rfl rfl (Qt_build (cs := (Op.cells (Op.mk 1 0 x119 x123 0 [] []) nilS nilS)) rfl rfl rfl rfl rfl rfl) ?_
  obtain ⟨x126, x127, x128, hx129, H⟩ := bnd3 H
  refine Ow_cons rfl (OpW_call rfl Try.call38 rfl rfl (c_M_49z bp0 (Draw_Codes.mk p0.list ((Draw_Codes.mk p0.list x120 x121).at_) x124) vp0_list (Op.mk 1 0 x119 x123 0 [] []) nilS nilS x126 x127 x128 hx129 _ _ hp0_list (Slr.nil TyCase _) (Slr.nil Ty.i64 _)) ?_)
  rintro _ _ _ - ⟨v130, v131, rfl, rfl, rfl, hs132, hs133⟩
  refine Ow_cons rfl (OpW_store (vs := (Op.cells x126 v130 v131)) (all' := (Op.cells x126 v130 v131)) rfl rfl rfl rfl rfl (.there .here) rfl rfl rfl ?_)
  refine Ow_nil<|Cw_ret<|?_
  obtain ⟨ey0, ez0_at_, ez0_value⟩ := inj3 H
  subst y0 z0_at_ z0_value
  refine ⟨(by first | exact .inl rfl | exact .inr rfl), [(.agg (Op.cells x126 v130 v131).toArray)], ⟨(.agg (Op.cells x126 v130 v131).toArray), _, rfl, ⟨_, 7, (Op.cells x126 v130 v131), rfl, rfl, rfl, rfl, ⟨rfl, Rdc.blk Mb1 rfl⟩, rfl⟩, rfl⟩, ?_⟩
  refine Re1<|Re1<|Shift.done<|?_
  exact ⟨v130, v131, rfl, rfl, hs132, hs133⟩
 ·intro h118
  have h118 := dcd_f (h118)
  have H := iff_ h118 H
  refine Cw_seq<|Cw_region<|Ow_q rfl rfl rfl (Qt_move rfl)<|Ow_q rfl rfl rfl (Qt_cmp rfl rfl rfl)<|Ow_q rfl rfl rfl (Qt_assign rfl)<|Ow_nil<|?_
  refine Cw_cond rfl ?_ ?_
  ·intro h134
   have h134 := dcd_t (h134)
   have H := ift h134 H
   refine Cw_seq<|Cw_region<|Ow_q rfl rfl rfl (Qt_move rfl)<|Ow_q rfl rfl rfl (Qt_move rfl)<|Ow_q rfl rfl rfl (Qt_loadA (m := 3) (cs := (Config.cells p1 vp1_capacities vp1_starts)) rfl rfl rfl rfl ⟨rfl, Rdc.blk Mb2 rfl⟩)<|?_
   obtain ⟨x135, x136, x137, hx138, H⟩ := bnd3 H
   refine Ow_cons rfl (OpW_call rfl Try.call36 rfl rfl (c_M_9z bp0 (Draw_Codes.mk p0.list x116 p0.value) vp0_list p1 vp1_capacities vp1_starts x135 x136 x137 hx138 _ _ hp0_list hp1_capacities hp1_starts) ?_)
   rintro _ _ _ - ⟨rfl, rfl, rfl⟩
   refine Ow_q rfl rfl rfl (Qt_build (cs := (Op.cells (Op.mk 2 0 x135 0 0 [] []) nilS nilS)) rfl rfl rfl rfl rfl rfl) ?_
   obtain ⟨x139, x140, x141, hx142, H⟩ := bnd3 H
   refine Ow_cons rfl (OpW_call rfl Try.call38 rfl rfl (c_M_49z bp0 (Draw_Codes.mk p0.list x136 x137) vp0_list (Op.mk 2 0 x135 0 0 [] []) nilS nilS x139 x140 x141 hx142 _ _ hp0_list (Slr.nil TyCase _) (Slr.nil Ty.i64 _)) ?_)
   rintro _ _ _ - ⟨v143, v144, rfl, rfl, rfl, hs145, hs146⟩
   refine Ow_cons rfl (OpW_store (vs := (Op.cells x139 v143 v144)) (all' := (Op.cells x139 v143 v144)) rfl rfl rfl rfl rfl (.there .here) rfl rfl rfl ?_)
   refine Ow_nil<|Cw_ret<|?_
   obtain ⟨ey0, ez0_at_, ez0_value⟩ := inj3 H
   subst y0 z0_at_ z0_value
   refine ⟨(by first | exact .inl rfl | exact .inr rfl), [(.agg (Op.cells x139 v143 v144).toArray)], ⟨(.agg (Op.cells x139 v143 v144).toArray), _, rfl, ⟨_, 7, (Op.cells x139 v143 v144), rfl, rfl, rfl, rfl, ⟨rfl, Rdc.blk Mb1 rfl⟩, rfl⟩, rfl⟩, ?_⟩
   refine Re1<|Re1<|Shift.done<|?_
   exact ⟨v143, v144, rfl, rfl, hs145, hs146⟩
  ·intro h134
   have h134 := dcd_f (h134)
   have H := iff_ h134 H
   refine Cw_seq<|Cw_region<|Ow_q rfl rfl rfl (Qt_move rfl)<|Ow_q rfl rfl rfl (Qt_cmp rfl rfl rfl)<|Ow_q rfl rfl rfl (Qt_assign rfl)<|Ow_nil<|?_
   refine Cw_cond rfl ?_ ?_
   ·intro h147
    have h147 := dcd_t (h147)
    have H := ift h147 H
    refine Cw_seq<|Cw_region<|Ow_q rfl rfl rfl (Qt_move rfl)<|Ow_q rfl rfl rfl (Qt_loadA (m := 3) (cs := (Config.cells p1 vp1_capacities vp1_starts)) rfl rfl rfl rfl ⟨rfl, Rdc.blk Mb2 rfl⟩)<|?_
    obtain ⟨x148, x149, x150, hx151, H⟩ := bnd3 H
    refine Ow_cons rfl (OpW_call rfl Try.call15 rfl rfl (c_M_145z bp0 (Draw_Codes.mk p0.list x116 p0.value) vp0_list p1 vp1_capacities vp1_starts 4 x148 x149 x150 hx151 _ _ hp0_list hp1_capacities hp1_starts) ?_)
    rintro _ K154 _ hK155 ⟨v152, v153, rfl, rfl, hs156, hs157⟩
    refine Ow_cons rfl (OpW_store (vs := (Op.cells x148 v152 v153)) (all' := (Op.cells x148 v152 v153)) rfl rfl rfl rfl rfl (.there .here) rfl rfl rfl ?_)
    refine Ow_nil<|Cw_ret<|?_
    obtain ⟨ey0, ez0_at_, ez0_value⟩ := inj3 H
    subst y0 z0_at_ z0_value
    refine ⟨(by first | exact .inl rfl | exact .inr rfl), [(.agg (Op.cells x148 v152 v153).toArray)], ⟨(.agg (Op.cells x148 v152 v153).toArray), _, rfl, ⟨_, 7, (Op.cells x148 v152 v153), rfl, rfl, rfl, rfl, ⟨rfl, Rdc.blk Mb1 rfl⟩, rfl⟩, rfl⟩, ?_⟩
    refine Re1<|Re1<|Shift.done<|?_
    exact ⟨v152, v153, rfl, rfl, hs156, hs157⟩
   ·intro h147
    have h147 := dcd_f (h147)
    have H := iff_ h147 H
    refine Cw_seq<|Cw_region<|Ow_q rfl rfl rfl (Qt_move rfl)<|Ow_q rfl rfl rfl (Qt_cmp rfl rfl rfl)<|Ow_q rfl rfl rfl (Qt_assign rfl)<|Ow_nil<|?_
    refine Cw_cond rfl ?_ ?_
    ·intro h158
     have h158 := dcd_t (h158)
     have H := ift h158 H
     refine Cw_seq<|Cw_region<|Ow_q rfl rfl rfl (Qt_move rfl)<|Ow_q rfl rfl rfl (Qt_loadA (m := 3) (cs := (Config.cells p1 vp1_capacities vp1_starts)) rfl rfl rfl rfl ⟨rfl, Rdc.blk Mb2 rfl⟩)<|?_
     obtain ⟨x159, x160, x161, hx162, H⟩ := bnd3 H
     refine Ow_cons rfl (OpW_call rfl Try.call36 rfl rfl (c_M_9z bp0 (Draw_Codes.mk p0.list x116 p0.value) vp0_list p1 vp1_capacities vp1_starts x159 x160 x161 hx162 _ _ hp0_list hp1_capacities hp1_starts) ?_)
     rintro _ _ _ - ⟨rfl, rfl, rfl⟩
     refine Ow_q rfl rfl rfl (Qt_build (cs := (Op.cells (Op.mk 3 0 x159 0 0 [] []) nilS nilS)) rfl rfl rfl rfl rfl rfl) ?_
     refine Ow_cons rfl (OpW_store (vs := (Op.cells (Op.mk 3 0 x159 0 0 [] []) nilS nilS)) (all' := (Op.cells (Op.mk 3 0 x159 0 0 [] []) nilS nilS)) rfl rfl rfl rfl rfl (.there .here) rfl rfl rfl ?_)
     refine Ow_nil<|Cw_ret<|?_
     obtain ⟨ey0, ez0_at_, ez0_value⟩ := inj3 H
     subst y0 z0_at_ z0_value
     refine ⟨(by first | exact .inl rfl | exact .inr rfl), [(.agg (Op.cells (Op.mk 3 0 x159 0 0 [] []) nilS nilS).toArray)], ⟨(.agg (Op.cells (Op.mk 3 0 x159 0 0 [] []) nilS nilS).toArray), _, rfl, ⟨_, 7, (Op.cells (Op.mk 3 0 x159 0 0 [] []) nilS nilS), rfl, rfl, rfl, rfl, ⟨rfl, Rdc.blk Mb1 rfl⟩, rfl⟩, rfl⟩, ?_⟩
     refine Re1<|Re1<|Shift.done<|?_
     exact ⟨nilS, nilS, rfl, rfl, (Slr.nil TyCase _), (Slr.nil Ty.i64 _)⟩
    ·intro h158
     have h158 := dcd_f (h158)
     have H := iff_ h158 H
     refine Cw_seq<|Cw_region<|Ow_q rfl rfl rfl (Qt_move rfl)<|Ow_q rfl rfl rfl (Qt_cmp rfl rfl rfl)<|Ow_q rfl rfl rfl (Qt_assign rfl)<|Ow_nil<|?_
     refine Cw_cond rfl ?_ ?_
     ·intro h163
      have h163 := dcd_t (h163)
      have H := ift h163 H
      refine Cw_seq<|Cw_region<|Ow_q rfl rfl rfl (Qt_move rfl)<|Ow_q rfl rfl rfl (Qt_loadA (m := 3) (cs := (Config.cells p1 vp1_capacities vp1_starts)) rfl rfl rfl rfl ⟨rfl, Rdc.blk Mb2 rfl⟩)<|?_
      obtain ⟨x164, x165, x166, hx167, H⟩ := bnd3 H
      refine Ow_cons rfl (OpW_call rfl Try.call36 rfl rfl (c_M_9z bp0 (Draw_Codes.mk p0.list x116 p0.value) vp0_list p1 vp1_capacities vp1_starts x164 x165 x166 hx167 _ _ hp0_list hp1_capacities hp1_starts) ?_)
      rintro _ _ _ - ⟨rfl, rfl, rfl⟩
      refine Ow_q rfl rfl rfl (Qt_build (cs := (Op.cells (Op.mk 5 0 x164 0 0 [] []) nilS nilS)) rfl rfl rfl rfl rfl rfl) ?_
      refine Ow_cons rfl (OpW_store (vs := (Op.cells (Op.mk 5 0 x164 0 0 [] []) nilS nilS)) (all' := (Op.cells (Op.mk 5 0 x164 0 0 [] []) nilS nilS)) rfl rfl rfl rfl rfl (.there .here) rfl rfl rfl ?_)
      refine Ow_nil<|Cw_ret<|?_
      obtain ⟨ey0, ez0_at_, ez0_value⟩ := inj3 H
      subst y0 z0_at_ z0_value
      refine ⟨(by first | exact .inl rfl | exact .inr rfl), [(.agg (Op.cells (Op.mk 5 0 x164 0 0 [] []) nilS nilS).toArray)], ⟨(.agg (Op.cells (Op.mk 5 0 x164 0 0 [] []) nilS nilS).toArray), _, rfl, ⟨_, 7, (Op.cells (Op.mk 5 0 x164 0 0 [] []) nilS nilS), rfl, rfl, rfl, rfl, ⟨rfl, Rdc.blk Mb1 rfl⟩, rfl⟩, rfl⟩, ?_⟩
      refine Re1<|Re1<|Shift.done<|?_
      exact ⟨nilS, nilS, rfl, rfl, (Slr.nil TyCase _), (Slr.nil Ty.i64 _)⟩
     ·intro h163
      have h163 := dcd_f (h163)
      have H := iff_ h163 H
      refine Cw_skip<|Cw_seq<|Cw_region<|Ow_q rfl rfl rfl (Qt_move rfl)<|Ow_q rfl rfl rfl (Qt_loadA (m := 3) (cs := (Config.cells p1 vp1_capacities vp1_starts)) rfl rfl rfl rfl ⟨rfl, Rdc.blk Mb2 rfl⟩)<|?_
      obtain ⟨x168, x169, x170, hx171, H⟩ := bnd3 H
      refine Ow_cons rfl (OpW_call rfl Try.call36 rfl rfl (c_M_9z bp0 (Draw_Codes.mk p0.list x116 p0.value) vp0_list p1 vp1_capacities vp1_starts x168 x169 x170 hx171 _ _ hp0_list hp1_capacities hp1_starts) ?_)
      rintro _ _ _ - ⟨rfl, rfl, rfl⟩
      refine Ow_q rfl rfl rfl (Qt_build (cs := (Op.cells (Op.mk 6 0 x168 0 0 [] []) nilS nilS)) rfl rfl rfl rfl rfl rfl) ?_
      refine Ow_cons rfl (OpW_store (vs := (Op.cells (Op.mk 6 0 x168 0 0 [] []) nilS nilS)) (all' := (Op.cells (Op.mk 6 0 x168 0 0 [] []) nilS nilS)) rfl rfl rfl rfl rfl (.there .here) rfl rfl rfl ?_)
      refine Ow_nil<|Cw_ret<|?_
      obtain ⟨ey0, ez0_at_, ez0_value⟩ := inj3 H
      subst y0 z0_at_ z0_value
      refine ⟨(by first | exact .inl rfl | exact .inr rfl), [(.agg (Op.cells (Op.mk 6 0 x168 0 0 [] []) nilS nilS).toArray)], ⟨(.agg (Op.cells (Op.mk 6 0 x168 0 0 [] []) nilS nilS).toArray), _, rfl, ⟨_, 7, (Op.cells (Op.mk 6 0 x168 0 0 [] []) nilS nilS), rfl, rfl, rfl, rfl, ⟨rfl, Rdc.blk Mb1 rfl⟩, rfl⟩, rfl⟩, ?_⟩
      refine Re1<|Re1<|Shift.done<|?_
      exact ⟨nilS, nilS, rfl, rfl, (Slr.nil TyCase _), (Slr.nil Ty.i64 _)⟩


end Go.Hx

namespace Go.Hx
open Go Go.Proofs
set_option linter.unusedSimpArgs false
set_option linter.unusedVariables false
set_option maxRecDepth 10000
set_option maxHeartbeats 1000000 in
theorem c_M_113z (p0 : Config) (vp0_capacities : SV) (vp0_starts : SV) (y0 : Desk) (H : M_113z p0 = some y0) (K : Kp) (G : List Ent) (hp0_capacities : Slr Ty.i64 K (sv vp0_capacities) p0.capacities) (hp0_starts : Slr Ty.u64 K (sv vp0_starts) p0.starts) :
  Fc Try.prog 27 #[(.agg (Config.cells p0 vp0_capacities vp0_starts).toArray)] K (G) (fun v K' G' => ∃ (wy0_chans : SV) (wy0_waiting : SV), v = (.agg (Desk.cells y0 wy0_chans wy0_waiting).toArray) ∧ (.tok 71 3 [(sv wy0_chans)]) :: G = G' ∧ Slr TyChan K' (sv wy0_chans) y0.chans ∧ Slr TyWaiter K' (sv wy0_waiting) y0.waiting) := by
 refine Fc_body Try.func27 rfl Try.ntmps27 Try.results27 rfl ?_
 unfold M_113z at H
 refine Cw_seq<|Cw_region<|?_
 refine Ow_cons rfl (OpW_box (cs := (Config.cells p0 vp0_capacities vp0_starts)) rfl rfl rfl (fun b9 => ?_))
 refine Ow_cons rfl (OpW_alloc (cs := (Desk.cells (Desk.mk [] [] 0) nilS nilS)) rfl rfl rfl rfl (fun b10 => ?_))
 refine Ow_nil<|Cw_seq<|Cw_region<|Ow_q rfl rfl rfl (Qt_loadA (m := 3) (cs := (Config.cells p0 vp0_capacities vp0_starts)) rfl rfl rfl rfl ⟨rfl, Rdc.blk Mb1 rfl⟩)<|?_
 obtain ⟨x11, hx12, H⟩ := bnd H
 refine Ow_cons rfl (OpW_call rfl Try.call56 rfl rfl (c_M_112z p0 vp0_capacities vp0_starts x11 hx12 _ _ hp0_capacities hp0_starts) ?_)
 rintro _ K14 _ hK15 ⟨v13, rfl, rfl, hs16⟩
 refine Ow_q rfl rfl rfl (Qt_build (cs := (Desk.cells (Desk.mk x11 [] 0) v13 nilS)) rfl rfl rfl rfl rfl rfl) ?_
 refine Ow_cons rfl (OpW_store (vs := (Desk.cells (Desk.mk x11 [] 0) v13 nilS)) (all' := (Desk.cells (Desk.mk x11 [] 0) v13 nilS)) rfl rfl rfl rfl rfl (.there .here) rfl rfl rfl ?_)
 refine Ow_nil<|Cw_ret<|?_
 obtain ey0 := inj1 H
 subst y0
 refine ⟨(by first | exact .inl rfl | exact .inr rfl), [(.agg (Desk.cells (Desk.mk x11 [] 0) v13 nilS).toArray)], ⟨(.agg (Desk.cells (Desk.mk x11 [] 0) v13 nilS).toArray), _, rfl, ⟨_, 3, (Desk.cells (Desk.mk x11 [] 0) v13 nilS), rfl, rfl, rfl, rfl, ⟨rfl, Rdc.blk Mb1 rfl⟩, rfl⟩, rfl⟩, ?_⟩
 refine Re1<|Re1<|Shift.done<|?_
 exact ⟨v13, nilS, rfl, rfl, hs16, (Slr.nil TyWaiter _)⟩



end Go.Hx

namespace Go.Hx
open Go Go.Proofs
set_option linter.unusedSimpArgs false
set_option linter.unusedVariables false
set_option maxRecDepth 10000
set_option maxHeartbeats 1000000 in
theorem c_M_134z  (y0 : Bool) (H : M_134z = some y0) (K : Kp) (G : List Ent)  :
  Fc Try.prog 9 #[] K (G) (fun v K' G' => v = (.bool y0) ∧ G = G') := by
 refine Fc_body Try.func9 rfl Try.ntmps9 Try.results9 rfl ?_
 unfold M_134z at H
 refine Cw_seq<|Cw_region<|Ow_q rfl rfl rfl (Qt_assign rfl)<|Ow_nil<|Cw_seq<|Cw_region<|?_
 have hR79 : RowR Ty.i64 K [[(.int .i64 0)]] [0] := RowR.cons rfl (RowR.nil)
 refine Ow_cons rfl (O_lit (T := Ty.i64) (rows := [[(.int .i64 0)]]) (l := [0]) rfl rfl rfl hR79 rfl rfl rfl rfl rfl rfl rfl rfl (fun v78 => ?_))
 have hR81 : RowR Ty.u64 K [[(.int .u64 0)]] [0] := RowR.cons rfl (RowR.nil)
 refine Ow_cons rfl (O_lit (T := Ty.u64) (rows := [[(.int .u64 0)]]) (l := [0]) rfl rfl rfl hR81 rfl rfl rfl rfl rfl rfl rfl rfl (fun v80 => ?_))
 refine Ow.shift (Shift.settle (T := Ty.i64) (.there .here) hR79 rfl (fun K82 hK83 hs84 => Shift.done ?_))
 have hs88 := (hR81).mono hK83
 refine Ow.shift (Shift.settle (T := Ty.u64) .here hs88 rfl (fun K85 hK86 hs87 => Shift.done ?_))
 refine Ow_q rfl rfl rfl (Qt_build (cs := (Config.cells (Config.mk [0] [0] 2) v78 v80)) rfl rfl rfl rfl rfl rfl) ?_
 obtain ⟨x89, hx90, H⟩ := bnd H
 have hs91 := (hs84).mono hK86
 refine Ow_cons rfl (OpW_call rfl Try.call27 rfl rfl (c_M_113z (Config.mk [0] [0] 2) v78 v80 x89 hx90 _ _ hs91 hs87) ?_)
 rintro _ K94 _ hK95 ⟨v92, v93, rfl, rfl, hs96, hs97⟩
 refine Ow_cons rfl (OpW_alloc (cs := (Desk.cells (Desk.mk [] [] 0) nilS nilS)) rfl rfl rfl rfl (fun b98 => ?_))
 refine Ow_cons rfl (OpW_store (vs := (Desk.cells x89 v92 v93)) (all' := (Desk.cells x89 v92 v93)) rfl rfl rfl rfl rfl .here rfl rfl rfl ?_)
 refine Ow_nil<|Cw_seq<|Cw_region<|Ow_q rfl rfl rfl (Qt_loadA (m := 3) (cs := (Desk.cells x89 v92 v93)) rfl rfl rfl rfl ⟨rfl, Rdc.blk Mb0 rfl⟩)<|Ow_q rfl rfl rfl (Qt_build (cs := (Op.cells (Op.mk 1 0 0 5 0 [] []) nilS nilS)) rfl rfl rfl rfl rfl rfl)<|?_
 obtain ⟨x99, x100, x101, hx102, H⟩ := bnd3 H
 refine Ow_cons rfl (OpW_call rfl Try.call22 rfl rfl (c_M_desk_Do x89 v92 v93 0 (Op.mk 1 0 0 5 0 [] []) nilS nilS x99 x100 x101 hx102 _ _ hs96 hs97 (Slr.nil TyCase _) (Slr.nil Ty.i64 _)) ?_)
 rintro _ K109 _ hK110 ⟨v103, rs104, v105, rs106, v107, rs108, rfl, rfl, hs111, hs112, hs113⟩
 refine Ow_q rfl rfl rfl (Qt_move rfl)<|Ow_q rfl rfl rfl (Qt_extract rfl rfl)<|Ow_q rfl rfl rfl (Qt_extract rfl rfl)<|Ow_q rfl rfl rfl (Qt_extract rfl rfl)<|?_
 refine Ow_cons rfl (OpW_store (vs := (Desk.cells x99 v103 v105)) (all' := (Desk.cells x99 v103 v105)) rfl rfl rfl rfl rfl (.there (.there (.there .here))) rfl rfl rfl ?_)
 refine Ow_q rfl rfl rfl (Qt_assign rfl)<|Ow_q rfl rfl rfl (Qt_assign rfl)<|Ow_nil<|Cw_seq<|Cw_region<|Ow_q rfl rfl rfl (Qt_loadA (m := 3) (cs := (Desk.cells x99 v103 v105)) rfl rfl rfl rfl ⟨rfl, Rdc.blk Mb3 rfl⟩)<|Ow_q rfl rfl rfl (Qt_build (cs := (Op.cells (Op.mk 2 0 0 0 0 [] []) nilS nilS)) rfl rfl rfl rfl rfl rfl)<|?_
 refine Ow.shift (Shift.settle (T := TyChan) .here hs111 rfl (fun K114 hK115 hs116 => Shift.done ?_))
 have hs120 := (hs112).mono hK115
 refine Ow.shift (Shift.settle (T := TyWaiter) (.there .here) hs120 rfl (fun K117 hK118 hs119 => Shift.done ?_))
 obtain ⟨x121, x122, x123, hx124, H⟩ := bnd3 H
 have hs125 := (hs116).mono hK118
 refine Ow_cons rfl (OpW_call rfl Try.call22 rfl rfl (c_M_desk_Do x99 v103 v105 1 (Op.mk 2 0 0 0 0 [] []) nilS nilS x121 x122 x123 hx124 _ _ hs125 hs119 (Slr.nil TyCase _) (Slr.nil Ty.i64 _)) ?_)
 rintro _ K132 _ hK133 ⟨v126, rs127, v128, rs129, v130, rs131, rfl, rfl, hs134, hs135, hs136⟩
 refine Ow_q rfl rfl rfl (Qt_move rfl)<|Ow_q rfl rfl rfl (Qt_extract rfl rfl)<|Ow_q rfl rfl rfl (Qt_extract rfl rfl)<|Ow_q rfl rfl rfl (Qt_extract rfl rfl)<|?_
 refine Ow_cons rfl (OpW_alloc (cs := (Desk.cells (Desk.mk [] [] 0) nilS nilS)) rfl rfl rfl rfl (fun b137 => ?_))
 refine Ow_cons rfl (OpW_store (vs := (Desk.cells x121 v126 v128)) (all' := (Desk.cells x121 v126 v128)) rfl rfl rfl rfl rfl .here rfl rfl rfl ?_)
 refine Ow_q rfl rfl rfl (Qt_assign rfl)<|Ow_q rfl rfl rfl (Qt_assign rfl)<|Ow_nil<|?_
 refine Cw_join (fun env' K' G' => ∃ (t154 : Bool), [(0, (.bool t154))] = env' ∧ K132 = K' ∧ G = G' ∧ M_12z t154 = some y0) ?_ ?_
 ·skip
  refine Cw_region<|Ow_q rfl rfl rfl (Qt_move rfl)<|Ow_q rfl rfl rfl (Qt_move rfl)<|?_
  refine Ow_caseG rfl rfl rfl ?_ ?_
  ·intro h155
   have H := ift h155 H
   refine Ow_qw rfl rfl rfl rfl rfl rfl (Qt_move rfl) ?_
   have hs156 := (((hs113).mono hK115).mono hK118).mono hK133
   refine Ow_qw rfl rfl rfl rfl rfl rfl (Q_lenR (T := TyDone) Mb6 hs156 rfl rfl rfl)<|Ow_qw rfl rfl rfl rfl rfl rfl (Qt_cmp rfl rfl rfl)<|Ow_q rfl rfl rfl (Qt_pick_t rfl rfl)<|Ow_q rfl rfl rfl (Qt_move rfl)<|?_
   refine Ow_caseG rfl rfl rfl ?_ ?_
   ·intro h157
    have h157 := dcd_t (h157)
    have H := ift h157 H
    refine Ow_qw rfl rfl rfl rfl rfl rfl (Qt_move rfl)<|Ow_qw rfl rfl rfl rfl rfl rfl (Qt_not rfl)<|Ow_q rfl rfl rfl (Qt_pick_t rfl rfl)<|Ow_q rfl rfl rfl (Qt_move rfl)<|?_
    refine Ow_caseG rfl rfl rfl ?_ ?_
    ·intro h158
     have h158 := nt_t (h158)
     have H := iff_ (btf h158) H
     refine Ow_qw rfl rfl rfl rfl rfl rfl (Qt_move rfl)<|Ow_qw rfl rfl rfl rfl rfl rfl (Q_lenR (T := TyDone) Mb3 hs136 rfl rfl rfl)<|Ow_qw rfl rfl rfl rfl rfl rfl (Qt_cmp rfl rfl rfl)<|Ow_q rfl rfl rfl (Qt_pick_t rfl rfl)<|Ow_q rfl rfl rfl (Qt_move rfl)<|?_
     refine Ow_caseG rfl rfl rfl ?_ ?_
     ·intro h159
      have h159 := dcd_t (h159)
      have H := ift h159 H
      refine Ow_qw rfl rfl rfl rfl rfl rfl (Qt_move rfl) ?_
      obtain ⟨x160, hx161, H⟩ := bnd H
      obtain ⟨r162, hq163, hr164⟩ := RowR.at hs136 hx161
      obtain rfl := hr164
      refine Ow_qw rfl rfl rfl rfl rfl rfl (Q_ixR (T := TyDone) Mb3 hs136 hq163 (getI_ix hx161).1 rfl rfl rfl rfl rfl)<|Ow_qw rfl rfl rfl rfl rfl rfl (Qt_fieldAddr (m := 1) rfl rfl rfl rfl rfl)<|Ow_qw rfl rfl rfl rfl rfl rfl (Qt_fieldAddr (m := 1) rfl rfl rfl rfl rfl)<|Ow_qw rfl rfl rfl rfl rfl rfl (Qt_load1 (v := (.int .i64 x160.result.kind)) rfl rfl rfl (Rd_row (T := TyDone) Mb3 hs136 hq163 rfl rfl))<|Ow_qw rfl rfl rfl rfl rfl rfl (Qt_cmp rfl rfl rfl)<|Ow_q rfl rfl rfl (Qt_pick_t rfl rfl)<|Ow_q rfl rfl rfl (Qt_move rfl)<|?_
      refine Ow_caseG rfl rfl rfl ?_ ?_
      ·intro h165
       have h165 := dcd_t (h165)
       have H := ift h165 H
       refine Ow_qw rfl rfl rfl rfl rfl rfl (Qt_move rfl) ?_
       obtain ⟨x166, hx167, H⟩ := bnd H
       obtain ⟨r168, hq169, hr170⟩ := RowR.at hs136 hx167
       obtain rfl := hr170
       refine Ow_qw rfl rfl rfl rfl rfl rfl (Q_ixR (T := TyDone) Mb3 hs136 hq169 (getI_ix hx167).1 rfl rfl rfl rfl rfl)<|Ow_qw rfl rfl rfl rfl rfl rfl (Qt_fieldAddr (m := 1) rfl rfl rfl rfl rfl)<|Ow_qw rfl rfl rfl rfl rfl rfl (Qt_fieldAddr (m := 3) rfl rfl rfl rfl rfl)<|Ow_qw rfl rfl rfl rfl rfl rfl (Qt_load1 (v := (.int .u64 x166.result.value)) rfl rfl rfl (Rd_row (T := TyDone) Mb3 hs136 hq169 rfl rfl))<|Ow_qw rfl rfl rfl rfl rfl rfl (Qt_cmp rfl rfl rfl)<|Ow_q rfl rfl rfl (Qt_pick_t rfl rfl)<|Ow_q rfl rfl rfl (Qt_assign rfl)<|Ow_nil<|Re0<|Re0<|?_
       refine Re0<|Re0<|Re0<|Re0<|Re0<|Re0<|Re0<|Re0<|Re0<|Shift.done<|?_
       exact ⟨_, by exact ⟨rfl, trivial⟩, (dcd (x166.result.value = 5)), rfl, rfl, rfl, H⟩
      ·intro h165
       have h165 := dcd_f (h165)
       have H := iff_ h165 H
       refine Ow_pass rfl rfl rfl rfl rfl rfl rfl<|Ow_pass rfl rfl rfl rfl rfl rfl rfl<|Ow_pass rfl rfl rfl rfl rfl rfl rfl<|Ow_pass rfl rfl rfl rfl rfl rfl rfl<|Ow_pass rfl rfl rfl rfl rfl rfl rfl<|Ow_pass rfl rfl rfl rfl rfl rfl rfl<|Ow_q rfl rfl rfl (Qt_pick_f rfl rfl)<|Ow_q rfl rfl rfl (Qt_assign rfl)<|Ow_nil<|Re0<|?_
       refine Re0<|Re0<|Re0<|Re0<|Re0<|Re0<|Re0<|Re0<|Re0<|Re0<|?_
       exact Shift.done ⟨_, by exact ⟨rfl, trivial⟩, false, rfl, rfl, rfl, H⟩
     ·intro h159
      have h159 := dcd_f (h159)
      have H := iff_ h159 H
      refine Ow_pass rfl rfl rfl rfl rfl rfl rfl<|Ow_pass rfl rfl rfl rfl rfl rfl rfl<|Ow_pass rfl rfl rfl rfl rfl rfl rfl<|Ow_pass rfl rfl rfl rfl rfl rfl rfl<|Ow_pass rfl rfl rfl rfl rfl rfl rfl<|Ow_pass rfl rfl rfl rfl rfl rfl rfl<|Ow_q rfl rfl rfl (Qt_pick_f rfl rfl)<|Ow_q rfl rfl rfl (Qt_move rfl)<|Ow_pass rfl rfl rfl rfl rfl rfl rfl<|Ow_pass rfl rfl rfl rfl rfl rfl rfl<|?_
      refine Ow_pass rfl rfl rfl rfl rfl rfl rfl<|Ow_pass rfl rfl rfl rfl rfl rfl rfl<|Ow_pass rfl rfl rfl rfl rfl rfl rfl<|Ow_pass rfl rfl rfl rfl rfl rfl rfl<|Ow_q rfl rfl rfl (Qt_pick_f rfl rfl)<|Ow_q rfl rfl rfl (Qt_assign rfl)<|Ow_nil<|Re0<|Re0<|Re0<|?_
      refine Re0<|Re0<|Re0<|Re0<|Re0<|Re0<|Re0<|Re0<|Shift.done<|?_
      exact ⟨_, by exact ⟨rfl, trivial⟩, false, rfl, rfl, rfl, H⟩
    ·intro h158
     have h158 := nt_f (h158)
     have H := ift h158 H
     refine Ow_pass rfl rfl rfl rfl rfl rfl rfl<|Ow_pass rfl rfl rfl rfl rfl rfl rfl<|Ow_pass rfl rfl rfl rfl rfl rfl rfl<|Ow_q rfl rfl rfl (Qt_pick_f rfl rfl)<|Ow_q rfl rfl rfl (Qt_move rfl)<|Ow_pass rfl rfl rfl rfl rfl rfl rfl<|Ow_pass rfl rfl rfl rfl rfl rfl rfl<|Ow_pass rfl rfl rfl rfl rfl rfl rfl<|Ow_pass rfl rfl rfl rfl rfl rfl rfl<|Ow_pass rfl rfl rfl rfl rfl rfl rfl<|?_
     refine Ow_pass rfl rfl rfl rfl rfl rfl rfl<|Ow_q rfl rfl rfl (Qt_pick_f rfl rfl)<|Ow_q rfl rfl rfl (Qt_move rfl)<|Ow_pass rfl rfl rfl rfl rfl rfl rfl<|Ow_pass rfl rfl rfl rfl rfl rfl rfl<|Ow_pass rfl rfl rfl rfl rfl rfl rfl<|Ow_pass rfl rfl rfl rfl rfl rfl rfl<|Ow_pass rfl rfl rfl rfl rfl rfl rfl<|Ow_pass rfl rfl rfl rfl rfl rfl rfl<|Ow_q rfl rfl rfl (Qt_pick_f rfl rfl)<|?_
     refine Ow_q rfl rfl rfl (Qt_assign rfl)<|Ow_nil<|Re0<|Re0<|Re0<|Re0<|Re0<|Re0<|Re0<|Re0<|?_
     refine Re0<|Re0<|Re0<|Shift.done<|?_
     exact ⟨_, by exact ⟨rfl, trivial⟩, false, rfl, rfl, rfl, H⟩
   ·intro h157
    have h157 := dcd_f (h157)
    have H := iff_ h157 H
    refine Ow_pass rfl rfl rfl rfl rfl rfl rfl<|Ow_pass rfl rfl rfl rfl rfl rfl rfl<|Ow_q rfl rfl rfl (Qt_pick_f rfl rfl)<|Ow_q rfl rfl rfl (Qt_move rfl)<|Ow_pass rfl rfl rfl rfl rfl rfl rfl<|Ow_pass rfl rfl rfl rfl rfl rfl rfl<|Ow_pass rfl rfl rfl rfl rfl rfl rfl<|Ow_q rfl rfl rfl (Qt_pick_f rfl rfl)<|Ow_q rfl rfl rfl (Qt_move rfl)<|Ow_pass rfl rfl rfl rfl rfl rfl rfl<|?_
    refine Ow_pass rfl rfl rfl rfl rfl rfl rfl<|Ow_pass rfl rfl rfl rfl rfl rfl rfl<|Ow_pass rfl rfl rfl rfl rfl rfl rfl<|Ow_pass rfl rfl rfl rfl rfl rfl rfl<|Ow_pass rfl rfl rfl rfl rfl rfl rfl<|Ow_q rfl rfl rfl (Qt_pick_f rfl rfl)<|Ow_q rfl rfl rfl (Qt_move rfl)<|Ow_pass rfl rfl rfl rfl rfl rfl rfl<|Ow_pass rfl rfl rfl rfl rfl rfl rfl<|Ow_pass rfl rfl rfl rfl rfl rfl rfl<|?_
    refine Ow_pass rfl rfl rfl rfl rfl rfl rfl<|Ow_pass rfl rfl rfl rfl rfl rfl rfl<|Ow_pass rfl rfl rfl rfl rfl rfl rfl<|Ow_q rfl rfl rfl (Qt_pick_f rfl rfl)<|Ow_q rfl rfl rfl (Qt_assign rfl)<|Ow_nil<|Re0<|Re0<|Re0<|Re0<|?_
    refine Re0<|Re0<|Re0<|Re0<|Re0<|Re0<|Re0<|Shift.done<|?_
    exact ⟨_, by exact ⟨rfl, trivial⟩, false, rfl, rfl, rfl, H⟩
  ·intro h155
   have H := iff_ (btf h155) H
   refine Ow_pass rfl rfl rfl rfl rfl rfl rfl<|Ow_pass rfl rfl rfl rfl rfl rfl rfl<|Ow_pass rfl rfl rfl rfl rfl rfl rfl<|Ow_q rfl rfl rfl (Qt_pick_f rfl rfl)<|Ow_q rfl rfl rfl (Qt_move rfl)<|Ow_pass rfl rfl rfl rfl rfl rfl rfl<|Ow_pass rfl rfl rfl rfl rfl rfl rfl<|Ow_q rfl rfl rfl (Qt_pick_f rfl rfl)<|Ow_q rfl rfl rfl (Qt_move rfl)<|Ow_pass rfl rfl rfl rfl rfl rfl rfl<|?_
   refine Ow_pass rfl rfl rfl rfl rfl rfl rfl<|Ow_pass rfl rfl rfl rfl rfl rfl rfl<|Ow_q rfl rfl rfl (Qt_pick_f rfl rfl)<|Ow_q rfl rfl rfl (Qt_move rfl)<|Ow_pass rfl rfl rfl rfl rfl rfl rfl<|Ow_pass rfl rfl rfl rfl rfl rfl rfl<|Ow_pass rfl rfl rfl rfl rfl rfl rfl<|Ow_pass rfl rfl rfl rfl rfl rfl rfl<|Ow_pass rfl rfl rfl rfl rfl rfl rfl<|Ow_pass rfl rfl rfl rfl rfl rfl rfl<|?_
   refine Ow_q rfl rfl rfl (Qt_pick_f rfl rfl)<|Ow_q rfl rfl rfl (Qt_move rfl)<|Ow_pass rfl rfl rfl rfl rfl rfl rfl<|Ow_pass rfl rfl rfl rfl rfl rfl rfl<|Ow_pass rfl rfl rfl rfl rfl rfl rfl<|Ow_pass rfl rfl rfl rfl rfl rfl rfl<|Ow_pass rfl rfl rfl rfl rfl rfl rfl<|Ow_pass rfl rfl rfl rfl rfl rfl rfl<|Ow_q rfl rfl rfl (Qt_pick_f rfl rfl)<|Ow_q rfl rfl rfl (Qt_assign rfl)<|?_
   refine Ow_nil<|Re0<|Re0<|Re0<|Re0<|Re0<|Re0<|Re0<|Re0<|Re0<|?_
   refine Re0<|Re0<|Shift.done<|?_
   exact ⟨_, by exact ⟨rfl, trivial⟩, false, rfl, rfl, rfl, H⟩
 rintro _ _ _ - ⟨t154, rfl, rfl, rfl, H⟩
 unfold M_12z at H
 refine Cw_ret ?_
 obtain ey0 := inj1 H
 subst y0
 refine ⟨(by first | exact .inl rfl | exact .inr rfl), [(.bool t154)], ⟨(.bool t154), _, rfl, rfl, rfl⟩, ?_⟩
 exact Shift.done ⟨rfl, rfl⟩

set_option maxHeartbeats 1000000 in
theorem c_M_50z (p0 : Desk) (vp0_chans : SV) (vp0_waiting : SV) (p1 : Int) (y0 : Bool) (H : M_50z p0 p1 = some y0) (K : Kp) (G : List Ent) (hp0_chans : Slr TyChan K (sv vp0_chans) p0.chans) (hp0_waiting : Slr TyWaiter K (sv vp0_waiting) p0.waiting) :
  Fc Try.prog 14 #[(.agg (Desk.cells p0 vp0_chans vp0_waiting).toArray), (.int .i64 p1)] K (G) (fun v K' G' => v = (.bool y0) ∧ G = G') := by
 refine Fc_body Try.func14 rfl Try.ntmps14 Try.results14 rfl ?_
 unfold M_50z at H
 refine Cw_seq<|Cw_region<|?_
 refine Ow_cons rfl (OpW_box (cs := (Desk.cells p0 vp0_chans vp0_waiting)) rfl rfl rfl (fun b34 => ?_))
 refine Ow_q rfl rfl rfl (Qt_assign rfl)<|Ow_nil<|?_
 refine Cw_join (fun env' K' G' => [] = env' ∧ G = G' ∧ M_193z = some y0) ?_ ?_
 ·skip
  refine Cw_seq<|Cw_region<|Ow_q rfl rfl rfl (Qt_fieldAddr (m := 1) rfl rfl rfl rfl rfl)<|Ow_q rfl rfl rfl (Qt_load1 (v := (sv vp0_waiting)) rfl rfl rfl (Rdc.blk Mb0 rfl))<|Ow_q rfl rfl rfl (Q_len (T := TyWaiter) hp0_waiting rfl rfl)<|Ow_q rfl rfl rfl (Qt_move rfl)<|Ow_nil<|Cw_block<|?_
  refine Cw_loopM (fun n95 env' K' G' => ∃ (i94 : Int), [(1, (.int .i64 p1)), (2, (.pointer (some ((⟨b34, 0, none⟩ : Addr).add 0)))), (8, (.int .i64 (p0.waiting.length : Int))), (9, (.int .i64 i94))] = env' ∧ K = K' ∧ (.blk b34 34 (Desk.cells p0 vp0_chans vp0_waiting)) :: G = G' ∧ lp1 (M_146z p1 p0) n95 i94 = some y0) BIG ?_ ?_
  ·skip
   exact Shift.done ⟨_, by exact ⟨rfl, rfl, rfl, rfl, trivial⟩, 0, rfl, rfl, rfl, H⟩
  rintro n95 _ _ _ - ⟨i94, rfl, rfl, rfl, H⟩
  obtain ⟨m96, k97, rfl, hkk98, H⟩ := lps1 H
  unfold M_146z at H
  refine Cw_seq<|Cw_region<|Ow_q rfl rfl rfl (Qt_cmp rfl rfl rfl)<|Ow_nil<|Cw_seq<|?_
  refine Cw_cond rfl ?_ ?_
  ·intro h100
   have h100 := dcd_t (h100)
   have H := ift h100 H
   refine Cw_skip<|Cw_seq<|Cw_block<|Cw_seq<|Cw_region<|Ow_q rfl rfl rfl (Qt_move rfl)<|Ow_q rfl rfl rfl (Qt_assign rfl)<|Ow_nil<|Cw_seq<|Cw_region<|?_
   refine Ow_q rfl rfl rfl (Qt_fieldAddr (m := 1) rfl rfl rfl rfl rfl)<|Ow_q rfl rfl rfl (Qt_load1 (v := (sv vp0_waiting)) rfl rfl rfl (Rdc.blk Mb0 rfl))<|Ow_q rfl rfl rfl (Qt_move rfl)<|?_
   obtain ⟨x111, hx112, H⟩ := bnd H
   obtain ⟨r113, hr114, hk115⟩ := Slr.at hp0_waiting hx112
   obtain ⟨v116, v117, rfl, hs118, hs119⟩ := hr114
   refine Ow_q rfl rfl rfl (Q_ix (T := TyWaiter) hp0_waiting hx112 rfl rfl rfl rfl rfl)<|Ow_q rfl rfl rfl (Qt_fieldAddr (m := 0) rfl rfl rfl rfl rfl)<|Ow_q rfl rfl rfl (Qt_load1 (v := (.int .i64 x111.thread)) rfl rfl rfl (Rdc.k hk115 rfl))<|Ow_q rfl rfl rfl (Qt_move rfl)<|Ow_q rfl rfl rfl (Qt_cmp rfl rfl rfl)<|Ow_nil<|?_
   refine Cw_cond rfl ?_ ?_
   ·intro h120
    have h120 := dcd_t (h120)
    have H := ift h120 H
    refine Cw_seq<|Cw_region<|Ow_q rfl rfl rfl (Qt_assign rfl)<|Ow_nil<|Cw_ret<|?_
    obtain ey0 := inj1 H
    subst y0
    refine ⟨(by first | exact .inl rfl | exact .inr rfl), [(.bool true)], ⟨(.bool true), _, rfl, rfl, rfl⟩, ?_⟩
    refine Re0<|Shift.done<|?_
    exact ⟨rfl, rfl⟩
   ·intro h120
    have h120 := dcd_f (h120)
    have H := iff_ h120 H
    refine Cw_skip<|Cw_region<|Ow_q rfl rfl rfl (Qt_arith (e := wI (i94 + 1)) rfl rfl rfl rfl)<|Ow_q rfl rfl rfl (Qt_move rfl)<|Ow_nil<|Shift.done<|?_
    exact ⟨_, by exact ⟨rfl, rfl, rfl, rfl, trivial⟩, _, Nat.lt_succ_self _, (wI (i94 + 1)), rfl, rfl, rfl, (hkk98 ▸ H)⟩
  ·intro h100
   have h100 := dcd_f (h100)
   have H := iff_ h100 H
   refine Cw_exit<|Re0<|Shift.done<|?_
   exact ⟨[], trivial, rfl, rfl, H⟩
 rintro _ K121 _ hK122 ⟨rfl, rfl, H⟩
 unfold M_193z at H
 refine Cw_seq<|Cw_region<|Ow_q rfl rfl rfl (Qt_assign rfl)<|Ow_nil<|Cw_ret<|?_
 obtain ey0 := inj1 H
 subst y0
 refine ⟨(by first | exact .inl rfl | exact .inr rfl), [(.bool false)], ⟨(.bool false), _, rfl, rfl, rfl⟩, ?_⟩
 exact Shift.done ⟨rfl, rfl⟩



end Go.Hx

namespace Go.Hx
open Go Go.Proofs
set_option linter.unusedSimpArgs false
set_option linter.unusedVariables false
set_option maxRecDepth 10000
set_option maxHeartbeats 1000000 in
theorem c_M_29z (p0 : Config) (vp0_capacities : SV) (vp0_starts : SV) (y0 : List Chan) (H : M_29z p0 = some y0) (K : Kp) (G : List Ent) (hp0_capacities : Slr Ty.i64 K (sv vp0_capacities) p0.capacities) (hp0_starts : Slr Ty.u64 K (sv vp0_starts) p0.starts) :
  Fc Try.prog 57 #[(.agg (Config.cells p0 vp0_capacities vp0_starts).toArray)] K (G) (fun v K' G' => ∃ (wy0 : SV) (rswy0 : List (List Value)), v = (sv wy0) ∧ (.row (sv wy0) 71 3 rswy0.flatten) :: (.tok 38 1 (col 1 rswy0)) :: G = G' ∧ RowR TyChan K' rswy0 y0) := by
 refine Fc_body Try.func57 rfl Try.ntmps57 Try.results57 rfl ?_
 unfold M_29z at H
 refine Cw_seq<|Cw_region<|?_
 refine Ow_cons rfl (OpW_box (cs := (Config.cells p0 vp0_capacities vp0_starts)) rfl rfl rfl (fun b53 => ?_))
 refine Ow_q rfl rfl rfl (Qt_assign rfl)<|Ow_nil<|Cw_seq<|Cw_region<|Ow_q rfl rfl rfl (Qt_assign rfl)<|Ow_nil<|?_
 refine Cw_join (fun env' K' G' => ∃ (v99 : SV) (l100 : List Chan) (rs102 : List (List Value)), [(3, (sv v99))] = env' ∧ (.row (sv v99) 71 3 rs102.flatten) :: (.tok 38 1 (col 1 rs102)) :: G = G' ∧ M_138z l100 = some y0 ∧ RowR TyChan K' rs102 l100) ?_ ?_
 ·skip
  refine Cw_seq<|Cw_region<|Ow_q rfl rfl rfl (Qt_assign rfl)<|Ow_nil<|Cw_block<|?_
  refine Cw_loopM (fun n148 env' K' G' => ∃ (v143 : SV) (l144 : List Chan) (rs146 : List (List Value)) (i147 : Int), [(1, (.pointer (some ((⟨b53, 0, none⟩ : Addr).add 0)))), (3, (sv v143)), (4, (.int .i64 i147))] = env' ∧ K = K' ∧ (.blk b53 29 (Config.cells p0 vp0_capacities vp0_starts)) :: (.row (sv v143) 71 3 rs146.flatten) :: (.tok 38 1 (col 1 rs146)) :: G = G' ∧ lp2 (M_13z p0) n148 l144 i147 = some y0 ∧ RowR TyChan K' rs146 l144) BIG ?_ ?_
  ·skip
   have hR149 : RowR TyChan K [] [] := RowR.nil
   refine Shift.nilRow 71 3<|Shift.tok0 38 1 1<|Pu1<|Pu2<|Shift.done<|?_
   exact ⟨_, by exact ⟨rfl, rfl, rfl, trivial⟩, nilS, ([] : List Chan), ([] : List (List Value)), 0, rfl, rfl, rfl, H, hR149⟩
  rintro n148 _ _ _ - ⟨v143, l144, rs146, i147, rfl, rfl, rfl, H, hR145⟩
  obtain ⟨m150, k151, rfl, hkk152, H⟩ := lps2 H
  unfold M_13z at H
  refine Cw_seq<|Cw_seq<|Cw_region<|Ow_q rfl rfl rfl (Qt_move rfl)<|Ow_q rfl rfl rfl (Qt_fieldAddr (m := 0) rfl rfl rfl rfl rfl)<|Ow_q rfl rfl rfl (Qt_load1 (v := (sv vp0_capacities)) rfl rfl rfl (Rdc.blk Mb0 rfl))<|Ow_q rfl rfl rfl (Q_len (T := Ty.i64) hp0_capacities rfl rfl)<|Ow_q rfl rfl rfl (Qt_cmp rfl rfl rfl)<|Ow_nil<|?_
  refine Cw_cond rfl ?_ ?_
  ·intro h154
   have h154 := dcd_t (h154)
   have H := ift h154 H
   refine Cw_skip<|Cw_seq<|Cw_block<|Cw_region<|Ow_q rfl rfl rfl (Qt_move rfl)<|Ow_q rfl rfl rfl (Qt_fieldAddr (m := 0) rfl rfl rfl rfl rfl)<|Ow_q rfl rfl rfl (Qt_load1 (v := (sv vp0_capacities)) rfl rfl rfl (Rdc.blk Mb0 rfl))<|Ow_q rfl rfl rfl (Qt_move rfl)<|?_
   obtain ⟨x168, hx169, H⟩ := bnd H
   obtain ⟨r170, hr171, hk172⟩ := Slr.at hp0_capacities hx169
   obtain rfl := hr171
   refine Ow_q rfl rfl rfl (Q_ix (T := Ty.i64) hp0_capacities hx169 rfl rfl rfl rfl rfl)<|Ow_q rfl rfl rfl (Qt_load1 (v := (.int .i64 x168)) rfl rfl rfl (Rdc.k hk172 rfl))<|Ow_q rfl rfl rfl (Qt_build (cs := (Chan.cells (Chan.mk x168 [] false) nilS)) rfl rfl rfl rfl rfl rfl)<|?_
   have hR174 : RowR TyChan K [(Chan.cells (Chan.mk x168 [] false) nilS)] [(Chan.mk x168 [] false)] := RowR.cons ⟨nilS, rfl, (Slr.nil Ty.u64 _)⟩ (RowR.nil)
   refine Ow_cons rfl (O_lit (T := TyChan) (rows := [(Chan.cells (Chan.mk x168 [] false) nilS)]) (l := [(Chan.mk x168 [] false)]) rfl rfl rfl hR174 rfl rfl rfl rfl rfl rfl rfl rfl (fun v173 => ?_))
   obtain ⟨x175, hx176, H⟩ := bnd H
   refine Ow_cons rfl (O_appRowL (T := TyChan) (bytes := 40) rfl rfl rfl Mb2 hR145 Mb0 hR174 hx176 rfl rfl rfl rfl rfl rfl rfl rfl (fun v177 rs178 hrs180 hR179 => ⟨_, (.there (.there .here)), ?_⟩))
   refine Ow.shift (Shift.tokNil (.there (.there (.there .here))) (Shift.done ?_))
   have hse := col_app (k := 1) (rows := rs146) (r := (Chan.cells (Chan.mk x168 [] false) nilS)) (v := (sv nilS)) rfl
   rw [show (Value.slice none 0 0) = (sv nilS) from rfl, hse, ← hrs180]
   clear hse
   refine Ow.shift (Re0 (Shift.done ?_))
   refine Ow_q rfl rfl rfl (Qt_assign rfl)<|Ow_nil<|Cw_region<|Ow_q rfl rfl rfl (Qt_move rfl)<|Ow_q rfl rfl rfl (Qt_arith (e := wI (i147 + 1)) rfl rfl rfl rfl)<|Ow_q rfl rfl rfl (Qt_assign rfl)<|Ow_nil<|Pu2<|Pu2<|Pu2<|?_
   exact Shift.done ⟨_, by exact ⟨rfl, rfl, rfl, trivial⟩, _, Nat.lt_succ_self _, v177, x175, rs178, (wI (i147 + 1)), rfl, rfl, rfl, (hkk152 ▸ H), hR179⟩
  ·intro h154
   have h154 := dcd_f (h154)
   have H := iff_ h154 H
   refine Cw_exit<|Pu2<|Pu2<|Re2<|Shift.done<|?_
   exact ⟨_, by exact ⟨rfl, trivial⟩, v143, l144, rs146, rfl, rfl, H, hR145⟩
 rintro _ K181 _ hK182 ⟨v99, l100, rs102, rfl, rfl, H, hR101⟩
 unfold M_138z at H
 refine Cw_seq<|Cw_region<|Ow_q rfl rfl rfl (Qt_move rfl)<|Ow_q rfl rfl rfl (Qt_assign rfl)<|Ow_nil<|Cw_ret<|?_
 obtain ey0 := inj1 H
 subst y0
 refine ⟨(by first | exact .inl rfl | exact .inr rfl), [(sv v99)], ⟨(sv v99), _, rfl, rfl, rfl⟩, ?_⟩
 refine Pu1<|Pu1<|Shift.done<|?_
 exact ⟨v99, rs102, rfl, rfl, hR101⟩

set_option maxHeartbeats 1000000 in
theorem c_M_7z (p0 : List Chan) (vp0 : SV) (p1 : Int) (y0 : Bool) (H : M_7z p0 p1 = some y0) (K : Kp) (G : List Ent) (hp0 : Slr TyChan K (sv vp0) p0) :
  Fc Try.prog 71 #[(sv vp0), (.int .i64 p1)] K (G) (fun v K' G' => v = (.bool y0) ∧ K = K' ∧ G = G') := by
 refine Fc_body Try.func71 rfl Try.ntmps71 Try.results71 rfl ?_
 unfold M_7z at H
 refine Cw_seq<|Cw_region<|Ow_q rfl rfl rfl (Qt_assign rfl)<|Ow_nil<|Cw_seq<|Cw_region<|Ow_q rfl rfl rfl (Qt_move rfl)<|Ow_q rfl rfl rfl (Qt_cmp rfl rfl rfl)<|Ow_q rfl rfl rfl (Qt_move rfl)<|?_
 refine Ow_caseG rfl rfl rfl ?_ ?_
 ·intro h3
  have h3 := dcd_t (h3)
  have H := ift h3 H
  refine Ow_qw rfl rfl rfl rfl rfl rfl (Qt_move rfl)<|Ow_qw rfl rfl rfl rfl rfl rfl (Qt_move rfl)<|Ow_qw rfl rfl rfl rfl rfl rfl (Q_len (T := TyChan) hp0 rfl rfl)<|Ow_qw rfl rfl rfl rfl rfl rfl (Qt_cmp rfl rfl rfl)<|Ow_q rfl rfl rfl (Qt_pick_t rfl rfl)<|Ow_q rfl rfl rfl (Qt_assign rfl)<|Ow_nil<|Cw_ret<|?_
  obtain ey0 := inj1 H
  subst y0
  refine ⟨(by first | exact .inl rfl | exact .inr rfl), [(.bool (dcd (p1 < (p0.length : Int))))], ⟨(.bool (dcd (p1 < (p0.length : Int)))), _, rfl, rfl, rfl⟩, ?_⟩
  exact Shift.done ⟨rfl, rfl, rfl⟩
 ·intro h3
  have h3 := dcd_f (h3)
  have H := iff_ h3 H
  refine Ow_pass rfl rfl rfl rfl rfl rfl rfl<|Ow_pass rfl rfl rfl rfl rfl rfl rfl<|Ow_pass rfl rfl rfl rfl rfl rfl rfl<|Ow_pass rfl rfl rfl rfl rfl rfl rfl<|Ow_q rfl rfl rfl (Qt_pick_f rfl rfl)<|Ow_q rfl rfl rfl (Qt_assign rfl)<|Ow_nil<|Cw_ret<|?_
  obtain ey0 := inj1 H
  subst y0
  refine ⟨(by first | exact .inl rfl | exact .inr rfl), [(.bool false)], ⟨(.bool false), _, rfl, rfl, rfl⟩, ?_⟩
  exact Shift.done ⟨rfl, rfl, rfl⟩

set_option maxHeartbeats 1000000 in
theorem c_M_35z (p0 : List Chan) (vp0 : SV) (p1 : Case) (y0 : Bool) (H : M_35z p0 p1 = some y0) (K : Kp) (G : List Ent) (hp0 : Slr TyChan K (sv vp0) p0) :
  Fc Try.prog 41 #[(sv vp0), (.agg (Case.cells p1).toArray)] K (G) (fun v K' G' => v = (.bool y0) ∧ K = K' ∧ G = G') := by
 refine Fc_body Try.func41 rfl Try.ntmps41 Try.results41 rfl ?_
 unfold M_35z at H
 refine Cw_seq<|Cw_region<|?_
 refine Ow_cons rfl (OpW_box (cs := (Case.cells p1)) rfl rfl rfl (fun b16 => ?_))
 refine Ow_q rfl rfl rfl (Qt_assign rfl)<|Ow_nil<|Cw_seq<|Cw_seq<|Cw_region<|Ow_q rfl rfl rfl (Qt_move rfl)<|Ow_q rfl rfl rfl (Qt_fieldAddr (m := 1) rfl rfl rfl rfl rfl)<|Ow_q rfl rfl rfl (Qt_load1 (v := (.int .i64 p1.channel)) rfl rfl rfl (Rdc.blk Mb0 rfl))<|?_
 obtain ⟨x20, hx21, H⟩ := bnd H
 refine Ow_cons rfl (OpW_call rfl Try.call71 rfl rfl (c_M_7z p0 vp0 p1.channel x20 hx21 _ _ hp0) ?_)
 rintro _ _ _ - ⟨rfl, rfl, rfl⟩
 refine Ow_q rfl rfl rfl (Qt_not rfl)<|Ow_nil<|?_
 refine Cw_cond rfl ?_ ?_
 ·intro h22
  have h22 := nt_t (h22)
  have H := iff_ (btf h22) H
  refine Cw_seq<|Cw_region<|Ow_q rfl rfl rfl (Qt_assign rfl)<|Ow_nil<|Cw_ret<|?_
  obtain ey0 := inj1 H
  subst y0
  refine ⟨(by first | exact .inl rfl | exact .inr rfl), [(.bool false)], ⟨(.bool false), _, rfl, rfl, rfl⟩, ?_⟩
  refine Re0<|Shift.done<|?_
  exact ⟨rfl, rfl, rfl⟩
 ·intro h22
  have h22 := nt_f (h22)
  have H := ift h22 H
  refine Cw_skip<|Cw_seq<|Cw_region<|Ow_q rfl rfl rfl (Qt_move rfl)<|Ow_q rfl rfl rfl (Qt_fieldAddr (m := 1) rfl rfl rfl rfl rfl)<|Ow_q rfl rfl rfl (Qt_load1 (v := (.int .i64 p1.channel)) rfl rfl rfl (Rdc.blk Mb0 rfl))<|?_
  obtain ⟨x23, hx24, H⟩ := bnd H
  obtain ⟨r25, hr26, hk27⟩ := Slr.at hp0 hx24
  obtain ⟨v28, rfl, hs29⟩ := hr26
  refine Ow_q rfl rfl rfl (Q_ix (T := TyChan) hp0 hx24 rfl rfl rfl rfl rfl)<|Ow_q rfl rfl rfl (Qt_loadA (m := 3) (cs := (Chan.cells x23 v28)) rfl rfl rfl rfl ⟨rfl, Rdc.k hk27 rfl⟩)<|?_
  refine Ow_cons rfl (OpW_alloc (cs := (Chan.cells (Chan.mk 0 [] false) nilS)) rfl rfl rfl rfl (fun b30 => ?_))
  refine Ow_cons rfl (OpW_store (vs := (Chan.cells x23 v28)) (all' := (Chan.cells x23 v28)) rfl rfl rfl rfl rfl .here rfl rfl rfl ?_)
  refine Ow_nil<|Cw_seq<|Cw_seq<|Cw_region<|Ow_q rfl rfl rfl (Qt_fieldAddr (m := 0) rfl rfl rfl rfl rfl)<|Ow_q rfl rfl rfl (Qt_load1 (v := (.bool p1.send)) rfl rfl rfl (Rdc.blk Mb1 rfl))<|Ow_nil<|?_
  refine Cw_cond rfl ?_ ?_
  ·intro h33
   have H := ift h33 H
   refine Cw_seq<|Cw_region<|Ow_q rfl rfl rfl (Qt_fieldAddr (m := 2) rfl rfl rfl rfl rfl)<|Ow_q rfl rfl rfl (Qt_load1 (v := (.bool x23.closed)) rfl rfl rfl (Rdc.blk Mb0 rfl))<|Ow_q rfl rfl rfl (Qt_move rfl)<|?_
   refine Ow_caseG rfl rfl rfl ?_ ?_
   ·intro h35
    have H := ift h35 H
    refine Ow_pass rfl rfl rfl rfl rfl rfl rfl<|Ow_pass rfl rfl rfl rfl rfl rfl rfl<|Ow_pass rfl rfl rfl rfl rfl rfl rfl<|Ow_pass rfl rfl rfl rfl rfl rfl rfl<|Ow_pass rfl rfl rfl rfl rfl rfl rfl<|Ow_pass rfl rfl rfl rfl rfl rfl rfl<|Ow_q rfl rfl rfl (Qt_pick_t rfl rfl)<|Ow_q rfl rfl rfl (Qt_assign rfl)<|Ow_nil<|Cw_ret<|?_
    obtain ey0 := inj1 H
    subst y0
    refine ⟨(by first | exact .inl rfl | exact .inr rfl), [(.bool true)], ⟨(.bool true), _, rfl, rfl, rfl⟩, ?_⟩
    refine Re0<|Re0<|Shift.done<|?_
    exact ⟨rfl, rfl, rfl⟩
   ·intro h35
    have H := iff_ (btf h35) H
    refine Ow_qw rfl rfl rfl rfl rfl rfl (Qt_fieldAddr (m := 1) rfl rfl rfl rfl rfl)<|Ow_qw rfl rfl rfl rfl rfl rfl (Qt_load1 (v := (sv v28)) rfl rfl rfl (Rdc.blk Mb0 rfl))<|Ow_qw rfl rfl rfl rfl rfl rfl (Q_len (T := Ty.u64) hs29 rfl rfl)<|Ow_qw rfl rfl rfl rfl rfl rfl (Qt_fieldAddr (m := 0) rfl rfl rfl rfl rfl)<|Ow_qw rfl rfl rfl rfl rfl rfl (Qt_load1 (v := (.int .i64 x23.capacity)) rfl rfl rfl (Rdc.blk Mb0 rfl))<|Ow_qw rfl rfl rfl rfl rfl rfl (Qt_cmp rfl rfl rfl)<|Ow_q rfl rfl rfl (Qt_pick_f rfl rfl)<|Ow_q rfl rfl rfl (Qt_assign rfl)<|Ow_nil<|Cw_ret<|?_
    obtain ey0 := inj1 H
    subst y0
    refine ⟨(by first | exact .inl rfl | exact .inr rfl), [(.bool (dcd ((x23.buffer.length : Int) < x23.capacity)))], ⟨(.bool (dcd ((x23.buffer.length : Int) < x23.capacity))), _, rfl, rfl, rfl⟩, ?_⟩
    refine Re0<|Re0<|Shift.done<|?_
    exact ⟨rfl, rfl, rfl⟩
  ·intro h33
   have H := iff_ (btf h33) H
   refine Cw_skip<|Cw_seq<|Cw_region<|Ow_q rfl rfl rfl (Qt_fieldAddr (m := 2) rfl rfl rfl rfl rfl)<|Ow_q rfl rfl rfl (Qt_load1 (v := (.bool x23.closed)) rfl rfl rfl (Rdc.blk Mb0 rfl))<|Ow_q rfl rfl rfl (Qt_move rfl)<|?_
   refine Ow_caseG rfl rfl rfl ?_ ?_
   ·intro h37
    have H := ift h37 H
    refine Ow_pass rfl rfl rfl rfl rfl rfl rfl<|Ow_pass rfl rfl rfl rfl rfl rfl rfl<|Ow_pass rfl rfl rfl rfl rfl rfl rfl<|Ow_pass rfl rfl rfl rfl rfl rfl rfl<|Ow_q rfl rfl rfl (Qt_pick_t rfl rfl)<|Ow_q rfl rfl rfl (Qt_assign rfl)<|Ow_nil<|Cw_ret<|?_
    obtain ey0 := inj1 H
    subst y0
    refine ⟨(by first | exact .inl rfl | exact .inr rfl), [(.bool true)], ⟨(.bool true), _, rfl, rfl, rfl⟩, ?_⟩
    refine Re0<|Re0<|Shift.done<|?_
    exact ⟨rfl, rfl, rfl⟩
   ·intro h37
    have H := iff_ (btf h37) H
    refine Ow_qw rfl rfl rfl rfl rfl rfl (Qt_fieldAddr (m := 1) rfl rfl rfl rfl rfl)<|Ow_qw rfl rfl rfl rfl rfl rfl (Qt_load1 (v := (sv v28)) rfl rfl rfl (Rdc.blk Mb0 rfl))<|Ow_qw rfl rfl rfl rfl rfl rfl (Q_len (T := Ty.u64) hs29 rfl rfl)<|Ow_qw rfl rfl rfl rfl rfl rfl (Qt_cmp rfl rfl rfl)<|Ow_q rfl rfl rfl (Qt_pick_f rfl rfl)<|Ow_q rfl rfl rfl (Qt_assign rfl)<|Ow_nil<|Cw_ret<|?_
    obtain ey0 := inj1 H
    subst y0
    refine ⟨(by first | exact .inl rfl | exact .inr rfl), [(.bool (dcd ((x23.buffer.length : Int) > 0)))], ⟨(.bool (dcd ((x23.buffer.length : Int) > 0))), _, rfl, rfl, rfl⟩, ?_⟩
    refine Re0<|Re0<|Shift.done<|?_
    exact ⟨rfl, rfl, rfl⟩



end Go.Hx
