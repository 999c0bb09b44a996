/- Printed by program. -/
import Derived.Test.YthokebmjjkjjfaaXDM
import Derived.Test.YthokebmjjkjjfaaXDWCases
import Derived.Test.YthokebmjjkjjfaaXDWSlices
namespace Go.Hx
open Go Go.Proofs
set_option linter.unusedSimpArgs false
set_option linter.unusedVariables false
set_option maxRecDepth 10000
set_option maxHeartbeats 1000000 in
theorem c_M_23z (p0 : Op) (vp0_cases : SV) (vp0_draws : SV) (y0 : List Case) (H : M_23z p0 = some y0) (K : Kp) (G : List Ent) (hp0_cases : Slr TyCase K (sv vp0_cases) p0.cases) (hp0_draws : Slr Ty.i64 K (sv vp0_draws) p0.draws) :
  Fc Try.prog 49 #[(.agg (Op.cells p0 vp0_cases vp0_draws).toArray)] K (G) (fun v K' G' => ∃ (wy0 : SV), v = (sv wy0) ∧ G = G' ∧ Slr TyCase K' (sv wy0) y0) := by
 refine Fc_body Try.func49 rfl Try.ntmps49 Try.results49 rfl ?_
 unfold M_23z at H
 refine Cw_seq ?_
 refine Cw_region ?_
 refine Ow_cons rfl (OpW_box (cs := (Op.cells p0 vp0_cases vp0_draws)) rfl rfl rfl (fun b9 => ?_))
 refine Ow_q rfl rfl rfl (Qt_assign rfl) ?_
 refine Ow_nil ?_
 refine Cw_seq ?_
 refine Cw_seq ?_
 refine Cw_region ?_
 refine Ow_q rfl rfl rfl (Qt_loadA (m := 7) (cs := (Op.cells p0 vp0_cases vp0_draws)) rfl rfl rfl rfl ⟨rfl, Rdc.blk (.head _) rfl⟩) ?_
 obtain ⟨x17, x18, hx19, H⟩ := bnd2 H
 refine Ow_cons rfl (OpW_call rfl Try.call47 rfl rfl (c_M_9z p0 vp0_cases vp0_draws x17 x18 hx19 _ _ hp0_cases hp0_draws) ?_)
 rintro _ _ _ - ⟨rfl, rfl, rfl⟩
 refine Ow_q rfl rfl rfl (Qt_move rfl) ?_
 refine Ow_q rfl rfl rfl (Qt_extract rfl rfl) ?_
 refine Ow_q rfl rfl rfl (Qt_extract rfl rfl) ?_
 refine Ow_cons rfl (OpW_alloc (cs := (Case.cells (Case.mk false 0 0))) rfl rfl rfl rfl (fun b20 => ?_))
 refine Ow_cons rfl (OpW_store (vs := (Case.cells x17)) (all' := (Case.cells x17)) rfl rfl rfl rfl rfl .here rfl rfl rfl ?_)
 refine Ow_q rfl rfl rfl (Qt_assign rfl) ?_
 refine Ow_nil ?_
 refine Cw_seq ?_
 refine Cw_region ?_
 refine Ow_q rfl rfl rfl (Qt_move rfl) ?_
 refine Ow_nil ?_
 refine Cw_cond rfl ?_ ?_
 ·intro h21
  have H := ift h21 H
  refine Cw_seq ?_
  refine Cw_region ?_
  refine Ow_q rfl rfl rfl (Qt_loadA (m := 3) (cs := (Case.cells x17)) rfl rfl rfl rfl ⟨rfl, Rdc.blk (.head _) rfl⟩) ?_
  have hR23 : RowR TyCase K [(Case.cells x17)] [x17] := RowR.cons rfl (RowR.nil)
  refine Ow_cons rfl (O_lit (T := TyCase) (rows := [(Case.cells x17)]) (l := [x17]) rfl rfl rfl hR23 rfl rfl rfl rfl rfl rfl rfl rfl (fun v22 => ?_))
  refine Ow_q rfl rfl rfl (Qt_assign rfl) ?_
  refine Ow_nil ?_
  refine Cw_ret ?_
  obtain ey0 := inj1 H
  subst y0
  refine ⟨(by first | exact .inl rfl | exact .inr rfl), [(sv v22)], ⟨(sv v22), _, rfl, rfl, rfl⟩, ?_⟩
  refine Shift.settle (T := TyCase) .here hR23 rfl ?_
  intro K24 hK25 hs26
  refine Shift.rem .here ?_
  refine Shift.rem .here ?_
  refine Shift.rem .here ?_
  refine Shift.done ?_
  exact ⟨v22, rfl, rfl, hs26⟩
 ·intro h21
  have H := iff_ (btf h21) H
  refine Cw_skip ?_
  refine Cw_seq ?_
  refine Cw_region ?_
  refine Ow_q rfl rfl rfl (Qt_fieldAddr (m := 5) rfl rfl rfl rfl rfl) ?_
  refine Ow_q rfl rfl rfl (Qt_load1 (v := (sv vp0_cases)) rfl rfl rfl (Rdc.blk (.tail _ (.head _)) rfl)) ?_
  refine Ow_q rfl rfl rfl (Qt_assign rfl) ?_
  refine Ow_nil ?_
  refine Cw_ret ?_
  obtain ey0 := inj1 H
  subst y0
  refine ⟨(by first | exact .inl rfl | exact .inr rfl), [(sv vp0_cases)], ⟨(sv vp0_cases), _, rfl, rfl, rfl⟩, ?_⟩
  refine Shift.rem .here ?_
  refine Shift.rem .here ?_
  refine Shift.done ?_
  exact ⟨vp0_cases, rfl, rfl, hp0_cases⟩

set_option maxHeartbeats 1000000 in
theorem c_M_10z (p0 : Op) (vp0_cases : SV) (vp0_draws : SV) (p1 : Int) (p2 : Bool) (y0 : Int) (y1 : Bool) (H : M_10z p0 p1 p2 = some (y0, y1)) (K : Kp) (G : List Ent) (hp0_cases : Slr TyCase K (sv vp0_cases) p0.cases) (hp0_draws : Slr Ty.i64 K (sv vp0_draws) p0.draws) :
  Fc Try.prog 70 #[(.agg (Op.cells p0 vp0_cases vp0_draws).toArray), (.int .i64 p1), (.bool p2)] K (G) (fun v K' G' => v = (.tuple #[(.int .i64 y0), (.bool y1)]) ∧ G = G') := by
 refine Fc_body Try.func70 rfl Try.ntmps70 Try.results70 rfl ?_
 unfold M_10z at H
 refine Cw_seq ?_
 refine Cw_region ?_
 refine Ow_cons rfl (OpW_box (cs := (Op.cells p0 vp0_cases vp0_draws)) rfl rfl rfl (fun b38 => ?_))
 refine Ow_q rfl rfl rfl (Qt_assign rfl) ?_
 refine Ow_q rfl rfl rfl (Qt_assign rfl) ?_
 refine Ow_nil ?_
 refine Cw_join (fun env' K' G' => [] = env' ∧ G = G' ∧ M_132z = some (y0, y1)) ?_ ?_
 ·skip
  refine Cw_seq ?_
  refine Cw_region ?_
  refine Ow_q rfl rfl rfl (Qt_loadA (m := 7) (cs := (Op.cells p0 vp0_cases vp0_draws)) rfl rfl rfl rfl ⟨rfl, Rdc.blk (.head _) rfl⟩) ?_
  obtain ⟨x73, hx74, H⟩ := bnd H
  refine Ow_cons rfl (OpW_call rfl Try.call49 rfl rfl (c_M_23z p0 vp0_cases vp0_draws x73 hx74 _ _ hp0_cases hp0_draws) ?_)
  rintro _ K76 _ hK77 ⟨v75, rfl, rfl, hs78⟩
  refine Ow_q rfl rfl rfl (Q_len (T := TyCase) hs78 rfl rfl) ?_
  refine Ow_q rfl rfl rfl (Qt_move rfl) ?_
  refine Ow_nil ?_
  refine Cw_block ?_
  refine Cw_loopM (fun n107 env' K' G' => ∃ (i106 : Int), [(1, (.int .i64 p1)), (2, (.bool p2)), (11, (sv v75)), (12, (.int .i64 (x73.length : Int))), (13, (.int .i64 i106))] = env' ∧ K76 = K' ∧ G = G' ∧ lp1 (M_74z p1 p2 x73) n107 i106 = some (y0, y1)) BIG ?_ ?_
  ·skip
   refine Shift.rem .here ?_
   refine Shift.done ?_
   exact ⟨[(1, (.int .i64 p1)), (2, (.bool p2)), (11, (sv v75)), (12, (.int .i64 (x73.length : Int))), (13, (.int .i64 0))], ⟨rfl, rfl, rfl, rfl, rfl, trivial⟩, 0, rfl, rfl, rfl, H⟩
  rintro n107 _ _ _ - ⟨i106, rfl, rfl, rfl, H⟩
  obtain ⟨m108, k109, rfl, hkk110, H⟩ := lps1 H
  unfold M_74z at H
  refine Cw_seq ?_
  refine Cw_region ?_
  refine Ow_q rfl rfl rfl (Qt_cmp rfl rfl rfl) ?_
  refine Ow_nil ?_
  refine Cw_seq ?_
  refine Cw_cond rfl ?_ ?_
  ·intro h112
   have h112 := dcd_t (h112)
   have H := ift h112 H
   refine Cw_skip ?_
   refine Cw_seq ?_
   refine Cw_block ?_
   refine Cw_seq ?_
   refine Cw_region ?_
   refine Ow_q rfl rfl rfl (Qt_move rfl) ?_
   obtain ⟨x122, hx123, H⟩ := bnd H
   obtain ⟨r124, hr125, hk126⟩ := Slr.at hs78 hx123
   obtain rfl := hr125
   refine Ow_q rfl rfl rfl (Q_ix (T := TyCase) hs78 hx123 rfl rfl rfl rfl rfl) ?_
   refine Ow_q rfl rfl rfl (Qt_loadA (m := 3) (cs := (Case.cells x122)) rfl rfl rfl rfl ⟨rfl, Rdc.k hk126 rfl⟩) ?_
   refine Ow_cons rfl (OpW_alloc (cs := (Case.cells (Case.mk false 0 0))) rfl rfl rfl rfl (fun b127 => ?_))
   refine Ow_q rfl rfl rfl (Qt_assign rfl) ?_
   refine Ow_cons rfl (OpW_store (vs := (Case.cells x122)) (all' := (Case.cells x122)) rfl rfl rfl rfl rfl .here rfl rfl rfl ?_)
   refine Ow_nil ?_
   refine Cw_join (fun env' K' G' => ∃ (t129 : Bool), [(1, (.int .i64 p1)), (2, (.bool p2)), (8, (.int .i64 i106)), (11, (sv v75)), (12, (.int .i64 (x73.length : Int))), (13, (.int .i64 i106)), (27, (.bool t129))] = env' ∧ K76 = K' ∧ G = G' ∧ M_73z p1 p2 i106 x73 k109 t129 = some (y0, y1)) ?_ ?_
   ·skip
    refine Cw_region ?_
    refine Ow_q rfl rfl rfl (Qt_fieldAddr (m := 1) rfl rfl rfl rfl rfl) ?_
    refine Ow_q rfl rfl rfl (Qt_load1 (v := (.int .i64 x122.channel)) rfl rfl rfl (Rdc.blk (.head _) rfl)) ?_
    refine Ow_q rfl rfl rfl (Qt_move rfl) ?_
    refine Ow_q rfl rfl rfl (Qt_cmp rfl rfl rfl) ?_
    refine Ow_q rfl rfl rfl (Qt_move rfl) ?_
    refine Ow_caseG rfl rfl rfl ?_ ?_
    ·intro h130
     have h130 := dcd_t (h130)
     have H := ift h130 H
     refine Ow_qw rfl rfl rfl rfl rfl rfl (Qt_fieldAddr (m := 0) rfl rfl rfl rfl rfl) ?_
     refine Ow_qw rfl rfl rfl rfl rfl rfl (Qt_load1 (v := (.bool x122.send)) rfl rfl rfl (Rdc.blk (.head _) rfl)) ?_
     refine Ow_qw rfl rfl rfl rfl rfl rfl (Qt_move rfl) ?_
     refine Ow_qw rfl rfl rfl rfl rfl rfl (Qt_eqB rfl rfl rfl) ?_
     refine Ow_q rfl rfl rfl (Qt_pick_t rfl rfl) ?_
     refine Ow_nil ?_
     refine Shift.rem .here ?_
     refine Shift.done ?_
     exact ⟨[(1, (.int .i64 p1)), (2, (.bool p2)), (8, (.int .i64 i106)), (11, (sv v75)), (12, (.int .i64 (x73.length : Int))), (13, (.int .i64 i106)), (27, (.bool (x122.send == p2)))], ⟨rfl, rfl, rfl, rfl, rfl, rfl, rfl, trivial⟩, (x122.send == p2), rfl, rfl, rfl, H⟩
    ·intro h130
     have h130 := dcd_f (h130)
     have H := iff_ h130 H
     refine Ow_pass rfl rfl rfl rfl rfl rfl rfl ?_
     refine Ow_pass rfl rfl rfl rfl rfl rfl rfl ?_
     refine Ow_pass rfl rfl rfl rfl rfl rfl rfl ?_
     refine Ow_pass rfl rfl rfl rfl rfl rfl rfl ?_
     refine Ow_q rfl rfl rfl (Qt_pick_f rfl rfl) ?_
     refine Ow_nil ?_
     refine Shift.rem .here ?_
     refine Shift.done ?_
     exact ⟨[(1, (.int .i64 p1)), (2, (.bool p2)), (8, (.int .i64 i106)), (11, (sv v75)), (12, (.int .i64 (x73.length : Int))), (13, (.int .i64 i106)), (27, (.bool false))], ⟨rfl, rfl, rfl, rfl, rfl, rfl, rfl, trivial⟩, false, rfl, rfl, rfl, H⟩
   rintro _ _ _ - ⟨t129, rfl, rfl, rfl, H⟩
   unfold M_73z at H
   refine Cw_cond rfl ?_ ?_
   ·intro h131
    have H := ift h131 H
    refine Cw_seq ?_
    refine Cw_region ?_
    refine Ow_q rfl rfl rfl (Qt_move rfl) ?_
    refine Ow_q rfl rfl rfl (Qt_assign rfl) ?_
    refine Ow_q rfl rfl rfl (Qt_assign rfl) ?_
    refine Ow_nil ?_
    refine Cw_ret ?_
    obtain ⟨ey0, ey1⟩ := inj2 H
    subst y0 y1
    refine ⟨(by first | exact .inl rfl | exact .inr rfl), [(.int .i64 i106), (.bool true)], ⟨(.int .i64 i106), _, rfl, rfl, ⟨(.bool true), _, rfl, rfl, rfl⟩⟩, ?_⟩
    refine Shift.done ?_
    exact ⟨rfl, rfl⟩
   ·intro h131
    have H := iff_ (btf h131) H
    refine Cw_skip ?_
    refine Cw_region ?_
    refine Ow_q rfl rfl rfl (Qt_arith (e := wI (i106 + 1)) rfl rfl rfl rfl) ?_
    refine Ow_q rfl rfl rfl (Qt_move rfl) ?_
    refine Ow_nil ?_
    refine Shift.done ?_
    exact ⟨[(1, (.int .i64 p1)), (2, (.bool p2)), (11, (sv v75)), (12, (.int .i64 (x73.length : Int))), (13, (.int .i64 (wI (i106 + 1))))], ⟨rfl, rfl, rfl, rfl, rfl, trivial⟩, _, Nat.lt_succ_self _, (wI (i106 + 1)), rfl, rfl, rfl, (hkk110 ▸ H)⟩
  ·intro h112
   have h112 := dcd_f (h112)
   have H := iff_ h112 H
   refine Cw_exit ?_
   refine Shift.done ?_
   exact ⟨[], trivial, rfl, rfl, H⟩
 rintro _ K132 _ hK133 ⟨rfl, rfl, H⟩
 unfold M_132z at H
 refine Cw_seq ?_
 refine Cw_region ?_
 refine Ow_q rfl rfl rfl (Qt_assign rfl) ?_
 refine Ow_q rfl rfl rfl (Qt_assign rfl) ?_
 refine Ow_nil ?_
 refine Cw_ret ?_
 obtain ⟨ey0, ey1⟩ := inj2 H
 subst y0 y1
 refine ⟨(by first | exact .inl rfl | exact .inr rfl), [(.int .i64 0), (.bool false)], ⟨(.int .i64 0), _, rfl, rfl, ⟨(.bool false), _, rfl, rfl, rfl⟩⟩, ?_⟩
 refine Shift.done ?_
 exact ⟨rfl, rfl⟩

set_option maxHeartbeats 1000000 in
theorem c_M_40z (p0 : Op) (vp0_cases : SV) (vp0_draws : SV) (p1 : Int) (y0 : Int) (H : M_40z p0 p1 = some y0) (K : Kp) (G : List Ent) (hp0_cases : Slr TyCase K (sv vp0_cases) p0.cases) (hp0_draws : Slr Ty.i64 K (sv vp0_draws) p0.draws) :
  Fc Try.prog 50 #[(.agg (Op.cells p0 vp0_cases vp0_draws).toArray), (.int .i64 p1)] K (G) (fun v K' G' => v = (.int .i64 y0) ∧ K = K' ∧ G = G') := by
 refine Fc_body Try.func50 rfl Try.ntmps50 Try.results50 rfl ?_
 unfold M_40z at H
 refine Cw_seq ?_
 refine Cw_region ?_
 refine Ow_cons rfl (OpW_box (cs := (Op.cells p0 vp0_cases vp0_draws)) rfl rfl rfl (fun b3 => ?_))
 refine Ow_q rfl rfl rfl (Qt_assign rfl) ?_
 refine Ow_nil ?_
 refine Cw_seq ?_
 refine Cw_seq ?_
 refine Cw_region ?_
 refine Ow_q rfl rfl rfl (Qt_fieldAddr (m := 0) rfl rfl rfl rfl rfl) ?_
 refine Ow_q rfl rfl rfl (Qt_load1 (v := (.int .i64 p0.kind)) rfl rfl rfl (Rdc.blk (.head _) rfl)) ?_
 refine Ow_q rfl rfl rfl (Qt_cmp rfl rfl rfl) ?_
 refine Ow_nil ?_
 refine Cw_cond rfl ?_ ?_
 ·intro h5
  have h5 := dcd_t (h5)
  have H := ift h5 H
  refine Cw_seq ?_
  refine Cw_region ?_
  refine Ow_q rfl rfl rfl (Qt_move rfl) ?_
  refine Ow_q rfl rfl rfl (Qt_assign rfl) ?_
  refine Ow_nil ?_
  refine Cw_ret ?_
  obtain ey0 := inj1 H
  subst y0
  refine ⟨(by first | exact .inl rfl | exact .inr rfl), [(.int .i64 p1)], ⟨(.int .i64 p1), _, rfl, rfl, rfl⟩, ?_⟩
  refine Shift.rem .here ?_
  refine Shift.done ?_
  exact ⟨rfl, rfl, rfl⟩
 ·intro h5
  have h5 := dcd_f (h5)
  have H := iff_ h5 H
  refine Cw_skip ?_
  refine Cw_seq ?_
  refine Cw_region ?_
  refine Ow_q rfl rfl rfl (Qt_assign rfl) ?_
  refine Ow_nil ?_
  refine Cw_ret ?_
  obtain ey0 := inj1 H
  subst y0
  refine ⟨(by first | exact .inl rfl | exact .inr rfl), [(.int .i64 (-1))], ⟨(.int .i64 (-1)), _, rfl, rfl, rfl⟩, ?_⟩
  refine Shift.rem .here ?_
  refine Shift.done ?_
  exact ⟨rfl, rfl, rfl⟩

set_option maxHeartbeats 1000000 in
theorem c_M_24z (bp0 : Nat) (p0 : Desk_work) (vp0_desk_chans : SV) (rsp0_desk_chans : List (List Value)) (vp0_desk_waiting : SV) (rsp0_desk_waiting : List (List Value)) (vp0_done : SV) (rsp0_done : List (List Value)) (p1 : Int) (p2 : Result) (z0_done : List Done) (H : M_24z p0 p1 p2 = some z0_done) (K : Kp) (G : List Ent) (hp0_desk_chans : RowR TyChan K rsp0_desk_chans p0.desk.chans) (hp0_desk_waiting : RowR TyWaiter K rsp0_desk_waiting p0.desk.waiting) (hp0_done : RowR TyDone K rsp0_done p0.done) :
  Fc Try.prog 51 #[(.pointer (some ((⟨bp0, 0, none⟩ : Addr).add 0))), (.int .i64 p1), (.agg (Result.cells p2).toArray)] K ((.blk bp0 92 (Desk_work.cells p0 vp0_desk_chans vp0_desk_waiting vp0_done)) :: (.row (sv vp0_desk_chans) 71 3 rsp0_desk_chans.flatten) :: (.row (sv vp0_desk_waiting) 52 8 rsp0_desk_waiting.flatten) :: (.row (sv vp0_done) 75 6 rsp0_done.flatten) :: G) (fun v K' G' => ∃ (wz0_done : SV) (rswz0_done : List (List Value)), v = (.tuple #[]) ∧ (.blk bp0 92 (Desk_work.cells (Desk_work.mk p0.desk z0_done) vp0_desk_chans vp0_desk_waiting wz0_done)) :: (.row (sv wz0_done) 75 6 rswz0_done.flatten) :: (.row (sv vp0_desk_chans) 71 3 rsp0_desk_chans.flatten) :: (.row (sv vp0_desk_waiting) 52 8 rsp0_desk_waiting.flatten) :: G = G' ∧ RowR TyDone K' rswz0_done z0_done) := by
 refine Fc_body Try.func51 rfl Try.ntmps51 Try.results51 rfl ?_
 unfold M_24z at H
 refine Cw_seq ?_
 refine Cw_region ?_
 refine Ow_cons rfl (OpW_box (cs := (Result.cells p2)) rfl rfl rfl (fun b49 => ?_))
 refine Ow_nil ?_
 refine Cw_seq ?_
 refine Cw_region ?_
 refine Ow_q rfl rfl rfl (Qt_move rfl) ?_
 refine Ow_q rfl rfl rfl (Qt_nilCheck rfl) ?_
 refine Ow_q rfl rfl rfl (Qt_fieldAddr (m := 3) rfl rfl rfl rfl rfl) ?_
 refine Ow_q rfl rfl rfl (Qt_load1 (v := (sv vp0_done)) rfl rfl rfl (Rdc.blk (.tail _ (.head _)) rfl)) ?_
 refine Ow_q rfl rfl rfl (Q_lenR (T := TyDone) (.tail _ (.tail _ (.tail _ (.tail _ (.head _))))) hp0_done rfl rfl rfl) ?_
 refine Ow_q rfl rfl rfl (Qt_assign rfl) ?_
 refine Ow_nil ?_
 refine Cw_join (fun env' K' G' => ∃ (i74 : Int), [(0, (.pointer (some ((⟨bp0, 0, none⟩ : Addr).add 0)))), (1, (.int .i64 p1)), (5, (.pointer (some ((⟨b49, 0, none⟩ : Addr).add 0)))), (6, (.int .i64 i74))] = env' ∧ (.blk bp0 92 (Desk_work.cells p0 vp0_desk_chans vp0_desk_waiting vp0_done)) :: (.blk b49 73 (Result.cells p2)) :: (.row (sv vp0_desk_chans) 71 3 rsp0_desk_chans.flatten) :: (.row (sv vp0_desk_waiting) 52 8 rsp0_desk_waiting.flatten) :: (.row (sv vp0_done) 75 6 rsp0_done.flatten) :: G = G' ∧ M_76z p1 p0 p2 i74 = some z0_done) ?_ ?_
 ·skip
  refine Cw_block ?_
  refine Cw_loopM (fun n99 env' K' G' => ∃ (i98 : Int), [(0, (.pointer (some ((⟨bp0, 0, none⟩ : Addr).add 0)))), (1, (.int .i64 p1)), (5, (.pointer (some ((⟨b49, 0, none⟩ : Addr).add 0)))), (6, (.int .i64 i98))] = env' ∧ K = K' ∧ (.blk bp0 92 (Desk_work.cells p0 vp0_desk_chans vp0_desk_waiting vp0_done)) :: (.blk b49 73 (Result.cells p2)) :: (.row (sv vp0_desk_chans) 71 3 rsp0_desk_chans.flatten) :: (.row (sv vp0_desk_waiting) 52 8 rsp0_desk_waiting.flatten) :: (.row (sv vp0_done) 75 6 rsp0_done.flatten) :: G = G' ∧ lp1 (M_133z p1 p0 p2) n99 i98 = some z0_done) BIG ?_ ?_
  ·skip
   refine Shift.pull (.there (.there (.there (.there .here)))) ?_
   refine Shift.pull (.there (.there (.there (.there .here)))) ?_
   refine Shift.pull (.there (.there (.there (.there .here)))) ?_
   refine Shift.pull (.there (.there (.there .here))) ?_
   refine Shift.pull (.there (.there (.there (.there .here)))) ?_
   refine Shift.done ?_
   exact ⟨[(0, (.pointer (some ((⟨bp0, 0, none⟩ : Addr).add 0)))), (1, (.int .i64 p1)), (5, (.pointer (some ((⟨b49, 0, none⟩ : Addr).add 0)))), (6, (.int .i64 (p0.done.length : Int)))], ⟨rfl, rfl, rfl, rfl, trivial⟩, (p0.done.length : Int), rfl, rfl, rfl, H⟩
  rintro n99 _ _ _ - ⟨i98, rfl, rfl, rfl, H⟩
  obtain ⟨m100, k101, rfl, hkk102, H⟩ := lps1 H
  unfold M_133z at H
  refine Cw_seq ?_
  refine Cw_join (fun env' K' G' => ∃ (t117 : Bool), [(0, (.pointer (some ((⟨bp0, 0, none⟩ : Addr).add 0)))), (1, (.int .i64 p1)), (5, (.pointer (some ((⟨b49, 0, none⟩ : Addr).add 0)))), (6, (.int .i64 i98)), (26, (.bool t117))] = env' ∧ K = K' ∧ (.blk bp0 92 (Desk_work.cells p0 vp0_desk_chans vp0_desk_waiting vp0_done)) :: (.blk b49 73 (Result.cells p2)) :: (.row (sv vp0_desk_chans) 71 3 rsp0_desk_chans.flatten) :: (.row (sv vp0_desk_waiting) 52 8 rsp0_desk_waiting.flatten) :: (.row (sv vp0_done) 75 6 rsp0_done.flatten) :: G = G' ∧ M_77z p1 i98 p0 p2 k101 t117 = some z0_done) ?_ ?_
  ·skip
   refine Cw_region ?_
   refine Ow_q rfl rfl rfl (Qt_move rfl) ?_
   refine Ow_q rfl rfl rfl (Qt_cmp rfl rfl rfl) ?_
   refine Ow_q rfl rfl rfl (Qt_move rfl) ?_
   refine Ow_caseG rfl rfl rfl ?_ ?_
   ·intro h118
    have h118 := dcd_t (h118)
    have H := ift h118 H
    refine Ow_qw rfl rfl rfl rfl rfl rfl (Qt_move rfl) ?_
    refine Ow_qw rfl rfl rfl rfl rfl rfl (Qt_nilCheck rfl) ?_
    refine Ow_qw rfl rfl rfl rfl rfl rfl (Qt_fieldAddr (m := 3) rfl rfl rfl rfl rfl) ?_
    refine Ow_qw rfl rfl rfl rfl rfl rfl (Qt_load1 (v := (sv vp0_done)) rfl rfl rfl (Rdc.blk (.head _) rfl)) ?_
    refine Ow_qw rfl rfl rfl rfl rfl rfl (Qt_move rfl) ?_
    refine Ow_qw rfl rfl rfl rfl rfl rfl (Qt_arith (e := wI (i98 - 1)) rfl rfl rfl rfl) ?_
    obtain ⟨x119, hx120, H⟩ := bnd H
    obtain ⟨r121, hq122, hr123⟩ := RowR.at hp0_done hx120
    obtain rfl := hr123
    refine Ow_qw rfl rfl rfl rfl rfl rfl (Q_ixR (T := TyDone) (.tail _ (.tail _ (.tail _ (.tail _ (.head _))))) hp0_done hq122 (getI_ix hx120).1 rfl rfl rfl rfl rfl) ?_
    refine Ow_qw rfl rfl rfl rfl rfl rfl (Qt_fieldAddr (m := 0) rfl rfl rfl rfl rfl) ?_
    refine Ow_qw rfl rfl rfl rfl rfl rfl (Qt_load1 (v := (.int .i64 x119.thread)) rfl rfl rfl (Rd_row (T := TyDone) (.tail _ (.tail _ (.tail _ (.tail _ (.head _))))) hp0_done hq122 rfl rfl)) ?_
    refine Ow_qw rfl rfl rfl rfl rfl rfl (Qt_move rfl) ?_
    refine Ow_qw rfl rfl rfl rfl rfl rfl (Qt_cmp rfl rfl rfl) ?_
    refine Ow_q rfl rfl rfl (Qt_pick_t rfl rfl) ?_
    refine Ow_nil ?_
    refine Shift.pull (.there (.there (.there (.there .here)))) ?_
    refine Shift.pull (.there (.there (.there (.there .here)))) ?_
    refine Shift.pull (.there (.there (.there (.there .here)))) ?_
    refine Shift.pull (.there (.there (.there (.there .here)))) ?_
    refine Shift.pull (.there (.there (.there (.there .here)))) ?_
    refine Shift.done ?_
    exact ⟨[(0, (.pointer (some ((⟨bp0, 0, none⟩ : Addr).add 0)))), (1, (.int .i64 p1)), (5, (.pointer (some ((⟨b49, 0, none⟩ : Addr).add 0)))), (6, (.int .i64 i98)), (26, (.bool (dcd (x119.thread > p1))))], ⟨rfl, rfl, rfl, rfl, rfl, trivial⟩, (dcd (x119.thread > p1)), rfl, rfl, rfl, H⟩
   ·intro h118
    have h118 := dcd_f (h118)
    have H := iff_ h118 H
    refine Ow_pass rfl rfl rfl rfl rfl rfl rfl ?_
    refine Ow_pass rfl rfl rfl rfl rfl rfl rfl ?_
    refine Ow_pass rfl rfl rfl rfl rfl rfl rfl ?_
    refine Ow_pass rfl rfl rfl rfl rfl rfl rfl ?_
    refine Ow_pass rfl rfl rfl rfl rfl rfl rfl ?_
    refine Ow_pass rfl rfl rfl rfl rfl rfl rfl ?_
    refine Ow_pass rfl rfl rfl rfl rfl rfl rfl ?_
    refine Ow_pass rfl rfl rfl rfl rfl rfl rfl ?_
    refine Ow_pass rfl rfl rfl rfl rfl rfl rfl ?_
    refine Ow_pass rfl rfl rfl rfl rfl rfl rfl ?_
    refine Ow_pass rfl rfl rfl rfl rfl rfl rfl ?_
    refine Ow_q rfl rfl rfl (Qt_pick_f rfl rfl) ?_
    refine Ow_nil ?_
    refine Shift.pull (.there (.there (.there (.there .here)))) ?_
    refine Shift.pull (.there (.there (.there (.there .here)))) ?_
    refine Shift.pull (.there (.there (.there (.there .here)))) ?_
    refine Shift.pull (.there (.there (.there (.there .here)))) ?_
    refine Shift.pull (.there (.there (.there (.there .here)))) ?_
    refine Shift.done ?_
    exact ⟨[(0, (.pointer (some ((⟨bp0, 0, none⟩ : Addr).add 0)))), (1, (.int .i64 p1)), (5, (.pointer (some ((⟨b49, 0, none⟩ : Addr).add 0)))), (6, (.int .i64 i98)), (26, (.bool false))], ⟨rfl, rfl, rfl, rfl, rfl, trivial⟩, false, rfl, rfl, rfl, H⟩
  rintro _ _ _ - ⟨t117, rfl, rfl, rfl, H⟩
  unfold M_77z at H
  refine Cw_cond rfl ?_ ?_
  ·intro h124
   have H := ift h124 H
   refine Cw_skip ?_
   refine Cw_block ?_
   refine Cw_region ?_
   refine Ow_q rfl rfl rfl (Qt_move rfl) ?_
   refine Ow_q rfl rfl rfl (Qt_arith (e := wI (i98 - 1)) rfl rfl rfl rfl) ?_
   refine Ow_q rfl rfl rfl (Qt_assign rfl) ?_
   refine Ow_nil ?_
   refine Shift.pull (.there (.there (.there (.there .here)))) ?_
   refine Shift.pull (.there (.there (.there (.there .here)))) ?_
   refine Shift.pull (.there (.there (.there (.there .here)))) ?_
   refine Shift.pull (.there (.there (.there (.there .here)))) ?_
   refine Shift.pull (.there (.there (.there (.there .here)))) ?_
   refine Shift.done ?_
   exact ⟨[(0, (.pointer (some ((⟨bp0, 0, none⟩ : Addr).add 0)))), (1, (.int .i64 p1)), (5, (.pointer (some ((⟨b49, 0, none⟩ : Addr).add 0)))), (6, (.int .i64 (wI (i98 - 1))))], ⟨rfl, rfl, rfl, rfl, trivial⟩, _, Nat.lt_succ_self _, (wI (i98 - 1)), rfl, rfl, rfl, (hkk102 ▸ H)⟩
  ·intro h124
   have H := iff_ (btf h124) H
   refine Cw_exit ?_
   refine Shift.pull (.there (.there (.there (.there .here)))) ?_
   refine Shift.pull (.there (.there (.there (.there .here)))) ?_
   refine Shift.pull (.there (.there (.there (.there .here)))) ?_
   refine Shift.pull (.there (.there (.there (.there .here)))) ?_
   refine Shift.pull (.there (.there (.there (.there .here)))) ?_
   refine Shift.done ?_
   exact ⟨[(0, (.pointer (some ((⟨bp0, 0, none⟩ : Addr).add 0)))), (1, (.int .i64 p1)), (5, (.pointer (some ((⟨b49, 0, none⟩ : Addr).add 0)))), (6, (.int .i64 i98))], ⟨rfl, rfl, rfl, rfl, trivial⟩, i98, rfl, rfl, H⟩
 rintro _ K125 _ hK126 ⟨i74, rfl, rfl, H⟩
 unfold M_76z at H
 obtain ⟨x129, hx130, H⟩ := bnd H
 refine Cw_region_any [.blk b49 73 (Result.cells p2), .row (sv vp0_desk_chans) 71 3 rsp0_desk_chans.flatten, .row (sv vp0_desk_waiting) 52 8 rsp0_desk_waiting.flatten] rfl (Inc.cons (.tail _ (.head _)) (Inc.cons (.tail _ (.tail _ (.head _))) (Inc.cons (.tail _ (.tail _ (.tail _ (.head _)))) Inc.nil))) ?_
 refine Aw_q 0 rfl (by kernel_rfl) (by kernel_rfl) (by kernel_rfl) rfl rfl rfl (Qt_move rfl) ?_
 refine Aw_q 1 rfl (by kernel_rfl) (by kernel_rfl) (by kernel_rfl) rfl rfl rfl (Qt_move rfl) ?_
 refine Aw_q 2 rfl (by kernel_rfl) (by kernel_rfl) (by kernel_rfl) rfl rfl rfl (Qt_nilCheck rfl) ?_
 refine Aw_q 3 rfl (by kernel_rfl) (by kernel_rfl) (by kernel_rfl) rfl rfl rfl (Qt_fieldAddr (m := 3) rfl rfl rfl rfl rfl) ?_
 refine Aw_q 5 rfl (by kernel_rfl) (by kernel_rfl) (by kernel_rfl) rfl rfl rfl (Qt_move rfl) ?_
 refine Aw_q 6 rfl (by kernel_rfl) (by kernel_rfl) (by kernel_rfl) rfl rfl rfl (Qt_move rfl) ?_
 refine Aw_q 7 rfl (by kernel_rfl) (by kernel_rfl) (by kernel_rfl) rfl rfl rfl (Qt_loadA (m := 5) (cs := (Result.cells p2)) rfl rfl rfl rfl ⟨rfl, Rdc.blk (.head _) rfl⟩) ?_
 refine Aw_q 8 rfl (by kernel_rfl) (by kernel_rfl) (by kernel_rfl) rfl rfl rfl (Qt_build (cs := (Done.cells (Done.mk p1 p2))) rfl rfl rfl rfl rfl rfl) ?_
 refine Aw_two 4 9 (by kernel_rfl) ?_ ?_
 ·skip
  refine id (Ax_mk rfl rfl (OpW_of_Qt rfl rfl (Qt_load1 (v := (sv vp0_done)) rfl rfl rfl (Rdc.blk (.head _) rfl)) ⟨(Inc.cons (.tail _ (.head _)) (Inc.cons (.tail _ (.tail _ (.head _))) (Inc.cons (.tail _ (.tail _ (.tail _ (.head _)))) Inc.nil))), ?_⟩))
  refine Aw_one 9 (by kernel_rfl) (Ax_mk rfl rfl ?_)
  have hR136 : RowR TyDone K125 [(Done.cells (Done.mk p1 p2))] [(Done.mk p1 p2)] := RowR.cons rfl (RowR.nil)
  refine O_lit (T := TyDone) (rows := [(Done.cells (Done.mk p1 p2))]) (l := [(Done.mk p1 p2)]) rfl rfl rfl hR136 rfl rfl rfl rfl rfl rfl rfl rfl (fun v135 => ⟨(Inc.cons (.tail _ (.tail _ (.head _))) (Inc.cons (.tail _ (.tail _ (.tail _ (.head _)))) (Inc.cons (.tail _ (.tail _ (.tail _ (.tail _ (.head _))))) Inc.nil))), ?_⟩)
  refine Aw_one 10 (by kernel_rfl) (Ax_mk rfl rfl ?_)
  refine OpW.shift (Shift.pull (.there (.there (.there (.there (.there .here))))) (Shift.done ?_))
  have hs137 := (hp0_done).mono hK126
  refine OpW_call rfl Try.call79 rfl rfl (c_M_168z p0.done vp0_done rsp0_done i74 [(Done.mk p1 p2)] v135 [(Done.cells (Done.mk p1 p2))] x129 hx130 _ _ hs137 hR136) ?_
  rintro _ _ _ - ⟨v138, rs139, rfl, rfl, rfl, hs140⟩
  refine ⟨(Inc.cons (.tail _ (.tail _ (.head _))) (Inc.cons (.tail _ (.tail _ (.tail _ (.head _)))) (Inc.cons (.tail _ (.tail _ (.tail _ (.tail _ (.head _))))) Inc.nil))), ?_⟩
  refine Aw_q 11 rfl (by kernel_rfl) (by kernel_rfl) (by kernel_rfl) rfl rfl rfl (Qt_nilCheck rfl) ?_
  refine Aw_q 12 rfl (by kernel_rfl) (by kernel_rfl) (by kernel_rfl) rfl rfl rfl (Qt_fieldAddr (m := 3) rfl rfl rfl rfl rfl) ?_
  refine Aw_one 13 (by kernel_rfl) (Ax_mk rfl rfl ?_)
  refine OpW_store (vs := [(sv v138)]) (all' := (Desk_work.cells (Desk_work.mk p0.desk x129) vp0_desk_chans vp0_desk_waiting v138)) rfl rfl rfl rfl rfl (.there .here) rfl rfl rfl ⟨(Inc.cons (.tail _ (.tail _ (.head _))) (Inc.cons (.tail _ (.tail _ (.tail _ (.head _)))) (Inc.cons (.tail _ (.tail _ (.tail _ (.tail _ (.head _))))) Inc.nil))), ?_⟩
  refine Aw_done (by kernel_rfl) ?_
  obtain ez0_done := inj1 H
  subst z0_done
  refine ⟨(by first | exact .inl rfl | exact .inr rfl), [], rfl, ?_⟩
  refine Shift.pull (.there (.there (.there (.there .here)))) ?_
  refine Shift.pull (.there (.there (.there (.there .here)))) ?_
  refine Shift.pull (.there (.there .here)) ?_
  refine Shift.pull (.there (.there (.there .here))) ?_
  refine Shift.rem (.there (.there (.there (.there .here)))) ?_
  refine Shift.done ?_
  exact ⟨v138, rs139, rfl, rfl, hs140⟩
 ·skip
  refine id (Ax_mk rfl rfl ?_)
  have hR142 : RowR TyDone K125 [(Done.cells (Done.mk p1 p2))] [(Done.mk p1 p2)] := RowR.cons rfl (RowR.nil)
  refine O_lit (T := TyDone) (rows := [(Done.cells (Done.mk p1 p2))]) (l := [(Done.mk p1 p2)]) rfl rfl rfl hR142 rfl rfl rfl rfl rfl rfl rfl rfl (fun v141 => ⟨(Inc.cons (.tail _ (.tail _ (.head _))) (Inc.cons (.tail _ (.tail _ (.tail _ (.head _)))) (Inc.cons (.tail _ (.tail _ (.tail _ (.tail _ (.head _))))) Inc.nil))), ?_⟩)
  refine Aw_one 4 (by kernel_rfl) (Ax_mk rfl rfl (OpW_of_Qt rfl rfl (Qt_load1 (v := (sv vp0_done)) rfl rfl rfl (Rdc.blk (.tail _ (.head _)) rfl)) ⟨(Inc.cons (.tail _ (.tail _ (.head _))) (Inc.cons (.tail _ (.tail _ (.tail _ (.head _)))) (Inc.cons (.tail _ (.tail _ (.tail _ (.tail _ (.head _))))) Inc.nil))), ?_⟩))
  refine Aw_one 10 (by kernel_rfl) (Ax_mk rfl rfl ?_)
  refine OpW.shift (Shift.pull (.there (.there (.there (.there (.there .here))))) (Shift.done ?_))
  have hs143 := (hp0_done).mono hK126
  refine OpW_call rfl Try.call79 rfl rfl (c_M_168z p0.done vp0_done rsp0_done i74 [(Done.mk p1 p2)] v141 [(Done.cells (Done.mk p1 p2))] x129 hx130 _ _ hs143 hR142) ?_
  rintro _ _ _ - ⟨v144, rs145, rfl, rfl, rfl, hs146⟩
  refine ⟨(Inc.cons (.tail _ (.tail _ (.head _))) (Inc.cons (.tail _ (.tail _ (.tail _ (.head _)))) (Inc.cons (.tail _ (.tail _ (.tail _ (.tail _ (.head _))))) Inc.nil))), ?_⟩
  refine Aw_q 11 rfl (by kernel_rfl) (by kernel_rfl) (by kernel_rfl) rfl rfl rfl (Qt_nilCheck rfl) ?_
  refine Aw_q 12 rfl (by kernel_rfl) (by kernel_rfl) (by kernel_rfl) rfl rfl rfl (Qt_fieldAddr (m := 3) rfl rfl rfl rfl rfl) ?_
  refine Aw_one 13 (by kernel_rfl) (Ax_mk rfl rfl ?_)
  refine OpW_store (vs := [(sv v144)]) (all' := (Desk_work.cells (Desk_work.mk p0.desk x129) vp0_desk_chans vp0_desk_waiting v144)) rfl rfl rfl rfl rfl (.there .here) rfl rfl rfl ⟨(Inc.cons (.tail _ (.tail _ (.head _))) (Inc.cons (.tail _ (.tail _ (.tail _ (.head _)))) (Inc.cons (.tail _ (.tail _ (.tail _ (.tail _ (.head _))))) Inc.nil))), ?_⟩
  refine Aw_done (by kernel_rfl) ?_
  obtain ez0_done := inj1 H
  subst z0_done
  refine ⟨(by first | exact .inl rfl | exact .inr rfl), [], rfl, ?_⟩
  refine Shift.pull (.there (.there (.there (.there .here)))) ?_
  refine Shift.pull (.there (.there (.there (.there .here)))) ?_
  refine Shift.pull (.there (.there .here)) ?_
  refine Shift.pull (.there (.there (.there .here))) ?_
  refine Shift.rem (.there (.there (.there (.there .here)))) ?_
  refine Shift.done ?_
  exact ⟨v144, rs145, rfl, rfl, hs146⟩

set_option maxHeartbeats 1000000 in
theorem c_M_25z (bp0 : Nat) (p0 : Desk_work) (vp0_desk_chans : SV) (rsp0_desk_chans : List (List Value)) (vp0_desk_waiting : SV) (rsp0_desk_waiting : List (List Value)) (vp0_done : SV) (rsp0_done : List (List Value)) (p1 : Int) (p2 : Int) (p3 : Result) (z0_waiting : List Waiter) (z0_done : List Done) (H : M_25z p0 p1 p2 p3 = some (z0_waiting, z0_done)) (K : Kp) (G : List Ent) (hp0_desk_chans : RowR TyChan K rsp0_desk_chans p0.desk.chans) (hp0_desk_waiting : RowR TyWaiter K rsp0_desk_waiting p0.desk.waiting) (hp0_done : RowR TyDone K rsp0_done p0.done) :
  Fc Try.prog 76 #[(.pointer (some ((⟨bp0, 0, none⟩ : Addr).add 0))), (.int .i64 p1), (.int .i64 p2), (.agg (Result.cells p3).toArray)] K ((.blk bp0 92 (Desk_work.cells p0 vp0_desk_chans vp0_desk_waiting vp0_done)) :: (.row (sv vp0_desk_chans) 71 3 rsp0_desk_chans.flatten) :: (.row (sv vp0_desk_waiting) 52 8 rsp0_desk_waiting.flatten) :: (.row (sv vp0_done) 75 6 rsp0_done.flatten) :: G) (fun v K' G' => ∃ (wz0_waiting : SV) (rswz0_waiting : List (List Value)) (wz0_done : SV) (rswz0_done : List (List Value)), v = (.tuple #[]) ∧ (.blk bp0 92 (Desk_work.cells (Desk_work.mk (Desk.mk p0.desk.chans z0_waiting p0.desk.tick) z0_done) vp0_desk_chans wz0_waiting wz0_done)) :: (.row (sv wz0_waiting) 52 8 rswz0_waiting.flatten) :: (.row (sv wz0_done) 75 6 rswz0_done.flatten) :: (.row (sv vp0_desk_chans) 71 3 rsp0_desk_chans.flatten) :: G = G' ∧ RowR TyWaiter K' rswz0_waiting z0_waiting ∧ RowR TyDone K' rswz0_done z0_done) := by
 refine Fc_body Try.func76 rfl Try.ntmps76 Try.results76 rfl ?_
 unfold M_25z at H
 refine Cw_seq ?_
 refine Cw_region ?_
 refine Ow_cons rfl (OpW_box (cs := (Result.cells p3)) rfl rfl rfl (fun b26 => ?_))
 refine Ow_nil ?_
 refine Cw_seq ?_
 refine Cw_region ?_
 refine Ow_q rfl rfl rfl (Qt_move rfl) ?_
 refine Ow_q rfl rfl rfl (Qt_nilCheck rfl) ?_
 refine Ow_q rfl rfl rfl (Qt_fieldAddr (m := 0) rfl rfl rfl rfl rfl) ?_
 refine Ow_q rfl rfl rfl (Qt_fieldAddr (m := 1) rfl rfl rfl rfl rfl) ?_
 refine Ow_q rfl rfl rfl (Qt_load1 (v := (sv vp0_desk_waiting)) rfl rfl rfl (Rdc.blk (.tail _ (.head _)) rfl)) ?_
 refine Ow_q rfl rfl rfl (Qt_move rfl) ?_
 obtain ⟨x27, hx28, H⟩ := bnd H
 obtain ⟨r29, hq30, hr31⟩ := RowR.at hp0_desk_waiting hx28
 obtain ⟨v32, v33, rfl, hs34, hs35⟩ := hr31
 refine Ow_q rfl rfl rfl (Q_ixR (T := TyWaiter) (.tail _ (.tail _ (.tail _ (.head _)))) hp0_desk_waiting hq30 (getI_ix hx28).1 rfl rfl rfl rfl rfl) ?_
 refine Ow_q rfl rfl rfl (Qt_loadA (m := 8) (cs := (Waiter.cells x27 v32 v33)) rfl rfl rfl rfl ⟨rfl, Rd_row (T := TyWaiter) (.tail _ (.tail _ (.tail _ (.head _)))) hp0_desk_waiting hq30 rfl rfl⟩) ?_
 refine Ow_cons rfl (OpW_alloc (cs := (Waiter.cells (Waiter.mk 0 (Op.mk 0 0 0 0 0 [] [])) nilS nilS)) rfl rfl rfl rfl (fun b36 => ?_))
 refine Ow_cons rfl (OpW_store (vs := (Waiter.cells x27 v32 v33)) (all' := (Waiter.cells x27 v32 v33)) rfl rfl rfl rfl rfl .here rfl rfl rfl ?_)
 refine Ow_nil ?_
 refine Cw_seq ?_
 refine Cw_region ?_
 refine Ow_q rfl rfl rfl (Qt_fieldAddr (m := 1) rfl rfl rfl rfl rfl) ?_
 refine Ow_q rfl rfl rfl (Qt_loadA (m := 7) (cs := (Op.cells x27.op v32 v33)) rfl rfl rfl rfl ⟨rfl, Rdc.blk (.head _) rfl⟩) ?_
 refine Ow_q rfl rfl rfl (Qt_move rfl) ?_
 obtain ⟨x37, hx38, H⟩ := bnd H
 refine Ow_cons rfl (OpW_call rfl Try.call50 rfl rfl (c_M_40z x27.op v32 v33 p2 x37 hx38 _ _ hs34 hs35) ?_)
 rintro _ _ _ - ⟨rfl, rfl, rfl⟩
 refine Ow_q rfl rfl rfl (Qt_fieldAddr (m := 1) rfl rfl rfl rfl rfl) ?_
 refine Ow_cons rfl (OpW_store (vs := [(.int .i64 x37)]) (all' := (Result.cells (Result.mk p3.kind x37 p3.value p3.ok p3.number))) rfl rfl rfl rfl rfl (.there .here) rfl rfl rfl ?_)
 refine Ow_nil ?_
 refine Cw_seq ?_
 refine Cw_region ?_
 refine Ow_q rfl rfl rfl (Qt_move rfl) ?_
 refine Ow_q rfl rfl rfl (Qt_move rfl) ?_
 refine Ow_q rfl rfl rfl (Qt_nilCheck rfl) ?_
 refine Ow_q rfl rfl rfl (Qt_fieldAddr (m := 0) rfl rfl rfl rfl rfl) ?_
 refine Ow_q rfl rfl rfl (Qt_fieldAddr (m := 1) rfl rfl rfl rfl rfl) ?_
 refine Ow_q rfl rfl rfl (Qt_load1 (v := (sv vp0_desk_waiting)) rfl rfl rfl (Rdc.blk (.tail _ (.tail _ (.head _))) rfl)) ?_
 refine Ow_q rfl rfl rfl (Qt_move rfl) ?_
 refine Ow_q rfl rfl rfl (Qt_move rfl) ?_
 refine Ow_q rfl rfl rfl (Qt_arith (e := wI (p1 + 1)) rfl rfl rfl rfl) ?_
 obtain ⟨x39, hx40, H⟩ := bnd H
 refine Ow.shift (Shift.pull (.there (.there (.there (.there .here)))) (Shift.done ?_))
 refine Ow_cons rfl (OpW_call rfl Try.call89 rfl rfl (c_M_75z p0.desk.waiting vp0_desk_waiting rsp0_desk_waiting p1 (wI (p1 + 1)) x39 hx40 _ _ hp0_desk_waiting) ?_)
 rintro _ _ _ - ⟨v41, rs42, rfl, rfl, rfl, hs43⟩
 refine Ow_q rfl rfl rfl (Qt_nilCheck rfl) ?_
 refine Ow_q rfl rfl rfl (Qt_fieldAddr (m := 0) rfl rfl rfl rfl rfl) ?_
 refine Ow_q rfl rfl rfl (Qt_fieldAddr (m := 1) rfl rfl rfl rfl rfl) ?_
 refine Ow_cons rfl (OpW_store (vs := [(sv v41)]) (all' := (Desk_work.cells (Desk_work.mk (Desk.mk p0.desk.chans x39 p0.desk.tick) p0.done) vp0_desk_chans v41 vp0_done)) rfl rfl rfl rfl rfl (.there (.there (.there .here))) rfl rfl rfl ?_)
 refine Ow_nil ?_
 refine Cw_region ?_
 refine Ow_q rfl rfl rfl (Qt_move rfl) ?_
 refine Ow_q rfl rfl rfl (Qt_fieldAddr (m := 0) rfl rfl rfl rfl rfl) ?_
 refine Ow_q rfl rfl rfl (Qt_load1 (v := (.int .i64 x27.thread)) rfl rfl rfl (Rdc.blk (.tail _ (.head _)) rfl)) ?_
 refine Ow_q rfl rfl rfl (Qt_loadA (m := 5) (cs := (Result.cells (Result.mk p3.kind x37 p3.value p3.ok p3.number))) rfl rfl rfl rfl ⟨rfl, Rdc.blk (.tail _ (.tail _ (.head _))) rfl⟩) ?_
 obtain ⟨x44, hx45, H⟩ := bnd H
 refine Ow.shift (Shift.pull (.there (.there (.there (.there (.there .here))))) (Shift.done ?_))
 refine Ow.shift (Shift.pull (.there .here) (Shift.done ?_))
 refine Ow.shift (Shift.pull (.there (.there (.there (.there (.there .here))))) (Shift.done ?_))
 refine Ow.shift (Shift.pull (.there (.there (.there (.there (.there .here))))) (Shift.done ?_))
 refine Ow_cons rfl (OpW_call rfl Try.call51 rfl rfl (c_M_24z bp0 (Desk_work.mk (Desk.mk p0.desk.chans x39 p0.desk.tick) p0.done) vp0_desk_chans rsp0_desk_chans v41 rs42 vp0_done rsp0_done x27.thread (Result.mk p3.kind x37 p3.value p3.ok p3.number) x44 hx45 _ _ hp0_desk_chans hs43 hp0_done) ?_)
 rintro _ K48 _ hK49 ⟨v46, rs47, rfl, rfl, hs50⟩
 refine Ow_nil ?_
 obtain ⟨ez0_waiting, ez0_done⟩ := inj2 H
 subst z0_waiting z0_done
 refine ⟨(by first | exact .inl rfl | exact .inr rfl), [], rfl, ?_⟩
 refine Shift.pull (.there (.there .here)) ?_
 refine Shift.pull (.there (.there .here)) ?_
 refine Shift.pull (.there (.there (.there .here))) ?_
 refine Shift.pull (.there (.there (.there .here))) ?_
 refine Shift.rem (.there (.there (.there (.there .here)))) ?_
 refine Shift.rem (.there (.there (.there (.there .here)))) ?_
 have hs51 := (hs43).mono hK49
 refine Shift.done ?_
 exact ⟨v41, rs42, v46, rs47, rfl, rfl, hs51, hs50⟩

set_option maxHeartbeats 1000000 in
theorem c_M_79z (bp0 : Nat) (p0 : Desk_work) (vp0_desk_chans : SV) (rsp0_desk_chans : List (List Value)) (vp0_desk_waiting : SV) (rsp0_desk_waiting : List (List Value)) (vp0_done : SV) (rsp0_done : List (List Value)) (p1 : Int) (z0_chans : List Chan) (z0_waiting : List Waiter) (z0_done : List Done) (H : M_79z p0 p1 = some (z0_chans, z0_waiting, z0_done)) (K : Kp) (G : List Ent) (hp0_desk_chans : RowR TyChan K rsp0_desk_chans p0.desk.chans) (hp0_desk_waiting : RowR TyWaiter K rsp0_desk_waiting p0.desk.waiting) (hp0_done : RowR TyDone K rsp0_done p0.done) :
  Fc Try.prog 46 #[(.pointer (some ((⟨bp0, 0, none⟩ : Addr).add 0))), (.int .i64 p1)] K ((.blk bp0 92 (Desk_work.cells p0 vp0_desk_chans vp0_desk_waiting vp0_done)) :: (.row (sv vp0_desk_chans) 71 3 rsp0_desk_chans.flatten) :: (.row (sv vp0_desk_waiting) 52 8 rsp0_desk_waiting.flatten) :: (.row (sv vp0_done) 75 6 rsp0_done.flatten) :: G) (fun v K' G' => ∃ (wz0_chans : SV) (rswz0_chans : List (List Value)) (wz0_waiting : SV) (rswz0_waiting : List (List Value)) (wz0_done : SV) (rswz0_done : List (List Value)), v = (.tuple #[]) ∧ (.blk bp0 92 (Desk_work.cells (Desk_work.mk (Desk.mk z0_chans z0_waiting p0.desk.tick) z0_done) wz0_chans wz0_waiting wz0_done)) :: (.row (sv wz0_chans) 71 3 rswz0_chans.flatten) :: (.row (sv wz0_waiting) 52 8 rswz0_waiting.flatten) :: (.row (sv wz0_done) 75 6 rswz0_done.flatten) :: G = G' ∧ RowR TyChan K' rswz0_chans z0_chans ∧ RowR TyWaiter K' rswz0_waiting z0_waiting ∧ RowR TyDone K' rswz0_done z0_done) := by
 refine Fc_body Try.func46 rfl Try.ntmps46 Try.results46 rfl ?_
 unfold M_79z at H
 refine Cw_seq ?_
 refine Cw_region ?_
 refine Ow_q rfl rfl rfl (Qt_move rfl) ?_
 refine Ow_q rfl rfl rfl (Qt_nilCheck rfl) ?_
 refine Ow_q rfl rfl rfl (Qt_fieldAddr (m := 0) rfl rfl rfl rfl rfl) ?_
 refine Ow_q rfl rfl rfl (Qt_fieldAddr (m := 0) rfl rfl rfl rfl rfl) ?_
 refine Ow_q rfl rfl rfl (Qt_load1 (v := (sv vp0_desk_chans)) rfl rfl rfl (Rdc.blk (.head _) rfl)) ?_
 refine Ow_q rfl rfl rfl (Qt_move rfl) ?_
 obtain ⟨x240, hx241, H⟩ := bnd H
 obtain ⟨r242, hq243, hr244⟩ := RowR.at hp0_desk_chans hx241
 obtain ⟨v245, rfl, hs246⟩ := hr244
 refine Ow_q rfl rfl rfl (Q_ixR (T := TyChan) (.tail _ (.head _)) hp0_desk_chans hq243 (getI_ix hx241).1 rfl rfl rfl rfl rfl) ?_
 refine Ow_q rfl rfl rfl (Qt_fieldAddr (m := 2) rfl rfl rfl rfl rfl) ?_
 refine Ow_cons rfl (O_storeR (T := TyChan) (vs := [(.bool true)]) (r' := (Chan.cells (Chan.mk x240.capacity x240.buffer true) v245)) (l' := (setI p0.desk.chans p1 (Chan.mk x240.capacity x240.buffer true))) rfl rfl rfl rfl rfl (.there .here) hp0_desk_chans hq243 rfl rfl rfl (RowR.set p1 hp0_desk_chans ⟨v245, rfl, hs246⟩) (fun hR247 => ?_))
 have hE248 := set_at hq243 (v := (Chan.cells (Chan.mk x240.capacity x240.buffer true) v245))
 refine Ow_nil ?_
 refine Cw_seq ?_
 refine Cw_region ?_
 have hR250 : RowR Ty.bool K [[(.bool false)], [(.bool true)]] [false, true] := RowR.cons rfl (RowR.cons rfl (RowR.nil))
 refine Ow_cons rfl (O_lit (T := Ty.bool) (rows := [[(.bool false)], [(.bool true)]]) (l := [false, true]) rfl rfl rfl hR250 rfl rfl rfl rfl rfl rfl rfl rfl (fun v249 => ?_))
 refine Ow_q rfl rfl rfl (Q_lenR (T := Ty.bool) (.head _) hR250 rfl rfl rfl) ?_
 refine Ow_q rfl rfl rfl (Qt_move rfl) ?_
 refine Ow_nil ?_
 refine Cw_block ?_
 refine Cw_loopM (fun n479 env' K' G' => ∃ (i470 : Int) (v471 : SV) (l472 : List Waiter) (rs474 : List (List Value)) (v475 : SV) (l476 : List Done) (rs478 : List (List Value)), [(0, (.pointer (some ((⟨bp0, 0, none⟩ : Addr).add 0)))), (1, (.int .i64 p1)), (18, (sv v249)), (19, (.int .i64 ([false, true].length : Int))), (20, (.int .i64 i470))] = env' ∧ (.blk bp0 92 (Desk_work.cells (Desk_work.mk (Desk.mk (setI p0.desk.chans p1 (Chan.mk x240.capacity x240.buffer true)) l472 p0.desk.tick) l476) vp0_desk_chans v471 v475)) :: (.row (sv v471) 52 8 rs474.flatten) :: (.row (sv v475) 75 6 rs478.flatten) :: (.row (sv v249) 4 1 [[(.bool false)], [(.bool true)]].flatten) :: (.row (sv vp0_desk_chans) 71 3 (rsp0_desk_chans.set p1.toNat (Chan.cells (Chan.mk x240.capacity x240.buffer true) v245)).flatten) :: G = G' ∧ lp3 (M_26z p1 p0 x240) n479 i470 l472 l476 = some (z0_chans, z0_waiting, z0_done) ∧ RowR TyWaiter K' rs474 l472 ∧ RowR TyDone K' rs478 l476) BIG ?_ ?_
 ·skip
  refine Shift.pull (.there (.there .here)) ?_
  refine Shift.pull (.there .here) ?_
  refine Shift.pull (.there (.there (.there (.there .here)))) ?_
  refine Shift.pull (.there (.there (.there (.there .here)))) ?_
  refine Shift.pull (.there (.there (.there (.there .here)))) ?_
  refine Shift.done ?_
  exact ⟨[(0, (.pointer (some ((⟨bp0, 0, none⟩ : Addr).add 0)))), (1, (.int .i64 p1)), (18, (sv v249)), (19, (.int .i64 ([false, true].length : Int))), (20, (.int .i64 0))], ⟨rfl, rfl, rfl, rfl, rfl, trivial⟩, 0, vp0_desk_waiting, p0.desk.waiting, rsp0_desk_waiting, vp0_done, p0.done, rsp0_done, rfl, rfl, H, hp0_desk_waiting, hp0_done⟩
 rintro n479 _ K480 _ hK481 ⟨i470, v471, l472, rs474, v475, l476, rs478, rfl, rfl, H, hR473, hR477⟩
 obtain ⟨m482, k483, rfl, hkk484, H⟩ := lps3 H
 unfold M_26z at H
 refine Cw_seq ?_
 refine Cw_region ?_
 refine Ow_q rfl rfl rfl (Qt_cmp rfl rfl rfl) ?_
 refine Ow_nil ?_
 refine Cw_seq ?_
 refine Cw_cond rfl ?_ ?_
 ·intro h486
  have h486 := dcd_t (h486)
  have H := ift h486 H
  refine Cw_skip ?_
  refine Cw_join (fun env' K' G' => ∃ (v579 : SV) (l580 : List Waiter) (rs582 : List (List Value)) (v583 : SV) (l584 : List Done) (rs586 : List (List Value)), [(0, (.pointer (some ((⟨bp0, 0, none⟩ : Addr).add 0)))), (1, (.int .i64 p1)), (18, (sv v249)), (19, (.int .i64 ([false, true].length : Int))), (20, (.int .i64 i470))] = env' ∧ (.blk bp0 92 (Desk_work.cells (Desk_work.mk (Desk.mk (setI p0.desk.chans p1 (Chan.mk x240.capacity x240.buffer true)) l580 p0.desk.tick) l584) vp0_desk_chans v579 v583)) :: (.row (sv v579) 52 8 rs582.flatten) :: (.row (sv v583) 75 6 rs586.flatten) :: (.row (sv v249) 4 1 [[(.bool false)], [(.bool true)]].flatten) :: (.row (sv vp0_desk_chans) 71 3 (rsp0_desk_chans.set p1.toNat (Chan.cells (Chan.mk x240.capacity x240.buffer true) v245)).flatten) :: G = G' ∧ M_134z p1 i470 p0 x240 k483 l580 l584 = some (z0_chans, z0_waiting, z0_done) ∧ RowR TyWaiter K' rs582 l580 ∧ RowR TyDone K' rs586 l584) ?_ ?_
  ·skip
   refine Cw_block ?_
   refine Cw_seq ?_
   refine Cw_region ?_
   obtain ⟨x587, hx588, H⟩ := bnd H
   have hs589 := (hR250).mono hK481
   obtain ⟨r590, hq591, hr592⟩ := RowR.at hs589 hx588
   obtain rfl := hr592
   refine Ow_q rfl rfl rfl (Q_ixR (T := Ty.bool) (.tail _ (.tail _ (.tail _ (.head _)))) hs589 hq591 (getI_ix hx588).1 rfl rfl rfl rfl rfl) ?_
   refine Ow_q rfl rfl rfl (Qt_load1 (v := (.bool x587)) rfl rfl rfl (Rd_row (T := Ty.bool) (.tail _ (.tail _ (.tail _ (.head _)))) hs589 hq591 rfl rfl)) ?_
   refine Ow_q rfl rfl rfl (Qt_assign rfl) ?_
   refine Ow_nil ?_
   refine Cw_seq ?_
   refine Cw_region ?_
   refine Ow_q rfl rfl rfl (Qt_build (cs := (Result.cells (Result.mk 2 0 0 false 0))) rfl rfl rfl rfl rfl rfl) ?_
   refine Ow_cons rfl (OpW_alloc (cs := (Result.cells (Result.mk 0 0 0 false 0))) rfl rfl rfl rfl (fun b593 => ?_))
   refine Ow_cons rfl (OpW_store (vs := (Result.cells (Result.mk 2 0 0 false 0))) (all' := (Result.cells (Result.mk 2 0 0 false 0))) rfl rfl rfl rfl rfl .here rfl rfl rfl ?_)
   refine Ow_nil ?_
   refine Cw_join (fun env' K' G' => ∃ (i595 : Int), [(0, (.pointer (some ((⟨bp0, 0, none⟩ : Addr).add 0)))), (1, (.int .i64 p1)), (5, (.bool x587)), (6, (.pointer (some ((⟨b593, 0, none⟩ : Addr).add 0)))), (18, (sv v249)), (19, (.int .i64 ([false, true].length : Int))), (20, (.int .i64 i470))] = env' ∧ K480 = K' ∧ (.blk bp0 92 (Desk_work.cells (Desk_work.mk (Desk.mk (setI p0.desk.chans p1 (Chan.mk x240.capacity x240.buffer true)) l472 p0.desk.tick) l476) vp0_desk_chans v471 v475)) :: (.blk b593 73 (Result.cells (Result.mk i595 0 0 false 0))) :: (.row (sv v471) 52 8 rs474.flatten) :: (.row (sv v475) 75 6 rs478.flatten) :: (.row (sv v249) 4 1 [[(.bool false)], [(.bool true)]].flatten) :: (.row (sv vp0_desk_chans) 71 3 (rsp0_desk_chans.set p1.toNat (Chan.cells (Chan.mk x240.capacity x240.buffer true) v245)).flatten) :: G = G' ∧ M_11z p1 x587 i470 p0 x240 l472 l476 k483 i595 = some (z0_chans, z0_waiting, z0_done)) ?_ ?_
   ·skip
    refine Cw_seq ?_
    refine Cw_region ?_
    refine Ow_q rfl rfl rfl (Qt_move rfl) ?_
    refine Ow_nil ?_
    refine Cw_cond rfl ?_ ?_
    ·intro h596
     have H := ift h596 H
     refine Cw_region ?_
     refine Ow_q rfl rfl rfl (Qt_fieldAddr (m := 0) rfl rfl rfl rfl rfl) ?_
     refine Ow_cons rfl (OpW_store (vs := [(.int .i64 5)]) (all' := (Result.cells (Result.mk 5 0 0 false 0))) rfl rfl rfl rfl rfl .here rfl rfl rfl ?_)
     refine Ow_nil ?_
     refine Shift.pull (.there (.there (.there (.there (.there .here))))) ?_
     refine Shift.pull (.there (.there (.there (.there (.there .here))))) ?_
     refine Shift.pull (.there (.there (.there (.there (.there .here))))) ?_
     refine Shift.pull (.there (.there (.there (.there (.there .here))))) ?_
     refine Shift.pull (.there (.there (.there (.there .here)))) ?_
     refine Shift.pull (.there (.there (.there (.there (.there .here))))) ?_
     refine Shift.done ?_
     exact ⟨[(0, (.pointer (some ((⟨bp0, 0, none⟩ : Addr).add 0)))), (1, (.int .i64 p1)), (5, (.bool x587)), (6, (.pointer (some ((⟨b593, 0, none⟩ : Addr).add 0)))), (18, (sv v249)), (19, (.int .i64 ([false, true].length : Int))), (20, (.int .i64 i470))], ⟨rfl, rfl, rfl, rfl, rfl, rfl, rfl, trivial⟩, 5, rfl, rfl, rfl, H⟩
    ·intro h596
     have H := iff_ (btf h596) H
     refine Cw_skip ?_
     refine Shift.pull (.there (.there (.there (.there (.there .here))))) ?_
     refine Shift.pull (.there (.there (.there (.there (.there .here))))) ?_
     refine Shift.pull (.there (.there (.there (.there (.there .here))))) ?_
     refine Shift.pull (.there (.there (.there (.there (.there .here))))) ?_
     refine Shift.pull (.there (.there (.there (.there .here)))) ?_
     refine Shift.pull (.there (.there (.there (.there (.there .here))))) ?_
     refine Shift.done ?_
     exact ⟨[(0, (.pointer (some ((⟨bp0, 0, none⟩ : Addr).add 0)))), (1, (.int .i64 p1)), (5, (.bool x587)), (6, (.pointer (some ((⟨b593, 0, none⟩ : Addr).add 0)))), (18, (sv v249)), (19, (.int .i64 ([false, true].length : Int))), (20, (.int .i64 i470))], ⟨rfl, rfl, rfl, rfl, rfl, rfl, rfl, trivial⟩, 2, rfl, rfl, rfl, H⟩
   rintro _ _ _ - ⟨i595, rfl, rfl, rfl, H⟩
   unfold M_11z at H
   refine Cw_seq ?_
   refine Cw_region ?_
   refine Ow_q rfl rfl rfl (Qt_assign rfl) ?_
   refine Ow_nil ?_
   refine Cw_block ?_
   refine Cw_loopM (fun n680 env' K' G' => ∃ (i671 : Int) (v672 : SV) (l673 : List Waiter) (rs675 : List (List Value)) (v676 : SV) (l677 : List Done) (rs679 : List (List Value)), [(0, (.pointer (some ((⟨bp0, 0, none⟩ : Addr).add 0)))), (1, (.int .i64 p1)), (5, (.bool x587)), (6, (.pointer (some ((⟨b593, 0, none⟩ : Addr).add 0)))), (7, (.int .i64 i671)), (18, (sv v249)), (19, (.int .i64 ([false, true].length : Int))), (20, (.int .i64 i470))] = env' ∧ (.blk bp0 92 (Desk_work.cells (Desk_work.mk (Desk.mk (setI p0.desk.chans p1 (Chan.mk x240.capacity x240.buffer true)) l673 p0.desk.tick) l677) vp0_desk_chans v672 v676)) :: (.blk b593 73 (Result.cells (Result.mk i595 0 0 false 0))) :: (.row (sv v672) 52 8 rs675.flatten) :: (.row (sv v676) 75 6 rs679.flatten) :: (.row (sv v249) 4 1 [[(.bool false)], [(.bool true)]].flatten) :: (.row (sv vp0_desk_chans) 71 3 (rsp0_desk_chans.set p1.toNat (Chan.cells (Chan.mk x240.capacity x240.buffer true) v245)).flatten) :: G = G' ∧ lp3 (M_78z p1 x587 i470 p0 x240 i595 k483) n680 i671 l673 l677 = some (z0_chans, z0_waiting, z0_done) ∧ RowR TyWaiter K' rs675 l673 ∧ RowR TyDone K' rs679 l677) BIG ?_ ?_
   ·skip
    refine Shift.pull (.there (.there (.there (.there (.there .here))))) ?_
    refine Shift.pull (.there (.there (.there (.there (.there .here))))) ?_
    refine Shift.pull (.there (.there (.there (.there (.there .here))))) ?_
    refine Shift.pull (.there (.there (.there (.there (.there .here))))) ?_
    refine Shift.pull (.there (.there (.there (.there (.there .here))))) ?_
    refine Shift.pull (.there (.there (.there (.there (.there .here))))) ?_
    refine Shift.done ?_
    exact ⟨[(0, (.pointer (some ((⟨bp0, 0, none⟩ : Addr).add 0)))), (1, (.int .i64 p1)), (5, (.bool x587)), (6, (.pointer (some ((⟨b593, 0, none⟩ : Addr).add 0)))), (7, (.int .i64 0)), (18, (sv v249)), (19, (.int .i64 ([false, true].length : Int))), (20, (.int .i64 i470))], ⟨rfl, rfl, rfl, rfl, rfl, rfl, rfl, rfl, trivial⟩, 0, v471, l472, rs474, v475, l476, rs478, rfl, rfl, H, hR473, hR477⟩
   rintro n680 _ K681 _ hK682 ⟨i671, v672, l673, rs675, v676, l677, rs679, rfl, rfl, H, hR674, hR678⟩
   obtain ⟨m683, k684, rfl, hkk685, H⟩ := lps3 H
   unfold M_78z at H
   refine Cw_seq ?_
   refine Cw_seq ?_
   refine Cw_region ?_
   refine Ow_q rfl rfl rfl (Qt_move rfl) ?_
   refine Ow_q rfl rfl rfl (Qt_move rfl) ?_
   refine Ow_q rfl rfl rfl (Qt_nilCheck rfl) ?_
   refine Ow_q rfl rfl rfl (Qt_fieldAddr (m := 0) rfl rfl rfl rfl rfl) ?_
   refine Ow_q rfl rfl rfl (Qt_fieldAddr (m := 1) rfl rfl rfl rfl rfl) ?_
   refine Ow_q rfl rfl rfl (Qt_load1 (v := (sv v672)) rfl rfl rfl (Rdc.blk (.head _) rfl)) ?_
   refine Ow_q rfl rfl rfl (Q_lenR (T := TyWaiter) (.tail _ (.tail _ (.head _))) hR674 rfl rfl rfl) ?_
   refine Ow_q rfl rfl rfl (Qt_cmp rfl rfl rfl) ?_
   refine Ow_nil ?_
   refine Cw_cond rfl ?_ ?_
   ·intro h687
    have h687 := dcd_t (h687)
    have H := ift h687 H
    refine Cw_skip ?_
    refine Cw_block ?_
    refine Cw_seq ?_
    refine Cw_region ?_
    refine Ow_q rfl rfl rfl (Qt_move rfl) ?_
    refine Ow_q rfl rfl rfl (Qt_nilCheck rfl) ?_
    refine Ow_q rfl rfl rfl (Qt_fieldAddr (m := 0) rfl rfl rfl rfl rfl) ?_
    refine Ow_q rfl rfl rfl (Qt_fieldAddr (m := 1) rfl rfl rfl rfl rfl) ?_
    refine Ow_q rfl rfl rfl (Qt_load1 (v := (sv v672)) rfl rfl rfl (Rdc.blk (.head _) rfl)) ?_
    refine Ow_q rfl rfl rfl (Qt_move rfl) ?_
    obtain ⟨x688, hx689, H⟩ := bnd H
    obtain ⟨r690, hq691, hr692⟩ := RowR.at hR674 hx689
    obtain ⟨v693, v694, rfl, hs695, hs696⟩ := hr692
    refine Ow_q rfl rfl rfl (Q_ixR (T := TyWaiter) (.tail _ (.tail _ (.head _))) hR674 hq691 (getI_ix hx689).1 rfl rfl rfl rfl rfl) ?_
    refine Ow_q rfl rfl rfl (Qt_fieldAddr (m := 1) rfl rfl rfl rfl rfl) ?_
    refine Ow_q rfl rfl rfl (Qt_loadA (m := 7) (cs := (Op.cells x688.op v693 v694)) rfl rfl rfl rfl ⟨rfl, Rd_row (T := TyWaiter) (.tail _ (.tail _ (.head _))) hR674 hq691 rfl rfl⟩) ?_
    refine Ow_q rfl rfl rfl (Qt_move rfl) ?_
    refine Ow_q rfl rfl rfl (Qt_move rfl) ?_
    obtain ⟨x697, x698, hx699, H⟩ := bnd2 H
    refine Ow_cons rfl (OpW_call rfl Try.call70 rfl rfl (c_M_10z x688.op v693 v694 p1 x587 x697 x698 hx699 _ _ hs695 hs696) ?_)
    rintro _ K700 _ hK701 ⟨rfl, rfl⟩
    refine Ow_q rfl rfl rfl (Qt_move rfl) ?_
    refine Ow_q rfl rfl rfl (Qt_extract rfl rfl) ?_
    refine Ow_q rfl rfl rfl (Qt_extract rfl rfl) ?_
    refine Ow_q rfl rfl rfl (Qt_assign rfl) ?_
    refine Ow_q rfl rfl rfl (Qt_assign rfl) ?_
    refine Ow_nil ?_
    refine Cw_seq ?_
    refine Cw_region ?_
    refine Ow_q rfl rfl rfl (Qt_move rfl) ?_
    refine Ow_nil ?_
    refine Cw_cond rfl ?_ ?_
    ·intro h702
     have H := ift h702 H
     refine Cw_region ?_
     refine Ow_q rfl rfl rfl (Qt_move rfl) ?_
     refine Ow_q rfl rfl rfl (Qt_move rfl) ?_
     refine Ow_q rfl rfl rfl (Qt_move rfl) ?_
     refine Ow_q rfl rfl rfl (Qt_loadA (m := 5) (cs := (Result.cells (Result.mk i595 0 0 false 0))) rfl rfl rfl rfl ⟨rfl, Rdc.blk (.tail _ (.head _)) rfl⟩) ?_
     obtain ⟨x703, x704, hx705, H⟩ := bnd2 H
     refine Ow.shift (Shift.pull (.there (.there (.there .here))) (Shift.done ?_))
     refine Ow.shift (Shift.pull (.there (.there (.there .here))) (Shift.done ?_))
     refine Ow.shift (Shift.pull (.there (.there (.there (.there (.there .here))))) (Shift.done ?_))
     refine Ow.shift (Shift.pull (.there (.there (.there .here))) (Shift.done ?_))
     have hs706 := (((hR247).mono hK481).mono hK682).mono hK701
     have hs707 := (hR674).mono hK701
     have hs708 := (hR678).mono hK701
     refine Ow_cons rfl (OpW_call rfl Try.call76 rfl rfl (c_M_25z bp0 (Desk_work.mk (Desk.mk (setI p0.desk.chans p1 (Chan.mk x240.capacity x240.buffer true)) l673 p0.desk.tick) l677) vp0_desk_chans (rsp0_desk_chans.set p1.toNat (Chan.cells (Chan.mk x240.capacity x240.buffer true) v245)) v672 rs675 v676 rs679 i671 x697 (Result.mk i595 0 0 false 0) x703 x704 hx705 _ _ hs706 hs707 hs708) ?_)
     rintro _ K713 _ hK714 ⟨v709, rs710, v711, rs712, rfl, rfl, hs715, hs716⟩
     refine Ow_nil ?_
     refine Shift.pull (.there (.there (.there .here))) ?_
     refine Shift.pull (.there (.there (.there (.there (.there .here))))) ?_
     refine Shift.pull (.there (.there (.there (.there .here)))) ?_
     refine Shift.pull (.there (.there (.there (.there .here)))) ?_
     refine Shift.pull (.there (.there (.there (.there (.there .here))))) ?_
     refine Shift.pull (.there (.there (.there (.there (.there .here))))) ?_
     refine Shift.done ?_
     exact ⟨[(0, (.pointer (some ((⟨bp0, 0, none⟩ : Addr).add 0)))), (1, (.int .i64 p1)), (5, (.bool x587)), (6, (.pointer (some ((⟨b593, 0, none⟩ : Addr).add 0)))), (7, (.int .i64 i671)), (18, (sv v249)), (19, (.int .i64 ([false, true].length : Int))), (20, (.int .i64 i470))], ⟨rfl, rfl, rfl, rfl, rfl, rfl, rfl, rfl, trivial⟩, _, Nat.lt_succ_self _, i671, v709, x703, rs710, v711, x704, rs712, rfl, rfl, (hkk685 ▸ H), hs715, hs716⟩
    ·intro h702
     have H := iff_ (btf h702) H
     refine Cw_region ?_
     refine Ow_q rfl rfl rfl (Qt_move rfl) ?_
     refine Ow_q rfl rfl rfl (Qt_arith (e := wI (i671 + 1)) rfl rfl rfl rfl) ?_
     refine Ow_q rfl rfl rfl (Qt_assign rfl) ?_
     refine Ow_nil ?_
     refine Shift.pull (.there (.there (.there (.there (.there .here))))) ?_
     refine Shift.pull (.there (.there (.there (.there (.there .here))))) ?_
     refine Shift.pull (.there (.there (.there (.there (.there .here))))) ?_
     refine Shift.pull (.there (.there (.there (.there (.there .here))))) ?_
     refine Shift.pull (.there (.there (.there (.there (.there .here))))) ?_
     refine Shift.pull (.there (.there (.there (.there (.there .here))))) ?_
     have hs717 := (hR674).mono hK701
     have hs718 := (hR678).mono hK701
     refine Shift.done ?_
     exact ⟨[(0, (.pointer (some ((⟨bp0, 0, none⟩ : Addr).add 0)))), (1, (.int .i64 p1)), (5, (.bool x587)), (6, (.pointer (some ((⟨b593, 0, none⟩ : Addr).add 0)))), (7, (.int .i64 (wI (i671 + 1)))), (18, (sv v249)), (19, (.int .i64 ([false, true].length : Int))), (20, (.int .i64 i470))], ⟨rfl, rfl, rfl, rfl, rfl, rfl, rfl, rfl, trivial⟩, _, Nat.lt_succ_self _, (wI (i671 + 1)), v672, l673, rs675, v676, l677, rs679, rfl, rfl, (hkk685 ▸ H), hs717, hs718⟩
   ·intro h687
    have h687 := dcd_f (h687)
    have H := iff_ h687 H
    refine Cw_exit ?_
    refine Shift.pull (.there (.there (.there (.there (.there .here))))) ?_
    refine Shift.pull (.there (.there (.there (.there (.there .here))))) ?_
    refine Shift.pull (.there (.there (.there (.there (.there .here))))) ?_
    refine Shift.pull (.there (.there (.there (.there (.there .here))))) ?_
    refine Shift.pull (.there (.there (.there (.there .here)))) ?_
    refine Shift.rem (.there (.there (.there (.there (.there .here))))) ?_
    refine Shift.done ?_
    exact ⟨[(0, (.pointer (some ((⟨bp0, 0, none⟩ : Addr).add 0)))), (1, (.int .i64 p1)), (18, (sv v249)), (19, (.int .i64 ([false, true].length : Int))), (20, (.int .i64 i470))], ⟨rfl, rfl, rfl, rfl, rfl, trivial⟩, v672, l673, rs675, v676, l677, rs679, rfl, rfl, H, hR674, hR678⟩
  rintro _ K719 _ hK720 ⟨v579, l580, rs582, v583, l584, rs586, rfl, rfl, H, hR581, hR585⟩
  unfold M_134z at H
  refine Cw_region ?_
  refine Ow_q rfl rfl rfl (Qt_arith (e := wI (i470 + 1)) rfl rfl rfl rfl) ?_
  refine Ow_q rfl rfl rfl (Qt_move rfl) ?_
  refine Ow_nil ?_
  refine Shift.pull (.there (.there (.there (.there .here)))) ?_
  refine Shift.pull (.there (.there (.there (.there .here)))) ?_
  refine Shift.pull (.there (.there (.there (.there .here)))) ?_
  refine Shift.pull (.there (.there (.there (.there .here)))) ?_
  refine Shift.pull (.there (.there (.there (.there .here)))) ?_
  refine Shift.done ?_
  exact ⟨[(0, (.pointer (some ((⟨bp0, 0, none⟩ : Addr).add 0)))), (1, (.int .i64 p1)), (18, (sv v249)), (19, (.int .i64 ([false, true].length : Int))), (20, (.int .i64 (wI (i470 + 1))))], ⟨rfl, rfl, rfl, rfl, rfl, trivial⟩, _, Nat.lt_succ_self _, (wI (i470 + 1)), v579, l580, rs582, v583, l584, rs586, rfl, rfl, (hkk484 ▸ H), hR581, hR585⟩
 ·intro h486
  have h486 := dcd_f (h486)
  have H := iff_ h486 H
  refine Cw_exit ?_
  obtain ⟨ez0_chans, ez0_waiting, ez0_done⟩ := inj3 H
  subst z0_chans z0_waiting z0_done
  refine ⟨(by first | exact .inl rfl | exact .inr rfl), [], rfl, ?_⟩
  refine Shift.pull (.there (.there .here)) ?_
  refine Shift.pull (.there (.there .here)) ?_
  refine Shift.pull (.there (.there (.there (.there .here)))) ?_
  refine Shift.pull (.there (.there (.there .here))) ?_
  refine Shift.rem (.there (.there (.there (.there .here)))) ?_
  have hs721 := (hR247).mono hK481
  refine Shift.done ?_
  exact ⟨vp0_desk_chans, (rsp0_desk_chans.set p1.toNat (Chan.cells (Chan.mk x240.capacity x240.buffer true) v245)), v471, rs474, v475, rs478, rfl, rfl, hs721, hR473, hR477⟩

set_option maxHeartbeats 1000000 in
theorem c_M_42z (p0 : Waiter) (vp0_op_cases : SV) (vp0_op_draws : SV) (bp1 : Nat) (p1 : Case) (bp2 : Nat) (p2 : Int) (y0 : Bool) (H : M_42z p0 p1 p2 = some y0) (K : Kp) (G : List Ent) (hp0_op_cases : Slr TyCase K (sv vp0_op_cases) p0.op.cases) (hp0_op_draws : Slr Ty.i64 K (sv vp0_op_draws) p0.op.draws) :
  Fc Try.prog 69 #[(.agg (Waiter.cells p0 vp0_op_cases vp0_op_draws).toArray), (.pointer (some ((⟨bp1, 0, none⟩ : Addr).add 0))), (.pointer (some ((⟨bp2, 0, none⟩ : Addr).add 0)))] K ((.blk bp1 45 (Case.cells p1)) :: (.blk bp2 3 [(.int .i64 p2)]) :: G) (fun v K' G' => v = (.bool y0) ∧ (.blk bp1 45 (Case.cells p1)) :: (.blk bp2 3 [(.int .i64 p2)]) :: G = G') := by
 refine Fc_body Try.func69 rfl Try.ntmps69 Try.results69 rfl ?_
 unfold M_42z at H
 refine Cw_seq ?_
 refine Cw_region ?_
 refine Ow_cons rfl (OpW_box (cs := (Waiter.cells p0 vp0_op_cases vp0_op_draws)) rfl rfl rfl (fun b8 => ?_))
 refine Ow_q rfl rfl rfl (Qt_assign rfl) ?_
 refine Ow_nil ?_
 refine Cw_seq ?_
 refine Cw_region ?_
 refine Ow_q rfl rfl rfl (Qt_fieldAddr (m := 1) rfl rfl rfl rfl rfl) ?_
 refine Ow_q rfl rfl rfl (Qt_loadA (m := 7) (cs := (Op.cells p0.op vp0_op_cases vp0_op_draws)) rfl rfl rfl rfl ⟨rfl, Rdc.blk (.head _) rfl⟩) ?_
 refine Ow_q rfl rfl rfl (Qt_fieldAddr (m := 1) rfl rfl rfl rfl rfl) ?_
 refine Ow_q rfl rfl rfl (Qt_load1 (v := (.int .i64 p1.channel)) rfl rfl rfl (Rdc.blk (.tail _ (.head _)) rfl)) ?_
 refine Ow_q rfl rfl rfl (Qt_fieldAddr (m := 0) rfl rfl rfl rfl rfl) ?_
 refine Ow_q rfl rfl rfl (Qt_load1 (v := (.bool p1.send)) rfl rfl rfl (Rdc.blk (.tail _ (.head _)) rfl)) ?_
 refine Ow_q rfl rfl rfl (Qt_not rfl) ?_
 obtain ⟨x9, x10, hx11, H⟩ := bnd2 H
 refine Ow_cons rfl (OpW_call rfl Try.call70 rfl rfl (c_M_10z p0.op vp0_op_cases vp0_op_draws p1.channel (!(p1.send)) x9 x10 hx11 _ _ hp0_op_cases hp0_op_draws) ?_)
 rintro _ K12 _ hK13 ⟨rfl, rfl⟩
 refine Ow_q rfl rfl rfl (Qt_move rfl) ?_
 refine Ow_q rfl rfl rfl (Qt_extract rfl rfl) ?_
 refine Ow_q rfl rfl rfl (Qt_extract rfl rfl) ?_
 refine Ow_q rfl rfl rfl (Qt_assign rfl) ?_
 refine Ow_q rfl rfl rfl (Qt_assign rfl) ?_
 refine Ow_nil ?_
 refine Cw_seq ?_
 refine Cw_region ?_
 refine Ow_q rfl rfl rfl (Qt_move rfl) ?_
 refine Ow_q rfl rfl rfl (Qt_move rfl) ?_
 refine Ow_caseG rfl rfl rfl ?_ ?_
 ·intro h15
  have H := ift h15 H
  refine Ow_qw rfl rfl rfl rfl rfl rfl (Qt_fieldAddr (m := 0) rfl rfl rfl rfl rfl) ?_
  refine Ow_qw rfl rfl rfl rfl rfl rfl (Qt_load1 (v := (.int .i64 p0.thread)) rfl rfl rfl (Rdc.blk (.head _) rfl)) ?_
  refine Ow_qw rfl rfl rfl rfl rfl rfl (Qt_load1 (v := (.int .i64 p2)) rfl rfl rfl (Rdc.blk (.tail _ (.tail _ (.head _))) rfl)) ?_
  refine Ow_qw rfl rfl rfl rfl rfl rfl (Qt_cmp rfl rfl rfl) ?_
  refine Ow_q rfl rfl rfl (Qt_pick_t rfl rfl) ?_
  refine Ow_q rfl rfl rfl (Qt_assign rfl) ?_
  refine Ow_nil ?_
  refine Cw_ret ?_
  obtain ey0 := inj1 H
  subst y0
  refine ⟨(by first | exact .inl rfl | exact .inr rfl), [(.bool (!(dcd (p0.thread = p2))))], ⟨(.bool (!(dcd (p0.thread = p2)))), _, rfl, rfl, rfl⟩, ?_⟩
  refine Shift.pull (.there (.there .here)) ?_
  refine Shift.pull (.there (.there .here)) ?_
  refine Shift.rem (.there (.there .here)) ?_
  refine Shift.done ?_
  exact ⟨rfl, rfl⟩
 ·intro h15
  have H := iff_ (btf h15) H
  refine Ow_pass rfl rfl rfl rfl rfl rfl rfl ?_
  refine Ow_pass rfl rfl rfl rfl rfl rfl rfl ?_
  refine Ow_pass rfl rfl rfl rfl rfl rfl rfl ?_
  refine Ow_pass rfl rfl rfl rfl rfl rfl rfl ?_
  refine Ow_q rfl rfl rfl (Qt_pick_f rfl rfl) ?_
  refine Ow_q rfl rfl rfl (Qt_assign rfl) ?_
  refine Ow_nil ?_
  refine Cw_ret ?_
  obtain ey0 := inj1 H
  subst y0
  refine ⟨(by first | exact .inl rfl | exact .inr rfl), [(.bool false)], ⟨(.bool false), _, rfl, rfl, rfl⟩, ?_⟩
  refine Shift.pull (.there (.there .here)) ?_
  refine Shift.pull (.there (.there .here)) ?_
  refine Shift.rem (.there (.there .here)) ?_
  refine Shift.done ?_
  exact ⟨rfl, rfl⟩



end Go.Hx
