/- Printed by program. -/
import Derived.Test.YthokebmjjkjjfaaXDM
import Derived.Test.YthokebmjjkjjfaaXDWRef14
import Derived.Test.YthokebmjjkjjfaaXDWRef15
import Derived.Test.YthokebmjjkjjfaaXDWRef3
namespace Go.Hx
open Go Go.Proofs
set_option linter.unusedSimpArgs false
set_option linter.unusedVariables false
set_option maxRecDepth 10000
set_option maxHeartbeats 1000000 in
theorem c_M_18z (p0 : Op) (vp0_cases : SV) (vp0_draws : SV) (p1 : Int) (p2 : Bool) (y0 : Int) (H : M_18z p0 p1 p2 = some y0) (K : Kp) (G : List Ent) (hp0_cases : Slr TyCase K (sv vp0_cases) p0.cases) (hp0_draws : Slr Ty.i64 K (sv vp0_draws) p0.draws) :
  Fc Try.prog 72 #[(.agg (Op.cells p0 vp0_cases vp0_draws).toArray), (.int .i64 p1), (.bool p2)] K (G) (fun v K' G' => v = (.int .i64 y0) ∧ G = G') := by
 refine Fc_body Try.func72 rfl Try.ntmps72 Try.results72 rfl ?_
 unfold M_18z at H
 refine Cw_seq ?_
 refine Cw_region ?_
 refine Ow_cons rfl (OpW_box (cs := (Op.cells p0 vp0_cases vp0_draws)) rfl rfl rfl (fun b52 => ?_))
 refine Ow_q rfl rfl rfl (Qt_assign rfl) ?_
 refine Ow_nil ?_
 refine Cw_seq ?_
 refine Cw_region ?_
 refine Ow_q rfl rfl rfl (Qt_loadA (m := 7) (cs := (Op.cells p0 vp0_cases vp0_draws)) rfl rfl rfl rfl ⟨rfl, Rdc.blk (.head _) rfl⟩) ?_
 obtain ⟨x53, hx54, H⟩ := bnd H
 refine Ow_cons rfl (OpW_call rfl Try.call63 rfl rfl (c_M_17z p0 vp0_cases vp0_draws x53 hx54 _ _ hp0_cases hp0_draws) ?_)
 rintro _ K56 _ hK57 ⟨v55, rfl, rfl, hs58⟩
 refine Ow_q rfl rfl rfl (Qt_assign rfl) ?_
 refine Ow_nil ?_
 refine Cw_join (fun env' K' G' => [] = env' ∧ G = G' ∧ M_172z = some y0) ?_ ?_
 ·skip
  refine Cw_seq ?_
  refine Cw_region ?_
  refine Ow_q rfl rfl rfl (Qt_assign rfl) ?_
  refine Ow_nil ?_
  refine Cw_block ?_
  refine Cw_loopM (fun n131 env' K' G' => ∃ (i130 : Int), [(1, (.int .i64 p1)), (2, (.bool p2)), (7, (sv v55)), (8, (.int .i64 i130))] = env' ∧ K56 = K' ∧ G = G' ∧ lp1 (M_107z p1 p2 x53) n131 i130 = some y0) BIG ?_ ?_
  ·skip
   refine Shift.rem .here ?_
   refine Shift.done ?_
   exact ⟨[(1, (.int .i64 p1)), (2, (.bool p2)), (7, (sv v55)), (8, (.int .i64 0))], ⟨rfl, rfl, rfl, rfl, trivial⟩, 0, rfl, rfl, rfl, H⟩
  rintro n131 _ _ _ - ⟨i130, rfl, rfl, rfl, H⟩
  obtain ⟨m132, k133, rfl, hkk134, H⟩ := lps1 H
  unfold M_107z at H
  refine Cw_seq ?_
  refine Cw_seq ?_
  refine Cw_region ?_
  refine Ow_q rfl rfl rfl (Qt_move rfl) ?_
  refine Ow_q rfl rfl rfl (Qt_move rfl) ?_
  refine Ow_q rfl rfl rfl (Q_len (T := TyCase) hs58 rfl rfl) ?_
  refine Ow_q rfl rfl rfl (Qt_cmp rfl rfl rfl) ?_
  refine Ow_nil ?_
  refine Cw_cond rfl ?_ ?_
  ·intro h136
   have h136 := dcd_t (h136)
   have H := ift h136 H
   refine Cw_skip ?_
   refine Cw_seq ?_
   refine Cw_block ?_
   refine Cw_join (fun env' K' G' => ∃ (t161 : Bool), [(1, (.int .i64 p1)), (2, (.bool p2)), (7, (sv v55)), (8, (.int .i64 i130)), (32, (.bool t161))] = env' ∧ K56 = K' ∧ G = G' ∧ M_106z p1 p2 x53 i130 k133 t161 = some y0) ?_ ?_
   ·skip
    refine Cw_region ?_
    refine Ow_q rfl rfl rfl (Qt_move rfl) ?_
    refine Ow_q rfl rfl rfl (Qt_move rfl) ?_
    obtain ⟨x162, hx163, H⟩ := bnd H
    obtain ⟨r164, hr165, hk166⟩ := Slr.at hs58 hx163
    obtain rfl := hr165
    refine Ow_q rfl rfl rfl (Q_ix (T := TyCase) hs58 hx163 rfl rfl rfl rfl rfl) ?_
    refine Ow_q rfl rfl rfl (Qt_fieldAddr (m := 1) rfl rfl rfl rfl rfl) ?_
    refine Ow_q rfl rfl rfl (Qt_load1 (v := (.int .i64 x162.channel)) rfl rfl rfl (Rdc.k hk166 rfl)) ?_
    refine Ow_q rfl rfl rfl (Qt_move rfl) ?_
    refine Ow_q rfl rfl rfl (Qt_cmp rfl rfl rfl) ?_
    refine Ow_q rfl rfl rfl (Qt_move rfl) ?_
    refine Ow_caseG rfl rfl rfl ?_ ?_
    ·intro h167
     have h167 := dcd_t (h167)
     have H := ift h167 H
     refine Ow_qw rfl rfl rfl rfl rfl rfl (Qt_move rfl) ?_
     refine Ow_qw rfl rfl rfl rfl rfl rfl (Qt_move rfl) ?_
     obtain ⟨x168, hx169, H⟩ := bnd H
     obtain ⟨r170, hr171, hk172⟩ := Slr.at hs58 hx169
     obtain rfl := hr171
     refine Ow_qw rfl rfl rfl rfl rfl rfl (Q_ix (T := TyCase) hs58 hx169 rfl rfl rfl rfl rfl) ?_
     refine Ow_qw rfl rfl rfl rfl rfl rfl (Qt_fieldAddr (m := 0) rfl rfl rfl rfl rfl) ?_
     refine Ow_qw rfl rfl rfl rfl rfl rfl (Qt_load1 (v := (.bool x168.send)) rfl rfl rfl (Rdc.k hk172 rfl)) ?_
     refine Ow_qw rfl rfl rfl rfl rfl rfl (Qt_move rfl) ?_
     refine Ow_qw rfl rfl rfl rfl rfl rfl (Qt_eqB rfl rfl rfl) ?_
     refine Ow_q rfl rfl rfl (Qt_pick_t rfl rfl) ?_
     refine Ow_nil ?_
     refine Shift.done ?_
     exact ⟨[(1, (.int .i64 p1)), (2, (.bool p2)), (7, (sv v55)), (8, (.int .i64 i130)), (32, (.bool (x168.send == p2)))], ⟨rfl, rfl, rfl, rfl, rfl, trivial⟩, (x168.send == p2), rfl, rfl, rfl, H⟩
    ·intro h167
     have h167 := dcd_f (h167)
     have H := iff_ h167 H
     refine Ow_pass rfl rfl rfl rfl rfl rfl rfl ?_
     refine Ow_pass rfl rfl rfl rfl rfl rfl rfl ?_
     refine Ow_pass rfl rfl rfl rfl rfl rfl rfl ?_
     refine Ow_pass rfl rfl rfl rfl rfl rfl rfl ?_
     refine Ow_pass rfl rfl rfl rfl rfl rfl rfl ?_
     refine Ow_pass rfl rfl rfl rfl rfl rfl rfl ?_
     refine Ow_pass rfl rfl rfl rfl rfl rfl rfl ?_
     refine Ow_q rfl rfl rfl (Qt_pick_f rfl rfl) ?_
     refine Ow_nil ?_
     refine Shift.done ?_
     exact ⟨[(1, (.int .i64 p1)), (2, (.bool p2)), (7, (sv v55)), (8, (.int .i64 i130)), (32, (.bool false))], ⟨rfl, rfl, rfl, rfl, rfl, trivial⟩, false, rfl, rfl, rfl, H⟩
   rintro _ _ _ - ⟨t161, rfl, rfl, rfl, H⟩
   unfold M_106z at H
   refine Cw_cond rfl ?_ ?_
   ·intro h173
    have H := ift h173 H
    refine Cw_seq ?_
    refine Cw_region ?_
    refine Ow_q rfl rfl rfl (Qt_move rfl) ?_
    refine Ow_q rfl rfl rfl (Qt_assign rfl) ?_
    refine Ow_nil ?_
    refine Cw_ret ?_
    obtain ey0 := inj1 H
    subst y0
    refine ⟨(by first | exact .inl rfl | exact .inr rfl), [(.int .i64 i130)], ⟨(.int .i64 i130), _, rfl, rfl, rfl⟩, ?_⟩
    refine Shift.done ?_
    exact ⟨rfl, rfl⟩
   ·intro h173
    have H := iff_ (btf h173) H
    refine Cw_skip ?_
    refine Cw_region ?_
    refine Ow_q rfl rfl rfl (Qt_move rfl) ?_
    refine Ow_q rfl rfl rfl (Qt_arith (e := wI (i130 + 1)) rfl rfl rfl rfl) ?_
    refine Ow_q rfl rfl rfl (Qt_assign rfl) ?_
    refine Ow_nil ?_
    refine Shift.done ?_
    exact ⟨[(1, (.int .i64 p1)), (2, (.bool p2)), (7, (sv v55)), (8, (.int .i64 (wI (i130 + 1))))], ⟨rfl, rfl, rfl, rfl, trivial⟩, _, Nat.lt_succ_self _, (wI (i130 + 1)), rfl, rfl, rfl, (hkk134 ▸ H)⟩
  ·intro h136
   have h136 := dcd_f (h136)
   have H := iff_ h136 H
   refine Cw_exit ?_
   refine Shift.done ?_
   exact ⟨[], trivial, rfl, rfl, H⟩
 rintro _ K174 _ hK175 ⟨rfl, rfl, H⟩
 unfold M_172z at H
 refine Cw_seq ?_
 refine Cw_region ?_
 refine Ow_q rfl rfl rfl (Qt_assign rfl) ?_
 refine Ow_nil ?_
 refine Cw_ret ?_
 obtain ey0 := inj1 H
 subst y0
 refine ⟨(by first | exact .inl rfl | exact .inr rfl), [(.int .i64 (-1))], ⟨(.int .i64 (-1)), _, rfl, rfl, rfl⟩, ?_⟩
 refine Shift.done ?_
 exact ⟨rfl, rfl⟩

set_option maxHeartbeats 1000000 in
theorem c_M_19z (p0 : Op) (vp0_cases : SV) (vp0_draws : SV) (p1 : Int) (y0 : Int) (H : M_19z p0 p1 = some y0) (K : Kp) (G : List Ent) (hp0_cases : Slr TyCase K (sv vp0_cases) p0.cases) (hp0_draws : Slr Ty.i64 K (sv vp0_draws) p0.draws) :
  Fc Try.prog 85 #[(.agg (Op.cells p0 vp0_cases vp0_draws).toArray), (.int .i64 p1)] K (G) (fun v K' G' => v = (.int .i64 y0) ∧ K = K' ∧ G = G') := by
 refine Fc_body Try.func85 rfl Try.ntmps85 Try.results85 rfl ?_
 unfold M_19z at H
 refine Cw_seq ?_
 refine Cw_region ?_
 refine Ow_cons rfl (OpW_box (cs := (Op.cells p0 vp0_cases vp0_draws)) rfl rfl rfl (fun b3 => ?_))
 refine Ow_q rfl rfl rfl (Qt_assign rfl) ?_
 refine Ow_nil ?_
 refine Cw_seq ?_
 refine Cw_seq ?_
 refine Cw_region ?_
 refine Ow_q rfl rfl rfl (Qt_fieldAddr (m := 0) rfl rfl rfl rfl rfl) ?_
 refine Ow_q rfl rfl rfl (Qt_load1 (v := (.int .i64 p0.kind)) rfl rfl rfl (Rdc.blk (.head _) rfl)) ?_
 refine Ow_q rfl rfl rfl (Qt_cmp rfl rfl rfl) ?_
 refine Ow_nil ?_
 refine Cw_cond rfl ?_ ?_
 ·intro h5
  have h5 := dcd_t (h5)
  have H := ift h5 H
  refine Cw_seq ?_
  refine Cw_region ?_
  refine Ow_q rfl rfl rfl (Qt_move rfl) ?_
  refine Ow_q rfl rfl rfl (Qt_assign rfl) ?_
  refine Ow_nil ?_
  refine Cw_ret ?_
  obtain ey0 := inj1 H
  subst y0
  refine ⟨(by first | exact .inl rfl | exact .inr rfl), [(.int .i64 p1)], ⟨(.int .i64 p1), _, rfl, rfl, rfl⟩, ?_⟩
  refine Shift.rem .here ?_
  refine Shift.done ?_
  exact ⟨rfl, rfl, rfl⟩
 ·intro h5
  have h5 := dcd_f (h5)
  have H := iff_ h5 H
  refine Cw_skip ?_
  refine Cw_seq ?_
  refine Cw_region ?_
  refine Ow_q rfl rfl rfl (Qt_assign rfl) ?_
  refine Ow_nil ?_
  refine Cw_ret ?_
  obtain ey0 := inj1 H
  subst y0
  refine ⟨(by first | exact .inl rfl | exact .inr rfl), [(.int .i64 (-1))], ⟨(.int .i64 (-1)), _, rfl, rfl, rfl⟩, ?_⟩
  refine Shift.rem .here ?_
  refine Shift.done ?_
  exact ⟨rfl, rfl, rfl⟩

set_option maxHeartbeats 1000000 in
theorem c_M_109z (p0 : Desk) (vp0_chans : SV) (vp0_waiting : SV) (p1 : Int) (p2 : Op) (vp2_cases : SV) (vp2_draws : SV) (y0 : Desk) (y1 : List Done) (H : M_109z p0 p1 p2 = some (y0, y1)) (K : Kp) (G : List Ent) (hp0_chans : Slr TyChan K (sv vp0_chans) p0.chans) (hp0_waiting : Slr TyWaiter K (sv vp0_waiting) p0.waiting) (hp2_cases : Slr TyCase K (sv vp2_cases) p2.cases) (hp2_draws : Slr Ty.i64 K (sv vp2_draws) p2.draws) :
  Fc Try.prog 62 #[(.agg (Desk.cells p0 vp0_chans vp0_waiting).toArray), (.int .i64 p1), (.agg (Op.cells p2 vp2_cases vp2_draws).toArray)] K (G) (fun v K' G' => ∃ (wy0_chans : SV) (wy0_waiting : SV) (wy1 : SV), v = (.tuple #[(.agg (Desk.cells y0 wy0_chans wy0_waiting).toArray), (sv wy1)]) ∧ (.tok 75 6 [(sv wy1)]) :: G = G' ∧ Slr TyChan K' (sv wy0_chans) y0.chans ∧ Slr TyWaiter K' (sv wy0_waiting) y0.waiting ∧ Slr TyDone K' (sv wy1) y1) := by
 refine Fc_body Try.func62 rfl Try.ntmps62 Try.results62 rfl ?_
 unfold M_109z at H
 refine Cw_seq ?_
 refine Cw_region ?_
 refine Ow_cons rfl (OpW_box (cs := (Desk.cells p0 vp0_chans vp0_waiting)) rfl rfl rfl (fun b321 => ?_))
 refine Ow_cons rfl (OpW_box (cs := (Op.cells p2 vp2_cases vp2_draws)) rfl rfl rfl (fun b322 => ?_))
 refine Ow_cons rfl (OpW_alloc (cs := (Desk.cells (Desk.mk [] [] 0) nilS nilS)) rfl rfl rfl rfl (fun b323 => ?_))
 refine Ow_q rfl rfl rfl (Qt_assign rfl) ?_
 refine Ow_nil ?_
 refine Cw_seq ?_
 refine Cw_join (fun env' K' G' => ∃ (t346 : Bool), [(1, (.int .i64 p1)), (3, (.pointer (some ((⟨b321, 0, none⟩ : Addr).add 0)))), (5, (.pointer (some ((⟨b322, 0, none⟩ : Addr).add 0)))), (6, (.pointer (some ((⟨b323, 0, none⟩ : Addr).add 0)))), (34, (.bool t346))] = env' ∧ K = K' ∧ (.blk b323 34 (Desk.cells (Desk.mk [] [] 0) nilS nilS)) :: (.blk b322 41 (Op.cells p2 vp2_cases vp2_draws)) :: (.blk b321 34 (Desk.cells p0 vp0_chans vp0_waiting)) :: G = G' ∧ M_61z p1 p2 p0 t346 = some (y0, y1)) ?_ ?_
 ·skip
  refine Cw_region ?_
  refine Ow_q rfl rfl rfl (Qt_fieldAddr (m := 2) rfl rfl rfl rfl rfl) ?_
  refine Ow_q rfl rfl rfl (Qt_load1 (v := (.int .i64 p2.channel)) rfl rfl rfl (Rdc.blk (.tail _ (.head _)) rfl)) ?_
  refine Ow_q rfl rfl rfl (Qt_cmp rfl rfl rfl) ?_
  refine Ow_q rfl rfl rfl (Qt_move rfl) ?_
  refine Ow_caseG rfl rfl rfl ?_ ?_
  ·intro h347
   have h347 := dcd_t (h347)
   have H := ift h347 H
   refine Ow_pass rfl rfl rfl rfl rfl rfl rfl ?_
   refine Ow_pass rfl rfl rfl rfl rfl rfl rfl ?_
   refine Ow_pass rfl rfl rfl rfl rfl rfl rfl ?_
   refine Ow_pass rfl rfl rfl rfl rfl rfl rfl ?_
   refine Ow_pass rfl rfl rfl rfl rfl rfl rfl ?_
   refine Ow_pass rfl rfl rfl rfl rfl rfl rfl ?_
   refine Ow_q rfl rfl rfl (Qt_pick_t rfl rfl) ?_
   refine Ow_q rfl rfl rfl (Qt_move rfl) ?_
   refine Ow_pass rfl rfl rfl rfl rfl rfl rfl ?_
   refine Ow_pass rfl rfl rfl rfl rfl rfl rfl ?_
   refine Ow_pass rfl rfl rfl rfl rfl rfl rfl ?_
   refine Ow_pass rfl rfl rfl rfl rfl rfl rfl ?_
   refine Ow_pass rfl rfl rfl rfl rfl rfl rfl ?_
   refine Ow_pass rfl rfl rfl rfl rfl rfl rfl ?_
   refine Ow_pass rfl rfl rfl rfl rfl rfl rfl ?_
   refine Ow_q rfl rfl rfl (Qt_pick_t rfl rfl) ?_
   refine Ow_nil ?_
   refine Shift.pull (.there (.there .here)) ?_
   refine Shift.pull (.there (.there .here)) ?_
   refine Shift.pull (.there (.there .here)) ?_
   refine Shift.done ?_
   exact ⟨[(1, (.int .i64 p1)), (3, (.pointer (some ((⟨b321, 0, none⟩ : Addr).add 0)))), (5, (.pointer (some ((⟨b322, 0, none⟩ : Addr).add 0)))), (6, (.pointer (some ((⟨b323, 0, none⟩ : Addr).add 0)))), (34, (.bool true))], ⟨rfl, rfl, rfl, rfl, rfl, trivial⟩, true, rfl, rfl, rfl, H⟩
  ·intro h347
   have h347 := dcd_f (h347)
   have H := iff_ h347 H
   refine Ow_qw rfl rfl rfl rfl rfl rfl (Qt_fieldAddr (m := 2) rfl rfl rfl rfl rfl) ?_
   refine Ow_qw rfl rfl rfl rfl rfl rfl (Qt_load1 (v := (.int .i64 p2.channel)) rfl rfl rfl (Rdc.blk (.tail _ (.head _)) rfl)) ?_
   refine Ow_qw rfl rfl rfl rfl rfl rfl (Qt_fieldAddr (m := 0) rfl rfl rfl rfl rfl) ?_
   refine Ow_qw rfl rfl rfl rfl rfl rfl (Qt_load1 (v := (sv vp0_chans)) rfl rfl rfl (Rdc.blk (.tail _ (.tail _ (.head _))) rfl)) ?_
   refine Ow_qw rfl rfl rfl rfl rfl rfl (Q_len (T := TyChan) hp0_chans rfl rfl) ?_
   refine Ow_qw rfl rfl rfl rfl rfl rfl (Qt_cmp rfl rfl rfl) ?_
   refine Ow_q rfl rfl rfl (Qt_pick_f rfl rfl) ?_
   refine Ow_q rfl rfl rfl (Qt_move rfl) ?_
   refine Ow_caseG rfl rfl rfl ?_ ?_
   ·intro h348
    have h348 := dcd_t (h348)
    have H := ift h348 H
    refine Ow_pass rfl rfl rfl rfl rfl rfl rfl ?_
    refine Ow_pass rfl rfl rfl rfl rfl rfl rfl ?_
    refine Ow_pass rfl rfl rfl rfl rfl rfl rfl ?_
    refine Ow_pass rfl rfl rfl rfl rfl rfl rfl ?_
    refine Ow_pass rfl rfl rfl rfl rfl rfl rfl ?_
    refine Ow_pass rfl rfl rfl rfl rfl rfl rfl ?_
    refine Ow_pass rfl rfl rfl rfl rfl rfl rfl ?_
    refine Ow_q rfl rfl rfl (Qt_pick_t rfl rfl) ?_
    refine Ow_nil ?_
    refine Shift.pull (.there (.there .here)) ?_
    refine Shift.pull (.there (.there .here)) ?_
    refine Shift.pull (.there (.there .here)) ?_
    refine Shift.done ?_
    exact ⟨[(1, (.int .i64 p1)), (3, (.pointer (some ((⟨b321, 0, none⟩ : Addr).add 0)))), (5, (.pointer (some ((⟨b322, 0, none⟩ : Addr).add 0)))), (6, (.pointer (some ((⟨b323, 0, none⟩ : Addr).add 0)))), (34, (.bool true))], ⟨rfl, rfl, rfl, rfl, rfl, trivial⟩, true, rfl, rfl, rfl, H⟩
   ·intro h348
    have h348 := dcd_f (h348)
    have H := iff_ h348 H
    refine Ow_qw rfl rfl rfl rfl rfl rfl (Qt_fieldAddr (m := 0) rfl rfl rfl rfl rfl) ?_
    refine Ow_qw rfl rfl rfl rfl rfl rfl (Qt_load1 (v := (sv vp0_chans)) rfl rfl rfl (Rdc.blk (.tail _ (.tail _ (.head _))) rfl)) ?_
    refine Ow_qw rfl rfl rfl rfl rfl rfl (Qt_fieldAddr (m := 2) rfl rfl rfl rfl rfl) ?_
    refine Ow_qw rfl rfl rfl rfl rfl rfl (Qt_load1 (v := (.int .i64 p2.channel)) rfl rfl rfl (Rdc.blk (.tail _ (.head _)) rfl)) ?_
    obtain ⟨x349, hx350, H⟩ := bnd H
    obtain ⟨r351, hr352, hk353⟩ := Slr.at hp0_chans hx350
    obtain ⟨v354, rfl, hs355⟩ := hr352
    refine Ow_qw rfl rfl rfl rfl rfl rfl (Q_ix (T := TyChan) hp0_chans hx350 rfl rfl rfl rfl rfl) ?_
    refine Ow_qw rfl rfl rfl rfl rfl rfl (Qt_fieldAddr (m := 2) rfl rfl rfl rfl rfl) ?_
    refine Ow_qw rfl rfl rfl rfl rfl rfl (Qt_load1 (v := (.bool x349.closed)) rfl rfl rfl (Rdc.k hk353 rfl)) ?_
    refine Ow_q rfl rfl rfl (Qt_pick_f rfl rfl) ?_
    refine Ow_nil ?_
    refine Shift.pull (.there (.there .here)) ?_
    refine Shift.pull (.there (.there .here)) ?_
    refine Shift.pull (.there (.there .here)) ?_
    refine Shift.done ?_
    exact ⟨[(1, (.int .i64 p1)), (3, (.pointer (some ((⟨b321, 0, none⟩ : Addr).add 0)))), (5, (.pointer (some ((⟨b322, 0, none⟩ : Addr).add 0)))), (6, (.pointer (some ((⟨b323, 0, none⟩ : Addr).add 0)))), (34, (.bool x349.closed))], ⟨rfl, rfl, rfl, rfl, rfl, trivial⟩, x349.closed, rfl, rfl, rfl, H⟩
 rintro _ _ _ - ⟨t346, rfl, rfl, rfl, H⟩
 unfold M_61z at H
 refine Cw_cond rfl ?_ ?_
 ·intro h356
  have H := ift h356 H
  refine Cw_seq ?_
  refine Cw_region ?_
  refine Ow_q rfl rfl rfl (Qt_loadA (m := 3) (cs := (Desk.cells p0 vp0_chans vp0_waiting)) rfl rfl rfl rfl ⟨rfl, Rdc.blk (.tail _ (.tail _ (.head _))) rfl⟩) ?_
  refine Ow_q rfl rfl rfl (Qt_move rfl) ?_
  refine Ow_q rfl rfl rfl (Qt_build (cs := (Result.cells (Result.mk 5 (-1) 0 false 0))) rfl rfl rfl rfl rfl rfl) ?_
  refine Ow_q rfl rfl rfl (Qt_build (cs := (Done.cells (Done.mk p1 (Result.mk 5 (-1) 0 false 0)))) rfl rfl rfl rfl rfl rfl) ?_
  have hR358 : RowR TyDone K [(Done.cells (Done.mk p1 (Result.mk 5 (-1) 0 false 0)))] [(Done.mk p1 (Result.mk 5 (-1) 0 false 0))] := RowR.cons rfl (RowR.nil)
  refine Ow_cons rfl (O_lit (T := TyDone) (rows := [(Done.cells (Done.mk p1 (Result.mk 5 (-1) 0 false 0)))]) (l := [(Done.mk p1 (Result.mk 5 (-1) 0 false 0))]) rfl rfl rfl hR358 rfl rfl rfl rfl rfl rfl rfl rfl (fun v357 => ?_))
  refine Ow_cons rfl (OpW_store (vs := (Desk.cells p0 vp0_chans vp0_waiting)) (all' := (Desk.cells p0 vp0_chans vp0_waiting)) rfl rfl rfl rfl rfl (.there .here) rfl rfl rfl ?_)
  refine Ow_q rfl rfl rfl (Qt_assign rfl) ?_
  refine Ow_nil ?_
  refine Cw_ret ?_
  obtain ⟨ey0, ey1⟩ := inj2 H
  subst y0 y1
  refine ⟨(by first | exact .inl rfl | exact .inr rfl), [(.agg (Desk.cells p0 vp0_chans vp0_waiting).toArray), (sv v357)], ⟨(.agg (Desk.cells p0 vp0_chans vp0_waiting).toArray), _, rfl, ⟨_, 3, (Desk.cells p0 vp0_chans vp0_waiting), rfl, rfl, rfl, rfl, ⟨rfl, Rdc.blk (.tail _ (.head _)) rfl⟩, rfl⟩, ⟨(sv v357), _, rfl, rfl, rfl⟩⟩, ?_⟩
  refine Shift.settle (T := TyDone) .here hR358 rfl ?_
  intro K359 hK360 hs361
  refine Shift.rem (.there .here) ?_
  refine Shift.rem (.there .here) ?_
  refine Shift.rem (.there .here) ?_
  have hs362 := (hp0_chans).mono hK360
  have hs363 := (hp0_waiting).mono hK360
  refine Shift.done ?_
  exact ⟨vp0_chans, vp0_waiting, v357, rfl, rfl, hs362, hs363, hs361⟩
 ·intro h356
  have H := iff_ (btf h356) H
  refine Cw_skip ?_
  refine Cw_seq ?_
  refine Cw_region ?_
  refine Ow_q rfl rfl rfl (Qt_fieldAddr (m := 0) rfl rfl rfl rfl rfl) ?_
  refine Ow_q rfl rfl rfl (Qt_load1 (v := (sv vp0_chans)) rfl rfl rfl (Rdc.blk (.tail _ (.tail _ (.head _))) rfl)) ?_
  refine Ow_q rfl rfl rfl (Qt_fieldAddr (m := 2) rfl rfl rfl rfl rfl) ?_
  refine Ow_q rfl rfl rfl (Qt_load1 (v := (.int .i64 p2.channel)) rfl rfl rfl (Rdc.blk (.tail _ (.head _)) rfl)) ?_
  obtain ⟨x364, hx365, H⟩ := bnd H
  obtain ⟨r366, hr367, hk368⟩ := Slr.at hp0_chans hx365
  obtain ⟨v369, rfl, hs370⟩ := hr367
  refine Ow_q rfl rfl rfl (Q_ix (T := TyChan) hp0_chans hx365 rfl rfl rfl rfl rfl) ?_
  refine Ow_q rfl rfl rfl (Qt_loadA (m := 3) (cs := (Chan.cells x364 v369)) rfl rfl rfl rfl ⟨rfl, Rdc.k hk368 rfl⟩) ?_
  refine Ow_cons rfl (OpW_alloc (cs := (Chan.cells (Chan.mk 0 [] false) nilS)) rfl rfl rfl rfl (fun b371 => ?_))
  refine Ow_cons rfl (OpW_store (vs := (Chan.cells x364 v369)) (all' := (Chan.cells x364 v369)) rfl rfl rfl rfl rfl .here rfl rfl rfl ?_)
  refine Ow_nil ?_
  refine Cw_seq ?_
  refine Cw_region ?_
  refine Ow_q rfl rfl rfl (Qt_fieldAddr (m := 2) rfl rfl rfl rfl rfl) ?_
  refine Ow_cons rfl (OpW_store (vs := [(.bool true)]) (all' := (Chan.cells (Chan.mk x364.capacity x364.buffer true) v369)) rfl rfl rfl rfl rfl .here rfl rfl rfl ?_)
  refine Ow_nil ?_
  refine Cw_seq ?_
  refine Cw_region ?_
  refine Ow_q rfl rfl rfl (Qt_loadA (m := 3) (cs := (Desk.cells p0 vp0_chans vp0_waiting)) rfl rfl rfl rfl ⟨rfl, Rdc.blk (.tail _ (.tail _ (.tail _ (.head _)))) rfl⟩) ?_
  refine Ow_q rfl rfl rfl (Qt_fieldAddr (m := 2) rfl rfl rfl rfl rfl) ?_
  refine Ow_q rfl rfl rfl (Qt_load1 (v := (.int .i64 p2.channel)) rfl rfl rfl (Rdc.blk (.tail _ (.tail _ (.head _))) rfl)) ?_
  refine Ow_q rfl rfl rfl (Qt_loadA (m := 3) (cs := (Chan.cells (Chan.mk x364.capacity x364.buffer true) v369)) rfl rfl rfl rfl ⟨rfl, Rdc.blk (.head _) rfl⟩) ?_
  obtain ⟨x372, hx373, H⟩ := bnd H
  refine Ow_cons rfl (OpW_call rfl Try.call84 rfl rfl (c_M_16z p0 vp0_chans vp0_waiting p2.channel (Chan.mk x364.capacity x364.buffer true) v369 x372 hx373 _ _ hp0_chans hp0_waiting hs370) ?_)
  rintro _ _ _ - ⟨v374, rs375, v376, rfl, rfl, rfl, hs377, hs378⟩
  refine Ow_cons rfl (OpW_store (vs := (Desk.cells x372 v374 v376)) (all' := (Desk.cells x372 v374 v376)) rfl rfl rfl rfl rfl (.there (.there (.there (.there .here)))) rfl rfl rfl ?_)
  refine Ow_nil ?_
  refine Cw_seq ?_
  refine Cw_region ?_
  refine Ow_q rfl rfl rfl (Qt_move rfl) ?_
  refine Ow_q rfl rfl rfl (Qt_build (cs := (Result.cells (Result.mk 6 (-1) 0 false 0))) rfl rfl rfl rfl rfl rfl) ?_
  refine Ow_q rfl rfl rfl (Qt_build (cs := (Done.cells (Done.mk p1 (Result.mk 6 (-1) 0 false 0)))) rfl rfl rfl rfl rfl rfl) ?_
  have hR380 : RowR TyDone K [(Done.cells (Done.mk p1 (Result.mk 6 (-1) 0 false 0)))] [(Done.mk p1 (Result.mk 6 (-1) 0 false 0))] := RowR.cons rfl (RowR.nil)
  refine Ow_cons rfl (O_lit (T := TyDone) (rows := [(Done.cells (Done.mk p1 (Result.mk 6 (-1) 0 false 0)))]) (l := [(Done.mk p1 (Result.mk 6 (-1) 0 false 0))]) rfl rfl rfl hR380 rfl rfl rfl rfl rfl rfl rfl rfl (fun v379 => ?_))
  refine Ow_q rfl rfl rfl (Qt_assign rfl) ?_
  refine Ow_nil ?_
  refine Cw_join (fun env' K' G' => ∃ (v648 : SV) (l649 : List Done) (v651 : SV) (l652 : List Chan) (v654 : SV) (l655 : List Waiter) (i657 : Int), [(3, (.pointer (some ((⟨b321, 0, none⟩ : Addr).add 0)))), (6, (.pointer (some ((⟨b323, 0, none⟩ : Addr).add 0)))), (9, (sv v648))] = env' ∧ (.blk b323 34 (Desk.cells (Desk.mk [] [] 0) nilS nilS)) :: (.blk b321 34 (Desk.cells (Desk.mk l652 l655 i657) v651 v654)) :: (.tok 75 6 [(sv v648)]) :: G = G' ∧ M_108z l649 l652 l655 i657 = some (y0, y1) ∧ Slr TyDone K' (sv v648) l649 ∧ Slr TyChan K' (sv v651) l652 ∧ Slr TyWaiter K' (sv v654) l655) ?_ ?_
  ·skip
   refine Cw_seq ?_
   refine Cw_region ?_
   refine Ow_q rfl rfl rfl (Qt_assign rfl) ?_
   refine Ow_nil ?_
   refine Cw_block ?_
   refine Cw_loopM (fun n925 env' K' G' => ∃ (v914 : SV) (l915 : List Done) (i917 : Int) (v918 : SV) (l919 : List Chan) (v921 : SV) (l922 : List Waiter) (i924 : Int), [(3, (.pointer (some ((⟨b321, 0, none⟩ : Addr).add 0)))), (5, (.pointer (some ((⟨b322, 0, none⟩ : Addr).add 0)))), (6, (.pointer (some ((⟨b323, 0, none⟩ : Addr).add 0)))), (9, (sv v914)), (10, (.int .i64 i917))] = env' ∧ (.blk b323 34 (Desk.cells (Desk.mk [] [] 0) nilS nilS)) :: (.blk b322 41 (Op.cells p2 vp2_cases vp2_draws)) :: (.blk b321 34 (Desk.cells (Desk.mk l919 l922 i924) v918 v921)) :: (.tok 75 6 [(sv v914)]) :: G = G' ∧ lp5 (M_32z p2) n925 l915 i917 l919 l922 i924 = some (y0, y1) ∧ Slr TyDone K' (sv v914) l915 ∧ Slr TyChan K' (sv v918) l919 ∧ Slr TyWaiter K' (sv v921) l922) BIG ?_ ?_
   ·skip
    refine Shift.settle (T := TyDone) .here hR380 rfl ?_
    intro K926 hK927 hs928
    have hs932 := (hs377).mono hK927
    refine Shift.settle (T := TyChan) (.there .here) hs932 rfl ?_
    intro K929 hK930 hs931
    refine Shift.pull (.there (.there (.there (.there (.there .here))))) ?_
    refine Shift.pull (.there (.there (.there (.there (.there .here))))) ?_
    refine Shift.pull (.there (.there (.there (.there (.there .here))))) ?_
    refine Shift.rem (.there (.there (.there (.there .here)))) ?_
    refine Shift.rem (.there (.there (.there (.there .here)))) ?_
    have hs933 := (hs928).mono hK930
    have hs934 := ((hs378).mono hK927).mono hK930
    refine Shift.done ?_
    exact ⟨[(3, (.pointer (some ((⟨b321, 0, none⟩ : Addr).add 0)))), (5, (.pointer (some ((⟨b322, 0, none⟩ : Addr).add 0)))), (6, (.pointer (some ((⟨b323, 0, none⟩ : Addr).add 0)))), (9, (sv v379)), (10, (.int .i64 0))], ⟨rfl, rfl, rfl, rfl, rfl, trivial⟩, v379, [(Done.mk p1 (Result.mk 6 (-1) 0 false 0))], 0, v374, x372.chans, v376, x372.waiting, x372.tick, rfl, rfl, H, hs933, hs931, hs934⟩
   rintro n925 _ K935 _ hK936 ⟨v914, l915, i917, v918, l919, v921, l922, i924, rfl, rfl, H, hs916, hs920, hs923⟩
   obtain ⟨m937, k938, rfl, hkk939, H⟩ := lps5 H
   unfold M_32z at H
   refine Cw_seq ?_
   refine Cw_seq ?_
   refine Cw_region ?_
   refine Ow_q rfl rfl rfl (Qt_move rfl) ?_
   refine Ow_q rfl rfl rfl (Qt_cmp rfl rfl rfl) ?_
   refine Ow_nil ?_
   refine Cw_cond rfl ?_ ?_
   ·intro h941
    have h941 := dcd_t (h941)
    have H := ift h941 H
    refine Cw_skip ?_
    refine Cw_join (fun env' K' G' => ∃ (v1049 : SV) (l1050 : List Done) (v1052 : SV) (l1053 : List Chan) (v1055 : SV) (l1056 : List Waiter) (i1058 : Int), [(3, (.pointer (some ((⟨b321, 0, none⟩ : Addr).add 0)))), (5, (.pointer (some ((⟨b322, 0, none⟩ : Addr).add 0)))), (6, (.pointer (some ((⟨b323, 0, none⟩ : Addr).add 0)))), (9, (sv v1049)), (10, (.int .i64 i917))] = env' ∧ (.blk b323 34 (Desk.cells (Desk.mk [] [] 0) nilS nilS)) :: (.blk b322 41 (Op.cells p2 vp2_cases vp2_draws)) :: (.blk b321 34 (Desk.cells (Desk.mk l1053 l1056 i1058) v1052 v1055)) :: (.tok 75 6 [(sv v1049)]) :: G = G' ∧ M_157z i917 p2 k938 l1050 l1053 l1056 i1058 = some (y0, y1) ∧ Slr TyDone K' (sv v1049) l1050 ∧ Slr TyChan K' (sv v1052) l1053 ∧ Slr TyWaiter K' (sv v1055) l1056) ?_ ?_
    ·skip
     refine Cw_block ?_
     refine Cw_seq ?_
     refine Cw_region ?_
     refine Ow_q rfl rfl rfl (Qt_assign rfl) ?_
     refine Ow_nil ?_
     refine Cw_block ?_
     refine Cw_loopM (fun n1166 env' K' G' => ∃ (v1155 : SV) (l1156 : List Done) (i1158 : Int) (v1159 : SV) (l1160 : List Chan) (v1162 : SV) (l1163 : List Waiter) (i1165 : Int), [(3, (.pointer (some ((⟨b321, 0, none⟩ : Addr).add 0)))), (5, (.pointer (some ((⟨b322, 0, none⟩ : Addr).add 0)))), (6, (.pointer (some ((⟨b323, 0, none⟩ : Addr).add 0)))), (9, (sv v1155)), (10, (.int .i64 i917)), (11, (.int .i64 i1158))] = env' ∧ (.blk b323 34 (Desk.cells (Desk.mk [] [] 0) nilS nilS)) :: (.blk b322 41 (Op.cells p2 vp2_cases vp2_draws)) :: (.blk b321 34 (Desk.cells (Desk.mk l1160 l1163 i1165) v1159 v1162)) :: (.tok 75 6 [(sv v1155)]) :: G = G' ∧ lp5 (M_60z i917 p2 k938) n1166 l1156 i1158 l1160 l1163 i1165 = some (y0, y1) ∧ Slr TyDone K' (sv v1155) l1156 ∧ Slr TyChan K' (sv v1159) l1160 ∧ Slr TyWaiter K' (sv v1162) l1163) BIG ?_ ?_
     ·skip
      refine Shift.pull (.there (.there (.there .here))) ?_
      refine Shift.pull (.there (.there (.there .here))) ?_
      refine Shift.pull (.there (.there (.there .here))) ?_
      refine Shift.pull (.there (.there (.there .here))) ?_
      refine Shift.done ?_
      exact ⟨[(3, (.pointer (some ((⟨b321, 0, none⟩ : Addr).add 0)))), (5, (.pointer (some ((⟨b322, 0, none⟩ : Addr).add 0)))), (6, (.pointer (some ((⟨b323, 0, none⟩ : Addr).add 0)))), (9, (sv v914)), (10, (.int .i64 i917)), (11, (.int .i64 0))], ⟨rfl, rfl, rfl, rfl, rfl, rfl, trivial⟩, v914, l915, 0, v918, l919, v921, l922, i924, rfl, rfl, H, hs916, hs920, hs923⟩
     rintro n1166 _ K1167 _ hK1168 ⟨v1155, l1156, i1158, v1159, l1160, v1162, l1163, i1165, rfl, rfl, H, hs1157, hs1161, hs1164⟩
     obtain ⟨m1169, k1170, rfl, hkk1171, H⟩ := lps5 H
     unfold M_60z at H
     refine Cw_seq ?_
     refine Cw_seq ?_
     refine Cw_region ?_
     refine Ow_q rfl rfl rfl (Qt_move rfl) ?_
     refine Ow_q rfl rfl rfl (Qt_fieldAddr (m := 1) rfl rfl rfl rfl rfl) ?_
     refine Ow_q rfl rfl rfl (Qt_load1 (v := (sv v1162)) rfl rfl rfl (Rdc.blk (.tail _ (.tail _ (.head _))) rfl)) ?_
     refine Ow_q rfl rfl rfl (Q_len (T := TyWaiter) hs1164 rfl rfl) ?_
     refine Ow_q rfl rfl rfl (Qt_cmp rfl rfl rfl) ?_
     refine Ow_nil ?_
     refine Cw_cond rfl ?_ ?_
     ·intro h1173
      have h1173 := dcd_t (h1173)
      have H := ift h1173 H
      refine Cw_skip ?_
      refine Cw_block ?_
      refine Cw_seq ?_
      refine Cw_region ?_
      refine Ow_q rfl rfl rfl (Qt_fieldAddr (m := 1) rfl rfl rfl rfl rfl) ?_
      refine Ow_q rfl rfl rfl (Qt_load1 (v := (sv v1162)) rfl rfl rfl (Rdc.blk (.tail _ (.tail _ (.head _))) rfl)) ?_
      refine Ow_q rfl rfl rfl (Qt_move rfl) ?_
      obtain ⟨x1174, hx1175, H⟩ := bnd H
      obtain ⟨r1176, hr1177, hk1178⟩ := Slr.at hs1164 hx1175
      obtain ⟨v1179, v1180, rfl, hs1181, hs1182⟩ := hr1177
      refine Ow_q rfl rfl rfl (Q_ix (T := TyWaiter) hs1164 hx1175 rfl rfl rfl rfl rfl) ?_
      refine Ow_q rfl rfl rfl (Qt_loadA (m := 8) (cs := (Waiter.cells x1174 v1179 v1180)) rfl rfl rfl rfl ⟨rfl, Rdc.k hk1178 rfl⟩) ?_
      refine Ow_cons rfl (OpW_alloc (cs := (Waiter.cells (Waiter.mk 0 (Op.mk 0 0 0 0 0 [] [])) nilS nilS)) rfl rfl rfl rfl (fun b1183 => ?_))
      refine Ow_cons rfl (OpW_store (vs := (Waiter.cells x1174 v1179 v1180)) (all' := (Waiter.cells x1174 v1179 v1180)) rfl rfl rfl rfl rfl .here rfl rfl rfl ?_)
      refine Ow_nil ?_
      refine Cw_seq ?_
      refine Cw_region ?_
      refine Ow_q rfl rfl rfl (Qt_fieldAddr (m := 1) rfl rfl rfl rfl rfl) ?_
      refine Ow_q rfl rfl rfl (Qt_loadA (m := 7) (cs := (Op.cells x1174.op v1179 v1180)) rfl rfl rfl rfl ⟨rfl, Rdc.blk (.head _) rfl⟩) ?_
      refine Ow_q rfl rfl rfl (Qt_fieldAddr (m := 2) rfl rfl rfl rfl rfl) ?_
      refine Ow_q rfl rfl rfl (Qt_load1 (v := (.int .i64 p2.channel)) rfl rfl rfl (Rdc.blk (.tail _ (.tail _ (.head _))) rfl)) ?_
      refine Ow_q rfl rfl rfl (Qt_move rfl) ?_
      refine Ow_q rfl rfl rfl (Qt_cmp rfl rfl rfl) ?_
      obtain ⟨x1184, hx1185, H⟩ := bnd H
      refine Ow_cons rfl (OpW_call rfl Try.call72 rfl rfl (c_M_18z x1174.op v1179 v1180 p2.channel (dcd (i917 = 1)) x1184 hx1185 _ _ hs1181 hs1182) ?_)
      rintro _ K1186 _ hK1187 ⟨rfl, rfl⟩
      refine Ow_q rfl rfl rfl (Qt_assign rfl) ?_
      refine Ow_nil ?_
      refine Cw_seq ?_
      refine Cw_seq ?_
      refine Cw_region ?_
      refine Ow_q rfl rfl rfl (Qt_move rfl) ?_
      refine Ow_q rfl rfl rfl (Qt_cmp rfl rfl rfl) ?_
      refine Ow_nil ?_
      refine Cw_cond rfl ?_ ?_
      ·intro h1189
       have h1189 := dcd_t (h1189)
       have H := ift h1189 H
       refine Cw_seq ?_
       refine Cw_region ?_
       refine Ow_q rfl rfl rfl (Qt_move rfl) ?_
       refine Ow_q rfl rfl rfl (Qt_arith (e := wI (i1158 + 1)) rfl rfl rfl rfl) ?_
       refine Ow_q rfl rfl rfl (Qt_assign rfl) ?_
       refine Ow_nil ?_
       refine Cw_exit ?_
       refine Shift.pull (.there (.there (.there (.there .here)))) ?_
       refine Shift.pull (.there (.there (.there (.there .here)))) ?_
       refine Shift.pull (.there (.there (.there (.there .here)))) ?_
       refine Shift.pull (.there (.there (.there (.there .here)))) ?_
       refine Shift.rem (.there (.there (.there (.there .here)))) ?_
       have hs1190 := (hs1157).mono hK1187
       have hs1191 := (hs1161).mono hK1187
       have hs1192 := (hs1164).mono hK1187
       refine Shift.done ?_
       exact ⟨[(3, (.pointer (some ((⟨b321, 0, none⟩ : Addr).add 0)))), (5, (.pointer (some ((⟨b322, 0, none⟩ : Addr).add 0)))), (6, (.pointer (some ((⟨b323, 0, none⟩ : Addr).add 0)))), (9, (sv v1155)), (10, (.int .i64 i917)), (11, (.int .i64 (wI (i1158 + 1))))], ⟨rfl, rfl, rfl, rfl, rfl, rfl, trivial⟩, _, Nat.lt_succ_self _, v1155, l1156, (wI (i1158 + 1)), v1159, l1160, v1162, l1163, i1165, rfl, rfl, (hkk1171 ▸ H), hs1190, hs1191, hs1192⟩
      ·intro h1189
       have h1189 := dcd_f (h1189)
       have H := iff_ h1189 H
       refine Cw_skip ?_
       refine Cw_seq ?_
       refine Cw_region ?_
       refine Ow_q rfl rfl rfl (Qt_fieldAddr (m := 1) rfl rfl rfl rfl rfl) ?_
       refine Ow_q rfl rfl rfl (Qt_loadA (m := 7) (cs := (Op.cells x1174.op v1179 v1180)) rfl rfl rfl rfl ⟨rfl, Rdc.blk (.head _) rfl⟩) ?_
       refine Ow_q rfl rfl rfl (Qt_move rfl) ?_
       obtain ⟨x1193, hx1194, H⟩ := bnd H
       have hs1195 := (hs1181).mono hK1187
       have hs1196 := (hs1182).mono hK1187
       refine Ow_cons rfl (OpW_call rfl Try.call85 rfl rfl (c_M_19z x1174.op v1179 v1180 x1184 x1193 hx1194 _ _ hs1195 hs1196) ?_)
       rintro _ _ _ - ⟨rfl, rfl, rfl⟩
       refine Ow_q rfl rfl rfl (Qt_build (cs := (Result.cells (Result.mk 2 x1193 0 false 0))) rfl rfl rfl rfl rfl rfl) ?_
       refine Ow_cons rfl (OpW_alloc (cs := (Result.cells (Result.mk 0 0 0 false 0))) rfl rfl rfl rfl (fun b1197 => ?_))
       refine Ow_cons rfl (OpW_store (vs := (Result.cells (Result.mk 2 x1193 0 false 0))) (all' := (Result.cells (Result.mk 2 x1193 0 false 0))) rfl rfl rfl rfl rfl .here rfl rfl rfl ?_)
       refine Ow_nil ?_
       refine Cw_join (fun env' K' G' => ∃ (i1199 : Int), [(3, (.pointer (some ((⟨b321, 0, none⟩ : Addr).add 0)))), (5, (.pointer (some ((⟨b322, 0, none⟩ : Addr).add 0)))), (6, (.pointer (some ((⟨b323, 0, none⟩ : Addr).add 0)))), (9, (sv v1155)), (10, (.int .i64 i917)), (11, (.int .i64 i1158)), (12, (.pointer (some ((⟨b1183, 0, none⟩ : Addr).add 0)))), (14, (.pointer (some ((⟨b1197, 0, none⟩ : Addr).add 0))))] = env' ∧ K1186 = K' ∧ (.blk b1197 73 (Result.cells (Result.mk i1199 x1193 0 false 0))) :: (.blk b1183 52 (Waiter.cells x1174 v1179 v1180)) :: (.blk b323 34 (Desk.cells (Desk.mk [] [] 0) nilS nilS)) :: (.blk b322 41 (Op.cells p2 vp2_cases vp2_draws)) :: (.blk b321 34 (Desk.cells (Desk.mk l1160 l1163 i1165) v1159 v1162)) :: (.tok 75 6 [(sv v1155)]) :: G = G' ∧ M_59z l1156 i917 i1158 x1193 x1174 p2 l1160 l1163 i1165 k938 k1170 i1199 = some (y0, y1)) ?_ ?_
       ·skip
        refine Cw_seq ?_
        refine Cw_region ?_
        refine Ow_q rfl rfl rfl (Qt_move rfl) ?_
        refine Ow_q rfl rfl rfl (Qt_cmp rfl rfl rfl) ?_
        refine Ow_nil ?_
        refine Cw_cond rfl ?_ ?_
        ·intro h1200
         have h1200 := dcd_t (h1200)
         have H := ift h1200 H
         refine Cw_region ?_
         refine Ow_q rfl rfl rfl (Qt_fieldAddr (m := 0) rfl rfl rfl rfl rfl) ?_
         refine Ow_cons rfl (OpW_store (vs := [(.int .i64 5)]) (all' := (Result.cells (Result.mk 5 x1193 0 false 0))) rfl rfl rfl rfl rfl .here rfl rfl rfl ?_)
         refine Ow_nil ?_
         refine Shift.pull (.there (.there (.there (.there (.there .here))))) ?_
         refine Shift.pull (.there (.there (.there (.there (.there .here))))) ?_
         refine Shift.pull (.there (.there (.there (.there (.there .here))))) ?_
         refine Shift.pull (.there (.there (.there (.there (.there .here))))) ?_
         refine Shift.pull (.there (.there (.there (.there (.there .here))))) ?_
         refine Shift.pull (.there (.there (.there (.there (.there .here))))) ?_
         refine Shift.done ?_
         exact ⟨[(3, (.pointer (some ((⟨b321, 0, none⟩ : Addr).add 0)))), (5, (.pointer (some ((⟨b322, 0, none⟩ : Addr).add 0)))), (6, (.pointer (some ((⟨b323, 0, none⟩ : Addr).add 0)))), (9, (sv v1155)), (10, (.int .i64 i917)), (11, (.int .i64 i1158)), (12, (.pointer (some ((⟨b1183, 0, none⟩ : Addr).add 0)))), (14, (.pointer (some ((⟨b1197, 0, none⟩ : Addr).add 0))))], ⟨rfl, rfl, rfl, rfl, rfl, rfl, rfl, rfl, trivial⟩, 5, rfl, rfl, rfl, H⟩
        ·intro h1200
         have h1200 := dcd_f (h1200)
         have H := iff_ h1200 H
         refine Cw_skip ?_
         refine Shift.pull (.there (.there (.there (.there (.there .here))))) ?_
         refine Shift.pull (.there (.there (.there (.there (.there .here))))) ?_
         refine Shift.pull (.there (.there (.there (.there (.there .here))))) ?_
         refine Shift.pull (.there (.there (.there (.there (.there .here))))) ?_
         refine Shift.pull (.there (.there (.there (.there (.there .here))))) ?_
         refine Shift.pull (.there (.there (.there (.there (.there .here))))) ?_
         refine Shift.done ?_
         exact ⟨[(3, (.pointer (some ((⟨b321, 0, none⟩ : Addr).add 0)))), (5, (.pointer (some ((⟨b322, 0, none⟩ : Addr).add 0)))), (6, (.pointer (some ((⟨b323, 0, none⟩ : Addr).add 0)))), (9, (sv v1155)), (10, (.int .i64 i917)), (11, (.int .i64 i1158)), (12, (.pointer (some ((⟨b1183, 0, none⟩ : Addr).add 0)))), (14, (.pointer (some ((⟨b1197, 0, none⟩ : Addr).add 0))))], ⟨rfl, rfl, rfl, rfl, rfl, rfl, rfl, rfl, trivial⟩, 2, rfl, rfl, rfl, H⟩
       rintro _ _ _ - ⟨i1199, rfl, rfl, rfl, H⟩
       unfold M_59z at H
       refine Cw_seq ?_
       refine Cw_region ?_
       refine Ow_q rfl rfl rfl (Qt_loadA (m := 3) (cs := (Desk.cells (Desk.mk l1160 l1163 i1165) v1159 v1162)) rfl rfl rfl rfl ⟨rfl, Rdc.blk (.tail _ (.tail _ (.tail _ (.tail _ (.head _))))) rfl⟩) ?_
       refine Ow_q rfl rfl rfl (Qt_move rfl) ?_
       obtain ⟨x1201, hx1202, H⟩ := bnd H
       have hs1203 := (hs1161).mono hK1187
       have hs1204 := (hs1164).mono hK1187
       refine Ow_cons rfl (OpW_call rfl Try.call60 rfl rfl (c_M_3z (Desk.mk l1160 l1163 i1165) v1159 v1162 i1158 x1201 hx1202 _ _ hs1203 hs1204) ?_)
       rintro _ K1207 _ hK1208 ⟨v1205, v1206, rfl, rfl, hs1209, hs1210⟩
       refine Ow_cons rfl (OpW_store (vs := (Desk.cells x1201 v1205 v1206)) (all' := (Desk.cells x1201 v1205 v1206)) rfl rfl rfl rfl rfl (.there (.there (.there (.there (.there .here))))) rfl rfl rfl ?_)
       refine Ow_nil ?_
       refine Cw_region ?_
       refine Ow_q rfl rfl rfl (Qt_move rfl) ?_
       refine Ow_q rfl rfl rfl (Qt_fieldAddr (m := 0) rfl rfl rfl rfl rfl) ?_
       refine Ow_q rfl rfl rfl (Qt_load1 (v := (.int .i64 x1174.thread)) rfl rfl rfl (Rdc.blk (.tail _ (.tail _ (.head _))) rfl)) ?_
       refine Ow_q rfl rfl rfl (Qt_loadA (m := 5) (cs := (Result.cells (Result.mk i1199 x1193 0 false 0))) rfl rfl rfl rfl ⟨rfl, Rdc.blk (.tail _ (.head _)) rfl⟩) ?_
       obtain ⟨x1211, hx1212, H⟩ := bnd H
       have hs1213 := ((hs1157).mono hK1187).mono hK1208
       refine Ow_cons rfl (OpW_call rfl Try.call61 rfl rfl (c_M_14z l1156 v1155 x1174.thread (Result.mk i1199 x1193 0 false 0) x1211 hx1212 _ _ hs1213) ?_)
       rintro _ K1215 _ hK1216 ⟨v1214, rfl, rfl, hs1217⟩
       refine Ow_q rfl rfl rfl (Qt_assign rfl) ?_
       refine Ow_nil ?_
       refine Shift.pull (.there (.there (.there (.there (.there (.there .here)))))) ?_
       refine Shift.pull (.there (.there (.there (.there (.there (.there .here)))))) ?_
       refine Shift.pull (.there (.there (.there (.there (.there (.there .here)))))) ?_
       refine Shift.rem (.there (.there (.there (.there .here)))) ?_
       refine Shift.rem (.there (.there (.there (.there .here)))) ?_
       refine Shift.rem (.there (.there (.there (.there .here)))) ?_
       refine Shift.rem (.there (.there (.there (.there .here)))) ?_
       have hs1218 := (hs1209).mono hK1216
       have hs1219 := (hs1210).mono hK1216
       refine Shift.done ?_
       exact ⟨[(3, (.pointer (some ((⟨b321, 0, none⟩ : Addr).add 0)))), (5, (.pointer (some ((⟨b322, 0, none⟩ : Addr).add 0)))), (6, (.pointer (some ((⟨b323, 0, none⟩ : Addr).add 0)))), (9, (sv v1214)), (10, (.int .i64 i917)), (11, (.int .i64 i1158))], ⟨rfl, rfl, rfl, rfl, rfl, rfl, trivial⟩, _, Nat.lt_succ_self _, v1214, x1211, i1158, v1205, x1201.chans, v1206, x1201.waiting, x1201.tick, rfl, rfl, (hkk1171 ▸ H), hs1217, hs1218, hs1219⟩
     ·intro h1173
      have h1173 := dcd_f (h1173)
      have H := iff_ h1173 H
      refine Cw_exit ?_
      refine Shift.pull (.there (.there (.there .here))) ?_
      refine Shift.pull (.there (.there (.there .here))) ?_
      refine Shift.pull (.there (.there (.there .here))) ?_
      refine Shift.pull (.there (.there (.there .here))) ?_
      refine Shift.done ?_
      exact ⟨[(3, (.pointer (some ((⟨b321, 0, none⟩ : Addr).add 0)))), (5, (.pointer (some ((⟨b322, 0, none⟩ : Addr).add 0)))), (6, (.pointer (some ((⟨b323, 0, none⟩ : Addr).add 0)))), (9, (sv v1155)), (10, (.int .i64 i917))], ⟨rfl, rfl, rfl, rfl, rfl, trivial⟩, v1155, l1156, v1159, l1160, v1162, l1163, i1165, rfl, rfl, H, hs1157, hs1161, hs1164⟩
    rintro _ K1220 _ hK1221 ⟨v1049, l1050, v1052, l1053, v1055, l1056, i1058, rfl, rfl, H, hs1051, hs1054, hs1057⟩
    unfold M_157z at H
    refine Cw_region ?_
    refine Ow_q rfl rfl rfl (Qt_move rfl) ?_
    refine Ow_q rfl rfl rfl (Qt_arith (e := wI (i917 + 1)) rfl rfl rfl rfl) ?_
    refine Ow_q rfl rfl rfl (Qt_assign rfl) ?_
    refine Ow_nil ?_
    refine Shift.pull (.there (.there (.there .here))) ?_
    refine Shift.pull (.there (.there (.there .here))) ?_
    refine Shift.pull (.there (.there (.there .here))) ?_
    refine Shift.pull (.there (.there (.there .here))) ?_
    refine Shift.done ?_
    exact ⟨[(3, (.pointer (some ((⟨b321, 0, none⟩ : Addr).add 0)))), (5, (.pointer (some ((⟨b322, 0, none⟩ : Addr).add 0)))), (6, (.pointer (some ((⟨b323, 0, none⟩ : Addr).add 0)))), (9, (sv v1049)), (10, (.int .i64 (wI (i917 + 1))))], ⟨rfl, rfl, rfl, rfl, rfl, trivial⟩, _, Nat.lt_succ_self _, v1049, l1050, (wI (i917 + 1)), v1052, l1053, v1055, l1056, i1058, rfl, rfl, (hkk939 ▸ H), hs1051, hs1054, hs1057⟩
   ·intro h941
    have h941 := dcd_f (h941)
    have H := iff_ h941 H
    refine Cw_exit ?_
    refine Shift.pull (.there (.there (.there .here))) ?_
    refine Shift.pull (.there (.there (.there .here))) ?_
    refine Shift.pull (.there (.there .here)) ?_
    refine Shift.rem (.there (.there (.there .here))) ?_
    refine Shift.done ?_
    exact ⟨[(3, (.pointer (some ((⟨b321, 0, none⟩ : Addr).add 0)))), (6, (.pointer (some ((⟨b323, 0, none⟩ : Addr).add 0)))), (9, (sv v914))], ⟨rfl, rfl, rfl, trivial⟩, v914, l915, v918, l919, v921, l922, i924, rfl, rfl, H, hs916, hs920, hs923⟩
  rintro _ K1222 _ hK1223 ⟨v648, l649, v651, l652, v654, l655, i657, rfl, rfl, H, hs650, hs653, hs656⟩
  unfold M_108z at H
  refine Cw_seq ?_
  refine Cw_region ?_
  refine Ow_q rfl rfl rfl (Qt_loadA (m := 3) (cs := (Desk.cells (Desk.mk l652 l655 i657) v651 v654)) rfl rfl rfl rfl ⟨rfl, Rdc.blk (.tail _ (.head _)) rfl⟩) ?_
  refine Ow_q rfl rfl rfl (Qt_move rfl) ?_
  refine Ow_cons rfl (OpW_store (vs := (Desk.cells (Desk.mk l652 l655 i657) v651 v654)) (all' := (Desk.cells (Desk.mk l652 l655 i657) v651 v654)) rfl rfl rfl rfl rfl .here rfl rfl rfl ?_)
  refine Ow_q rfl rfl rfl (Qt_assign rfl) ?_
  refine Ow_nil ?_
  refine Cw_ret ?_
  obtain ⟨ey0, ey1⟩ := inj2 H
  subst y0 y1
  refine ⟨(by first | exact .inl rfl | exact .inr rfl), [(.agg (Desk.cells (Desk.mk l652 l655 i657) v651 v654).toArray), (sv v648)], ⟨(.agg (Desk.cells (Desk.mk l652 l655 i657) v651 v654).toArray), _, rfl, ⟨_, 3, (Desk.cells (Desk.mk l652 l655 i657) v651 v654), rfl, rfl, rfl, rfl, ⟨rfl, Rdc.blk (.head _) rfl⟩, rfl⟩, ⟨(sv v648), _, rfl, rfl, rfl⟩⟩, ?_⟩
  refine Shift.pull (.there (.there .here)) ?_
  refine Shift.rem (.there .here) ?_
  refine Shift.rem (.there .here) ?_
  refine Shift.done ?_
  exact ⟨v651, v654, v648, rfl, rfl, hs653, hs656, hs650⟩

set_option maxHeartbeats 1000000 in
theorem c_M_63z (p0 : Desk) (vp0_chans : SV) (vp0_waiting : SV) (p1 : Int) (p2 : Case) (y0 : Int) (H : M_63z p0 p1 p2 = some y0) (K : Kp) (G : List Ent) (hp0_chans : Slr TyChan K (sv vp0_chans) p0.chans) (hp0_waiting : Slr TyWaiter K (sv vp0_waiting) p0.waiting) :
  Fc Try.prog 42 #[(.agg (Desk.cells p0 vp0_chans vp0_waiting).toArray), (.int .i64 p1), (.agg (Case.cells p2).toArray)] K (G) (fun v K' G' => v = (.int .i64 y0) ∧ G = G') := by
 refine Fc_body Try.func42 rfl Try.ntmps42 Try.results42 rfl ?_
 unfold M_63z at H
 refine Cw_seq ?_
 refine Cw_region ?_
 refine Ow_cons rfl (OpW_box (cs := (Desk.cells p0 vp0_chans vp0_waiting)) rfl rfl rfl (fun b135 => ?_))
 refine Ow_cons rfl (OpW_box (cs := (Case.cells p2)) rfl rfl rfl (fun b136 => ?_))
 refine Ow_q rfl rfl rfl (Qt_assign rfl) ?_
 refine Ow_nil ?_
 refine Cw_seq ?_
 refine Cw_join (fun env' K' G' => ∃ (t141 : Bool), [(1, (.int .i64 p1)), (3, (.pointer (some ((⟨b135, 0, none⟩ : Addr).add 0)))), (5, (.pointer (some ((⟨b136, 0, none⟩ : Addr).add 0)))), (18, (.bool t141))] = env' ∧ K = K' ∧ (.blk b136 45 (Case.cells p2)) :: (.blk b135 34 (Desk.cells p0 vp0_chans vp0_waiting)) :: G = G' ∧ M_116z p1 p2 p0 t141 = some y0) ?_ ?_
 ·skip
  refine Cw_region ?_
  refine Ow_q rfl rfl rfl (Qt_fieldAddr (m := 1) rfl rfl rfl rfl rfl) ?_
  refine Ow_q rfl rfl rfl (Qt_load1 (v := (.int .i64 p2.channel)) rfl rfl rfl (Rdc.blk (.head _) rfl)) ?_
  refine Ow_q rfl rfl rfl (Qt_cmp rfl rfl rfl) ?_
  refine Ow_q rfl rfl rfl (Qt_move rfl) ?_
  refine Ow_caseG rfl rfl rfl ?_ ?_
  ·intro h142
   have h142 := dcd_t (h142)
   have H := ift h142 H
   refine Ow_pass rfl rfl rfl rfl rfl rfl rfl ?_
   refine Ow_pass rfl rfl rfl rfl rfl rfl rfl ?_
   refine Ow_pass rfl rfl rfl rfl rfl rfl rfl ?_
   refine Ow_pass rfl rfl rfl rfl rfl rfl rfl ?_
   refine Ow_pass rfl rfl rfl rfl rfl rfl rfl ?_
   refine Ow_pass rfl rfl rfl rfl rfl rfl rfl ?_
   refine Ow_q rfl rfl rfl (Qt_pick_t rfl rfl) ?_
   refine Ow_nil ?_
   refine Shift.pull (.there .here) ?_
   refine Shift.pull (.there .here) ?_
   refine Shift.done ?_
   exact ⟨[(1, (.int .i64 p1)), (3, (.pointer (some ((⟨b135, 0, none⟩ : Addr).add 0)))), (5, (.pointer (some ((⟨b136, 0, none⟩ : Addr).add 0)))), (18, (.bool true))], ⟨rfl, rfl, rfl, rfl, trivial⟩, true, rfl, rfl, rfl, H⟩
  ·intro h142
   have h142 := dcd_f (h142)
   have H := iff_ h142 H
   refine Ow_qw rfl rfl rfl rfl rfl rfl (Qt_fieldAddr (m := 1) rfl rfl rfl rfl rfl) ?_
   refine Ow_qw rfl rfl rfl rfl rfl rfl (Qt_load1 (v := (.int .i64 p2.channel)) rfl rfl rfl (Rdc.blk (.head _) rfl)) ?_
   refine Ow_qw rfl rfl rfl rfl rfl rfl (Qt_fieldAddr (m := 0) rfl rfl rfl rfl rfl) ?_
   refine Ow_qw rfl rfl rfl rfl rfl rfl (Qt_load1 (v := (sv vp0_chans)) rfl rfl rfl (Rdc.blk (.tail _ (.head _)) rfl)) ?_
   refine Ow_qw rfl rfl rfl rfl rfl rfl (Q_len (T := TyChan) hp0_chans rfl rfl) ?_
   refine Ow_qw rfl rfl rfl rfl rfl rfl (Qt_cmp rfl rfl rfl) ?_
   refine Ow_q rfl rfl rfl (Qt_pick_f rfl rfl) ?_
   refine Ow_nil ?_
   refine Shift.pull (.there .here) ?_
   refine Shift.pull (.there .here) ?_
   refine Shift.done ?_
   exact ⟨[(1, (.int .i64 p1)), (3, (.pointer (some ((⟨b135, 0, none⟩ : Addr).add 0)))), (5, (.pointer (some ((⟨b136, 0, none⟩ : Addr).add 0)))), (18, (.bool (dcd (p2.channel ≥ (p0.chans.length : Int)))))], ⟨rfl, rfl, rfl, rfl, trivial⟩, (dcd (p2.channel ≥ (p0.chans.length : Int))), rfl, rfl, rfl, H⟩
 rintro _ _ _ - ⟨t141, rfl, rfl, rfl, H⟩
 unfold M_116z at H
 refine Cw_cond rfl ?_ ?_
 ·intro h143
  have H := ift h143 H
  refine Cw_seq ?_
  refine Cw_region ?_
  refine Ow_q rfl rfl rfl (Qt_assign rfl) ?_
  refine Ow_nil ?_
  refine Cw_ret ?_
  obtain ey0 := inj1 H
  subst y0
  refine ⟨(by first | exact .inl rfl | exact .inr rfl), [(.int .i64 (-1))], ⟨(.int .i64 (-1)), _, rfl, rfl, rfl⟩, ?_⟩
  refine Shift.rem .here ?_
  refine Shift.rem .here ?_
  refine Shift.done ?_
  exact ⟨rfl, rfl⟩
 ·intro h143
  have H := iff_ (btf h143) H
  refine Cw_skip ?_
  refine Cw_join (fun env' K' G' => [] = env' ∧ G = G' ∧ M_174z = some y0) ?_ ?_
  ·skip
   refine Cw_seq ?_
   refine Cw_region ?_
   refine Ow_q rfl rfl rfl (Qt_assign rfl) ?_
   refine Ow_nil ?_
   refine Cw_block ?_
   refine Cw_loopM (fun n364 env' K' G' => ∃ (i363 : Int), [(1, (.int .i64 p1)), (3, (.pointer (some ((⟨b135, 0, none⟩ : Addr).add 0)))), (5, (.pointer (some ((⟨b136, 0, none⟩ : Addr).add 0)))), (7, (.int .i64 i363))] = env' ∧ (.blk b136 45 (Case.cells p2)) :: (.blk b135 34 (Desk.cells p0 vp0_chans vp0_waiting)) :: G = G' ∧ lp1 (M_115z p1 p2 p0) n364 i363 = some y0) BIG ?_ ?_
   ·skip
    refine Shift.pull (.there .here) ?_
    refine Shift.pull (.there .here) ?_
    refine Shift.done ?_
    exact ⟨[(1, (.int .i64 p1)), (3, (.pointer (some ((⟨b135, 0, none⟩ : Addr).add 0)))), (5, (.pointer (some ((⟨b136, 0, none⟩ : Addr).add 0)))), (7, (.int .i64 0))], ⟨rfl, rfl, rfl, rfl, trivial⟩, 0, rfl, rfl, H⟩
   rintro n364 _ K365 _ hK366 ⟨i363, rfl, rfl, H⟩
   obtain ⟨m367, k368, rfl, hkk369, H⟩ := lps1 H
   unfold M_115z at H
   refine Cw_seq ?_
   refine Cw_seq ?_
   refine Cw_region ?_
   refine Ow_q rfl rfl rfl (Qt_move rfl) ?_
   refine Ow_q rfl rfl rfl (Qt_fieldAddr (m := 1) rfl rfl rfl rfl rfl) ?_
   refine Ow_q rfl rfl rfl (Qt_load1 (v := (sv vp0_waiting)) rfl rfl rfl (Rdc.blk (.tail _ (.head _)) rfl)) ?_
   have hs372 := (hp0_waiting).mono hK366
   refine Ow_q rfl rfl rfl (Q_len (T := TyWaiter) hs372 rfl rfl) ?_
   refine Ow_q rfl rfl rfl (Qt_cmp rfl rfl rfl) ?_
   refine Ow_nil ?_
   refine Cw_cond rfl ?_ ?_
   ·intro h373
    have h373 := dcd_t (h373)
    have H := ift h373 H
    refine Cw_skip ?_
    refine Cw_seq ?_
    refine Cw_block ?_
    refine Cw_join (fun env' K' G' => ∃ (t470 : Bool), [(1, (.int .i64 p1)), (3, (.pointer (some ((⟨b135, 0, none⟩ : Addr).add 0)))), (5, (.pointer (some ((⟨b136, 0, none⟩ : Addr).add 0)))), (7, (.int .i64 i363)), (48, (.bool t470))] = env' ∧ (.blk b136 45 (Case.cells p2)) :: (.blk b135 34 (Desk.cells p0 vp0_chans vp0_waiting)) :: G = G' ∧ M_114z p1 i363 p2 p0 k368 t470 = some y0) ?_ ?_
    ·skip
     obtain ⟨x471, hx472, H⟩ := bnd H
     rcases bool_ct (!(dcd (x471.thread = p1))) with hb_ | hb_ <;> revert hb_
     ·intro h480
      have h480 := dcd_f (nt_t (h480))
      have H := iff_ h480 H
      obtain ⟨x481, hx482, H⟩ := bnd H
      obtain ⟨x490, hx491, H⟩ := bnd H
      refine Cw_region_any [.blk b136 45 (Case.cells p2), .blk b135 34 (Desk.cells p0 vp0_chans vp0_waiting)] rfl (Inc.cons (.head _) (Inc.cons (.tail _ (.head _)) Inc.nil)) ?_
      refine Aw_q 0 rfl (by kernel_rfl) (by kernel_rfl) (by kernel_rfl) rfl rfl rfl (Qt_fieldAddr (m := 1) rfl rfl rfl rfl rfl) ?_
      refine Aw_q 1 rfl (by kernel_rfl) (by kernel_rfl) (by kernel_rfl) rfl rfl rfl (Qt_load1 (v := (sv vp0_waiting)) rfl rfl rfl (Rdc.blk (.tail _ (.head _)) rfl)) ?_
      refine Aw_q 2 rfl (by kernel_rfl) (by kernel_rfl) (by kernel_rfl) rfl rfl rfl (Qt_move rfl) ?_
      obtain ⟨r494, hr495, hk496⟩ := Slr.at hs372 hx472
      obtain ⟨v497, v498, rfl, hs499, hs500⟩ := hr495
      refine Aw_q 3 rfl (by kernel_rfl) (by kernel_rfl) (by kernel_rfl) rfl rfl rfl (Q_ix (T := TyWaiter) hs372 hx472 rfl rfl rfl rfl rfl) ?_
      refine Aw_q 4 rfl (by kernel_rfl) (by kernel_rfl) (by kernel_rfl) rfl rfl rfl (Qt_fieldAddr (m := 0) rfl rfl rfl rfl rfl) ?_
      refine Aw_q 5 rfl (by kernel_rfl) (by kernel_rfl) (by kernel_rfl) rfl rfl rfl (Qt_load1 (v := (.int .i64 x471.thread)) rfl rfl rfl (Rdc.k hk496 rfl)) ?_
      refine Aw_q 6 rfl (by kernel_rfl) (by kernel_rfl) (by kernel_rfl) rfl rfl rfl (Qt_move rfl) ?_
      refine Aw_q 7 rfl (by kernel_rfl) (by kernel_rfl) (by kernel_rfl) rfl rfl rfl (Qt_cmp rfl rfl rfl) ?_
      refine Aw_q 8 rfl (by kernel_rfl) (by kernel_rfl) (by kernel_rfl) rfl rfl rfl (Qt_move rfl) ?_
      refine Aw.known (d := 34) rfl (nt_mt (dcd_neg h480)) ?_
      refine Aw_qw 9 rfl (by kernel_rfl) (by kernel_rfl) (by kernel_rfl) rfl rfl rfl rfl rfl rfl (Qt_fieldAddr (m := 1) rfl rfl rfl rfl rfl) ?_
      refine Aw_qw 10 rfl (by kernel_rfl) (by kernel_rfl) (by kernel_rfl) rfl rfl rfl rfl rfl rfl (Qt_load1 (v := (sv vp0_waiting)) rfl rfl rfl (Rdc.blk (.tail _ (.head _)) rfl)) ?_
      refine Aw_qw 11 rfl (by kernel_rfl) (by kernel_rfl) (by kernel_rfl) rfl rfl rfl rfl rfl rfl (Qt_move rfl) ?_
      obtain ⟨r501, hr502, hk503⟩ := Slr.at hs372 hx482
      obtain ⟨v504, v505, rfl, hs506, hs507⟩ := hr502
      refine Aw_qw 12 rfl (by kernel_rfl) (by kernel_rfl) (by kernel_rfl) rfl rfl rfl rfl rfl rfl (Q_ix (T := TyWaiter) hs372 hx482 rfl rfl rfl rfl rfl) ?_
      refine Aw_qw 13 rfl (by kernel_rfl) (by kernel_rfl) (by kernel_rfl) rfl rfl rfl rfl rfl rfl (Qt_fieldAddr (m := 1) rfl rfl rfl rfl rfl) ?_
      refine Aw_qw 14 rfl (by kernel_rfl) (by kernel_rfl) (by kernel_rfl) rfl rfl rfl rfl rfl rfl (Qt_loadA (m := 7) (cs := (Op.cells x481.op v504 v505)) rfl rfl rfl rfl ⟨rfl, Rdc.k hk503 rfl⟩) ?_
      refine Aw_qw 15 rfl (by kernel_rfl) (by kernel_rfl) (by kernel_rfl) rfl rfl rfl rfl rfl rfl (Qt_fieldAddr (m := 1) rfl rfl rfl rfl rfl) ?_
      refine Aw_qw 16 rfl (by kernel_rfl) (by kernel_rfl) (by kernel_rfl) rfl rfl rfl rfl rfl rfl (Qt_load1 (v := (.int .i64 p2.channel)) rfl rfl rfl (Rdc.blk (.head _) rfl)) ?_
      refine Aw_qw 17 rfl (by kernel_rfl) (by kernel_rfl) (by kernel_rfl) rfl rfl rfl rfl rfl rfl (Qt_fieldAddr (m := 0) rfl rfl rfl rfl rfl) ?_
      refine Aw_qw 18 rfl (by kernel_rfl) (by kernel_rfl) (by kernel_rfl) rfl rfl rfl rfl rfl rfl (Qt_load1 (v := (.bool p2.send)) rfl rfl rfl (Rdc.blk (.head _) rfl)) ?_
      refine Aw_qw 19 rfl (by kernel_rfl) (by kernel_rfl) (by kernel_rfl) rfl rfl rfl rfl rfl rfl (Qt_not rfl) ?_
      refine Aw_one 20 (by kernel_rfl) (Ax_mkw rfl rfl rfl rfl rfl ?_)
      refine OpW_call rfl Try.call72 rfl rfl (c_M_18z x481.op v504 v505 p2.channel (!(p2.send)) x490 hx491 _ _ hs506 hs507) ?_
      rintro _ K508 _ hK509 ⟨rfl, rfl⟩
      refine ⟨(Inc.cons (.head _) (Inc.cons (.tail _ (.head _)) Inc.nil)), ?_⟩
      refine Aw_qw 21 rfl (by kernel_rfl) (by kernel_rfl) (by kernel_rfl) rfl rfl rfl rfl rfl rfl (Qt_cmp rfl rfl rfl) ?_
      refine Aw_q 22 rfl (by kernel_rfl) (by kernel_rfl) (by kernel_rfl) rfl rfl rfl (Qt_pick_t rfl rfl) ?_
      refine Aw_done (by kernel_rfl) ?_
      refine Shift.pull (.there .here) ?_
      refine Shift.pull (.there .here) ?_
      refine Shift.done ?_
      exact ⟨[(1, (.int .i64 p1)), (3, (.pointer (some ((⟨b135, 0, none⟩ : Addr).add 0)))), (5, (.pointer (some ((⟨b136, 0, none⟩ : Addr).add 0)))), (7, (.int .i64 i363)), (48, (.bool (dcd (x490 ≥ 0))))], ⟨rfl, rfl, rfl, rfl, rfl, trivial⟩, (dcd (x490 ≥ 0)), rfl, rfl, H⟩
     ·intro h480
      have h480 := dcd_t (nt_f (h480))
      have H := ift h480 H
      refine Cw_region_any [.blk b136 45 (Case.cells p2), .blk b135 34 (Desk.cells p0 vp0_chans vp0_waiting)] rfl (Inc.cons (.head _) (Inc.cons (.tail _ (.head _)) Inc.nil)) ?_
      refine Aw_q 0 rfl (by kernel_rfl) (by kernel_rfl) (by kernel_rfl) rfl rfl rfl (Qt_fieldAddr (m := 1) rfl rfl rfl rfl rfl) ?_
      refine Aw_q 1 rfl (by kernel_rfl) (by kernel_rfl) (by kernel_rfl) rfl rfl rfl (Qt_load1 (v := (sv vp0_waiting)) rfl rfl rfl (Rdc.blk (.tail _ (.head _)) rfl)) ?_
      refine Aw_q 2 rfl (by kernel_rfl) (by kernel_rfl) (by kernel_rfl) rfl rfl rfl (Qt_move rfl) ?_
      obtain ⟨r510, hr511, hk512⟩ := Slr.at hs372 hx472
      obtain ⟨v513, v514, rfl, hs515, hs516⟩ := hr511
      refine Aw_q 3 rfl (by kernel_rfl) (by kernel_rfl) (by kernel_rfl) rfl rfl rfl (Q_ix (T := TyWaiter) hs372 hx472 rfl rfl rfl rfl rfl) ?_
      refine Aw_q 4 rfl (by kernel_rfl) (by kernel_rfl) (by kernel_rfl) rfl rfl rfl (Qt_fieldAddr (m := 0) rfl rfl rfl rfl rfl) ?_
      refine Aw_q 5 rfl (by kernel_rfl) (by kernel_rfl) (by kernel_rfl) rfl rfl rfl (Qt_load1 (v := (.int .i64 x471.thread)) rfl rfl rfl (Rdc.k hk512 rfl)) ?_
      refine Aw_q 6 rfl (by kernel_rfl) (by kernel_rfl) (by kernel_rfl) rfl rfl rfl (Qt_move rfl) ?_
      refine Aw_q 7 rfl (by kernel_rfl) (by kernel_rfl) (by kernel_rfl) rfl rfl rfl (Qt_cmp rfl rfl rfl) ?_
      refine Aw_q 8 rfl (by kernel_rfl) (by kernel_rfl) (by kernel_rfl) rfl rfl rfl (Qt_move rfl) ?_
      refine Aw.known (d := 34) rfl (nt_mf (dcd_pos h480)) ?_
      refine Aw_pass 9 rfl (by kernel_rfl) (by kernel_rfl) (by kernel_rfl) rfl rfl rfl rfl rfl rfl rfl ?_
      refine Aw_pass 10 rfl (by kernel_rfl) (by kernel_rfl) (by kernel_rfl) rfl rfl rfl rfl rfl rfl rfl ?_
      refine Aw_pass 11 rfl (by kernel_rfl) (by kernel_rfl) (by kernel_rfl) rfl rfl rfl rfl rfl rfl rfl ?_
      refine Aw_pass 12 rfl (by kernel_rfl) (by kernel_rfl) (by kernel_rfl) rfl rfl rfl rfl rfl rfl rfl ?_
      refine Aw_pass 13 rfl (by kernel_rfl) (by kernel_rfl) (by kernel_rfl) rfl rfl rfl rfl rfl rfl rfl ?_
      refine Aw_pass 14 rfl (by kernel_rfl) (by kernel_rfl) (by kernel_rfl) rfl rfl rfl rfl rfl rfl rfl ?_
      refine Aw_pass 15 rfl (by kernel_rfl) (by kernel_rfl) (by kernel_rfl) rfl rfl rfl rfl rfl rfl rfl ?_
      refine Aw_pass 16 rfl (by kernel_rfl) (by kernel_rfl) (by kernel_rfl) rfl rfl rfl rfl rfl rfl rfl ?_
      refine Aw_pass 17 rfl (by kernel_rfl) (by kernel_rfl) (by kernel_rfl) rfl rfl rfl rfl rfl rfl rfl ?_
      refine Aw_pass 18 rfl (by kernel_rfl) (by kernel_rfl) (by kernel_rfl) rfl rfl rfl rfl rfl rfl rfl ?_
      refine Aw_pass 19 rfl (by kernel_rfl) (by kernel_rfl) (by kernel_rfl) rfl rfl rfl rfl rfl rfl rfl ?_
      refine Aw_pass 20 rfl (by kernel_rfl) (by kernel_rfl) (by kernel_rfl) rfl rfl rfl rfl rfl rfl rfl ?_
      refine Aw_pass 21 rfl (by kernel_rfl) (by kernel_rfl) (by kernel_rfl) rfl rfl rfl rfl rfl rfl rfl ?_
      refine Aw_q 22 rfl (by kernel_rfl) (by kernel_rfl) (by kernel_rfl) rfl rfl rfl (Qt_pick_f rfl rfl) ?_
      refine Aw_done (by kernel_rfl) ?_
      refine Shift.pull (.there .here) ?_
      refine Shift.pull (.there .here) ?_
      refine Shift.done ?_
      exact ⟨[(1, (.int .i64 p1)), (3, (.pointer (some ((⟨b135, 0, none⟩ : Addr).add 0)))), (5, (.pointer (some ((⟨b136, 0, none⟩ : Addr).add 0)))), (7, (.int .i64 i363)), (48, (.bool false))], ⟨rfl, rfl, rfl, rfl, rfl, trivial⟩, false, rfl, rfl, H⟩
    rintro _ K517 _ hK518 ⟨t470, rfl, rfl, H⟩
    unfold M_114z at H
    refine Cw_cond rfl ?_ ?_
    ·intro h519
     have H := ift h519 H
     refine Cw_seq ?_
     refine Cw_region ?_
     refine Ow_q rfl rfl rfl (Qt_move rfl) ?_
     refine Ow_q rfl rfl rfl (Qt_assign rfl) ?_
     refine Ow_nil ?_
     refine Cw_ret ?_
     obtain ey0 := inj1 H
     subst y0
     refine ⟨(by first | exact .inl rfl | exact .inr rfl), [(.int .i64 i363)], ⟨(.int .i64 i363), _, rfl, rfl, rfl⟩, ?_⟩
     refine Shift.rem .here ?_
     refine Shift.rem .here ?_
     refine Shift.done ?_
     exact ⟨rfl, rfl⟩
    ·intro h519
     have H := iff_ (btf h519) H
     refine Cw_skip ?_
     refine Cw_region ?_
     refine Ow_q rfl rfl rfl (Qt_move rfl) ?_
     refine Ow_q rfl rfl rfl (Qt_arith (e := wI (i363 + 1)) rfl rfl rfl rfl) ?_
     refine Ow_q rfl rfl rfl (Qt_assign rfl) ?_
     refine Ow_nil ?_
     refine Shift.pull (.there .here) ?_
     refine Shift.pull (.there .here) ?_
     refine Shift.done ?_
     exact ⟨[(1, (.int .i64 p1)), (3, (.pointer (some ((⟨b135, 0, none⟩ : Addr).add 0)))), (5, (.pointer (some ((⟨b136, 0, none⟩ : Addr).add 0)))), (7, (.int .i64 (wI (i363 + 1))))], ⟨rfl, rfl, rfl, rfl, trivial⟩, _, Nat.lt_succ_self _, (wI (i363 + 1)), rfl, rfl, (hkk369 ▸ H)⟩
   ·intro h373
    have h373 := dcd_f (h373)
    have H := iff_ h373 H
    refine Cw_exit ?_
    refine Shift.rem .here ?_
    refine Shift.rem .here ?_
    refine Shift.done ?_
    exact ⟨[], trivial, rfl, rfl, H⟩
  rintro _ K520 _ hK521 ⟨rfl, rfl, H⟩
  unfold M_174z at H
  refine Cw_seq ?_
  refine Cw_region ?_
  refine Ow_q rfl rfl rfl (Qt_assign rfl) ?_
  refine Ow_nil ?_
  refine Cw_ret ?_
  obtain ey0 := inj1 H
  subst y0
  refine ⟨(by first | exact .inl rfl | exact .inr rfl), [(.int .i64 (-1))], ⟨(.int .i64 (-1)), _, rfl, rfl, rfl⟩, ?_⟩
  refine Shift.done ?_
  exact ⟨rfl, rfl⟩

set_option maxHeartbeats 1000000 in
theorem c_M_6z (p0 : Desk) (vp0_chans : SV) (vp0_waiting : SV) (p1 : Int) (p2 : Case) (y0 : Bool) (H : M_6z p0 p1 p2 = some y0) (K : Kp) (G : List Ent) (hp0_chans : Slr TyChan K (sv vp0_chans) p0.chans) (hp0_waiting : Slr TyWaiter K (sv vp0_waiting) p0.waiting) :
  Fc Try.prog 17 #[(.agg (Desk.cells p0 vp0_chans vp0_waiting).toArray), (.int .i64 p1), (.agg (Case.cells p2).toArray)] K (G) (fun v K' G' => v = (.bool y0) ∧ G = G') := by
 refine Fc_body Try.func17 rfl Try.ntmps17 Try.results17 rfl ?_
 unfold M_6z at H
 refine Cw_seq ?_
 refine Cw_region ?_
 refine Ow_cons rfl (OpW_box (cs := (Desk.cells p0 vp0_chans vp0_waiting)) rfl rfl rfl (fun b10 => ?_))
 refine Ow_cons rfl (OpW_box (cs := (Case.cells p2)) rfl rfl rfl (fun b11 => ?_))
 refine Ow_q rfl rfl rfl (Qt_assign rfl) ?_
 refine Ow_nil ?_
 refine Cw_seq ?_
 refine Cw_region ?_
 refine Ow_q rfl rfl rfl (Qt_fieldAddr (m := 0) rfl rfl rfl rfl rfl) ?_
 refine Ow_q rfl rfl rfl (Qt_load1 (v := (sv vp0_chans)) rfl rfl rfl (Rdc.blk (.tail _ (.head _)) rfl)) ?_
 refine Ow_q rfl rfl rfl (Qt_loadA (m := 3) (cs := (Case.cells p2)) rfl rfl rfl rfl ⟨rfl, Rdc.blk (.head _) rfl⟩) ?_
 obtain ⟨x19, hx20, H⟩ := bnd H
 refine Ow_cons rfl (OpW_call rfl Try.call41 rfl rfl (c_M_113z p0.chans vp0_chans p2 x19 hx20 _ _ hp0_chans) ?_)
 rintro _ _ _ - ⟨rfl, rfl, rfl⟩
 refine Ow_q rfl rfl rfl (Qt_move rfl) ?_
 refine Ow_caseG rfl rfl rfl ?_ ?_
 ·intro h21
  have H := ift h21 H
  refine Ow_pass rfl rfl rfl rfl rfl rfl rfl ?_
  refine Ow_pass rfl rfl rfl rfl rfl rfl rfl ?_
  refine Ow_pass rfl rfl rfl rfl rfl rfl rfl ?_
  refine Ow_pass rfl rfl rfl rfl rfl rfl rfl ?_
  refine Ow_pass rfl rfl rfl rfl rfl rfl rfl ?_
  refine Ow_q rfl rfl rfl (Qt_pick_t rfl rfl) ?_
  refine Ow_q rfl rfl rfl (Qt_assign rfl) ?_
  refine Ow_nil ?_
  refine Cw_ret ?_
  obtain ey0 := inj1 H
  subst y0
  refine ⟨(by first | exact .inl rfl | exact .inr rfl), [(.bool true)], ⟨(.bool true), _, rfl, rfl, rfl⟩, ?_⟩
  refine Shift.rem .here ?_
  refine Shift.rem .here ?_
  refine Shift.done ?_
  exact ⟨rfl, rfl⟩
 ·intro h21
  have H := iff_ (btf h21) H
  refine Ow_qw rfl rfl rfl rfl rfl rfl (Qt_loadA (m := 3) (cs := (Desk.cells p0 vp0_chans vp0_waiting)) rfl rfl rfl rfl ⟨rfl, Rdc.blk (.tail _ (.head _)) rfl⟩) ?_
  refine Ow_qw rfl rfl rfl rfl rfl rfl (Qt_move rfl) ?_
  refine Ow_qw rfl rfl rfl rfl rfl rfl (Qt_loadA (m := 3) (cs := (Case.cells p2)) rfl rfl rfl rfl ⟨rfl, Rdc.blk (.head _) rfl⟩) ?_
  obtain ⟨x22, hx23, H⟩ := bnd H
  refine Ow_want rfl rfl rfl rfl (OpW_call rfl Try.call42 rfl rfl (c_M_63z p0 vp0_chans vp0_waiting p1 p2 x22 hx23 _ _ hp0_chans hp0_waiting) ?_)
  rintro _ K24 _ hK25 ⟨rfl, rfl⟩
  refine Ow_qw rfl rfl rfl rfl rfl rfl (Qt_cmp rfl rfl rfl) ?_
  refine Ow_q rfl rfl rfl (Qt_pick_f rfl rfl) ?_
  refine Ow_q rfl rfl rfl (Qt_assign rfl) ?_
  refine Ow_nil ?_
  refine Cw_ret ?_
  obtain ey0 := inj1 H
  subst y0
  refine ⟨(by first | exact .inl rfl | exact .inr rfl), [(.bool (dcd (x22 ≥ 0)))], ⟨(.bool (dcd (x22 ≥ 0))), _, rfl, rfl, rfl⟩, ?_⟩
  refine Shift.rem .here ?_
  refine Shift.rem .here ?_
  refine Shift.done ?_
  exact ⟨rfl, rfl⟩



end Go.Hx
