/- Printed by program. -/
import Derived.Test.YthokebmjjkjjfaaXDM
namespace Go.Hx
open Go Go.Proofs
set_option linter.unusedSimpArgs false
set_option linter.unusedVariables false
set_option maxRecDepth 10000
set_option maxHeartbeats 1000000 in
theorem c_M_93z (p0 : Config) (vp0_capacities : SV) (vp0_starts : SV) (y0 : List Chan) (H : M_93z p0 = some y0) (K : Kp) (G : List Ent) (hp0_capacities : Slr Ty.i64 K (sv vp0_capacities) p0.capacities) (hp0_starts : Slr Ty.u64 K (sv vp0_starts) p0.starts) :
  Fc Try.prog 56 #[(.agg (Config.cells p0 vp0_capacities vp0_starts).toArray)] K (G) (fun v K' G' => ∃ (wy0 : SV), v = (sv wy0) ∧ (.tok 71 3 [(sv wy0)]) :: G = G' ∧ Slr TyChan K' (sv wy0) y0) := by
 refine Fc_body Try.func56 rfl Try.ntmps56 Try.results56 rfl ?_
 unfold M_93z at H
 refine Cw_seq ?_
 refine Cw_region ?_
 refine Ow_cons rfl (OpW_box (cs := (Config.cells p0 vp0_capacities vp0_starts)) rfl rfl rfl (fun b49 => ?_))
 refine Ow_q rfl rfl rfl (Qt_assign rfl) ?_
 refine Ow_nil ?_
 refine Cw_seq ?_
 refine Cw_region ?_
 refine Ow_q rfl rfl rfl (Qt_assign rfl) ?_
 refine Ow_nil ?_
 refine Cw_join (fun env' K' G' => ∃ (v92 : SV) (l93 : List Chan), [(3, (sv v92))] = env' ∧ (.tok 71 3 [(sv v92)]) :: G = G' ∧ M_203z l93 = some y0 ∧ Slr TyChan K' (sv v92) l93) ?_ ?_
 ·skip
  refine Cw_seq ?_
  refine Cw_region ?_
  refine Ow_q rfl rfl rfl (Qt_fieldAddr (m := 0) rfl rfl rfl rfl rfl) ?_
  refine Ow_q rfl rfl rfl (Qt_load1 (v := (sv vp0_capacities)) rfl rfl rfl (Rdc.blk (.head _) rfl)) ?_
  refine Ow_q rfl rfl rfl (Q_len (T := Ty.i64) hp0_capacities rfl rfl) ?_
  refine Ow_q rfl rfl rfl (Qt_move rfl) ?_
  refine Ow_nil ?_
  refine Cw_block ?_
  refine Cw_loopM (fun n137 env' K' G' => ∃ (v133 : SV) (l134 : List Chan) (i136 : Int), [(3, (sv v133)), (7, (sv vp0_capacities)), (8, (.int .i64 (p0.capacities.length : Int))), (9, (.int .i64 i136))] = env' ∧ (.tok 71 3 [(sv v133)]) :: G = G' ∧ lp2 (M_92z p0) n137 l134 i136 = some y0 ∧ Slr TyChan K' (sv v133) l134) BIG ?_ ?_
  ·skip
   refine Shift.nilTok1 71 3 ?_
   refine Re1 ?_
   refine Shift.done ?_
   exact ⟨_, by exact ⟨rfl, rfl, rfl, rfl, trivial⟩, nilS, ([] : List Chan), 0, rfl, rfl, H, (Slr.nil TyChan _)⟩
  rintro n137 _ K138 _ hK139 ⟨v133, l134, i136, rfl, rfl, H, hs135⟩
  obtain ⟨m140, k141, rfl, hkk142, H⟩ := lps2 H
  unfold M_92z at H
  refine Cw_seq ?_
  refine Cw_region ?_
  refine Ow_q rfl rfl rfl (Qt_cmp rfl rfl rfl) ?_
  refine Ow_nil ?_
  refine Cw_seq ?_
  refine Cw_cond rfl ?_ ?_
  ·intro h144
   have h144 := dcd_t (h144)
   have H := ift h144 H
   refine Cw_skip ?_
   refine Cw_seq ?_
   refine Cw_block ?_
   refine Cw_seq ?_
   refine Cw_region ?_
   obtain ⟨x159, hx160, H⟩ := bnd H
   have hs161 := (hp0_capacities).mono hK139
   obtain ⟨r162, hr163, hk164⟩ := Slr.at hs161 hx160
   obtain rfl := hr163
   refine Ow_q rfl rfl rfl (Q_ix (T := Ty.i64) hs161 hx160 rfl rfl rfl rfl rfl) ?_
   refine Ow_q rfl rfl rfl (Qt_load1 (v := (.int .i64 x159)) rfl rfl rfl (Rdc.k hk164 rfl)) ?_
   refine Ow_q rfl rfl rfl (Qt_assign rfl) ?_
   refine Ow_nil ?_
   refine Cw_region ?_
   refine Ow_q rfl rfl rfl (Qt_move rfl) ?_
   refine Ow_q rfl rfl rfl (Qt_move rfl) ?_
   refine Ow_q rfl rfl rfl (Qt_build (cs := (Chan.cells (Chan.mk x159 [] false) nilS)) rfl rfl rfl rfl rfl rfl) ?_
   have hR166 : RowR TyChan K138 [(Chan.cells (Chan.mk x159 [] false) nilS)] [(Chan.mk x159 [] false)] := RowR.cons ⟨nilS, rfl, (Slr.nil Ty.u64 _)⟩ (RowR.nil)
   refine Ow_cons rfl (O_lit (T := TyChan) (rows := [(Chan.cells (Chan.mk x159 [] false) nilS)]) (l := [(Chan.mk x159 [] false)]) rfl rfl rfl hR166 rfl rfl rfl rfl rfl rfl rfl rfl (fun v165 => ?_))
   obtain ⟨x167, hx168, H⟩ := bnd H
   refine Ow_cons rfl (O_appTok (T := TyChan) (bytes := 40) (q := 0) rfl rfl rfl hs135 (.tail _ (.head _)) rfl (SrcT.row (.head _) hR166 rfl) hx168 rfl rfl rfl rfl rfl rfl rfl rfl (fun v169 K170 hK171 hs172 => ⟨_, (.there .here), ?_⟩))
   refine Ow.shift (Re0 (Shift.done ?_))
   refine Ow_q rfl rfl rfl (Qt_assign rfl) ?_
   refine Ow_nil ?_
   refine Cw_region ?_
   refine Ow_q rfl rfl rfl (Qt_arith (e := wI (i136 + 1)) rfl rfl rfl rfl) ?_
   refine Ow_q rfl rfl rfl (Qt_move rfl) ?_
   refine Ow_nil ?_
   refine Shift.done ?_
   exact ⟨_, by exact ⟨rfl, rfl, rfl, rfl, trivial⟩, _, Nat.lt_succ_self _, v169, x167, (wI (i136 + 1)), rfl, rfl, (hkk142 ▸ H), hs172⟩
  ·intro h144
   have h144 := dcd_f (h144)
   have H := iff_ h144 H
   refine Cw_exit ?_
   refine Shift.done ?_
   exact ⟨_, by exact ⟨rfl, trivial⟩, v133, l134, rfl, rfl, H, hs135⟩
 rintro _ K173 _ hK174 ⟨v92, l93, rfl, rfl, H, hs94⟩
 unfold M_203z at H
 refine Cw_seq ?_
 refine Cw_region ?_
 refine Ow_q rfl rfl rfl (Qt_move rfl) ?_
 refine Ow_q rfl rfl rfl (Qt_assign rfl) ?_
 refine Ow_nil ?_
 refine Cw_ret ?_
 obtain ey0 := inj1 H
 subst y0
 refine ⟨(by first | exact .inl rfl | exact .inr rfl), [(sv v92)], ⟨(sv v92), _, rfl, rfl, rfl⟩, ?_⟩
 refine Shift.done ?_
 exact ⟨v92, rfl, rfl, hs94⟩

set_option maxHeartbeats 1000000 in
theorem c_M_61z (p0 : List Chan) (vp0 : SV) (p1 : Int) (y0 : Chan) (y1 : Bool) (H : M_61z p0 p1 = some (y0, y1)) (K : Kp) (G : List Ent) (hp0 : Slr TyChan K (sv vp0) p0) :
  Fc Try.prog 67 #[(sv vp0), (.int .i64 p1)] K (G) (fun v K' G' => ∃ (wy0_buffer : SV), v = (.tuple #[(.agg (Chan.cells y0 wy0_buffer).toArray), (.bool y1)]) ∧ K = K' ∧ G = G' ∧ Slr Ty.u64 K' (sv wy0_buffer) y0.buffer) := by
 refine Fc_body Try.func67 rfl Try.ntmps67 Try.results67 rfl ?_
 unfold M_61z at H
 refine Cw_seq ?_
 refine Cw_region ?_
 refine Ow_cons rfl (OpW_alloc (cs := (Chan.cells (Chan.mk 0 [] false) nilS)) rfl rfl rfl rfl (fun b14 => ?_))
 refine Ow_q rfl rfl rfl (Qt_assign rfl) ?_
 refine Ow_nil ?_
 refine Cw_seq ?_
 refine Cw_join (fun env' K' G' => ∃ (i21 : Int) (t22 : Bool) (i23 : Int), [(0, (sv vp0)), (1, (.int .i64 i21)), (4, (.pointer (some ((⟨b14, 0, none⟩ : Addr).add 0)))), (13, (.bool t22))] = env' ∧ K = K' ∧ (.blk b14 71 (Chan.cells (Chan.mk i23 [] false) nilS)) :: G = G' ∧ M_60z p0 i21 t22 i23 = some (y0, y1)) ?_ ?_
 ·skip
  refine Cw_region ?_
  refine Ow_q rfl rfl rfl (Qt_move rfl) ?_
  refine Ow_q rfl rfl rfl (Qt_cmp rfl rfl rfl) ?_
  refine Ow_q rfl rfl rfl (Qt_move rfl) ?_
  refine Ow_caseG rfl rfl rfl ?_ ?_
  ·intro h24
   have h24 := dcd_t (h24)
   have H := ift h24 H
   refine Ow_pass rfl rfl rfl rfl rfl rfl rfl ?_
   refine Ow_pass rfl rfl rfl rfl rfl rfl rfl ?_
   refine Ow_pass rfl rfl rfl rfl rfl rfl rfl ?_
   refine Ow_pass rfl rfl rfl rfl rfl rfl rfl ?_
   refine Ow_q rfl rfl rfl (Qt_pick_t rfl rfl) ?_
   refine Ow_nil ?_
   refine Shift.done ?_
   exact ⟨_, by exact ⟨rfl, rfl, rfl, rfl, trivial⟩, p1, true, 0, rfl, rfl, rfl, H⟩
  ·intro h24
   have h24 := dcd_f (h24)
   have H := iff_ h24 H
   refine Ow_qw rfl rfl rfl rfl rfl rfl (Qt_move rfl) ?_
   refine Ow_qw rfl rfl rfl rfl rfl rfl (Qt_move rfl) ?_
   refine Ow_qw rfl rfl rfl rfl rfl rfl (Q_len (T := TyChan) hp0 rfl rfl) ?_
   refine Ow_qw rfl rfl rfl rfl rfl rfl (Qt_cmp rfl rfl rfl) ?_
   refine Ow_q rfl rfl rfl (Qt_pick_f rfl rfl) ?_
   refine Ow_nil ?_
   refine Shift.done ?_
   exact ⟨_, by exact ⟨rfl, rfl, rfl, rfl, trivial⟩, p1, (dcd (p1 ≥ (p0.length : Int))), 0, rfl, rfl, rfl, H⟩
 rintro _ _ _ - ⟨i21, t22, i23, rfl, rfl, rfl, H⟩
 unfold M_60z at H
 refine Cw_cond rfl ?_ ?_
 ·intro h25
  have H := ift h25 H
  refine Cw_seq ?_
  refine Cw_region ?_
  refine Ow_q rfl rfl rfl (Qt_build (cs := (Chan.cells (Chan.mk 0 [] false) nilS)) rfl rfl rfl rfl rfl rfl) ?_
  refine Ow_cons rfl (OpW_store (vs := (Chan.cells (Chan.mk 0 [] false) nilS)) (all' := (Chan.cells (Chan.mk 0 [] false) nilS)) rfl rfl rfl rfl rfl .here rfl rfl rfl ?_)
  refine Ow_q rfl rfl rfl (Qt_assign rfl) ?_
  refine Ow_nil ?_
  refine Cw_ret ?_
  obtain ⟨ey0, ey1⟩ := inj2 H
  subst y0 y1
  refine ⟨(by first | exact .inl rfl | exact .inr rfl), [(.agg (Chan.cells (Chan.mk 0 [] false) nilS).toArray), (.bool false)], ⟨(.agg (Chan.cells (Chan.mk 0 [] false) nilS).toArray), _, rfl, ⟨_, 3, (Chan.cells (Chan.mk 0 [] false) nilS), rfl, rfl, rfl, rfl, ⟨rfl, Rdc.blk (.head _) rfl⟩, rfl⟩, ⟨(.bool false), _, rfl, rfl, rfl⟩⟩, ?_⟩
  refine Re0 ?_
  refine Shift.done ?_
  exact ⟨nilS, rfl, rfl, rfl, (Slr.nil Ty.u64 _)⟩
 ·intro h25
  have H := iff_ (btf h25) H
  refine Cw_skip ?_
  refine Cw_seq ?_
  refine Cw_region ?_
  refine Ow_q rfl rfl rfl (Qt_move rfl) ?_
  refine Ow_q rfl rfl rfl (Qt_move rfl) ?_
  obtain ⟨x26, hx27, H⟩ := bnd H
  obtain ⟨r28, hr29, hk30⟩ := Slr.at hp0 hx27
  obtain ⟨v31, rfl, hs32⟩ := hr29
  refine Ow_q rfl rfl rfl (Q_ix (T := TyChan) hp0 hx27 rfl rfl rfl rfl rfl) ?_
  refine Ow_q rfl rfl rfl (Qt_loadA (m := 3) (cs := (Chan.cells x26 v31)) rfl rfl rfl rfl ⟨rfl, Rdc.k hk30 rfl⟩) ?_
  refine Ow_cons rfl (OpW_store (vs := (Chan.cells x26 v31)) (all' := (Chan.cells x26 v31)) rfl rfl rfl rfl rfl .here rfl rfl rfl ?_)
  refine Ow_q rfl rfl rfl (Qt_assign rfl) ?_
  refine Ow_nil ?_
  refine Cw_ret ?_
  obtain ⟨ey0, ey1⟩ := inj2 H
  subst y0 y1
  refine ⟨(by first | exact .inl rfl | exact .inr rfl), [(.agg (Chan.cells x26 v31).toArray), (.bool true)], ⟨(.agg (Chan.cells x26 v31).toArray), _, rfl, ⟨_, 3, (Chan.cells x26 v31), rfl, rfl, rfl, rfl, ⟨rfl, Rdc.blk (.head _) rfl⟩, rfl⟩, ⟨(.bool true), _, rfl, rfl, rfl⟩⟩, ?_⟩
  refine Re0 ?_
  refine Shift.done ?_
  exact ⟨v31, rfl, rfl, rfl, hs32⟩

set_option maxHeartbeats 1000000 in
theorem c_M_34z (p0 : List Chan) (vp0 : SV) (p1 : Case) (y0 : Bool) (H : M_34z p0 p1 = some y0) (K : Kp) (G : List Ent) (hp0 : Slr TyChan K (sv vp0) p0) :
  Fc Try.prog 39 #[(sv vp0), (.agg (Case.cells p1).toArray)] K (G) (fun v K' G' => v = (.bool y0) ∧ K = K' ∧ G = G') := by
 refine Fc_body Try.func39 rfl Try.ntmps39 Try.results39 rfl ?_
 unfold M_34z at H
 refine Cw_seq ?_
 refine Cw_region ?_
 refine Ow_cons rfl (OpW_box (cs := (Case.cells p1)) rfl rfl rfl (fun b12 => ?_))
 refine Ow_q rfl rfl rfl (Qt_assign rfl) ?_
 refine Ow_nil ?_
 refine Cw_seq ?_
 refine Cw_region ?_
 refine Ow_q rfl rfl rfl (Qt_move rfl) ?_
 refine Ow_q rfl rfl rfl (Qt_fieldAddr (m := 1) rfl rfl rfl rfl rfl) ?_
 refine Ow_q rfl rfl rfl (Qt_load1 (v := (.int .i64 p1.channel)) rfl rfl rfl (Rdc.blk (.head _) rfl)) ?_
 obtain ⟨x13, x14, hx15, H⟩ := bnd2 H
 refine Ow_cons rfl (OpW_call rfl Try.call67 rfl rfl (c_M_61z p0 vp0 p1.channel x13 x14 hx15 _ _ hp0) ?_)
 rintro _ _ _ - ⟨v16, rfl, rfl, rfl, hs17⟩
 refine Ow_q rfl rfl rfl (Qt_move rfl) ?_
 refine Ow_q rfl rfl rfl (Qt_extract rfl rfl) ?_
 refine Ow_q rfl rfl rfl (Qt_extract rfl rfl) ?_
 refine Ow_cons rfl (OpW_alloc (cs := (Chan.cells (Chan.mk 0 [] false) nilS)) rfl rfl rfl rfl (fun b18 => ?_))
 refine Ow_cons rfl (OpW_store (vs := (Chan.cells x13 v16)) (all' := (Chan.cells x13 v16)) rfl rfl rfl rfl rfl .here rfl rfl rfl ?_)
 refine Ow_q rfl rfl rfl (Qt_assign rfl) ?_
 refine Ow_nil ?_
 refine Cw_seq ?_
 refine Cw_block ?_
 refine Cw_seq ?_
 refine Cw_region ?_
 refine Ow_q rfl rfl rfl (Qt_move rfl) ?_
 refine Ow_q rfl rfl rfl (Qt_not rfl) ?_
 refine Ow_q rfl rfl rfl (Qt_assign rfl) ?_
 refine Ow_nil ?_
 refine Cw_cond rfl ?_ ?_
 ·intro h22
  have h22 := nt_t (h22)
  have H := iff_ (btf h22) H
  refine Cw_seq ?_
  refine Cw_region ?_
  refine Ow_q rfl rfl rfl (Qt_assign rfl) ?_
  refine Ow_nil ?_
  refine Cw_ret ?_
  obtain ey0 := inj1 H
  subst y0
  refine ⟨(by first | exact .inl rfl | exact .inr rfl), [(.bool false)], ⟨(.bool false), _, rfl, rfl, rfl⟩, ?_⟩
  refine Re0 ?_
  refine Re0 ?_
  refine Shift.done ?_
  exact ⟨rfl, rfl, rfl⟩
 ·intro h22
  have h22 := nt_f (h22)
  have H := ift h22 H
  refine Cw_seq ?_
  refine Cw_region ?_
  refine Ow_q rfl rfl rfl (Qt_fieldAddr (m := 0) rfl rfl rfl rfl rfl) ?_
  refine Ow_q rfl rfl rfl (Qt_load1 (v := (.bool p1.send)) rfl rfl rfl (Rdc.blk (.tail _ (.head _)) rfl)) ?_
  refine Ow_q rfl rfl rfl (Qt_assign rfl) ?_
  refine Ow_nil ?_
  refine Cw_cond rfl ?_ ?_
  ·intro h23
   have H := ift h23 H
   refine Cw_seq ?_
   refine Cw_region ?_
   refine Ow_q rfl rfl rfl (Qt_fieldAddr (m := 2) rfl rfl rfl rfl rfl) ?_
   refine Ow_q rfl rfl rfl (Qt_load1 (v := (.bool x13.closed)) rfl rfl rfl (Rdc.blk (.head _) rfl)) ?_
   refine Ow_q rfl rfl rfl (Qt_move rfl) ?_
   refine Ow_caseG rfl rfl rfl ?_ ?_
   ·intro h25
    have H := ift h25 H
    refine Ow_pass rfl rfl rfl rfl rfl rfl rfl ?_
    refine Ow_pass rfl rfl rfl rfl rfl rfl rfl ?_
    refine Ow_pass rfl rfl rfl rfl rfl rfl rfl ?_
    refine Ow_pass rfl rfl rfl rfl rfl rfl rfl ?_
    refine Ow_pass rfl rfl rfl rfl rfl rfl rfl ?_
    refine Ow_pass rfl rfl rfl rfl rfl rfl rfl ?_
    refine Ow_q rfl rfl rfl (Qt_pick_t rfl rfl) ?_
    refine Ow_q rfl rfl rfl (Qt_assign rfl) ?_
    refine Ow_nil ?_
    refine Cw_ret ?_
    obtain ey0 := inj1 H
    subst y0
    refine ⟨(by first | exact .inl rfl | exact .inr rfl), [(.bool true)], ⟨(.bool true), _, rfl, rfl, rfl⟩, ?_⟩
    refine Re0 ?_
    refine Re0 ?_
    refine Shift.done ?_
    exact ⟨rfl, rfl, rfl⟩
   ·intro h25
    have H := iff_ (btf h25) H
    refine Ow_qw rfl rfl rfl rfl rfl rfl (Qt_fieldAddr (m := 1) rfl rfl rfl rfl rfl) ?_
    refine Ow_qw rfl rfl rfl rfl rfl rfl (Qt_load1 (v := (sv v16)) rfl rfl rfl (Rdc.blk (.head _) rfl)) ?_
    refine Ow_qw rfl rfl rfl rfl rfl rfl (Q_len (T := Ty.u64) hs17 rfl rfl) ?_
    refine Ow_qw rfl rfl rfl rfl rfl rfl (Qt_fieldAddr (m := 0) rfl rfl rfl rfl rfl) ?_
    refine Ow_qw rfl rfl rfl rfl rfl rfl (Qt_load1 (v := (.int .i64 x13.capacity)) rfl rfl rfl (Rdc.blk (.head _) rfl)) ?_
    refine Ow_qw rfl rfl rfl rfl rfl rfl (Qt_cmp rfl rfl rfl) ?_
    refine Ow_q rfl rfl rfl (Qt_pick_f rfl rfl) ?_
    refine Ow_q rfl rfl rfl (Qt_assign rfl) ?_
    refine Ow_nil ?_
    refine Cw_ret ?_
    obtain ey0 := inj1 H
    subst y0
    refine ⟨(by first | exact .inl rfl | exact .inr rfl), [(.bool (dcd ((x13.buffer.length : Int) < x13.capacity)))], ⟨(.bool (dcd ((x13.buffer.length : Int) < x13.capacity))), _, rfl, rfl, rfl⟩, ?_⟩
    refine Re0 ?_
    refine Re0 ?_
    refine Shift.done ?_
    exact ⟨rfl, rfl, rfl⟩
  ·intro h23
   have H := iff_ (btf h23) H
   refine Cw_skip ?_
   refine Cw_seq ?_
   refine Cw_region ?_
   refine Ow_q rfl rfl rfl (Qt_fieldAddr (m := 2) rfl rfl rfl rfl rfl) ?_
   refine Ow_q rfl rfl rfl (Qt_load1 (v := (.bool x13.closed)) rfl rfl rfl (Rdc.blk (.head _) rfl)) ?_
   refine Ow_q rfl rfl rfl (Qt_move rfl) ?_
   refine Ow_caseG rfl rfl rfl ?_ ?_
   ·intro h27
    have H := ift h27 H
    refine Ow_pass rfl rfl rfl rfl rfl rfl rfl ?_
    refine Ow_pass rfl rfl rfl rfl rfl rfl rfl ?_
    refine Ow_pass rfl rfl rfl rfl rfl rfl rfl ?_
    refine Ow_pass rfl rfl rfl rfl rfl rfl rfl ?_
    refine Ow_q rfl rfl rfl (Qt_pick_t rfl rfl) ?_
    refine Ow_q rfl rfl rfl (Qt_assign rfl) ?_
    refine Ow_nil ?_
    refine Cw_ret ?_
    obtain ey0 := inj1 H
    subst y0
    refine ⟨(by first | exact .inl rfl | exact .inr rfl), [(.bool true)], ⟨(.bool true), _, rfl, rfl, rfl⟩, ?_⟩
    refine Re0 ?_
    refine Re0 ?_
    refine Shift.done ?_
    exact ⟨rfl, rfl, rfl⟩
   ·intro h27
    have H := iff_ (btf h27) H
    refine Ow_qw rfl rfl rfl rfl rfl rfl (Qt_fieldAddr (m := 1) rfl rfl rfl rfl rfl) ?_
    refine Ow_qw rfl rfl rfl rfl rfl rfl (Qt_load1 (v := (sv v16)) rfl rfl rfl (Rdc.blk (.head _) rfl)) ?_
    refine Ow_qw rfl rfl rfl rfl rfl rfl (Q_len (T := Ty.u64) hs17 rfl rfl) ?_
    refine Ow_qw rfl rfl rfl rfl rfl rfl (Qt_cmp rfl rfl rfl) ?_
    refine Ow_q rfl rfl rfl (Qt_pick_f rfl rfl) ?_
    refine Ow_q rfl rfl rfl (Qt_assign rfl) ?_
    refine Ow_nil ?_
    refine Cw_ret ?_
    obtain ey0 := inj1 H
    subst y0
    refine ⟨(by first | exact .inl rfl | exact .inr rfl), [(.bool (dcd ((x13.buffer.length : Int) > 0)))], ⟨(.bool (dcd ((x13.buffer.length : Int) > 0))), _, rfl, rfl, rfl⟩, ?_⟩
    refine Re0 ?_
    refine Re0 ?_
    refine Shift.done ?_
    exact ⟨rfl, rfl, rfl⟩



end Go.Hx

namespace Go.Hx
open Go Go.Proofs
set_option linter.unusedSimpArgs false
set_option linter.unusedVariables false
set_option maxRecDepth 10000
set_option maxHeartbeats 1000000 in
theorem c_M_55z (p0 : Config) (vp0_capacities : SV) (vp0_starts : SV) (y0 : Desk) (H : M_55z p0 = some y0) (K : Kp) (G : List Ent) (hp0_capacities : Slr Ty.i64 K (sv vp0_capacities) p0.capacities) (hp0_starts : Slr Ty.u64 K (sv vp0_starts) p0.starts) :
  Fc Try.prog 27 #[(.agg (Config.cells p0 vp0_capacities vp0_starts).toArray)] K (G) (fun v K' G' => ∃ (wy0_chans : SV) (wy0_waiting : SV), v = (.agg (Desk.cells y0 wy0_chans wy0_waiting).toArray) ∧ (.tok 71 3 [(sv wy0_chans)]) :: G = G' ∧ Slr TyChan K' (sv wy0_chans) y0.chans ∧ Slr TyWaiter K' (sv wy0_waiting) y0.waiting) := by
 refine Fc_body Try.func27 rfl Try.ntmps27 Try.results27 rfl ?_
 unfold M_55z at H
 refine Cw_seq ?_
 refine Cw_region ?_
 refine Ow_cons rfl (OpW_box (cs := (Config.cells p0 vp0_capacities vp0_starts)) rfl rfl rfl (fun b9 => ?_))
 refine Ow_cons rfl (OpW_alloc (cs := (Desk.cells (Desk.mk [] [] 0) nilS nilS)) rfl rfl rfl rfl (fun b10 => ?_))
 refine Ow_nil ?_
 refine Cw_seq ?_
 refine Cw_region ?_
 refine Ow_q rfl rfl rfl (Qt_loadA (m := 3) (cs := (Config.cells p0 vp0_capacities vp0_starts)) rfl rfl rfl rfl ⟨rfl, Rdc.blk (.tail _ (.head _)) rfl⟩) ?_
 obtain ⟨x11, hx12, H⟩ := bnd H
 refine Ow_cons rfl (OpW_call rfl Try.call56 rfl rfl (c_M_93z p0 vp0_capacities vp0_starts x11 hx12 _ _ hp0_capacities hp0_starts) ?_)
 rintro _ K14 _ hK15 ⟨v13, rfl, rfl, hs16⟩
 refine Ow_q rfl rfl rfl (Qt_build (cs := (Desk.cells (Desk.mk x11 [] 0) v13 nilS)) rfl rfl rfl rfl rfl rfl) ?_
 refine Ow_cons rfl (OpW_store (vs := (Desk.cells (Desk.mk x11 [] 0) v13 nilS)) (all' := (Desk.cells (Desk.mk x11 [] 0) v13 nilS)) rfl rfl rfl rfl rfl (.there .here) rfl rfl rfl ?_)
 refine Ow_nil ?_
 refine Cw_ret ?_
 obtain ey0 := inj1 H
 subst y0
 refine ⟨(by first | exact .inl rfl | exact .inr rfl), [(.agg (Desk.cells (Desk.mk x11 [] 0) v13 nilS).toArray)], ⟨(.agg (Desk.cells (Desk.mk x11 [] 0) v13 nilS).toArray), _, rfl, ⟨_, 3, (Desk.cells (Desk.mk x11 [] 0) v13 nilS), rfl, rfl, rfl, rfl, ⟨rfl, Rdc.blk (.tail _ (.head _)) rfl⟩, rfl⟩, rfl⟩, ?_⟩
 refine Re1 ?_
 refine Re1 ?_
 refine Shift.done ?_
 exact ⟨v13, nilS, rfl, rfl, hs16, (Slr.nil TyWaiter _)⟩



end Go.Hx

namespace Go.Hx
open Go Go.Proofs
set_option linter.unusedSimpArgs false
set_option linter.unusedVariables false
set_option maxRecDepth 10000
set_option maxHeartbeats 1000000 in
theorem c_M_6z (p0 : Op) (vp0_cases : SV) (vp0_draws : SV) (y0 : Case) (y1 : Bool) (H : M_6z p0 = some (y0, y1)) (K : Kp) (G : List Ent) (hp0_cases : Slr TyCase K (sv vp0_cases) p0.cases) (hp0_draws : Slr Ty.i64 K (sv vp0_draws) p0.draws) :
  Fc Try.prog 47 #[(.agg (Op.cells p0 vp0_cases vp0_draws).toArray)] K (G) (fun v K' G' => v = (.tuple #[(.agg (Case.cells y0).toArray), (.bool y1)]) ∧ K = K' ∧ G = G') := by
 refine Fc_body Try.func47 rfl Try.ntmps47 Try.results47 rfl ?_
 unfold M_6z at H
 refine Cw_seq ?_
 refine Cw_region ?_
 refine Ow_cons rfl (OpW_box (cs := (Op.cells p0 vp0_cases vp0_draws)) rfl rfl rfl (fun b13 => ?_))
 refine Ow_cons rfl (OpW_alloc (cs := (Case.cells (Case.mk false 0 0))) rfl rfl rfl rfl (fun b14 => ?_))
 refine Ow_q rfl rfl rfl (Qt_assign rfl) ?_
 refine Ow_nil ?_
 refine Cw_seq ?_
 refine Cw_seq ?_
 refine Cw_region ?_
 refine Ow_q rfl rfl rfl (Qt_fieldAddr (m := 0) rfl rfl rfl rfl rfl) ?_
 refine Ow_q rfl rfl rfl (Qt_load1 (v := (.int .i64 p0.kind)) rfl rfl rfl (Rdc.blk (.tail _ (.head _)) rfl)) ?_
 refine Ow_nil ?_
 refine Cw_block ?_
 refine Cw_join (fun env' K' G' => ∃ (t26 : Bool) (i27 : Int) (i28 : Int) (i29 : Int) (i30 : Int) (i31 : Int) (i32 : Int) (i33 : Int), [(1, (.pointer (some ((⟨b13, 0, none⟩ : Addr).add 0)))), (2, (.pointer (some ((⟨b14, 0, none⟩ : Addr).add 0)))), (6, (.bool t26))] = env' ∧ K = K' ∧ (.blk b14 45 (Case.cells (Case.mk false i27 i28))) :: (.blk b13 41 (Op.cells (Op.mk i29 i30 i31 i32 i33 p0.cases p0.draws) vp0_cases vp0_draws)) :: G = G' ∧ M_16z p0 t26 i27 i28 i29 i30 i31 i32 i33 = some (y0, y1)) ?_ ?_
 ·skip
  refine Cw_seq ?_
  refine Cw_region ?_
  refine Ow_q rfl rfl rfl (Qt_cmp rfl rfl rfl) ?_
  refine Ow_q rfl rfl rfl (Qt_assign rfl) ?_
  refine Ow_nil ?_
  refine Cw_cond rfl ?_ ?_
  ·intro h34
   have h34 := dcd_t (h34)
   have H := ift h34 H
   refine Cw_skip ?_
   refine Pu1 ?_
   refine Pu1 ?_
   refine Shift.done ?_
   exact ⟨_, by exact ⟨rfl, rfl, rfl, trivial⟩, (dcd (p0.kind = 1)), 0, 0, p0.kind, p0.mode, p0.channel, p0.value, p0.deadline, rfl, rfl, rfl, H⟩
  ·intro h34
   have h34 := dcd_f (h34)
   have H := iff_ h34 H
   refine Cw_region ?_
   refine Ow_q rfl rfl rfl (Qt_cmp rfl rfl rfl) ?_
   refine Ow_q rfl rfl rfl (Qt_assign rfl) ?_
   refine Ow_nil ?_
   refine Pu1 ?_
   refine Pu1 ?_
   refine Shift.done ?_
   exact ⟨_, by exact ⟨rfl, rfl, rfl, trivial⟩, (dcd (p0.kind = 2)), 0, 0, p0.kind, p0.mode, p0.channel, p0.value, p0.deadline, rfl, rfl, rfl, H⟩
 rintro _ _ _ - ⟨t26, i27, i28, i29, i30, i31, i32, i33, rfl, rfl, rfl, H⟩
 unfold M_16z at H
 refine Cw_cond rfl ?_ ?_
 ·intro h35
  have H := ift h35 H
  refine Cw_seq ?_
  refine Cw_region ?_
  refine Ow_q rfl rfl rfl (Qt_fieldAddr (m := 0) rfl rfl rfl rfl rfl) ?_
  refine Ow_q rfl rfl rfl (Qt_load1 (v := (.int .i64 i29)) rfl rfl rfl (Rdc.blk (.tail _ (.head _)) rfl)) ?_
  refine Ow_q rfl rfl rfl (Qt_cmp rfl rfl rfl) ?_
  refine Ow_q rfl rfl rfl (Qt_fieldAddr (m := 2) rfl rfl rfl rfl rfl) ?_
  refine Ow_q rfl rfl rfl (Qt_load1 (v := (.int .i64 i31)) rfl rfl rfl (Rdc.blk (.tail _ (.head _)) rfl)) ?_
  refine Ow_q rfl rfl rfl (Qt_fieldAddr (m := 3) rfl rfl rfl rfl rfl) ?_
  refine Ow_q rfl rfl rfl (Qt_load1 (v := (.int .u64 i32)) rfl rfl rfl (Rdc.blk (.tail _ (.head _)) rfl)) ?_
  refine Ow_q rfl rfl rfl (Qt_build (cs := (Case.cells (Case.mk (dcd (i29 = 1)) i31 i32))) rfl rfl rfl rfl rfl rfl) ?_
  refine Ow_cons rfl (OpW_store (vs := (Case.cells (Case.mk (dcd (i29 = 1)) i31 i32))) (all' := (Case.cells (Case.mk (dcd (i29 = 1)) i31 i32))) rfl rfl rfl rfl rfl .here rfl rfl rfl ?_)
  refine Ow_q rfl rfl rfl (Qt_assign rfl) ?_
  refine Ow_nil ?_
  refine Cw_ret ?_
  obtain ⟨ey0, ey1⟩ := inj2 H
  subst y0 y1
  refine ⟨(by first | exact .inl rfl | exact .inr rfl), [(.agg (Case.cells (Case.mk (dcd (i29 = 1)) i31 i32)).toArray), (.bool true)], ⟨(.agg (Case.cells (Case.mk (dcd (i29 = 1)) i31 i32)).toArray), _, rfl, ⟨_, 3, (Case.cells (Case.mk (dcd (i29 = 1)) i31 i32)), rfl, rfl, rfl, rfl, ⟨rfl, Rdc.blk (.head _) rfl⟩, rfl⟩, ⟨(.bool true), _, rfl, rfl, rfl⟩⟩, ?_⟩
  refine Re0 ?_
  refine Re0 ?_
  refine Shift.done ?_
  exact ⟨rfl, rfl, rfl⟩
 ·intro h35
  have H := iff_ (btf h35) H
  refine Cw_skip ?_
  refine Cw_seq ?_
  refine Cw_region ?_
  refine Ow_q rfl rfl rfl (Qt_build (cs := (Case.cells (Case.mk false 0 0))) rfl rfl rfl rfl rfl rfl) ?_
  refine Ow_cons rfl (OpW_store (vs := (Case.cells (Case.mk false 0 0))) (all' := (Case.cells (Case.mk false 0 0))) rfl rfl rfl rfl rfl .here rfl rfl rfl ?_)
  refine Ow_q rfl rfl rfl (Qt_assign rfl) ?_
  refine Ow_nil ?_
  refine Cw_ret ?_
  obtain ⟨ey0, ey1⟩ := inj2 H
  subst y0 y1
  refine ⟨(by first | exact .inl rfl | exact .inr rfl), [(.agg (Case.cells (Case.mk false 0 0)).toArray), (.bool false)], ⟨(.agg (Case.cells (Case.mk false 0 0)).toArray), _, rfl, ⟨_, 3, (Case.cells (Case.mk false 0 0)), rfl, rfl, rfl, rfl, ⟨rfl, Rdc.blk (.head _) rfl⟩, rfl⟩, ⟨(.bool false), _, rfl, rfl, rfl⟩⟩, ?_⟩
  refine Re0 ?_
  refine Re0 ?_
  refine Shift.done ?_
  exact ⟨rfl, rfl, rfl⟩



end Go.Hx
