/- Printed by program. -/
import Derived.Test.YtgpoanmjkggijaaXCM
namespace Go.Hx
open Go Go.Proofs
set_option linter.unusedSimpArgs false
set_option linter.unusedVariables false
set_option maxRecDepth 10000
set_option maxHeartbeats 1000000 in
theorem c_M_33z (p0 : List Event) (vp0 : SV) (y0 : List A2Int) (H : M_33z p0 = some y0) (K : Kp) (G : List Ent) (hp0 : Slr TyEvent K (sv vp0) p0) :
  Fc Try.prog 121 #[(sv vp0)] K (G) (fun v K' G' => ∃ (wy0 : SV), v = (sv wy0) ∧ (.tok 115 2 [(sv wy0)]) :: G = G' ∧ Slr TyA2Int K' (sv wy0) y0) := by
 refine Fc_body Try.func121 rfl Try.ntmps121 Try.results121 rfl ?_
 unfold M_33z at H
 refine Cw_seq ?_
 refine Cw_region ?_
 refine Ow_q rfl rfl rfl (Qt_assign rfl) ?_
 refine Ow_nil ?_
 refine Cw_seq ?_
 refine Cw_region ?_
 refine Ow_q rfl rfl rfl (Qt_assign rfl) ?_
 refine Ow_nil ?_
 refine Cw_join (fun env' K' G' => ∃ (v98 : SV) (l99 : List A2Int), [(3, (sv v98))] = env' ∧ (.tok 115 2 [(sv v98)]) :: G = G' ∧ M_168z l99 = some y0 ∧ Slr TyA2Int K' (sv v98) l99) ?_ ?_
 ·skip
  refine Cw_seq ?_
  refine Cw_region ?_
  refine Ow_q rfl rfl rfl (Qt_move rfl) ?_
  refine Ow_q rfl rfl rfl (Q_len (T := TyEvent) hp0 rfl rfl) ?_
  refine Ow_q rfl rfl rfl (Qt_move rfl) ?_
  refine Ow_nil ?_
  refine Cw_block ?_
  refine Cw_loopM (fun n147 env' K' G' => ∃ (v143 : SV) (l144 : List A2Int) (i146 : Int), [(3, (sv v143)), (6, (sv vp0)), (7, (.int .i64 (p0.length : Int))), (8, (.int .i64 i146))] = env' ∧ (.tok 115 2 [(sv v143)]) :: G = G' ∧ lp2 (M_118z p0) n147 l144 i146 = some y0 ∧ Slr TyA2Int K' (sv v143) l144) BIG ?_ ?_
  ·skip
   refine Shift.nilTok1 115 2 ?_
   refine Shift.done ?_
   exact ⟨[(3, (sv nilS)), (6, (sv vp0)), (7, (.int .i64 (p0.length : Int))), (8, (.int .i64 0))], ⟨rfl, rfl, rfl, rfl, trivial⟩, nilS, ([] : List A2Int), 0, rfl, rfl, H, (Slr.nil TyA2Int _)⟩
  rintro n147 _ K148 _ hK149 ⟨v143, l144, i146, rfl, rfl, H, hs145⟩
  obtain ⟨m150, k151, rfl, hkk152, H⟩ := lps2 H
  unfold M_118z at H
  refine Cw_seq ?_
  refine Cw_region ?_
  refine Ow_q rfl rfl rfl (Qt_cmp rfl rfl rfl) ?_
  refine Ow_nil ?_
  refine Cw_seq ?_
  refine Cw_cond rfl ?_ ?_
  ·intro h154
   have h154 := dcd_t (h154)
   have H := ift h154 H
   refine Cw_skip ?_
   refine Cw_seq ?_
   refine Cw_block ?_
   refine Cw_seq ?_
   refine Cw_region ?_
   obtain ⟨x171, hx172, H⟩ := bnd H
   have hs173 := (hp0).mono hK149
   obtain ⟨r174, hr175, hk176⟩ := Slr.at hs173 hx172
   obtain rfl := hr175
   refine Ow_q rfl rfl rfl (Q_ix (T := TyEvent) hs173 hx172 rfl rfl rfl rfl rfl) ?_
   refine Ow_q rfl rfl rfl (Qt_loadA (m := 8) (cs := (Event.cells x171)) rfl rfl rfl rfl ⟨rfl, Rdc.k hk176 rfl⟩) ?_
   refine Ow_cons rfl (OpW_alloc (cs := (Event.cells (Event.mk 0 0 false (Result.mk 0 0 0 false 0)))) rfl rfl rfl rfl (fun b177 => ?_))
   refine Ow_cons rfl (OpW_store (vs := (Event.cells x171)) (all' := (Event.cells x171)) rfl rfl rfl rfl rfl .here rfl rfl rfl ?_)
   refine Ow_nil ?_
   refine Cw_seq ?_
   refine Cw_region ?_
   refine Ow_q rfl rfl rfl (Qt_fieldAddr (m := 2) rfl rfl rfl rfl rfl) ?_
   refine Ow_q rfl rfl rfl (Qt_load1 (v := (.bool x171.ret)) rfl rfl rfl (Rdc.blk (.head _) rfl)) ?_
   refine Ow_q rfl rfl rfl (Qt_not rfl) ?_
   refine Ow_nil ?_
   refine Cw_cond rfl ?_ ?_
   ·intro h178
    have h178 := nt_t (h178)
    have H := iff_ (btf h178) H
    refine Cw_region ?_
    refine Ow_q rfl rfl rfl (Qt_move rfl) ?_
    refine Ow_q rfl rfl rfl (Qt_fieldAddr (m := 0) rfl rfl rfl rfl rfl) ?_
    refine Ow_q rfl rfl rfl (Qt_load1 (v := (.int .i64 x171.thread)) rfl rfl rfl (Rdc.blk (.head _) rfl)) ?_
    refine Ow_q rfl rfl rfl (Qt_fieldAddr (m := 1) rfl rfl rfl rfl rfl) ?_
    refine Ow_q rfl rfl rfl (Qt_load1 (v := (.int .i64 x171.op)) rfl rfl rfl (Rdc.blk (.head _) rfl)) ?_
    refine Ow_q rfl rfl rfl (Qt_buildArr (cs := (A2Int.cells (A2Int.mk x171.thread x171.op))) rfl rfl rfl rfl rfl rfl) ?_
    have hR180 : RowR TyA2Int K148 [(A2Int.cells (A2Int.mk x171.thread x171.op))] [(A2Int.mk x171.thread x171.op)] := RowR.cons rfl (RowR.nil)
    refine Ow_cons rfl (O_lit (T := TyA2Int) (rows := [(A2Int.cells (A2Int.mk x171.thread x171.op))]) (l := [(A2Int.mk x171.thread x171.op)]) rfl rfl rfl hR180 rfl rfl rfl rfl rfl rfl rfl rfl (fun v179 => ?_))
    obtain ⟨x181, hx182, H⟩ := bnd H
    refine Ow_cons rfl (O_appTok (T := TyA2Int) (bytes := 16) (q := 0) rfl rfl rfl hs145 (.tail _ (.tail _ (.head _))) rfl (SrcT.row (.head _) hR180 rfl) hx182 rfl rfl rfl rfl rfl rfl rfl rfl (fun v183 K184 hK185 hs186 => ⟨_, (.there (.there .here)), ?_⟩))
    refine Ow.shift (Shift.rem .here (Shift.done ?_))
    refine Ow_q rfl rfl rfl (Qt_assign rfl) ?_
    refine Ow_nil ?_
    refine Cw_region ?_
    refine Ow_q rfl rfl rfl (Qt_arith (e := wI (i146 + 1)) rfl rfl rfl rfl) ?_
    refine Ow_q rfl rfl rfl (Qt_move rfl) ?_
    refine Ow_nil ?_
    refine Shift.pull (.there .here) ?_
    refine Shift.rem (.there .here) ?_
    refine Shift.done ?_
    exact ⟨[(3, (sv v183)), (6, (sv vp0)), (7, (.int .i64 (p0.length : Int))), (8, (.int .i64 (wI (i146 + 1))))], ⟨rfl, rfl, rfl, rfl, trivial⟩, _, Nat.lt_succ_self _, v183, x181, (wI (i146 + 1)), rfl, rfl, (hkk152 ▸ H), hs186⟩
   ·intro h178
    have h178 := nt_f (h178)
    have H := ift h178 H
    refine Cw_skip ?_
    refine Cw_region ?_
    refine Ow_q rfl rfl rfl (Qt_arith (e := wI (i146 + 1)) rfl rfl rfl rfl) ?_
    refine Ow_q rfl rfl rfl (Qt_move rfl) ?_
    refine Ow_nil ?_
    refine Shift.pull (.there .here) ?_
    refine Shift.rem (.there .here) ?_
    refine Shift.done ?_
    exact ⟨[(3, (sv v143)), (6, (sv vp0)), (7, (.int .i64 (p0.length : Int))), (8, (.int .i64 (wI (i146 + 1))))], ⟨rfl, rfl, rfl, rfl, trivial⟩, _, Nat.lt_succ_self _, v143, l144, (wI (i146 + 1)), rfl, rfl, (hkk152 ▸ H), hs145⟩
  ·intro h154
   have h154 := dcd_f (h154)
   have H := iff_ h154 H
   refine Cw_exit ?_
   refine Shift.done ?_
   exact ⟨[(3, (sv v143))], ⟨rfl, trivial⟩, v143, l144, rfl, rfl, H, hs145⟩
 rintro _ K187 _ hK188 ⟨v98, l99, rfl, rfl, H, hs100⟩
 unfold M_168z at H
 refine Cw_seq ?_
 refine Cw_region ?_
 refine Ow_q rfl rfl rfl (Qt_move rfl) ?_
 refine Ow_q rfl rfl rfl (Qt_assign rfl) ?_
 refine Ow_nil ?_
 refine Cw_ret ?_
 obtain ey0 := inj1 H
 subst y0
 refine ⟨(by first | exact .inl rfl | exact .inr rfl), [(sv v98)], ⟨(sv v98), _, rfl, rfl, rfl⟩, ?_⟩
 refine Shift.done ?_
 exact ⟨v98, rfl, rfl, hs100⟩

set_option maxHeartbeats 1000000 in
theorem c_M_35z (p0 : List Event) (vp0 : SV) (p1 : Int) (p2 : Int) (p3 : Bool) (y0 : Int) (H : M_35z p0 p1 p2 p3 = some y0) (K : Kp) (G : List Ent) (hp0 : Slr TyEvent K (sv vp0) p0) :
  Fc Try.prog 124 #[(sv vp0), (.int .i64 p1), (.int .i64 p2), (.bool p3)] K (G) (fun v K' G' => v = (.int .i64 y0) ∧ G = G') := by
 refine Fc_body Try.func124 rfl Try.ntmps124 Try.results124 rfl ?_
 unfold M_35z at H
 refine Cw_seq ?_
 refine Cw_region ?_
 refine Ow_q rfl rfl rfl (Qt_assign rfl) ?_
 refine Ow_nil ?_
 refine Cw_join (fun env' K' G' => [] = env' ∧ G = G' ∧ M_169z = some y0) ?_ ?_
 ·skip
  refine Cw_seq ?_
  refine Cw_region ?_
  refine Ow_q rfl rfl rfl (Qt_move rfl) ?_
  refine Ow_q rfl rfl rfl (Q_len (T := TyEvent) hp0 rfl rfl) ?_
  refine Ow_q rfl rfl rfl (Qt_move rfl) ?_
  refine Ow_nil ?_
  refine Cw_block ?_
  refine Cw_loopM (fun n117 env' K' G' => ∃ (i116 : Int), [(1, (.int .i64 p1)), (2, (.int .i64 p2)), (3, (.bool p3)), (11, (sv vp0)), (12, (.int .i64 (p0.length : Int))), (13, (.int .i64 i116))] = env' ∧ K = K' ∧ G = G' ∧ lp1 (M_67z p1 p2 p3 p0) n117 i116 = some y0) BIG ?_ ?_
  ·skip
   refine Shift.done ?_
   exact ⟨[(1, (.int .i64 p1)), (2, (.int .i64 p2)), (3, (.bool p3)), (11, (sv vp0)), (12, (.int .i64 (p0.length : Int))), (13, (.int .i64 0))], ⟨rfl, rfl, rfl, rfl, rfl, rfl, trivial⟩, 0, rfl, rfl, rfl, H⟩
  rintro n117 _ _ _ - ⟨i116, rfl, rfl, rfl, H⟩
  obtain ⟨m118, k119, rfl, hkk120, H⟩ := lps1 H
  unfold M_67z at H
  refine Cw_seq ?_
  refine Cw_region ?_
  refine Ow_q rfl rfl rfl (Qt_cmp rfl rfl rfl) ?_
  refine Ow_nil ?_
  refine Cw_seq ?_
  refine Cw_cond rfl ?_ ?_
  ·intro h122
   have h122 := dcd_t (h122)
   have H := ift h122 H
   refine Cw_skip ?_
   refine Cw_seq ?_
   refine Cw_block ?_
   refine Cw_seq ?_
   refine Cw_region ?_
   refine Ow_q rfl rfl rfl (Qt_move rfl) ?_
   obtain ⟨x133, hx134, H⟩ := bnd H
   obtain ⟨r135, hr136, hk137⟩ := Slr.at hp0 hx134
   obtain rfl := hr136
   refine Ow_q rfl rfl rfl (Q_ix (T := TyEvent) hp0 hx134 rfl rfl rfl rfl rfl) ?_
   refine Ow_q rfl rfl rfl (Qt_loadA (m := 8) (cs := (Event.cells x133)) rfl rfl rfl rfl ⟨rfl, Rdc.k hk137 rfl⟩) ?_
   refine Ow_cons rfl (OpW_alloc (cs := (Event.cells (Event.mk 0 0 false (Result.mk 0 0 0 false 0)))) rfl rfl rfl rfl (fun b138 => ?_))
   refine Ow_q rfl rfl rfl (Qt_assign rfl) ?_
   refine Ow_cons rfl (OpW_store (vs := (Event.cells x133)) (all' := (Event.cells x133)) rfl rfl rfl rfl rfl .here rfl rfl rfl ?_)
   refine Ow_nil ?_
   refine Cw_join (fun env' K' G' => ∃ (t141 : Bool), [(1, (.int .i64 p1)), (2, (.int .i64 p2)), (3, (.bool p3)), (9, (.int .i64 i116)), (11, (sv vp0)), (12, (.int .i64 (p0.length : Int))), (13, (.int .i64 i116)), (33, (.bool t141))] = env' ∧ K = K' ∧ G = G' ∧ M_34z p1 p2 p3 i116 p0 k119 t141 = some y0) ?_ ?_
   ·skip
    refine Cw_region ?_
    refine Ow_q rfl rfl rfl (Qt_fieldAddr (m := 0) rfl rfl rfl rfl rfl) ?_
    refine Ow_q rfl rfl rfl (Qt_load1 (v := (.int .i64 x133.thread)) rfl rfl rfl (Rdc.blk (.head _) rfl)) ?_
    refine Ow_q rfl rfl rfl (Qt_move rfl) ?_
    refine Ow_q rfl rfl rfl (Qt_cmp rfl rfl rfl) ?_
    refine Ow_q rfl rfl rfl (Qt_move rfl) ?_
    refine Ow_caseG rfl rfl rfl ?_ ?_
    ·intro h142
     have h142 := dcd_t (h142)
     have H := ift h142 H
     refine Ow_qw rfl rfl rfl rfl rfl rfl (Qt_fieldAddr (m := 1) rfl rfl rfl rfl rfl) ?_
     refine Ow_qw rfl rfl rfl rfl rfl rfl (Qt_load1 (v := (.int .i64 x133.op)) rfl rfl rfl (Rdc.blk (.head _) rfl)) ?_
     refine Ow_qw rfl rfl rfl rfl rfl rfl (Qt_move rfl) ?_
     refine Ow_qw rfl rfl rfl rfl rfl rfl (Qt_cmp rfl rfl rfl) ?_
     refine Ow_q rfl rfl rfl (Qt_pick_t rfl rfl) ?_
     refine Ow_q rfl rfl rfl (Qt_move rfl) ?_
     refine Ow_caseG rfl rfl rfl ?_ ?_
     ·intro h143
      have h143 := dcd_t (h143)
      have H := ift h143 H
      refine Ow_qw rfl rfl rfl rfl rfl rfl (Qt_fieldAddr (m := 2) rfl rfl rfl rfl rfl) ?_
      refine Ow_qw rfl rfl rfl rfl rfl rfl (Qt_load1 (v := (.bool x133.ret)) rfl rfl rfl (Rdc.blk (.head _) rfl)) ?_
      refine Ow_qw rfl rfl rfl rfl rfl rfl (Qt_move rfl) ?_
      refine Ow_qw rfl rfl rfl rfl rfl rfl (Qt_eqB rfl rfl rfl) ?_
      refine Ow_q rfl rfl rfl (Qt_pick_t rfl rfl) ?_
      refine Ow_nil ?_
      refine Shift.rem .here ?_
      refine Shift.done ?_
      exact ⟨[(1, (.int .i64 p1)), (2, (.int .i64 p2)), (3, (.bool p3)), (9, (.int .i64 i116)), (11, (sv vp0)), (12, (.int .i64 (p0.length : Int))), (13, (.int .i64 i116)), (33, (.bool (x133.ret == p3)))], ⟨rfl, rfl, rfl, rfl, rfl, rfl, rfl, rfl, trivial⟩, (x133.ret == p3), rfl, rfl, rfl, H⟩
     ·intro h143
      have h143 := dcd_f (h143)
      have H := iff_ h143 H
      refine Ow_pass rfl rfl rfl rfl rfl rfl rfl ?_
      refine Ow_pass rfl rfl rfl rfl rfl rfl rfl ?_
      refine Ow_pass rfl rfl rfl rfl rfl rfl rfl ?_
      refine Ow_pass rfl rfl rfl rfl rfl rfl rfl ?_
      refine Ow_q rfl rfl rfl (Qt_pick_f rfl rfl) ?_
      refine Ow_nil ?_
      refine Shift.rem .here ?_
      refine Shift.done ?_
      exact ⟨[(1, (.int .i64 p1)), (2, (.int .i64 p2)), (3, (.bool p3)), (9, (.int .i64 i116)), (11, (sv vp0)), (12, (.int .i64 (p0.length : Int))), (13, (.int .i64 i116)), (33, (.bool false))], ⟨rfl, rfl, rfl, rfl, rfl, rfl, rfl, rfl, trivial⟩, false, rfl, rfl, rfl, H⟩
    ·intro h142
     have h142 := dcd_f (h142)
     have H := iff_ h142 H
     refine Ow_pass rfl rfl rfl rfl rfl rfl rfl ?_
     refine Ow_pass rfl rfl rfl rfl rfl rfl rfl ?_
     refine Ow_pass rfl rfl rfl rfl rfl rfl rfl ?_
     refine Ow_pass rfl rfl rfl rfl rfl rfl rfl ?_
     refine Ow_q rfl rfl rfl (Qt_pick_f rfl rfl) ?_
     refine Ow_q rfl rfl rfl (Qt_move rfl) ?_
     refine Ow_pass rfl rfl rfl rfl rfl rfl rfl ?_
     refine Ow_pass rfl rfl rfl rfl rfl rfl rfl ?_
     refine Ow_pass rfl rfl rfl rfl rfl rfl rfl ?_
     refine Ow_pass rfl rfl rfl rfl rfl rfl rfl ?_
     refine Ow_q rfl rfl rfl (Qt_pick_f rfl rfl) ?_
     refine Ow_nil ?_
     refine Shift.rem .here ?_
     refine Shift.done ?_
     exact ⟨[(1, (.int .i64 p1)), (2, (.int .i64 p2)), (3, (.bool p3)), (9, (.int .i64 i116)), (11, (sv vp0)), (12, (.int .i64 (p0.length : Int))), (13, (.int .i64 i116)), (33, (.bool false))], ⟨rfl, rfl, rfl, rfl, rfl, rfl, rfl, rfl, trivial⟩, false, rfl, rfl, rfl, H⟩
   rintro _ _ _ - ⟨t141, rfl, rfl, rfl, H⟩
   unfold M_34z at H
   refine Cw_cond rfl ?_ ?_
   ·intro h144
    have H := ift h144 H
    refine Cw_seq ?_
    refine Cw_region ?_
    refine Ow_q rfl rfl rfl (Qt_move rfl) ?_
    refine Ow_q rfl rfl rfl (Qt_assign rfl) ?_
    refine Ow_nil ?_
    refine Cw_ret ?_
    obtain ey0 := inj1 H
    subst y0
    refine ⟨(by first | exact .inl rfl | exact .inr rfl), [(.int .i64 i116)], ⟨(.int .i64 i116), _, rfl, rfl, rfl⟩, ?_⟩
    refine Shift.done ?_
    exact ⟨rfl, rfl⟩
   ·intro h144
    have H := iff_ (btf h144) H
    refine Cw_skip ?_
    refine Cw_region ?_
    refine Ow_q rfl rfl rfl (Qt_arith (e := wI (i116 + 1)) rfl rfl rfl rfl) ?_
    refine Ow_q rfl rfl rfl (Qt_move rfl) ?_
    refine Ow_nil ?_
    refine Shift.done ?_
    exact ⟨[(1, (.int .i64 p1)), (2, (.int .i64 p2)), (3, (.bool p3)), (11, (sv vp0)), (12, (.int .i64 (p0.length : Int))), (13, (.int .i64 (wI (i116 + 1))))], ⟨rfl, rfl, rfl, rfl, rfl, rfl, trivial⟩, _, Nat.lt_succ_self _, (wI (i116 + 1)), rfl, rfl, rfl, (hkk120 ▸ H)⟩
  ·intro h122
   have h122 := dcd_f (h122)
   have H := iff_ h122 H
   refine Cw_exit ?_
   refine Shift.done ?_
   exact ⟨[], trivial, rfl, rfl, H⟩
 rintro _ K145 _ hK146 ⟨rfl, rfl, H⟩
 unfold M_169z at H
 refine Cw_seq ?_
 refine Cw_region ?_
 refine Ow_q rfl rfl rfl (Qt_assign rfl) ?_
 refine Ow_nil ?_
 refine Cw_ret ?_
 obtain ey0 := inj1 H
 subst y0
 refine ⟨(by first | exact .inl rfl | exact .inr rfl), [(.int .i64 (-1))], ⟨(.int .i64 (-1)), _, rfl, rfl, rfl⟩, ?_⟩
 refine Shift.done ?_
 exact ⟨rfl, rfl⟩

set_option maxHeartbeats 1000000 in
theorem c_M_36z (p0 : List Event) (vp0 : SV) (p1 : Int) (p2 : Int) (y0 : Int) (H : M_36z p0 p1 p2 = some y0) (K : Kp) (G : List Ent) (hp0 : Slr TyEvent K (sv vp0) p0) :
  Fc Try.prog 108 #[(sv vp0), (.int .i64 p1), (.int .i64 p2)] K (G) (fun v K' G' => v = (.int .i64 y0) ∧ G = G') := by
 refine Fc_body Try.func108 rfl Try.ntmps108 Try.results108 rfl ?_
 unfold M_36z at H
 refine Cw_seq ?_
 refine Cw_region ?_
 refine Ow_q rfl rfl rfl (Qt_assign rfl) ?_
 refine Ow_nil ?_
 refine Cw_seq ?_
 refine Cw_region ?_
 refine Ow_q rfl rfl rfl (Qt_move rfl) ?_
 refine Ow_q rfl rfl rfl (Qt_move rfl) ?_
 refine Ow_q rfl rfl rfl (Qt_move rfl) ?_
 obtain ⟨x5, hx6, H⟩ := bnd H
 refine Ow_cons rfl (OpW_call rfl Try.call124 rfl rfl (c_M_35z p0 vp0 p1 p2 false x5 hx6 _ _ hp0) ?_)
 rintro _ K7 _ hK8 ⟨rfl, rfl⟩
 refine Ow_q rfl rfl rfl (Qt_assign rfl) ?_
 refine Ow_nil ?_
 refine Cw_ret ?_
 obtain ey0 := inj1 H
 subst y0
 refine ⟨(by first | exact .inl rfl | exact .inr rfl), [(.int .i64 x5)], ⟨(.int .i64 x5), _, rfl, rfl, rfl⟩, ?_⟩
 refine Shift.done ?_
 exact ⟨rfl, rfl⟩

set_option maxHeartbeats 1000000 in
theorem c_M_37z (p0 : List Event) (vp0 : SV) (p1 : Int) (p2 : Int) (y0 : Result) (y1 : Int) (H : M_37z p0 p1 p2 = some (y0, y1)) (K : Kp) (G : List Ent) (hp0 : Slr TyEvent K (sv vp0) p0) :
  Fc Try.prog 122 #[(sv vp0), (.int .i64 p1), (.int .i64 p2)] K (G) (fun v K' G' => v = (.tuple #[(.agg (Result.cells y0).toArray), (.int .i64 y1)]) ∧ G = G') := by
 refine Fc_body Try.func122 rfl Try.ntmps122 Try.results122 rfl ?_
 unfold M_37z at H
 refine Cw_seq ?_
 refine Cw_region ?_
 refine Ow_cons rfl (OpW_alloc (cs := (Result.cells (Result.mk 0 0 0 false 0))) rfl rfl rfl rfl (fun b13 => ?_))
 refine Ow_q rfl rfl rfl (Qt_assign rfl) ?_
 refine Ow_nil ?_
 refine Cw_seq ?_
 refine Cw_region ?_
 refine Ow_q rfl rfl rfl (Qt_move rfl) ?_
 refine Ow_q rfl rfl rfl (Qt_move rfl) ?_
 refine Ow_q rfl rfl rfl (Qt_move rfl) ?_
 obtain ⟨x14, hx15, H⟩ := bnd H
 refine Ow_cons rfl (OpW_call rfl Try.call124 rfl rfl (c_M_35z p0 vp0 p1 p2 true x14 hx15 _ _ hp0) ?_)
 rintro _ K16 _ hK17 ⟨rfl, rfl⟩
 refine Ow_q rfl rfl rfl (Qt_assign rfl) ?_
 refine Ow_nil ?_
 refine Cw_seq ?_
 refine Cw_seq ?_
 refine Cw_region ?_
 refine Ow_q rfl rfl rfl (Qt_move rfl) ?_
 refine Ow_q rfl rfl rfl (Qt_cmp rfl rfl rfl) ?_
 refine Ow_nil ?_
 refine Cw_cond rfl ?_ ?_
 ·intro h19
  have h19 := dcd_t (h19)
  have H := ift h19 H
  refine Cw_seq ?_
  refine Cw_region ?_
  refine Ow_q rfl rfl rfl (Qt_build (cs := (Result.cells (Result.mk 0 0 0 false 0))) rfl rfl rfl rfl rfl rfl) ?_
  refine Ow_cons rfl (OpW_store (vs := (Result.cells (Result.mk 0 0 0 false 0))) (all' := (Result.cells (Result.mk 0 0 0 false 0))) rfl rfl rfl rfl rfl .here rfl rfl rfl ?_)
  refine Ow_q rfl rfl rfl (Qt_assign rfl) ?_
  refine Ow_nil ?_
  refine Cw_ret ?_
  obtain ⟨ey0, ey1⟩ := inj2 H
  subst y0 y1
  refine ⟨(by first | exact .inl rfl | exact .inr rfl), [(.agg (Result.cells (Result.mk 0 0 0 false 0)).toArray), (.int .i64 (-1))], ⟨(.agg (Result.cells (Result.mk 0 0 0 false 0)).toArray), _, rfl, ⟨_, 5, (Result.cells (Result.mk 0 0 0 false 0)), rfl, rfl, rfl, rfl, ⟨rfl, Rdc.blk (.head _) rfl⟩, rfl⟩, ⟨(.int .i64 (-1)), _, rfl, rfl, rfl⟩⟩, ?_⟩
  refine Shift.rem .here ?_
  refine Shift.done ?_
  exact ⟨rfl, rfl⟩
 ·intro h19
  have h19 := dcd_f (h19)
  have H := iff_ h19 H
  refine Cw_skip ?_
  refine Cw_seq ?_
  refine Cw_region ?_
  refine Ow_q rfl rfl rfl (Qt_move rfl) ?_
  refine Ow_q rfl rfl rfl (Qt_move rfl) ?_
  obtain ⟨x20, hx21, H⟩ := bnd H
  have hs22 := (hp0).mono hK17
  obtain ⟨r23, hr24, hk25⟩ := Slr.at hs22 hx21
  obtain rfl := hr24
  refine Ow_q rfl rfl rfl (Q_ix (T := TyEvent) hs22 hx21 rfl rfl rfl rfl rfl) ?_
  refine Ow_q rfl rfl rfl (Qt_fieldAddr (m := 3) rfl rfl rfl rfl rfl) ?_
  refine Ow_q rfl rfl rfl (Qt_loadA (m := 5) (cs := (Result.cells x20.result)) rfl rfl rfl rfl ⟨rfl, Rdc.k hk25 rfl⟩) ?_
  refine Ow_q rfl rfl rfl (Qt_move rfl) ?_
  refine Ow_cons rfl (OpW_store (vs := (Result.cells x20.result)) (all' := (Result.cells x20.result)) rfl rfl rfl rfl rfl .here rfl rfl rfl ?_)
  refine Ow_q rfl rfl rfl (Qt_assign rfl) ?_
  refine Ow_nil ?_
  refine Cw_ret ?_
  obtain ⟨ey0, ey1⟩ := inj2 H
  subst y0 y1
  refine ⟨(by first | exact .inl rfl | exact .inr rfl), [(.agg (Result.cells x20.result).toArray), (.int .i64 x14)], ⟨(.agg (Result.cells x20.result).toArray), _, rfl, ⟨_, 5, (Result.cells x20.result), rfl, rfl, rfl, rfl, ⟨rfl, Rdc.blk (.head _) rfl⟩, rfl⟩, ⟨(.int .i64 x14), _, rfl, rfl, rfl⟩⟩, ?_⟩
  refine Shift.rem .here ?_
  refine Shift.done ?_
  exact ⟨rfl, rfl⟩

set_option maxHeartbeats 1000000 in
theorem c_M_109z (p0 : List Event) (vp0 : SV) (y0 : List A2Int) (H : M_109z p0 = some y0) (K : Kp) (G : List Ent) (hp0 : Slr TyEvent K (sv vp0) p0) :
  Fc Try.prog 113 #[(sv vp0)] K (G) (fun v K' G' => ∃ (wy0 : SV), v = (sv wy0) ∧ (.tok 115 2 [(sv wy0)]) :: G = G' ∧ Slr TyA2Int K' (sv wy0) y0) := by
 refine Fc_body Try.func113 rfl Try.ntmps113 Try.results113 rfl ?_
 unfold M_109z at H
 refine Cw_seq ?_
 refine Cw_region ?_
 refine Ow_q rfl rfl rfl (Qt_assign rfl) ?_
 refine Ow_nil ?_
 refine Cw_seq ?_
 refine Cw_region ?_
 refine Ow_q rfl rfl rfl (Qt_assign rfl) ?_
 refine Ow_nil ?_
 refine Cw_join (fun env' K' G' => ∃ (v140 : SV) (l141 : List A2Int), [(3, (sv v140))] = env' ∧ (.tok 115 2 [(sv v140)]) :: G = G' ∧ M_194z l141 = some y0 ∧ Slr TyA2Int K' (sv v140) l141) ?_ ?_
 ·skip
  refine Cw_seq ?_
  refine Cw_region ?_
  refine Ow_q rfl rfl rfl (Qt_move rfl) ?_
  obtain ⟨x143, hx144, H⟩ := bnd H
  refine Ow_cons rfl (OpW_call rfl Try.call121 rfl rfl (c_M_33z p0 vp0 x143 hx144 _ _ hp0) ?_)
  rintro _ K146 _ hK147 ⟨v145, rfl, rfl, hs148⟩
  refine Ow_q rfl rfl rfl (Q_len (T := TyA2Int) hs148 rfl rfl) ?_
  refine Ow_q rfl rfl rfl (Qt_move rfl) ?_
  refine Ow_nil ?_
  refine Cw_block ?_
  refine Cw_loopM (fun n210 env' K' G' => ∃ (v206 : SV) (l207 : List A2Int) (i209 : Int), [(0, (sv vp0)), (3, (sv v206)), (9, (sv v145)), (10, (.int .i64 (x143.length : Int))), (11, (.int .i64 i209))] = env' ∧ (.tok 115 2 [(sv v206)]) :: (.tok 115 2 [(sv v145)]) :: G = G' ∧ lp2 (M_155z p0 x143) n210 l207 i209 = some y0 ∧ Slr TyA2Int K' (sv v206) l207) BIG ?_ ?_
  ·skip
   refine Shift.nilTok1 115 2 ?_
   refine Shift.pull (.there .here) ?_
   refine Shift.pull (.there .here) ?_
   refine Shift.done ?_
   exact ⟨[(0, (sv vp0)), (3, (sv nilS)), (9, (sv v145)), (10, (.int .i64 (x143.length : Int))), (11, (.int .i64 0))], ⟨rfl, rfl, rfl, rfl, rfl, trivial⟩, nilS, ([] : List A2Int), 0, rfl, rfl, H, (Slr.nil TyA2Int _)⟩
  rintro n210 _ K211 _ hK212 ⟨v206, l207, i209, rfl, rfl, H, hs208⟩
  obtain ⟨m213, k214, rfl, hkk215, H⟩ := lps2 H
  unfold M_155z at H
  refine Cw_seq ?_
  refine Cw_region ?_
  refine Ow_q rfl rfl rfl (Qt_cmp rfl rfl rfl) ?_
  refine Ow_nil ?_
  refine Cw_seq ?_
  refine Cw_cond rfl ?_ ?_
  ·intro h217
   have h217 := dcd_t (h217)
   have H := ift h217 H
   refine Cw_skip ?_
   refine Cw_seq ?_
   refine Cw_block ?_
   refine Cw_seq ?_
   refine Cw_region ?_
   obtain ⟨x242, hx243, H⟩ := bnd H
   have hs244 := (hs148).mono hK212
   obtain ⟨r245, hr246, hk247⟩ := Slr.at hs244 hx243
   obtain rfl := hr246
   refine Ow_q rfl rfl rfl (Q_ix (T := TyA2Int) hs244 hx243 rfl rfl rfl rfl rfl) ?_
   refine Ow_q rfl rfl rfl (Qt_loadA (m := 2) (cs := (A2Int.cells x242)) rfl rfl rfl rfl ⟨rfl, Rdc.k hk247 rfl⟩) ?_
   refine Ow_cons rfl (OpW_alloc (cs := (A2Int.cells (A2Int.mk 0 0))) rfl rfl rfl rfl (fun b248 => ?_))
   refine Ow_cons rfl (OpW_store (vs := (A2Int.cells x242)) (all' := (A2Int.cells x242)) rfl rfl rfl rfl rfl .here rfl rfl rfl ?_)
   refine Ow_nil ?_
   refine Cw_seq ?_
   refine Cw_region ?_
   refine Ow_q rfl rfl rfl (Qt_move rfl) ?_
   refine Ow_q rfl rfl rfl (Qt_ixArr (q := 0) (m := 0) rfl rfl rfl rfl rfl (by decide) rfl (by decide)) ?_
   refine Ow_q rfl rfl rfl (Qt_load1 (v := (.int .i64 x242.x0)) rfl rfl rfl (Rdc.blk (.head _) rfl)) ?_
   refine Ow_q rfl rfl rfl (Qt_ixArr (q := 1) (m := 1) rfl rfl rfl rfl rfl (by decide) rfl (by decide)) ?_
   refine Ow_q rfl rfl rfl (Qt_load1 (v := (.int .i64 x242.x1)) rfl rfl rfl (Rdc.blk (.head _) rfl)) ?_
   obtain ⟨x249, x250, hx251, H⟩ := bnd2 H
   have hs252 := ((hp0).mono hK147).mono hK212
   refine Ow_cons rfl (OpW_call rfl Try.call122 rfl rfl (c_M_37z p0 vp0 x242.x0 x242.x1 x249 x250 hx251 _ _ hs252) ?_)
   rintro _ K253 _ hK254 ⟨rfl, rfl⟩
   refine Ow_q rfl rfl rfl (Qt_move rfl) ?_
   refine Ow_q rfl rfl rfl (Qt_extract rfl rfl) ?_
   refine Ow_q rfl rfl rfl (Qt_extract rfl rfl) ?_
   refine Ow_cons rfl (OpW_alloc (cs := (Result.cells (Result.mk 0 0 0 false 0))) rfl rfl rfl rfl (fun b255 => ?_))
   refine Ow_cons rfl (OpW_store (vs := (Result.cells x249)) (all' := (Result.cells x249)) rfl rfl rfl rfl rfl .here rfl rfl rfl ?_)
   refine Ow_q rfl rfl rfl (Qt_assign rfl) ?_
   refine Ow_nil ?_
   refine Cw_seq ?_
   refine Cw_region ?_
   refine Ow_q rfl rfl rfl (Qt_move rfl) ?_
   refine Ow_q rfl rfl rfl (Qt_cmp rfl rfl rfl) ?_
   refine Ow_nil ?_
   refine Cw_cond rfl ?_ ?_
   ·intro h256
    have h256 := dcd_t (h256)
    have H := ift h256 H
    refine Cw_region ?_
    refine Ow_q rfl rfl rfl (Qt_move rfl) ?_
    refine Ow_q rfl rfl rfl (Qt_loadA (m := 2) (cs := (A2Int.cells x242)) rfl rfl rfl rfl ⟨rfl, Rdc.blk (.tail _ (.head _)) rfl⟩) ?_
    have hR258 : RowR TyA2Int K253 [(A2Int.cells x242)] [x242] := RowR.cons rfl (RowR.nil)
    refine Ow_cons rfl (O_lit (T := TyA2Int) (rows := [(A2Int.cells x242)]) (l := [x242]) rfl rfl rfl hR258 rfl rfl rfl rfl rfl rfl rfl rfl (fun v257 => ?_))
    obtain ⟨x259, hx260, H⟩ := bnd H
    have hs265 := (hs208).mono hK254
    refine Ow_cons rfl (O_appTok (T := TyA2Int) (bytes := 16) (q := 0) rfl rfl rfl hs265 (.tail _ (.tail _ (.tail _ (.head _)))) rfl (SrcT.row (.head _) hR258 rfl) hx260 rfl rfl rfl rfl rfl rfl rfl rfl (fun v261 K262 hK263 hs264 => ⟨_, (.there (.there (.there .here))), ?_⟩))
    refine Ow.shift (Shift.rem .here (Shift.done ?_))
    refine Ow_q rfl rfl rfl (Qt_assign rfl) ?_
    refine Ow_nil ?_
    refine Cw_region ?_
    refine Ow_q rfl rfl rfl (Qt_arith (e := wI (i209 + 1)) rfl rfl rfl rfl) ?_
    refine Ow_q rfl rfl rfl (Qt_move rfl) ?_
    refine Ow_nil ?_
    refine Shift.pull (.there (.there (.there .here))) ?_
    refine Shift.pull (.there (.there (.there .here))) ?_
    refine Shift.rem (.there (.there .here)) ?_
    refine Shift.rem (.there (.there .here)) ?_
    refine Shift.done ?_
    exact ⟨[(0, (sv vp0)), (3, (sv v261)), (9, (sv v145)), (10, (.int .i64 (x143.length : Int))), (11, (.int .i64 (wI (i209 + 1))))], ⟨rfl, rfl, rfl, rfl, rfl, trivial⟩, _, Nat.lt_succ_self _, v261, x259, (wI (i209 + 1)), rfl, rfl, (hkk215 ▸ H), hs264⟩
   ·intro h256
    have h256 := dcd_f (h256)
    have H := iff_ h256 H
    refine Cw_skip ?_
    refine Cw_region ?_
    refine Ow_q rfl rfl rfl (Qt_arith (e := wI (i209 + 1)) rfl rfl rfl rfl) ?_
    refine Ow_q rfl rfl rfl (Qt_move rfl) ?_
    refine Ow_nil ?_
    refine Shift.pull (.there (.there (.there .here))) ?_
    refine Shift.pull (.there (.there (.there .here))) ?_
    refine Shift.rem (.there (.there .here)) ?_
    refine Shift.rem (.there (.there .here)) ?_
    have hs266 := (hs208).mono hK254
    refine Shift.done ?_
    exact ⟨[(0, (sv vp0)), (3, (sv v206)), (9, (sv v145)), (10, (.int .i64 (x143.length : Int))), (11, (.int .i64 (wI (i209 + 1))))], ⟨rfl, rfl, rfl, rfl, rfl, trivial⟩, _, Nat.lt_succ_self _, v206, l207, (wI (i209 + 1)), rfl, rfl, (hkk215 ▸ H), hs266⟩
  ·intro h217
   have h217 := dcd_f (h217)
   have H := iff_ h217 H
   refine Cw_exit ?_
   refine Shift.rem (.there .here) ?_
   refine Shift.done ?_
   exact ⟨[(3, (sv v206))], ⟨rfl, trivial⟩, v206, l207, rfl, rfl, H, hs208⟩
 rintro _ K267 _ hK268 ⟨v140, l141, rfl, rfl, H, hs142⟩
 unfold M_194z at H
 refine Cw_seq ?_
 refine Cw_region ?_
 refine Ow_q rfl rfl rfl (Qt_move rfl) ?_
 refine Ow_q rfl rfl rfl (Qt_assign rfl) ?_
 refine Ow_nil ?_
 refine Cw_ret ?_
 obtain ey0 := inj1 H
 subst y0
 refine ⟨(by first | exact .inl rfl | exact .inr rfl), [(sv v140)], ⟨(sv v140), _, rfl, rfl, rfl⟩, ?_⟩
 refine Shift.done ?_
 exact ⟨v140, rfl, rfl, hs142⟩



end Go.Hx
