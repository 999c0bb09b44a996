/- Printed by program. -/
import Derived.Test.YtgpoanmjkggijaaXCM
namespace Go.Hx
open Go Go.Proofs
set_option linter.unusedSimpArgs false
set_option linter.unusedVariables false
set_option maxRecDepth 10000
set_option maxHeartbeats 1000000 in
theorem c_M_114z (p0 : List Event) (vp0 : SV) (y0 : List A2Int) (H : M_114z p0 = some y0) (K : Kp) (G : List Ent) (hp0 : Slr TyEvent K (sv vp0) p0) :
  Fc Try.prog 71 #[(sv vp0)] K (G) (fun v K' G' => ∃ (wy0 : SV), v = (sv wy0) ∧ (.tok 115 2 [(sv wy0)]) :: G = G' ∧ Slr TyA2Int K' (sv wy0) y0) := by
 refine Fc_body Try.func71 rfl Try.ntmps71 Try.results71 rfl ?_
 unfold M_114z at H
 refine Cw_seq ?_
 refine Cw_region ?_
 refine Ow_q rfl rfl rfl (Qt_assign rfl) ?_
 refine Ow_nil ?_
 refine Cw_seq ?_
 refine Cw_region ?_
 refine Ow_q rfl rfl rfl (Qt_assign rfl) ?_
 refine Ow_nil ?_
 refine Cw_join (fun env' K' G' => ∃ (v182 : SV) (l183 : List A2Int), [(3, (sv v182))] = env' ∧ (.tok 115 2 [(sv v182)]) :: G = G' ∧ M_196z l183 = some y0 ∧ Slr TyA2Int K' (sv v182) l183) ?_ ?_
 ·skip
  refine Cw_seq ?_
  refine Cw_region ?_
  refine Ow_q rfl rfl rfl (Qt_assign rfl) ?_
  refine Ow_nil ?_
  refine Cw_block ?_
  refine Cw_loopM (fun n273 env' K' G' => ∃ (v269 : SV) (l270 : List A2Int) (i272 : Int), [(0, (sv vp0)), (3, (sv v269)), (4, (.int .i64 i272))] = env' ∧ (.tok 115 2 [(sv v269)]) :: G = G' ∧ lp2 (M_159z p0) n273 l270 i272 = some y0 ∧ Slr TyA2Int K' (sv v269) l270) BIG ?_ ?_
  ·skip
   refine Shift.nilTok1 115 2 ?_
   refine Shift.done ?_
   exact ⟨[(0, (sv vp0)), (3, (sv nilS)), (4, (.int .i64 0))], ⟨rfl, rfl, rfl, trivial⟩, nilS, ([] : List A2Int), 0, rfl, rfl, H, (Slr.nil TyA2Int _)⟩
  rintro n273 _ K274 _ hK275 ⟨v269, l270, i272, rfl, rfl, H, hs271⟩
  obtain ⟨m276, k277, rfl, hkk278, H⟩ := lps2 H
  unfold M_159z at H
  refine Cw_seq ?_
  refine Cw_seq ?_
  refine Cw_region ?_
  refine Ow_q rfl rfl rfl (Qt_move rfl) ?_
  refine Ow_q rfl rfl rfl (Qt_move rfl) ?_
  have hs281 := (hp0).mono hK275
  refine Ow_q rfl rfl rfl (Q_len (T := TyEvent) hs281 rfl rfl) ?_
  refine Ow_q rfl rfl rfl (Qt_cmp rfl rfl rfl) ?_
  refine Ow_nil ?_
  refine Cw_cond rfl ?_ ?_
  ·intro h282
   have h282 := dcd_t (h282)
   have H := ift h282 H
   refine Cw_skip ?_
   refine Cw_seq ?_
   refine Cw_block ?_
   refine Cw_seq ?_
   refine Cw_region ?_
   refine Ow_q rfl rfl rfl (Qt_move rfl) ?_
   refine Ow_q rfl rfl rfl (Qt_move rfl) ?_
   obtain ⟨x319, hx320, H⟩ := bnd H
   obtain ⟨r321, hr322, hk323⟩ := Slr.at hs281 hx320
   obtain rfl := hr322
   refine Ow_q rfl rfl rfl (Q_ix (T := TyEvent) hs281 hx320 rfl rfl rfl rfl rfl) ?_
   refine Ow_q rfl rfl rfl (Qt_fieldAddr (m := 2) rfl rfl rfl rfl rfl) ?_
   refine Ow_q rfl rfl rfl (Qt_load1 (v := (.bool x319.ret)) rfl rfl rfl (Rdc.k hk323 rfl)) ?_
   refine Ow_q rfl rfl rfl (Qt_not rfl) ?_
   refine Ow_nil ?_
   refine Cw_cond rfl ?_ ?_
   ·intro h324
    have h324 := nt_t (h324)
    have H := iff_ (btf h324) H
    obtain ⟨x325, hx326, H⟩ := bnd H
    obtain ⟨x330, hx331, H⟩ := bnd H
    obtain ⟨x337, hx338, H⟩ := bnd H
    refine Cw_region_any [] rfl Inc.nil ?_
    refine Aw_q 0 rfl (by kernel_rfl) (by kernel_rfl) (by kernel_rfl) rfl rfl rfl (Qt_move rfl) ?_
    refine Aw_q 1 rfl (by kernel_rfl) (by kernel_rfl) (by kernel_rfl) rfl rfl rfl (Qt_move rfl) ?_
    refine Aw_q 2 rfl (by kernel_rfl) (by kernel_rfl) (by kernel_rfl) rfl rfl rfl (Qt_move rfl) ?_
    obtain ⟨r343, hr344, hk345⟩ := Slr.at hs281 hx326
    obtain rfl := hr344
    refine Aw_q 3 rfl (by kernel_rfl) (by kernel_rfl) (by kernel_rfl) rfl rfl rfl (Q_ix (T := TyEvent) hs281 hx326 rfl rfl rfl rfl rfl) ?_
    refine Aw_q 4 rfl (by kernel_rfl) (by kernel_rfl) (by kernel_rfl) rfl rfl rfl (Qt_fieldAddr (m := 0) rfl rfl rfl rfl rfl) ?_
    refine Aw_q 5 rfl (by kernel_rfl) (by kernel_rfl) (by kernel_rfl) rfl rfl rfl (Qt_load1 (v := (.int .i64 x325.thread)) rfl rfl rfl (Rdc.k hk345 rfl)) ?_
    refine Aw_q 6 rfl (by kernel_rfl) (by kernel_rfl) (by kernel_rfl) rfl rfl rfl (Qt_move rfl) ?_
    refine Aw_q 7 rfl (by kernel_rfl) (by kernel_rfl) (by kernel_rfl) rfl rfl rfl (Qt_move rfl) ?_
    obtain ⟨r346, hr347, hk348⟩ := Slr.at hs281 hx331
    obtain rfl := hr347
    refine Aw_q 8 rfl (by kernel_rfl) (by kernel_rfl) (by kernel_rfl) rfl rfl rfl (Q_ix (T := TyEvent) hs281 hx331 rfl rfl rfl rfl rfl) ?_
    refine Aw_q 9 rfl (by kernel_rfl) (by kernel_rfl) (by kernel_rfl) rfl rfl rfl (Qt_fieldAddr (m := 1) rfl rfl rfl rfl rfl) ?_
    refine Aw_q 10 rfl (by kernel_rfl) (by kernel_rfl) (by kernel_rfl) rfl rfl rfl (Qt_load1 (v := (.int .i64 x330.op)) rfl rfl rfl (Rdc.k hk348 rfl)) ?_
    refine Aw_q 11 rfl (by kernel_rfl) (by kernel_rfl) (by kernel_rfl) rfl rfl rfl (Qt_buildArr (cs := (A2Int.cells (A2Int.mk x325.thread x330.op))) rfl rfl rfl rfl rfl rfl) ?_
    refine Aw_one 12 (by kernel_rfl) (Ax_mk rfl rfl ?_)
    have hR350 : RowR TyA2Int K274 [(A2Int.cells (A2Int.mk x325.thread x330.op))] [(A2Int.mk x325.thread x330.op)] := RowR.cons rfl (RowR.nil)
    refine O_lit (T := TyA2Int) (rows := [(A2Int.cells (A2Int.mk x325.thread x330.op))]) (l := [(A2Int.mk x325.thread x330.op)]) rfl rfl rfl hR350 rfl rfl rfl rfl rfl rfl rfl rfl (fun v349 => ⟨Inc.nil, ?_⟩)
    refine Aw_one 13 (by kernel_rfl) (Ax_mk rfl rfl ?_)
    refine O_appTok (T := TyA2Int) (bytes := 16) (q := 0) rfl rfl rfl hs271 (.tail _ (.head _)) rfl (SrcT.row (.head _) hR350 rfl) hx338 rfl rfl rfl rfl rfl rfl rfl rfl (fun v351 K352 hK353 hs354 => ⟨_, (.there .here), ⟨Inc.nil, ?_⟩⟩)
    refine Aw.shift (Shift.rem .here (Shift.done ⟨Inc.nil, ?_⟩))
    refine Aw_q 14 rfl (by kernel_rfl) (by kernel_rfl) (by kernel_rfl) rfl rfl rfl (Qt_assign rfl) ?_
    refine Aw_done (by kernel_rfl) ?_
    refine Cw_region ?_
    refine Ow_q rfl rfl rfl (Qt_move rfl) ?_
    refine Ow_q rfl rfl rfl (Qt_arith (e := wI (i272 + 1)) rfl rfl rfl rfl) ?_
    refine Ow_q rfl rfl rfl (Qt_assign rfl) ?_
    refine Ow_nil ?_
    refine Shift.done ?_
    exact ⟨[(0, (sv vp0)), (3, (sv v351)), (4, (.int .i64 (wI (i272 + 1))))], ⟨rfl, rfl, rfl, trivial⟩, _, Nat.lt_succ_self _, v351, x337, (wI (i272 + 1)), rfl, rfl, (hkk278 ▸ H), hs354⟩
   ·intro h324
    have h324 := nt_f (h324)
    have H := ift h324 H
    refine Cw_skip ?_
    refine Cw_region ?_
    refine Ow_q rfl rfl rfl (Qt_move rfl) ?_
    refine Ow_q rfl rfl rfl (Qt_arith (e := wI (i272 + 1)) rfl rfl rfl rfl) ?_
    refine Ow_q rfl rfl rfl (Qt_assign rfl) ?_
    refine Ow_nil ?_
    refine Shift.done ?_
    exact ⟨[(0, (sv vp0)), (3, (sv v269)), (4, (.int .i64 (wI (i272 + 1))))], ⟨rfl, rfl, rfl, trivial⟩, _, Nat.lt_succ_self _, v269, l270, (wI (i272 + 1)), rfl, rfl, (hkk278 ▸ H), hs271⟩
  ·intro h282
   have h282 := dcd_f (h282)
   have H := iff_ h282 H
   refine Cw_exit ?_
   refine Shift.done ?_
   exact ⟨[(3, (sv v269))], ⟨rfl, trivial⟩, v269, l270, rfl, rfl, H, hs271⟩
 rintro _ K355 _ hK356 ⟨v182, l183, rfl, rfl, H, hs184⟩
 unfold M_196z at H
 refine Cw_seq ?_
 refine Cw_region ?_
 refine Ow_q rfl rfl rfl (Qt_move rfl) ?_
 refine Ow_q rfl rfl rfl (Qt_assign rfl) ?_
 refine Ow_nil ?_
 refine Cw_ret ?_
 obtain ey0 := inj1 H
 subst y0
 refine ⟨(by first | exact .inl rfl | exact .inr rfl), [(sv v182)], ⟨(sv v182), _, rfl, rfl, rfl⟩, ?_⟩
 refine Shift.done ?_
 exact ⟨v182, rfl, rfl, hs184⟩

set_option maxHeartbeats 1000000 in
theorem c_M_32z (p0 : List Event) (vp0 : SV) (p1 : Int) (p2 : Int) (p3 : Bool) (y0 : Int) (H : M_32z p0 p1 p2 p3 = some y0) (K : Kp) (G : List Ent) (hp0 : Slr TyEvent K (sv vp0) p0) :
  Fc Try.prog 110 #[(sv vp0), (.int .i64 p1), (.int .i64 p2), (.bool p3)] K (G) (fun v K' G' => v = (.int .i64 y0) ∧ G = G') := by
 refine Fc_body Try.func110 rfl Try.ntmps110 Try.results110 rfl ?_
 unfold M_32z at H
 refine Cw_seq ?_
 refine Cw_region ?_
 refine Ow_q rfl rfl rfl (Qt_assign rfl) ?_
 refine Ow_nil ?_
 refine Cw_join (fun env' K' G' => [] = env' ∧ G = G' ∧ M_197z = some y0) ?_ ?_
 ·skip
  refine Cw_seq ?_
  refine Cw_region ?_
  refine Ow_q rfl rfl rfl (Qt_assign rfl) ?_
  refine Ow_nil ?_
  refine Cw_block ?_
  refine Cw_loopM (fun n157 env' K' G' => ∃ (i156 : Int), [(0, (sv vp0)), (1, (.int .i64 p1)), (2, (.int .i64 p2)), (3, (.bool p3)), (9, (.int .i64 i156))] = env' ∧ K = K' ∧ G = G' ∧ lp1 (M_115z p0 p1 p2 p3) n157 i156 = some y0) BIG ?_ ?_
  ·skip
   refine Shift.done ?_
   exact ⟨[(0, (sv vp0)), (1, (.int .i64 p1)), (2, (.int .i64 p2)), (3, (.bool p3)), (9, (.int .i64 0))], ⟨rfl, rfl, rfl, rfl, rfl, trivial⟩, 0, rfl, rfl, rfl, H⟩
  rintro n157 _ _ _ - ⟨i156, rfl, rfl, rfl, H⟩
  obtain ⟨m158, k159, rfl, hkk160, H⟩ := lps1 H
  unfold M_115z at H
  refine Cw_seq ?_
  refine Cw_seq ?_
  refine Cw_region ?_
  refine Ow_q rfl rfl rfl (Qt_move rfl) ?_
  refine Ow_q rfl rfl rfl (Qt_move rfl) ?_
  refine Ow_q rfl rfl rfl (Q_len (T := TyEvent) hp0 rfl rfl) ?_
  refine Ow_q rfl rfl rfl (Qt_cmp rfl rfl rfl) ?_
  refine Ow_nil ?_
  refine Cw_cond rfl ?_ ?_
  ·intro h162
   have h162 := dcd_t (h162)
   have H := ift h162 H
   refine Cw_skip ?_
   refine Cw_seq ?_
   refine Cw_block ?_
   refine Cw_join (fun env' K' G' => ∃ (t199 : Bool), [(0, (sv vp0)), (1, (.int .i64 p1)), (2, (.int .i64 p2)), (3, (.bool p3)), (9, (.int .i64 i156)), (40, (.bool t199))] = env' ∧ K = K' ∧ G = G' ∧ M_64z p0 p1 p2 p3 i156 k159 t199 = some y0) ?_ ?_
   ·skip
    refine Cw_region ?_
    refine Ow_q rfl rfl rfl (Qt_move rfl) ?_
    refine Ow_q rfl rfl rfl (Qt_move rfl) ?_
    obtain ⟨x200, hx201, H⟩ := bnd H
    obtain ⟨r202, hr203, hk204⟩ := Slr.at hp0 hx201
    obtain rfl := hr203
    refine Ow_q rfl rfl rfl (Q_ix (T := TyEvent) hp0 hx201 rfl rfl rfl rfl rfl) ?_
    refine Ow_q rfl rfl rfl (Qt_fieldAddr (m := 0) rfl rfl rfl rfl rfl) ?_
    refine Ow_q rfl rfl rfl (Qt_load1 (v := (.int .i64 x200.thread)) rfl rfl rfl (Rdc.k hk204 rfl)) ?_
    refine Ow_q rfl rfl rfl (Qt_move rfl) ?_
    refine Ow_q rfl rfl rfl (Qt_cmp rfl rfl rfl) ?_
    refine Ow_q rfl rfl rfl (Qt_move rfl) ?_
    refine Ow_caseG rfl rfl rfl ?_ ?_
    ·intro h205
     have h205 := dcd_t (h205)
     have H := ift h205 H
     refine Ow_qw rfl rfl rfl rfl rfl rfl (Qt_move rfl) ?_
     refine Ow_qw rfl rfl rfl rfl rfl rfl (Qt_move rfl) ?_
     obtain ⟨x206, hx207, H⟩ := bnd H
     obtain ⟨r208, hr209, hk210⟩ := Slr.at hp0 hx207
     obtain rfl := hr209
     refine Ow_qw rfl rfl rfl rfl rfl rfl (Q_ix (T := TyEvent) hp0 hx207 rfl rfl rfl rfl rfl) ?_
     refine Ow_qw rfl rfl rfl rfl rfl rfl (Qt_fieldAddr (m := 1) rfl rfl rfl rfl rfl) ?_
     refine Ow_qw rfl rfl rfl rfl rfl rfl (Qt_load1 (v := (.int .i64 x206.op)) rfl rfl rfl (Rdc.k hk210 rfl)) ?_
     refine Ow_qw rfl rfl rfl rfl rfl rfl (Qt_move rfl) ?_
     refine Ow_qw rfl rfl rfl rfl rfl rfl (Qt_cmp rfl rfl rfl) ?_
     refine Ow_q rfl rfl rfl (Qt_pick_t rfl rfl) ?_
     refine Ow_q rfl rfl rfl (Qt_move rfl) ?_
     refine Ow_caseG rfl rfl rfl ?_ ?_
     ·intro h211
      have h211 := dcd_t (h211)
      have H := ift h211 H
      refine Ow_qw rfl rfl rfl rfl rfl rfl (Qt_move rfl) ?_
      refine Ow_qw rfl rfl rfl rfl rfl rfl (Qt_move rfl) ?_
      obtain ⟨x212, hx213, H⟩ := bnd H
      obtain ⟨r214, hr215, hk216⟩ := Slr.at hp0 hx213
      obtain rfl := hr215
      refine Ow_qw rfl rfl rfl rfl rfl rfl (Q_ix (T := TyEvent) hp0 hx213 rfl rfl rfl rfl rfl) ?_
      refine Ow_qw rfl rfl rfl rfl rfl rfl (Qt_fieldAddr (m := 2) rfl rfl rfl rfl rfl) ?_
      refine Ow_qw rfl rfl rfl rfl rfl rfl (Qt_load1 (v := (.bool x212.ret)) rfl rfl rfl (Rdc.k hk216 rfl)) ?_
      refine Ow_qw rfl rfl rfl rfl rfl rfl (Qt_move rfl) ?_
      refine Ow_qw rfl rfl rfl rfl rfl rfl (Qt_eqB rfl rfl rfl) ?_
      refine Ow_q rfl rfl rfl (Qt_pick_t rfl rfl) ?_
      refine Ow_nil ?_
      refine Shift.done ?_
      exact ⟨[(0, (sv vp0)), (1, (.int .i64 p1)), (2, (.int .i64 p2)), (3, (.bool p3)), (9, (.int .i64 i156)), (40, (.bool (x212.ret == p3)))], ⟨rfl, rfl, rfl, rfl, rfl, rfl, trivial⟩, (x212.ret == p3), rfl, rfl, rfl, H⟩
     ·intro h211
      have h211 := dcd_f (h211)
      have H := iff_ h211 H
      refine Ow_pass rfl rfl rfl rfl rfl rfl rfl ?_
      refine Ow_pass rfl rfl rfl rfl rfl rfl rfl ?_
      refine Ow_pass rfl rfl rfl rfl rfl rfl rfl ?_
      refine Ow_pass rfl rfl rfl rfl rfl rfl rfl ?_
      refine Ow_pass rfl rfl rfl rfl rfl rfl rfl ?_
      refine Ow_pass rfl rfl rfl rfl rfl rfl rfl ?_
      refine Ow_pass rfl rfl rfl rfl rfl rfl rfl ?_
      refine Ow_q rfl rfl rfl (Qt_pick_f rfl rfl) ?_
      refine Ow_nil ?_
      refine Shift.done ?_
      exact ⟨[(0, (sv vp0)), (1, (.int .i64 p1)), (2, (.int .i64 p2)), (3, (.bool p3)), (9, (.int .i64 i156)), (40, (.bool false))], ⟨rfl, rfl, rfl, rfl, rfl, rfl, trivial⟩, false, rfl, rfl, rfl, H⟩
    ·intro h205
     have h205 := dcd_f (h205)
     have H := iff_ h205 H
     refine Ow_pass rfl rfl rfl rfl rfl rfl rfl ?_
     refine Ow_pass rfl rfl rfl rfl rfl rfl rfl ?_
     refine Ow_pass rfl rfl rfl rfl rfl rfl rfl ?_
     refine Ow_pass rfl rfl rfl rfl rfl rfl rfl ?_
     refine Ow_pass rfl rfl rfl rfl rfl rfl rfl ?_
     refine Ow_pass rfl rfl rfl rfl rfl rfl rfl ?_
     refine Ow_pass rfl rfl rfl rfl rfl rfl rfl ?_
     refine Ow_q rfl rfl rfl (Qt_pick_f rfl rfl) ?_
     refine Ow_q rfl rfl rfl (Qt_move rfl) ?_
     refine Ow_pass rfl rfl rfl rfl rfl rfl rfl ?_
     refine Ow_pass rfl rfl rfl rfl rfl rfl rfl ?_
     refine Ow_pass rfl rfl rfl rfl rfl rfl rfl ?_
     refine Ow_pass rfl rfl rfl rfl rfl rfl rfl ?_
     refine Ow_pass rfl rfl rfl rfl rfl rfl rfl ?_
     refine Ow_pass rfl rfl rfl rfl rfl rfl rfl ?_
     refine Ow_pass rfl rfl rfl rfl rfl rfl rfl ?_
     refine Ow_q rfl rfl rfl (Qt_pick_f rfl rfl) ?_
     refine Ow_nil ?_
     refine Shift.done ?_
     exact ⟨[(0, (sv vp0)), (1, (.int .i64 p1)), (2, (.int .i64 p2)), (3, (.bool p3)), (9, (.int .i64 i156)), (40, (.bool false))], ⟨rfl, rfl, rfl, rfl, rfl, rfl, trivial⟩, false, rfl, rfl, rfl, H⟩
   rintro _ _ _ - ⟨t199, rfl, rfl, rfl, H⟩
   unfold M_64z at H
   refine Cw_cond rfl ?_ ?_
   ·intro h217
    have H := ift h217 H
    refine Cw_seq ?_
    refine Cw_region ?_
    refine Ow_q rfl rfl rfl (Qt_move rfl) ?_
    refine Ow_q rfl rfl rfl (Qt_assign rfl) ?_
    refine Ow_nil ?_
    refine Cw_ret ?_
    obtain ey0 := inj1 H
    subst y0
    refine ⟨(by first | exact .inl rfl | exact .inr rfl), [(.int .i64 i156)], ⟨(.int .i64 i156), _, rfl, rfl, rfl⟩, ?_⟩
    refine Shift.done ?_
    exact ⟨rfl, rfl⟩
   ·intro h217
    have H := iff_ (btf h217) H
    refine Cw_skip ?_
    refine Cw_region ?_
    refine Ow_q rfl rfl rfl (Qt_move rfl) ?_
    refine Ow_q rfl rfl rfl (Qt_arith (e := wI (i156 + 1)) rfl rfl rfl rfl) ?_
    refine Ow_q rfl rfl rfl (Qt_assign rfl) ?_
    refine Ow_nil ?_
    refine Shift.done ?_
    exact ⟨[(0, (sv vp0)), (1, (.int .i64 p1)), (2, (.int .i64 p2)), (3, (.bool p3)), (9, (.int .i64 (wI (i156 + 1))))], ⟨rfl, rfl, rfl, rfl, rfl, trivial⟩, _, Nat.lt_succ_self _, (wI (i156 + 1)), rfl, rfl, rfl, (hkk160 ▸ H)⟩
  ·intro h162
   have h162 := dcd_f (h162)
   have H := iff_ h162 H
   refine Cw_exit ?_
   refine Shift.done ?_
   exact ⟨[], trivial, rfl, rfl, H⟩
 rintro _ K218 _ hK219 ⟨rfl, rfl, H⟩
 unfold M_197z at H
 refine Cw_seq ?_
 refine Cw_region ?_
 refine Ow_q rfl rfl rfl (Qt_assign rfl) ?_
 refine Ow_nil ?_
 refine Cw_ret ?_
 obtain ey0 := inj1 H
 subst y0
 refine ⟨(by first | exact .inl rfl | exact .inr rfl), [(.int .i64 (-1))], ⟨(.int .i64 (-1)), _, rfl, rfl, rfl⟩, ?_⟩
 refine Shift.done ?_
 exact ⟨rfl, rfl⟩

set_option maxHeartbeats 1000000 in
theorem c_M_116z (p0 : List Event) (vp0 : SV) (y0 : List A2Int) (H : M_116z p0 = some y0) (K : Kp) (G : List Ent) (hp0 : Slr TyEvent K (sv vp0) p0) :
  Fc Try.prog 90 #[(sv vp0)] K (G) (fun v K' G' => ∃ (wy0 : SV), v = (sv wy0) ∧ (.tok 115 2 [(sv wy0)]) :: G = G' ∧ Slr TyA2Int K' (sv wy0) y0) := by
 refine Fc_body Try.func90 rfl Try.ntmps90 Try.results90 rfl ?_
 unfold M_116z at H
 refine Cw_seq ?_
 refine Cw_region ?_
 refine Ow_q rfl rfl rfl (Qt_assign rfl) ?_
 refine Ow_nil ?_
 refine Cw_seq ?_
 refine Cw_region ?_
 refine Ow_q rfl rfl rfl (Qt_assign rfl) ?_
 refine Ow_nil ?_
 refine Cw_seq ?_
 refine Cw_region ?_
 refine Ow_q rfl rfl rfl (Qt_move rfl) ?_
 obtain ⟨x107, hx108, H⟩ := bnd H
 refine Ow_cons rfl (OpW_call rfl Try.call71 rfl rfl (c_M_114z p0 vp0 x107 hx108 _ _ hp0) ?_)
 rintro _ K110 _ hK111 ⟨v109, rfl, rfl, hs112⟩
 refine Ow_q rfl rfl rfl (Qt_assign rfl) ?_
 refine Ow_nil ?_
 refine Cw_join (fun env' K' G' => ∃ (v208 : SV) (l209 : List A2Int), [(3, (sv v208))] = env' ∧ (.tok 115 2 [(sv v208)]) :: G = G' ∧ M_198z l209 = some y0 ∧ Slr TyA2Int K' (sv v208) l209) ?_ ?_
 ·skip
  refine Cw_seq ?_
  refine Cw_region ?_
  refine Ow_q rfl rfl rfl (Qt_assign rfl) ?_
  refine Ow_nil ?_
  refine Cw_block ?_
  refine Cw_loopM (fun n306 env' K' G' => ∃ (v302 : SV) (l303 : List A2Int) (i305 : Int), [(0, (sv vp0)), (3, (sv v302)), (4, (sv v109)), (5, (.int .i64 i305))] = env' ∧ (.tok 115 2 [(sv v302)]) :: (.tok 115 2 [(sv v109)]) :: G = G' ∧ lp2 (M_160z p0 x107) n306 l303 i305 = some y0 ∧ Slr TyA2Int K' (sv v302) l303) BIG ?_ ?_
  ·skip
   refine Shift.nilTok1 115 2 ?_
   refine Shift.pull (.there .here) ?_
   refine Shift.pull (.there .here) ?_
   refine Shift.done ?_
   exact ⟨[(0, (sv vp0)), (3, (sv nilS)), (4, (sv v109)), (5, (.int .i64 0))], ⟨rfl, rfl, rfl, rfl, trivial⟩, nilS, ([] : List A2Int), 0, rfl, rfl, H, (Slr.nil TyA2Int _)⟩
  rintro n306 _ K307 _ hK308 ⟨v302, l303, i305, rfl, rfl, H, hs304⟩
  obtain ⟨m309, k310, rfl, hkk311, H⟩ := lps2 H
  unfold M_160z at H
  refine Cw_seq ?_
  refine Cw_seq ?_
  refine Cw_region ?_
  refine Ow_q rfl rfl rfl (Qt_move rfl) ?_
  refine Ow_q rfl rfl rfl (Qt_move rfl) ?_
  have hs314 := (hs112).mono hK308
  refine Ow_q rfl rfl rfl (Q_len (T := TyA2Int) hs314 rfl rfl) ?_
  refine Ow_q rfl rfl rfl (Qt_cmp rfl rfl rfl) ?_
  refine Ow_nil ?_
  refine Cw_cond rfl ?_ ?_
  ·intro h315
   have h315 := dcd_t (h315)
   have H := ift h315 H
   refine Cw_skip ?_
   refine Cw_seq ?_
   refine Cw_block ?_
   refine Cw_seq ?_
   obtain ⟨x356, hx357, H⟩ := bnd H
   obtain ⟨x361, hx362, H⟩ := bnd H
   obtain ⟨x366, hx367, H⟩ := bnd H
   refine Cw_region_any [.tok 115 2 [(sv v302)], .tok 115 2 [(sv v109)]] rfl (Inc.cons (.head _) (Inc.cons (.tail _ (.head _)) Inc.nil)) ?_
   refine Aw_q 0 rfl (by kernel_rfl) (by kernel_rfl) (by kernel_rfl) rfl rfl rfl (Qt_move rfl) ?_
   refine Aw_q 1 rfl (by kernel_rfl) (by kernel_rfl) (by kernel_rfl) rfl rfl rfl (Qt_move rfl) ?_
   refine Aw_q 2 rfl (by kernel_rfl) (by kernel_rfl) (by kernel_rfl) rfl rfl rfl (Qt_move rfl) ?_
   obtain ⟨r371, hr372, hk373⟩ := Slr.at hs314 hx357
   obtain rfl := hr372
   refine Aw_q 3 rfl (by kernel_rfl) (by kernel_rfl) (by kernel_rfl) rfl rfl rfl (Q_ix (T := TyA2Int) hs314 hx357 rfl rfl rfl rfl rfl) ?_
   refine Aw_q 4 rfl (by kernel_rfl) (by kernel_rfl) (by kernel_rfl) rfl rfl rfl (Qt_ixArr (q := 0) (m := 0) rfl rfl rfl rfl rfl (by decide) rfl (by decide)) ?_
   refine Aw_q 5 rfl (by kernel_rfl) (by kernel_rfl) (by kernel_rfl) rfl rfl rfl (Qt_load1 (v := (.int .i64 x356.x0)) rfl rfl rfl (Rdc.k hk373 rfl)) ?_
   refine Aw_q 6 rfl (by kernel_rfl) (by kernel_rfl) (by kernel_rfl) rfl rfl rfl (Qt_move rfl) ?_
   refine Aw_q 7 rfl (by kernel_rfl) (by kernel_rfl) (by kernel_rfl) rfl rfl rfl (Qt_move rfl) ?_
   obtain ⟨r374, hr375, hk376⟩ := Slr.at hs314 hx362
   obtain rfl := hr375
   refine Aw_q 8 rfl (by kernel_rfl) (by kernel_rfl) (by kernel_rfl) rfl rfl rfl (Q_ix (T := TyA2Int) hs314 hx362 rfl rfl rfl rfl rfl) ?_
   refine Aw_q 9 rfl (by kernel_rfl) (by kernel_rfl) (by kernel_rfl) rfl rfl rfl (Qt_ixArr (q := 1) (m := 1) rfl rfl rfl rfl rfl (by decide) rfl (by decide)) ?_
   refine Aw_q 10 rfl (by kernel_rfl) (by kernel_rfl) (by kernel_rfl) rfl rfl rfl (Qt_load1 (v := (.int .i64 x361.x1)) rfl rfl rfl (Rdc.k hk376 rfl)) ?_
   refine Aw_one 11 (by kernel_rfl) (Ax_mk rfl rfl ?_)
   have hs377 := ((hp0).mono hK111).mono hK308
   refine OpW_call rfl Try.call110 rfl rfl (c_M_32z p0 vp0 x356.x0 x361.x1 true x366 hx367 _ _ hs377) ?_
   rintro _ K378 _ hK379 ⟨rfl, rfl⟩
   refine ⟨(Inc.cons (.head _) (Inc.cons (.tail _ (.head _)) Inc.nil)), ?_⟩
   refine Aw_q 12 rfl (by kernel_rfl) (by kernel_rfl) (by kernel_rfl) rfl rfl rfl (Qt_cmp rfl rfl rfl) ?_
   refine Aw_done (by kernel_rfl) ?_
   refine Cw_cond rfl ?_ ?_
   ·intro h380
    have h380 := dcd_t (h380)
    have H := ift h380 H
    refine Cw_region ?_
    refine Ow_q rfl rfl rfl (Qt_move rfl) ?_
    refine Ow_q rfl rfl rfl (Qt_move rfl) ?_
    refine Ow_q rfl rfl rfl (Qt_move rfl) ?_
    obtain ⟨x381, hx382, H⟩ := bnd H
    have hs383 := (hs314).mono hK379
    obtain ⟨r384, hr385, hk386⟩ := Slr.at hs383 hx382
    obtain rfl := hr385
    refine Ow_q rfl rfl rfl (Q_ix (T := TyA2Int) hs383 hx382 rfl rfl rfl rfl rfl) ?_
    refine Ow_q rfl rfl rfl (Qt_loadA (m := 2) (cs := (A2Int.cells x381)) rfl rfl rfl rfl ⟨rfl, Rdc.k hk386 rfl⟩) ?_
    have hR388 : RowR TyA2Int K378 [(A2Int.cells x381)] [x381] := RowR.cons rfl (RowR.nil)
    refine Ow_cons rfl (O_lit (T := TyA2Int) (rows := [(A2Int.cells x381)]) (l := [x381]) rfl rfl rfl hR388 rfl rfl rfl rfl rfl rfl rfl rfl (fun v387 => ?_))
    obtain ⟨x389, hx390, H⟩ := bnd H
    have hs395 := (hs304).mono hK379
    refine Ow_cons rfl (O_appTok (T := TyA2Int) (bytes := 16) (q := 0) rfl rfl rfl hs395 (.tail _ (.head _)) rfl (SrcT.row (.head _) hR388 rfl) hx390 rfl rfl rfl rfl rfl rfl rfl rfl (fun v391 K392 hK393 hs394 => ⟨_, (.there .here), ?_⟩))
    refine Ow.shift (Shift.rem .here (Shift.done ?_))
    refine Ow_q rfl rfl rfl (Qt_assign rfl) ?_
    refine Ow_nil ?_
    refine Cw_region ?_
    refine Ow_q rfl rfl rfl (Qt_move rfl) ?_
    refine Ow_q rfl rfl rfl (Qt_arith (e := wI (i305 + 1)) rfl rfl rfl rfl) ?_
    refine Ow_q rfl rfl rfl (Qt_assign rfl) ?_
    refine Ow_nil ?_
    refine Shift.pull (.there .here) ?_
    refine Shift.pull (.there .here) ?_
    refine Shift.done ?_
    exact ⟨[(0, (sv vp0)), (3, (sv v391)), (4, (sv v109)), (5, (.int .i64 (wI (i305 + 1))))], ⟨rfl, rfl, rfl, rfl, trivial⟩, _, Nat.lt_succ_self _, v391, x389, (wI (i305 + 1)), rfl, rfl, (hkk311 ▸ H), hs394⟩
   ·intro h380
    have h380 := dcd_f (h380)
    have H := iff_ h380 H
    refine Cw_skip ?_
    refine Cw_region ?_
    refine Ow_q rfl rfl rfl (Qt_move rfl) ?_
    refine Ow_q rfl rfl rfl (Qt_arith (e := wI (i305 + 1)) rfl rfl rfl rfl) ?_
    refine Ow_q rfl rfl rfl (Qt_assign rfl) ?_
    refine Ow_nil ?_
    refine Shift.pull (.there .here) ?_
    refine Shift.pull (.there .here) ?_
    have hs396 := (hs304).mono hK379
    refine Shift.done ?_
    exact ⟨[(0, (sv vp0)), (3, (sv v302)), (4, (sv v109)), (5, (.int .i64 (wI (i305 + 1))))], ⟨rfl, rfl, rfl, rfl, trivial⟩, _, Nat.lt_succ_self _, v302, l303, (wI (i305 + 1)), rfl, rfl, (hkk311 ▸ H), hs396⟩
  ·intro h315
   have h315 := dcd_f (h315)
   have H := iff_ h315 H
   refine Cw_exit ?_
   refine Shift.rem (.there .here) ?_
   refine Shift.done ?_
   exact ⟨[(3, (sv v302))], ⟨rfl, trivial⟩, v302, l303, rfl, rfl, H, hs304⟩
 rintro _ K397 _ hK398 ⟨v208, l209, rfl, rfl, H, hs210⟩
 unfold M_198z at H
 refine Cw_seq ?_
 refine Cw_region ?_
 refine Ow_q rfl rfl rfl (Qt_move rfl) ?_
 refine Ow_q rfl rfl rfl (Qt_assign rfl) ?_
 refine Ow_nil ?_
 refine Cw_ret ?_
 obtain ey0 := inj1 H
 subst y0
 refine ⟨(by first | exact .inl rfl | exact .inr rfl), [(sv v208)], ⟨(sv v208), _, rfl, rfl, rfl⟩, ?_⟩
 refine Shift.done ?_
 exact ⟨v208, rfl, rfl, hs210⟩


end Go.Hx
