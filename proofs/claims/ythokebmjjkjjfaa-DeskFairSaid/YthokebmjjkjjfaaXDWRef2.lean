/- Printed by program. -/
import Derived.Test.YthokebmjjkjjfaaXDM
namespace Go.Hx
open Go Go.Proofs
set_option linter.unusedSimpArgs false
set_option linter.unusedVariables false
set_option maxRecDepth 10000
set_option maxHeartbeats 1000000 in
theorem c_M_33z (p0 : List Int) (vp0 : SV) (p1 : Int) (y0 : Int) (H : M_33z p0 p1 = some y0) (K : Kp) (G : List Ent) (hp0 : Slr Ty.i64 K (sv vp0) p0) :
  Fc Try.prog 82 #[(sv vp0), (.int .i64 p1)] K (G) (fun v K' G' => v = (.int .i64 y0) ∧ K = K' ∧ G = G') := by
 refine Fc_body Try.func82 rfl Try.ntmps82 Try.results82 rfl ?_
 unfold M_33z at H
 refine Cw_seq ?_
 refine Cw_region ?_
 refine Ow_q rfl rfl rfl (Qt_assign rfl) ?_
 refine Ow_nil ?_
 refine Cw_seq ?_
 refine Cw_seq ?_
 refine Cw_region ?_
 refine Ow_q rfl rfl rfl (Qt_move rfl) ?_
 refine Ow_q rfl rfl rfl (Qt_move rfl) ?_
 refine Ow_q rfl rfl rfl (Q_len (T := Ty.i64) hp0 rfl rfl) ?_
 refine Ow_q rfl rfl rfl (Qt_cmp rfl rfl rfl) ?_
 refine Ow_nil ?_
 refine Cw_cond rfl ?_ ?_
 ·intro h11
  have h11 := dcd_t (h11)
  have H := ift h11 H
  refine Cw_seq ?_
  refine Cw_region ?_
  refine Ow_q rfl rfl rfl (Qt_assign rfl) ?_
  refine Ow_nil ?_
  refine Cw_ret ?_
  obtain ey0 := inj1 H
  subst y0
  refine ⟨(by first | exact .inl rfl | exact .inr rfl), [(.int .i64 0)], ⟨(.int .i64 0), _, rfl, rfl, rfl⟩, ?_⟩
  refine Shift.done ?_
  exact ⟨rfl, rfl, rfl⟩
 ·intro h11
  have h11 := dcd_f (h11)
  have H := iff_ h11 H
  refine Cw_skip ?_
  refine Cw_seq ?_
  refine Cw_region ?_
  refine Ow_q rfl rfl rfl (Qt_move rfl) ?_
  refine Ow_q rfl rfl rfl (Qt_move rfl) ?_
  obtain ⟨x12, hx13, H⟩ := bnd H
  obtain ⟨r14, hr15, hk16⟩ := Slr.at hp0 hx13
  obtain rfl := hr15
  refine Ow_q rfl rfl rfl (Q_ix (T := Ty.i64) hp0 hx13 rfl rfl rfl rfl rfl) ?_
  refine Ow_q rfl rfl rfl (Qt_load1 (v := (.int .i64 x12)) rfl rfl rfl (Rdc.k hk16 rfl)) ?_
  refine Ow_q rfl rfl rfl (Qt_move rfl) ?_
  refine Ow_q rfl rfl rfl (Qt_arith (e := wI (p1 + 1)) rfl rfl rfl rfl) ?_
  obtain ⟨x17, hx18, H⟩ := bnd H
  refine Ow_q rfl rfl rfl (Q_rem hx18 rfl rfl) ?_
  refine Ow_q rfl rfl rfl (Qt_assign rfl) ?_
  refine Ow_nil ?_
  refine Cw_seq ?_
  refine Cw_seq ?_
  refine Cw_region ?_
  refine Ow_q rfl rfl rfl (Qt_move rfl) ?_
  refine Ow_q rfl rfl rfl (Qt_cmp rfl rfl rfl) ?_
  refine Ow_nil ?_
  refine Cw_cond rfl ?_ ?_
  ·intro h20
   have h20 := dcd_t (h20)
   have H := ift h20 H
   refine Cw_region ?_
   refine Ow_q rfl rfl rfl (Qt_move rfl) ?_
   refine Ow_q rfl rfl rfl (Qt_move rfl) ?_
   refine Ow_q rfl rfl rfl (Qt_arith (e := wI (p1 + 1)) rfl rfl rfl rfl) ?_
   refine Ow_q rfl rfl rfl (Qt_arith (e := wI (x17 + (wI (p1 + 1)))) rfl rfl rfl rfl) ?_
   refine Ow_q rfl rfl rfl (Qt_assign rfl) ?_
   refine Ow_nil ?_
   refine Cw_seq ?_
   refine Cw_region ?_
   refine Ow_q rfl rfl rfl (Qt_move rfl) ?_
   refine Ow_q rfl rfl rfl (Qt_assign rfl) ?_
   refine Ow_nil ?_
   refine Cw_ret ?_
   obtain ey0 := inj1 H
   subst y0
   refine ⟨(by first | exact .inl rfl | exact .inr rfl), [(.int .i64 (wI (x17 + (wI (p1 + 1)))))], ⟨(.int .i64 (wI (x17 + (wI (p1 + 1))))), _, rfl, rfl, rfl⟩, ?_⟩
   refine Shift.done ?_
   exact ⟨rfl, rfl, rfl⟩
  ·intro h20
   have h20 := dcd_f (h20)
   have H := iff_ h20 H
   refine Cw_skip ?_
   refine Cw_seq ?_
   refine Cw_region ?_
   refine Ow_q rfl rfl rfl (Qt_move rfl) ?_
   refine Ow_q rfl rfl rfl (Qt_assign rfl) ?_
   refine Ow_nil ?_
   refine Cw_ret ?_
   obtain ey0 := inj1 H
   subst y0
   refine ⟨(by first | exact .inl rfl | exact .inr rfl), [(.int .i64 x17)], ⟨(.int .i64 x17), _, rfl, rfl, rfl⟩, ?_⟩
   refine Shift.done ?_
   exact ⟨rfl, rfl, rfl⟩

set_option maxHeartbeats 1000000 in
theorem c_M_4z (p0 : Int) (p1 : List Int) (vp1 : SV) (y0 : List Int) (H : M_4z p0 p1 = some y0) (K : Kp) (G : List Ent) (hp1 : Slr Ty.i64 K (sv vp1) p1) :
  Fc Try.prog 55 #[(.int .i64 p0), (sv vp1)] K (G) (fun v K' G' => ∃ (wy0 : SV) (rswy0 : List (List Value)), v = (sv wy0) ∧ (.row (sv wy0) 3 1 rswy0.flatten) :: G = G' ∧ RowR Ty.i64 K' rswy0 y0) := by
 refine Fc_body Try.func55 rfl Try.ntmps55 Try.results55 rfl ?_
 unfold M_4z at H
 refine Cw_seq ?_
 refine Cw_region ?_
 refine Ow_q rfl rfl rfl (Qt_assign rfl) ?_
 refine Ow_nil ?_
 refine Cw_seq ?_
 refine Cw_join (fun env' K' G' => ∃ (t136 : Bool), [(0, (.int .i64 p0)), (1, (sv vp1)), (16, (.bool t136))] = env' ∧ K = K' ∧ G = G' ∧ M_62z p0 p1 t136 = some y0) ?_ ?_
 ·skip
  refine Cw_region ?_
  refine Ow_q rfl rfl rfl (Qt_move rfl) ?_
  refine Ow_q rfl rfl rfl (Qt_cmp rfl rfl rfl) ?_
  refine Ow_q rfl rfl rfl (Qt_move rfl) ?_
  refine Ow_caseG rfl rfl rfl ?_ ?_
  ·intro h137
   have h137 := dcd_t (h137)
   have H := ift h137 H
   refine Ow_pass rfl rfl rfl rfl rfl rfl rfl ?_
   refine Ow_pass rfl rfl rfl rfl rfl rfl rfl ?_
   refine Ow_q rfl rfl rfl (Qt_pick_t rfl rfl) ?_
   refine Ow_nil ?_
   refine Shift.done ?_
   exact ⟨[(0, (.int .i64 p0)), (1, (sv vp1)), (16, (.bool true))], ⟨rfl, rfl, rfl, trivial⟩, true, rfl, rfl, rfl, H⟩
  ·intro h137
   have h137 := dcd_f (h137)
   have H := iff_ h137 H
   refine Ow_qw rfl rfl rfl rfl rfl rfl (Qt_move rfl) ?_
   refine Ow_qw rfl rfl rfl rfl rfl rfl (Qt_cmp rfl rfl rfl) ?_
   refine Ow_q rfl rfl rfl (Qt_pick_f rfl rfl) ?_
   refine Ow_nil ?_
   refine Shift.done ?_
   exact ⟨[(0, (.int .i64 p0)), (1, (sv vp1)), (16, (.bool (dcd (p0 > 20))))], ⟨rfl, rfl, rfl, trivial⟩, (dcd (p0 > 20)), rfl, rfl, rfl, H⟩
 rintro _ _ _ - ⟨t136, rfl, rfl, rfl, H⟩
 unfold M_62z at H
 refine Cw_cond rfl ?_ ?_
 ·intro h138
  have H := ift h138 H
  refine Cw_seq ?_
  refine Cw_region ?_
  refine Ow_q rfl rfl rfl (Qt_assign rfl) ?_
  refine Ow_nil ?_
  refine Cw_ret ?_
  obtain ey0 := inj1 H
  subst y0
  refine ⟨(by first | exact .inl rfl | exact .inr rfl), [(sv nilS)], ⟨(sv nilS), _, rfl, rfl, rfl⟩, ?_⟩
  have hR139 : RowR Ty.i64 K [] [] := RowR.nil
  refine Shift.nilRow 3 1 ?_
  refine Shift.done ?_
  exact ⟨nilS, ([] : List (List Value)), rfl, rfl, hR139⟩
 ·intro h138
  have H := iff_ (btf h138) H
  refine Cw_skip ?_
  refine Cw_seq ?_
  refine Cw_region ?_
  refine Ow_q rfl rfl rfl (Qt_move rfl) ?_
  obtain ⟨x140, hx141, H⟩ := bnd H
  refine Ow_cons rfl (O_make (T := Ty.i64) (r := [(.int .i64 0)]) rfl rfl rfl hx141 rfl rfl rfl rfl rfl rfl rfl rfl rfl rfl (fun v142 rs143 hR144 hz145 => ?_))
  refine Ow_q rfl rfl rfl (Qt_assign rfl) ?_
  refine Ow_nil ?_
  refine Cw_join (fun env' K' G' => ∃ (l175 : List Int) (rs177 : List (List Value)), [(0, (.int .i64 p0)), (1, (sv vp1)), (5, (sv v142))] = env' ∧ (.row (sv v142) 3 1 rs177.flatten) :: G = G' ∧ M_111z p0 p1 l175 = some y0 ∧ RowR Ty.i64 K' rs177 l175) ?_ ?_
  ·skip
   refine Cw_seq ?_
   refine Cw_region ?_
   refine Ow_q rfl rfl rfl (Qt_assign rfl) ?_
   refine Ow_nil ?_
   refine Cw_block ?_
   refine Cw_loopM (fun n207 env' K' G' => ∃ (l203 : List Int) (rs205 : List (List Value)) (i206 : Int), [(0, (.int .i64 p0)), (1, (sv vp1)), (5, (sv v142)), (6, (.int .i64 i206))] = env' ∧ K = K' ∧ (.row (sv v142) 3 1 rs205.flatten) :: G = G' ∧ lp2 (M_112z p0 p1) n207 l203 i206 = some y0 ∧ RowR Ty.i64 K' rs205 l203) BIG ?_ ?_
   ·skip
    refine Shift.done ?_
    exact ⟨[(0, (.int .i64 p0)), (1, (sv vp1)), (5, (sv v142)), (6, (.int .i64 0))], ⟨rfl, rfl, rfl, rfl, trivial⟩, x140, rs143, 0, rfl, rfl, rfl, H, hR144⟩
   rintro n207 _ _ _ - ⟨l203, rs205, i206, rfl, rfl, rfl, H, hR204⟩
   obtain ⟨m208, k209, rfl, hkk210, H⟩ := lps2 H
   unfold M_112z at H
   refine Cw_seq ?_
   refine Cw_seq ?_
   refine Cw_region ?_
   refine Ow_q rfl rfl rfl (Qt_move rfl) ?_
   refine Ow_q rfl rfl rfl (Qt_move rfl) ?_
   refine Ow_q rfl rfl rfl (Qt_cmp rfl rfl rfl) ?_
   refine Ow_nil ?_
   refine Cw_cond rfl ?_ ?_
   ·intro h212
    have h212 := dcd_t (h212)
    have H := ift h212 H
    refine Cw_skip ?_
    refine Cw_seq ?_
    refine Cw_block ?_
    refine Cw_region ?_
    refine Ow_q rfl rfl rfl (Qt_move rfl) ?_
    refine Ow_q rfl rfl rfl (Qt_move rfl) ?_
    refine Ow_q rfl rfl rfl (Qt_move rfl) ?_
    obtain ⟨x220, hx221, H⟩ := bnd H
    obtain ⟨r222, hq223, hr224⟩ := RowR.at hR204 hx221
    obtain rfl := hr224
    refine Ow_q rfl rfl rfl (Q_ixR (T := Ty.i64) (.head _) hR204 hq223 (getI_ix hx221).1 rfl rfl rfl rfl rfl) ?_
    refine Ow_cons rfl (O_storeR (T := Ty.i64) (vs := [(.int .i64 i206)]) (r' := [(.int .i64 i206)]) (l' := (setI l203 i206 i206)) rfl rfl rfl rfl rfl .here hR204 hq223 rfl rfl rfl (RowR.set i206 hR204 rfl) (fun hR225 => ?_))
    have hE226 := set_at hq223 (v := [(.int .i64 i206)])
    refine Ow_nil ?_
    refine Cw_region ?_
    refine Ow_q rfl rfl rfl (Qt_move rfl) ?_
    refine Ow_q rfl rfl rfl (Qt_arith (e := wI (i206 + 1)) rfl rfl rfl rfl) ?_
    refine Ow_q rfl rfl rfl (Qt_assign rfl) ?_
    refine Ow_nil ?_
    refine Shift.done ?_
    exact ⟨[(0, (.int .i64 p0)), (1, (sv vp1)), (5, (sv v142)), (6, (.int .i64 (wI (i206 + 1))))], ⟨rfl, rfl, rfl, rfl, trivial⟩, _, Nat.lt_succ_self _, (setI l203 i206 i206), (rs205.set i206.toNat [(.int .i64 i206)]), (wI (i206 + 1)), rfl, rfl, rfl, (hkk210 ▸ H), hR225⟩
   ·intro h212
    have h212 := dcd_f (h212)
    have H := iff_ h212 H
    refine Cw_exit ?_
    refine Shift.done ?_
    exact ⟨[(0, (.int .i64 p0)), (1, (sv vp1)), (5, (sv v142))], ⟨rfl, rfl, rfl, trivial⟩, l203, rs205, rfl, rfl, H, hR204⟩
  rintro _ K227 _ hK228 ⟨l175, rs177, rfl, rfl, H, hR176⟩
  unfold M_111z at H
  refine Cw_join (fun env' K' G' => ∃ (l311 : List Int) (rs313 : List (List Value)), [(5, (sv v142))] = env' ∧ (.row (sv v142) 3 1 rs313.flatten) :: G = G' ∧ M_173z l311 = some y0 ∧ RowR Ty.i64 K' rs313 l311) ?_ ?_
  ·skip
   refine Cw_seq ?_
   refine Cw_region ?_
   refine Ow_q rfl rfl rfl (Qt_move rfl) ?_
   refine Ow_q rfl rfl rfl (Qt_arith (e := wI (p0 - 1)) rfl rfl rfl rfl) ?_
   refine Ow_q rfl rfl rfl (Qt_assign rfl) ?_
   refine Ow_nil ?_
   refine Cw_block ?_
   refine Cw_loopM (fun n396 env' K' G' => ∃ (l392 : List Int) (rs394 : List (List Value)) (i395 : Int), [(1, (sv vp1)), (5, (sv v142)), (7, (.int .i64 i395))] = env' ∧ K227 = K' ∧ (.row (sv v142) 3 1 rs394.flatten) :: G = G' ∧ lp2 (M_110z p1) n396 l392 i395 = some y0 ∧ RowR Ty.i64 K' rs394 l392) BIG ?_ ?_
   ·skip
    refine Shift.done ?_
    exact ⟨[(1, (sv vp1)), (5, (sv v142)), (7, (.int .i64 (wI (p0 - 1))))], ⟨rfl, rfl, rfl, trivial⟩, l175, rs177, (wI (p0 - 1)), rfl, rfl, rfl, H, hR176⟩
   rintro n396 _ _ _ - ⟨l392, rs394, i395, rfl, rfl, rfl, H, hR393⟩
   obtain ⟨m397, k398, rfl, hkk399, H⟩ := lps2 H
   unfold M_110z at H
   refine Cw_seq ?_
   refine Cw_seq ?_
   refine Cw_region ?_
   refine Ow_q rfl rfl rfl (Qt_move rfl) ?_
   refine Ow_q rfl rfl rfl (Qt_cmp rfl rfl rfl) ?_
   refine Ow_nil ?_
   refine Cw_cond rfl ?_ ?_
   ·intro h401
    have h401 := dcd_t (h401)
    have H := ift h401 H
    refine Cw_skip ?_
    refine Cw_seq ?_
    refine Cw_block ?_
    refine Cw_seq ?_
    refine Cw_region ?_
    refine Ow_q rfl rfl rfl (Qt_move rfl) ?_
    refine Ow_q rfl rfl rfl (Qt_move rfl) ?_
    obtain ⟨x435, hx436, H⟩ := bnd H
    have hs437 := (hp1).mono hK228
    refine Ow_cons rfl (OpW_call rfl Try.call82 rfl rfl (c_M_33z p1 vp1 i395 x435 hx436 _ _ hs437) ?_)
    rintro _ _ _ - ⟨rfl, rfl, rfl⟩
    refine Ow_q rfl rfl rfl (Qt_assign rfl) ?_
    refine Ow_nil ?_
    refine Cw_seq ?_
    obtain ⟨x438, hx439, H⟩ := bnd H
    obtain ⟨x443, hx444, H⟩ := bnd H
    refine Cw_region_any [.row (sv v142) 3 1 rs394.flatten] rfl (Inc.cons (.head _) Inc.nil) ?_
    refine Aw_q 0 rfl (by kernel_rfl) (by kernel_rfl) (by kernel_rfl) rfl rfl rfl (Qt_move rfl) ?_
    refine Aw_q 1 rfl (by kernel_rfl) (by kernel_rfl) (by kernel_rfl) rfl rfl rfl (Qt_move rfl) ?_
    obtain ⟨r448, hq449, hr450⟩ := RowR.at hR393 hx439
    obtain rfl := hr450
    refine Aw_q 2 rfl (by kernel_rfl) (by kernel_rfl) (by kernel_rfl) rfl rfl rfl (Q_ixR (T := Ty.i64) (.head _) hR393 hq449 (getI_ix hx439).1 rfl rfl rfl rfl rfl) ?_
    refine Aw_q 3 rfl (by kernel_rfl) (by kernel_rfl) (by kernel_rfl) rfl rfl rfl (Qt_load1 (v := (.int .i64 x438)) rfl rfl rfl (Rd_row (T := Ty.i64) (.head _) hR393 hq449 rfl rfl)) ?_
    refine Aw_q 4 rfl (by kernel_rfl) (by kernel_rfl) (by kernel_rfl) rfl rfl rfl (Qt_move rfl) ?_
    refine Aw_q 5 rfl (by kernel_rfl) (by kernel_rfl) (by kernel_rfl) rfl rfl rfl (Qt_move rfl) ?_
    obtain ⟨r451, hq452, hr453⟩ := RowR.at hR393 hx444
    obtain rfl := hr453
    refine Aw_q 6 rfl (by kernel_rfl) (by kernel_rfl) (by kernel_rfl) rfl rfl rfl (Q_ixR (T := Ty.i64) (.head _) hR393 hq452 (getI_ix hx444).1 rfl rfl rfl rfl rfl) ?_
    refine Aw_q 7 rfl (by kernel_rfl) (by kernel_rfl) (by kernel_rfl) rfl rfl rfl (Qt_load1 (v := (.int .i64 x443)) rfl rfl rfl (Rd_row (T := Ty.i64) (.head _) hR393 hq452 rfl rfl)) ?_
    refine Aw_q 8 rfl (by kernel_rfl) (by kernel_rfl) (by kernel_rfl) rfl rfl rfl (Qt_assign rfl) ?_
    refine Aw_q 9 rfl (by kernel_rfl) (by kernel_rfl) (by kernel_rfl) rfl rfl rfl (Qt_assign rfl) ?_
    refine Aw_done (by kernel_rfl) ?_
    refine Cw_region ?_
    refine Ow_q rfl rfl rfl (Qt_move rfl) ?_
    refine Ow_q rfl rfl rfl (Qt_move rfl) ?_
    refine Ow_q rfl rfl rfl (Qt_move rfl) ?_
    refine Ow_q rfl rfl rfl (Qt_move rfl) ?_
    refine Ow_q rfl rfl rfl (Qt_move rfl) ?_
    refine Ow_q rfl rfl rfl (Qt_move rfl) ?_
    obtain ⟨x454, hx455, H⟩ := bnd H
    obtain ⟨r456, hq457, hr458⟩ := RowR.at hR393 hx455
    obtain rfl := hr458
    refine Ow_q rfl rfl rfl (Q_ixR (T := Ty.i64) (.head _) hR393 hq457 (getI_ix hx455).1 rfl rfl rfl rfl rfl) ?_
    refine Ow_cons rfl (O_storeR (T := Ty.i64) (vs := [(.int .i64 x443)]) (r' := [(.int .i64 x443)]) (l' := (setI l392 i395 x443)) rfl rfl rfl rfl rfl .here hR393 hq457 rfl rfl rfl (RowR.set i395 hR393 rfl) (fun hR459 => ?_))
    have hE460 := set_at hq457 (v := [(.int .i64 x443)])
    obtain ⟨x461, hx462, H⟩ := bnd H
    obtain ⟨r463, hq464, hr465⟩ := RowR.at hR459 hx462
    obtain rfl := hr465
    refine Ow_q rfl rfl rfl (Q_ixR (T := Ty.i64) (.head _) hR459 hq464 (getI_ix hx462).1 rfl rfl rfl rfl rfl) ?_
    refine Ow_cons rfl (O_storeR (T := Ty.i64) (vs := [(.int .i64 x438)]) (r' := [(.int .i64 x438)]) (l' := (setI (setI l392 i395 x443) x435 x438)) rfl rfl rfl rfl rfl .here hR459 hq464 rfl rfl rfl (RowR.set x435 hR459 rfl) (fun hR466 => ?_))
    have hE467 := set_at hq464 (v := [(.int .i64 x438)])
    refine Ow_nil ?_
    refine Cw_region ?_
    refine Ow_q rfl rfl rfl (Qt_move rfl) ?_
    refine Ow_q rfl rfl rfl (Qt_arith (e := wI (i395 - 1)) rfl rfl rfl rfl) ?_
    refine Ow_q rfl rfl rfl (Qt_assign rfl) ?_
    refine Ow_nil ?_
    refine Shift.done ?_
    exact ⟨[(1, (sv vp1)), (5, (sv v142)), (7, (.int .i64 (wI (i395 - 1))))], ⟨rfl, rfl, rfl, trivial⟩, _, Nat.lt_succ_self _, (setI (setI l392 i395 x443) x435 x438), ((rs394.set i395.toNat [(.int .i64 x443)]).set x435.toNat [(.int .i64 x438)]), (wI (i395 - 1)), rfl, rfl, rfl, (hkk399 ▸ H), hR466⟩
   ·intro h401
    have h401 := dcd_f (h401)
    have H := iff_ h401 H
    refine Cw_exit ?_
    refine Shift.done ?_
    exact ⟨[(5, (sv v142))], ⟨rfl, trivial⟩, l392, rs394, rfl, rfl, H, hR393⟩
  rintro _ K468 _ hK469 ⟨l311, rs313, rfl, rfl, H, hR312⟩
  unfold M_173z at H
  refine Cw_seq ?_
  refine Cw_region ?_
  refine Ow_q rfl rfl rfl (Qt_move rfl) ?_
  refine Ow_q rfl rfl rfl (Qt_assign rfl) ?_
  refine Ow_nil ?_
  refine Cw_ret ?_
  obtain ey0 := inj1 H
  subst y0
  refine ⟨(by first | exact .inl rfl | exact .inr rfl), [(sv v142)], ⟨(sv v142), _, rfl, rfl, rfl⟩, ?_⟩
  refine Shift.done ?_
  exact ⟨v142, rs313, rfl, rfl, hR312⟩



end Go.Hx
