/- Printed by program. -/
import Derived.Test.YtlegagccaeoidaaXFM
namespace Go.Hx
open Go Go.Proofs
set_option linter.unusedSimpArgs false
set_option linter.unusedVariables false
set_option maxRecDepth 10000
set_option maxHeartbeats 1000000 in
theorem c_M_ref2_Same (p0 : List Int) (vp0 : SV) (p1 : List Int) (vp1 : SV) (y0 : Bool) (H : M_ref2_Same p0 p1 = some y0) (K : Kp) (G : List Ent) (hp0 : Slr Ty.i64 K (sv vp0) p0) (hp1 : Slr Ty.i64 K (sv vp1) p1) :
    Fc Try.prog 17 #[(sv vp0), (sv vp1)] K (G) (fun v K' G' => v = (.bool y0) ∧ G = G') := by
  refine Fc_body Try.func17 rfl Try.ntmps17 Try.results17 rfl ?_
  unfold M_ref2_Same at H
  refine Cw_seq ?_
  refine Cw_region ?_
  refine Ow_q rfl rfl rfl (Qt_assign rfl) ?_
  refine Ow_nil ?_
  refine Cw_seq ?_
  refine Cw_seq ?_
  refine Cw_region ?_
  refine Ow_q rfl rfl rfl (Qt_move rfl) ?_
  refine Ow_q rfl rfl rfl (Q_len (T := Ty.i64) hp0 rfl rfl) ?_
  refine Ow_q rfl rfl rfl (Qt_move rfl) ?_
  refine Ow_q rfl rfl rfl (Q_len (T := Ty.i64) hp1 rfl rfl) ?_
  refine Ow_q rfl rfl rfl (Qt_cmp rfl rfl rfl) ?_
  refine Ow_nil ?_
  refine Cw_cond rfl ?_ ?_
  · intro h53
    have h53 := dcd_f (nt_t (h53))
    have H := iff_ h53 H
    refine Cw_seq ?_
    refine Cw_region ?_
    refine Ow_q rfl rfl rfl (Qt_assign rfl) ?_
    refine Ow_nil ?_
    refine Cw_ret ?_
    obtain ey0 := inj1 H
    subst y0
    refine ⟨(by first | exact .inl rfl | exact .inr rfl), [(.bool false)], ⟨(.bool false), _, rfl, rfl, rfl⟩, ?_⟩
    refine Shift.done ?_
    exact ⟨rfl, rfl⟩
  · intro h53
    have h53 := dcd_t (nt_f (h53))
    have H := ift h53 H
    refine Cw_skip ?_
    refine Cw_join (fun env' K' G' => [] = env' ∧ G = G' ∧ M_ref2_Same_J1 = some y0) ?_ ?_
    · skip
      refine Cw_seq ?_
      refine Cw_region ?_
      refine Ow_q rfl rfl rfl (Qt_assign rfl) ?_
      refine Ow_nil ?_
      refine Cw_block ?_
      refine Cw_loopM (fun n150 env' K' G' => ∃ (i149 : Int), [(0, (sv vp0)), (1, (sv vp1)), (5, (.int .i64 i149))] = env' ∧ K = K' ∧ G = G' ∧ lp1 (M_ref2_Same_L1 p0 p1) n150 i149 = some y0) BIG ?_ ?_
      · skip
        refine Shift.done ?_
        exact ⟨[(0, (sv vp0)), (1, (sv vp1)), (5, (.int .i64 0))], ⟨rfl, rfl, rfl, trivial⟩, 0, rfl, rfl, rfl, H⟩
      rintro n150 _ _ _ - ⟨i149, rfl, rfl, rfl, H⟩
      obtain ⟨m151, k152, rfl, hkk153, H⟩ := lps1 H
      unfold M_ref2_Same_L1 at H
      refine Cw_seq ?_
      refine Cw_seq ?_
      refine Cw_region ?_
      refine Ow_q rfl rfl rfl (Qt_move rfl) ?_
      refine Ow_q rfl rfl rfl (Qt_move rfl) ?_
      refine Ow_q rfl rfl rfl (Q_len (T := Ty.i64) hp0 rfl rfl) ?_
      refine Ow_q rfl rfl rfl (Qt_cmp rfl rfl rfl) ?_
      refine Ow_nil ?_
      refine Cw_cond rfl ?_ ?_
      · intro h155
        have h155 := dcd_t (h155)
        have H := ift h155 H
        refine Cw_skip ?_
        refine Cw_seq ?_
        refine Cw_block ?_
        refine Cw_seq ?_
        obtain ⟨x173, hx174, H⟩ := bnd H
        obtain ⟨x178, hx179, H⟩ := bnd H
        refine Cw_region_any [] rfl Inc.nil ?_
        refine Aw_q 0 rfl (by kernel_rfl) (by kernel_rfl) (by kernel_rfl) rfl rfl rfl (Qt_move rfl) ?_
        refine Aw_q 1 rfl (by kernel_rfl) (by kernel_rfl) (by kernel_rfl) rfl rfl rfl (Qt_move rfl) ?_
        obtain ⟨r183, hr184, hk185⟩ := Slr.at hp0 hx174
        obtain rfl := hr184
        refine Aw_q 2 rfl (by kernel_rfl) (by kernel_rfl) (by kernel_rfl) rfl rfl rfl (Q_ix (T := Ty.i64) hp0 hx174 rfl rfl rfl rfl rfl) ?_
        refine Aw_q 3 rfl (by kernel_rfl) (by kernel_rfl) (by kernel_rfl) rfl rfl rfl (Qt_load1 (v := (.int .i64 x173)) rfl rfl rfl (Rdc.k hk185 rfl)) ?_
        refine Aw_q 4 rfl (by kernel_rfl) (by kernel_rfl) (by kernel_rfl) rfl rfl rfl (Qt_move rfl) ?_
        refine Aw_q 5 rfl (by kernel_rfl) (by kernel_rfl) (by kernel_rfl) rfl rfl rfl (Qt_move rfl) ?_
        obtain ⟨r186, hr187, hk188⟩ := Slr.at hp1 hx179
        obtain rfl := hr187
        refine Aw_q 6 rfl (by kernel_rfl) (by kernel_rfl) (by kernel_rfl) rfl rfl rfl (Q_ix (T := Ty.i64) hp1 hx179 rfl rfl rfl rfl rfl) ?_
        refine Aw_q 7 rfl (by kernel_rfl) (by kernel_rfl) (by kernel_rfl) rfl rfl rfl (Qt_load1 (v := (.int .i64 x178)) rfl rfl rfl (Rdc.k hk188 rfl)) ?_
        refine Aw_q 8 rfl (by kernel_rfl) (by kernel_rfl) (by kernel_rfl) rfl rfl rfl (Qt_cmp rfl rfl rfl) ?_
        refine Aw_done (by kernel_rfl) ?_
        refine Cw_cond rfl ?_ ?_
        · intro h189
          have h189 := dcd_f (nt_t (h189))
          have H := iff_ h189 H
          refine Cw_seq ?_
          refine Cw_region ?_
          refine Ow_q rfl rfl rfl (Qt_assign rfl) ?_
          refine Ow_nil ?_
          refine Cw_ret ?_
          obtain ey0 := inj1 H
          subst y0
          refine ⟨(by first | exact .inl rfl | exact .inr rfl), [(.bool false)], ⟨(.bool false), _, rfl, rfl, rfl⟩, ?_⟩
          refine Shift.done ?_
          exact ⟨rfl, rfl⟩
        · intro h189
          have h189 := dcd_t (nt_f (h189))
          have H := ift h189 H
          refine Cw_skip ?_
          refine Cw_region ?_
          refine Ow_q rfl rfl rfl (Qt_move rfl) ?_
          refine Ow_q rfl rfl rfl (Qt_arith (e := wI (i149 + 1)) rfl rfl rfl rfl) ?_
          refine Ow_q rfl rfl rfl (Qt_assign rfl) ?_
          refine Ow_nil ?_
          refine Shift.done ?_
          exact ⟨[(0, (sv vp0)), (1, (sv vp1)), (5, (.int .i64 (wI (i149 + 1))))], ⟨rfl, rfl, rfl, trivial⟩, _, Nat.lt_succ_self _, (wI (i149 + 1)), rfl, rfl, rfl, (hkk153 ▸ H)⟩
      · intro h155
        have h155 := dcd_f (h155)
        have H := iff_ h155 H
        refine Cw_exit ?_
        refine Shift.done ?_
        exact ⟨[], trivial, rfl, rfl, H⟩
    rintro _ K190 _ hK191 ⟨rfl, rfl, H⟩
    unfold M_ref2_Same_J1 at H
    refine Cw_seq ?_
    refine Cw_region ?_
    refine Ow_q rfl rfl rfl (Qt_assign rfl) ?_
    refine Ow_nil ?_
    refine Cw_ret ?_
    obtain ey0 := inj1 H
    subst y0
    refine ⟨(by first | exact .inl rfl | exact .inr rfl), [(.bool true)], ⟨(.bool true), _, rfl, rfl, rfl⟩, ?_⟩
    refine Shift.done ?_
    exact ⟨rfl, rfl⟩

set_option maxHeartbeats 1000000 in
theorem c_M_ref2_draw (p0 : List Int) (vp0 : SV) (p1 : Int) (y0 : Int) (H : M_ref2_draw p0 p1 = some y0) (K : Kp) (G : List Ent) (hp0 : Slr Ty.i64 K (sv vp0) p0) :
    Fc Try.prog 54 #[(sv vp0), (.int .i64 p1)] K (G) (fun v K' G' => v = (.int .i64 y0) ∧ K = K' ∧ G = G') := by
  refine Fc_body Try.func54 rfl Try.ntmps54 Try.results54 rfl ?_
  unfold M_ref2_draw at H
  refine Cw_seq ?_
  refine Cw_region ?_
  refine Ow_q rfl rfl rfl (Qt_assign rfl) ?_
  refine Ow_nil ?_
  refine Cw_seq ?_
  refine Cw_seq ?_
  refine Cw_region ?_
  refine Ow_q rfl rfl rfl (Qt_move rfl) ?_
  refine Ow_q rfl rfl rfl (Qt_move rfl) ?_
  refine Ow_q rfl rfl rfl (Q_len (T := Ty.i64) hp0 rfl rfl) ?_
  refine Ow_q rfl rfl rfl (Qt_cmp rfl rfl rfl) ?_
  refine Ow_nil ?_
  refine Cw_cond rfl ?_ ?_
  · intro h11
    have h11 := dcd_t (h11)
    have H := ift h11 H
    refine Cw_seq ?_
    refine Cw_region ?_
    refine Ow_q rfl rfl rfl (Qt_assign rfl) ?_
    refine Ow_nil ?_
    refine Cw_ret ?_
    obtain ey0 := inj1 H
    subst y0
    refine ⟨(by first | exact .inl rfl | exact .inr rfl), [(.int .i64 0)], ⟨(.int .i64 0), _, rfl, rfl, rfl⟩, ?_⟩
    refine Shift.done ?_
    exact ⟨rfl, rfl, rfl⟩
  · intro h11
    have h11 := dcd_f (h11)
    have H := iff_ h11 H
    refine Cw_skip ?_
    refine Cw_seq ?_
    refine Cw_region ?_
    refine Ow_q rfl rfl rfl (Qt_move rfl) ?_
    refine Ow_q rfl rfl rfl (Qt_move rfl) ?_
    obtain ⟨x12, hx13, H⟩ := bnd H
    obtain ⟨r14, hr15, hk16⟩ := Slr.at hp0 hx13
    obtain rfl := hr15
    refine Ow_q rfl rfl rfl (Q_ix (T := Ty.i64) hp0 hx13 rfl rfl rfl rfl rfl) ?_
    refine Ow_q rfl rfl rfl (Qt_load1 (v := (.int .i64 x12)) rfl rfl rfl (Rdc.k hk16 rfl)) ?_
    refine Ow_q rfl rfl rfl (Qt_move rfl) ?_
    refine Ow_q rfl rfl rfl (Qt_arith (e := wI (p1 + 1)) rfl rfl rfl rfl) ?_
    obtain ⟨x17, hx18, H⟩ := bnd H
    refine Ow_q rfl rfl rfl (Q_rem hx18 rfl rfl) ?_
    refine Ow_q rfl rfl rfl (Qt_assign rfl) ?_
    refine Ow_nil ?_
    refine Cw_seq ?_
    refine Cw_seq ?_
    refine Cw_region ?_
    refine Ow_q rfl rfl rfl (Qt_move rfl) ?_
    refine Ow_q rfl rfl rfl (Qt_cmp rfl rfl rfl) ?_
    refine Ow_nil ?_
    refine Cw_cond rfl ?_ ?_
    · intro h20
      have h20 := dcd_t (h20)
      have H := ift h20 H
      refine Cw_region ?_
      refine Ow_q rfl rfl rfl (Qt_move rfl) ?_
      refine Ow_q rfl rfl rfl (Qt_move rfl) ?_
      refine Ow_q rfl rfl rfl (Qt_arith (e := wI (p1 + 1)) rfl rfl rfl rfl) ?_
      refine Ow_q rfl rfl rfl (Qt_arith (e := wI (x17 + (wI (p1 + 1)))) rfl rfl rfl rfl) ?_
      refine Ow_q rfl rfl rfl (Qt_assign rfl) ?_
      refine Ow_nil ?_
      refine Cw_seq ?_
      refine Cw_region ?_
      refine Ow_q rfl rfl rfl (Qt_move rfl) ?_
      refine Ow_q rfl rfl rfl (Qt_assign rfl) ?_
      refine Ow_nil ?_
      refine Cw_ret ?_
      obtain ey0 := inj1 H
      subst y0
      refine ⟨(by first | exact .inl rfl | exact .inr rfl), [(.int .i64 (wI (x17 + (wI (p1 + 1)))))], ⟨(.int .i64 (wI (x17 + (wI (p1 + 1))))), _, rfl, rfl, rfl⟩, ?_⟩
      refine Shift.done ?_
      exact ⟨rfl, rfl, rfl⟩
    · intro h20
      have h20 := dcd_f (h20)
      have H := iff_ h20 H
      refine Cw_skip ?_
      refine Cw_seq ?_
      refine Cw_region ?_
      refine Ow_q rfl rfl rfl (Qt_move rfl) ?_
      refine Ow_q rfl rfl rfl (Qt_assign rfl) ?_
      refine Ow_nil ?_
      refine Cw_ret ?_
      obtain ey0 := inj1 H
      subst y0
      refine ⟨(by first | exact .inl rfl | exact .inr rfl), [(.int .i64 x17)], ⟨(.int .i64 x17), _, rfl, rfl, rfl⟩, ?_⟩
      refine Shift.done ?_
      exact ⟨rfl, rfl, rfl⟩

set_option maxHeartbeats 1000000 in
theorem c_M_ref2_Order (p0 : Int) (p1 : List Int) (vp1 : SV) (y0 : List Int) (H : M_ref2_Order p0 p1 = some y0) (K : Kp) (G : List Ent) (hp1 : Slr Ty.i64 K (sv vp1) p1) :
    Fc Try.prog 45 #[(.int .i64 p0), (sv vp1)] K (G) (fun v K' G' => ∃ (wy0 : SV) (rswy0 : List (List Value)), v = (sv wy0) ∧ (.row (sv wy0) 3 1 rswy0.flatten) :: G = G' ∧ RowR Ty.i64 K' rswy0 y0) := by
  refine Fc_body Try.func45 rfl Try.ntmps45 Try.results45 rfl ?_
  unfold M_ref2_Order at H
  refine Cw_seq ?_
  refine Cw_region ?_
  refine Ow_q rfl rfl rfl (Qt_assign rfl) ?_
  refine Ow_nil ?_
  refine Cw_seq ?_
  refine Cw_join (fun env' K' G' => ∃ (t136 : Bool), [(0, (.int .i64 p0)), (1, (sv vp1)), (16, (.bool t136))] = env' ∧ K = K' ∧ G = G' ∧ M_ref2_Order_J1 p0 p1 t136 = some y0) ?_ ?_
  · skip
    refine Cw_region ?_
    refine Ow_q rfl rfl rfl (Qt_move rfl) ?_
    refine Ow_q rfl rfl rfl (Qt_cmp rfl rfl rfl) ?_
    refine Ow_q rfl rfl rfl (Qt_move rfl) ?_
    refine Ow_caseG rfl rfl rfl ?_ ?_
    · intro h137
      have h137 := dcd_t (h137)
      have H := ift h137 H
      refine Ow_pass rfl rfl rfl rfl rfl rfl rfl ?_
      refine Ow_pass rfl rfl rfl rfl rfl rfl rfl ?_
      refine Ow_q rfl rfl rfl (Qt_pick_t rfl rfl) ?_
      refine Ow_nil ?_
      refine Shift.done ?_
      exact ⟨[(0, (.int .i64 p0)), (1, (sv vp1)), (16, (.bool true))], ⟨rfl, rfl, rfl, trivial⟩, true, rfl, rfl, rfl, H⟩
    · intro h137
      have h137 := dcd_f (h137)
      have H := iff_ h137 H
      refine Ow_qw rfl rfl rfl rfl rfl rfl (Qt_move rfl) ?_
      refine Ow_qw rfl rfl rfl rfl rfl rfl (Qt_cmp rfl rfl rfl) ?_
      refine Ow_q rfl rfl rfl (Qt_pick_f rfl rfl) ?_
      refine Ow_nil ?_
      refine Shift.done ?_
      exact ⟨[(0, (.int .i64 p0)), (1, (sv vp1)), (16, (.bool (dcd (p0 > 20))))], ⟨rfl, rfl, rfl, trivial⟩, (dcd (p0 > 20)), rfl, rfl, rfl, H⟩
  rintro _ _ _ - ⟨t136, rfl, rfl, rfl, H⟩
  unfold M_ref2_Order_J1 at H
  refine Cw_cond rfl ?_ ?_
  · intro h138
    have H := ift h138 H
    refine Cw_seq ?_
    refine Cw_region ?_
    refine Ow_q rfl rfl rfl (Qt_assign rfl) ?_
    refine Ow_nil ?_
    refine Cw_ret ?_
    obtain ey0 := inj1 H
    subst y0
    refine ⟨(by first | exact .inl rfl | exact .inr rfl), [(sv nilS)], ⟨(sv nilS), _, rfl, rfl, rfl⟩, ?_⟩
    have hR139 : RowR Ty.i64 K [] [] := RowR.nil
    refine Shift.nilRow 3 1 ?_
    refine Shift.done ?_
    exact ⟨nilS, ([] : List (List Value)), rfl, rfl, hR139⟩
  · intro h138
    have H := iff_ (btf h138) H
    refine Cw_skip ?_
    refine Cw_seq ?_
    refine Cw_region ?_
    refine Ow_q rfl rfl rfl (Qt_move rfl) ?_
    obtain ⟨x140, hx141, H⟩ := bnd H
    refine Ow_cons rfl (O_make (T := Ty.i64) (r := [(.int .i64 0)]) rfl rfl rfl hx141 rfl rfl rfl rfl rfl rfl rfl rfl rfl rfl (fun v142 rs143 hR144 hz145 => ?_))
    refine Ow_q rfl rfl rfl (Qt_assign rfl) ?_
    refine Ow_nil ?_
    refine Cw_join (fun env' K' G' => ∃ (l175 : List Int) (rs177 : List (List Value)), [(0, (.int .i64 p0)), (1, (sv vp1)), (5, (sv v142))] = env' ∧ (.row (sv v142) 3 1 rs177.flatten) :: G = G' ∧ M_ref2_Order_J2 p0 p1 l175 = some y0 ∧ RowR Ty.i64 K' rs177 l175) ?_ ?_
    · skip
      refine Cw_seq ?_
      refine Cw_region ?_
      refine Ow_q rfl rfl rfl (Qt_assign rfl) ?_
      refine Ow_nil ?_
      refine Cw_block ?_
      refine Cw_loopM (fun n207 env' K' G' => ∃ (l203 : List Int) (rs205 : List (List Value)) (i206 : Int), [(0, (.int .i64 p0)), (1, (sv vp1)), (5, (sv v142)), (6, (.int .i64 i206))] = env' ∧ K = K' ∧ (.row (sv v142) 3 1 rs205.flatten) :: G = G' ∧ lp2 (M_ref2_Order_L1 p0 p1) n207 l203 i206 = some y0 ∧ RowR Ty.i64 K' rs205 l203) BIG ?_ ?_
      · skip
        refine Shift.done ?_
        exact ⟨[(0, (.int .i64 p0)), (1, (sv vp1)), (5, (sv v142)), (6, (.int .i64 0))], ⟨rfl, rfl, rfl, rfl, trivial⟩, x140, rs143, 0, rfl, rfl, rfl, H, hR144⟩
      rintro n207 _ _ _ - ⟨l203, rs205, i206, rfl, rfl, rfl, H, hR204⟩
      obtain ⟨m208, k209, rfl, hkk210, H⟩ := lps2 H
      unfold M_ref2_Order_L1 at H
      refine Cw_seq ?_
      refine Cw_seq ?_
      refine Cw_region ?_
      refine Ow_q rfl rfl rfl (Qt_move rfl) ?_
      refine Ow_q rfl rfl rfl (Qt_move rfl) ?_
      refine Ow_q rfl rfl rfl (Qt_cmp rfl rfl rfl) ?_
      refine Ow_nil ?_
      refine Cw_cond rfl ?_ ?_
      · intro h212
        have h212 := dcd_t (h212)
        have H := ift h212 H
        refine Cw_skip ?_
        refine Cw_seq ?_
        refine Cw_block ?_
        refine Cw_region ?_
        refine Ow_q rfl rfl rfl (Qt_move rfl) ?_
        refine Ow_q rfl rfl rfl (Qt_move rfl) ?_
        refine Ow_q rfl rfl rfl (Qt_move rfl) ?_
        obtain ⟨x220, hx221, H⟩ := bnd H
        obtain ⟨r222, hq223, hr224⟩ := RowR.at hR204 hx221
        obtain rfl := hr224
        refine Ow_q rfl rfl rfl (Q_ixR (T := Ty.i64) (.head _) hR204 hq223 (getI_ix hx221).1 rfl rfl rfl rfl rfl) ?_
        refine Ow_cons rfl (O_storeR (T := Ty.i64) (vs := [(.int .i64 i206)]) (r' := [(.int .i64 i206)]) (l' := (setI l203 i206 i206)) rfl rfl rfl rfl rfl .here hR204 hq223 rfl rfl rfl (RowR.set i206 hR204 rfl) (fun hR225 => ?_))
        have hE226 := set_at hq223 (v := [(.int .i64 i206)])
        refine Ow_nil ?_
        refine Cw_region ?_
        refine Ow_q rfl rfl rfl (Qt_move rfl) ?_
        refine Ow_q rfl rfl rfl (Qt_arith (e := wI (i206 + 1)) rfl rfl rfl rfl) ?_
        refine Ow_q rfl rfl rfl (Qt_assign rfl) ?_
        refine Ow_nil ?_
        refine Shift.done ?_
        exact ⟨[(0, (.int .i64 p0)), (1, (sv vp1)), (5, (sv v142)), (6, (.int .i64 (wI (i206 + 1))))], ⟨rfl, rfl, rfl, rfl, trivial⟩, _, Nat.lt_succ_self _, (setI l203 i206 i206), (rs205.set i206.toNat [(.int .i64 i206)]), (wI (i206 + 1)), rfl, rfl, rfl, (hkk210 ▸ H), hR225⟩
      · intro h212
        have h212 := dcd_f (h212)
        have H := iff_ h212 H
        refine Cw_exit ?_
        refine Shift.done ?_
        exact ⟨[(0, (.int .i64 p0)), (1, (sv vp1)), (5, (sv v142))], ⟨rfl, rfl, rfl, trivial⟩, l203, rs205, rfl, rfl, H, hR204⟩
    rintro _ K227 _ hK228 ⟨l175, rs177, rfl, rfl, H, hR176⟩
    unfold M_ref2_Order_J2 at H
    refine Cw_join (fun env' K' G' => ∃ (l311 : List Int) (rs313 : List (List Value)), [(5, (sv v142))] = env' ∧ (.row (sv v142) 3 1 rs313.flatten) :: G = G' ∧ M_ref2_Order_J3 l311 = some y0 ∧ RowR Ty.i64 K' rs313 l311) ?_ ?_
    · skip
      refine Cw_seq ?_
      refine Cw_region ?_
      refine Ow_q rfl rfl rfl (Qt_move rfl) ?_
      refine Ow_q rfl rfl rfl (Qt_arith (e := wI (p0 - 1)) rfl rfl rfl rfl) ?_
      refine Ow_q rfl rfl rfl (Qt_assign rfl) ?_
      refine Ow_nil ?_
      refine Cw_block ?_
      refine Cw_loopM (fun n396 env' K' G' => ∃ (l392 : List Int) (rs394 : List (List Value)) (i395 : Int), [(1, (sv vp1)), (5, (sv v142)), (7, (.int .i64 i395))] = env' ∧ K227 = K' ∧ (.row (sv v142) 3 1 rs394.flatten) :: G = G' ∧ lp2 (M_ref2_Order_L2 p1) n396 l392 i395 = some y0 ∧ RowR Ty.i64 K' rs394 l392) BIG ?_ ?_
      · skip
        refine Shift.done ?_
        exact ⟨[(1, (sv vp1)), (5, (sv v142)), (7, (.int .i64 (wI (p0 - 1))))], ⟨rfl, rfl, rfl, trivial⟩, l175, rs177, (wI (p0 - 1)), rfl, rfl, rfl, H, hR176⟩
      rintro n396 _ _ _ - ⟨l392, rs394, i395, rfl, rfl, rfl, H, hR393⟩
      obtain ⟨m397, k398, rfl, hkk399, H⟩ := lps2 H
      unfold M_ref2_Order_L2 at H
      refine Cw_seq ?_
      refine Cw_seq ?_
      refine Cw_region ?_
      refine Ow_q rfl rfl rfl (Qt_move rfl) ?_
      refine Ow_q rfl rfl rfl (Qt_cmp rfl rfl rfl) ?_
      refine Ow_nil ?_
      refine Cw_cond rfl ?_ ?_
      · intro h401
        have h401 := dcd_t (h401)
        have H := ift h401 H
        refine Cw_skip ?_
        refine Cw_seq ?_
        refine Cw_block ?_
        refine Cw_seq ?_
        refine Cw_region ?_
        refine Ow_q rfl rfl rfl (Qt_move rfl) ?_
        refine Ow_q rfl rfl rfl (Qt_move rfl) ?_
        obtain ⟨x435, hx436, H⟩ := bnd H
        have hs437 := (hp1).mono hK228
        refine Ow_cons rfl (OpW_call rfl Try.call54 rfl rfl (c_M_ref2_draw p1 vp1 i395 x435 hx436 _ _ hs437) ?_)
        rintro _ _ _ - ⟨rfl, rfl, rfl⟩
        refine Ow_q rfl rfl rfl (Qt_assign rfl) ?_
        refine Ow_nil ?_
        refine Cw_seq ?_
        obtain ⟨x438, hx439, H⟩ := bnd H
        obtain ⟨x443, hx444, H⟩ := bnd H
        refine Cw_region_any [.row (sv v142) 3 1 rs394.flatten] rfl (Inc.cons (.head _) Inc.nil) ?_
        refine Aw_q 0 rfl (by kernel_rfl) (by kernel_rfl) (by kernel_rfl) rfl rfl rfl (Qt_move rfl) ?_
        refine Aw_q 1 rfl (by kernel_rfl) (by kernel_rfl) (by kernel_rfl) rfl rfl rfl (Qt_move rfl) ?_
        obtain ⟨r448, hq449, hr450⟩ := RowR.at hR393 hx439
        obtain rfl := hr450
        refine Aw_q 2 rfl (by kernel_rfl) (by kernel_rfl) (by kernel_rfl) rfl rfl rfl (Q_ixR (T := Ty.i64) (.head _) hR393 hq449 (getI_ix hx439).1 rfl rfl rfl rfl rfl) ?_
        refine Aw_q 3 rfl (by kernel_rfl) (by kernel_rfl) (by kernel_rfl) rfl rfl rfl (Qt_load1 (v := (.int .i64 x438)) rfl rfl rfl (Rd_row (T := Ty.i64) (.head _) hR393 hq449 rfl rfl)) ?_
        refine Aw_q 4 rfl (by kernel_rfl) (by kernel_rfl) (by kernel_rfl) rfl rfl rfl (Qt_move rfl) ?_
        refine Aw_q 5 rfl (by kernel_rfl) (by kernel_rfl) (by kernel_rfl) rfl rfl rfl (Qt_move rfl) ?_
        obtain ⟨r451, hq452, hr453⟩ := RowR.at hR393 hx444
        obtain rfl := hr453
        refine Aw_q 6 rfl (by kernel_rfl) (by kernel_rfl) (by kernel_rfl) rfl rfl rfl (Q_ixR (T := Ty.i64) (.head _) hR393 hq452 (getI_ix hx444).1 rfl rfl rfl rfl rfl) ?_
        refine Aw_q 7 rfl (by kernel_rfl) (by kernel_rfl) (by kernel_rfl) rfl rfl rfl (Qt_load1 (v := (.int .i64 x443)) rfl rfl rfl (Rd_row (T := Ty.i64) (.head _) hR393 hq452 rfl rfl)) ?_
        refine Aw_q 8 rfl (by kernel_rfl) (by kernel_rfl) (by kernel_rfl) rfl rfl rfl (Qt_assign rfl) ?_
        refine Aw_q 9 rfl (by kernel_rfl) (by kernel_rfl) (by kernel_rfl) rfl rfl rfl (Qt_assign rfl) ?_
        refine Aw_done (by kernel_rfl) ?_
        refine Cw_region ?_
        refine Ow_q rfl rfl rfl (Qt_move rfl) ?_
        refine Ow_q rfl rfl rfl (Qt_move rfl) ?_
        refine Ow_q rfl rfl rfl (Qt_move rfl) ?_
        refine Ow_q rfl rfl rfl (Qt_move rfl) ?_
        refine Ow_q rfl rfl rfl (Qt_move rfl) ?_
        refine Ow_q rfl rfl rfl (Qt_move rfl) ?_
        obtain ⟨x454, hx455, H⟩ := bnd H
        obtain ⟨r456, hq457, hr458⟩ := RowR.at hR393 hx455
        obtain rfl := hr458
        refine Ow_q rfl rfl rfl (Q_ixR (T := Ty.i64) (.head _) hR393 hq457 (getI_ix hx455).1 rfl rfl rfl rfl rfl) ?_
        refine Ow_cons rfl (O_storeR (T := Ty.i64) (vs := [(.int .i64 x443)]) (r' := [(.int .i64 x443)]) (l' := (setI l392 i395 x443)) rfl rfl rfl rfl rfl .here hR393 hq457 rfl rfl rfl (RowR.set i395 hR393 rfl) (fun hR459 => ?_))
        have hE460 := set_at hq457 (v := [(.int .i64 x443)])
        obtain ⟨x461, hx462, H⟩ := bnd H
        obtain ⟨r463, hq464, hr465⟩ := RowR.at hR459 hx462
        obtain rfl := hr465
        refine Ow_q rfl rfl rfl (Q_ixR (T := Ty.i64) (.head _) hR459 hq464 (getI_ix hx462).1 rfl rfl rfl rfl rfl) ?_
        refine Ow_cons rfl (O_storeR (T := Ty.i64) (vs := [(.int .i64 x438)]) (r' := [(.int .i64 x438)]) (l' := (setI (setI l392 i395 x443) x435 x438)) rfl rfl rfl rfl rfl .here hR459 hq464 rfl rfl rfl (RowR.set x435 hR459 rfl) (fun hR466 => ?_))
        have hE467 := set_at hq464 (v := [(.int .i64 x438)])
        refine Ow_nil ?_
        refine Cw_region ?_
        refine Ow_q rfl rfl rfl (Qt_move rfl) ?_
        refine Ow_q rfl rfl rfl (Qt_arith (e := wI (i395 - 1)) rfl rfl rfl rfl) ?_
        refine Ow_q rfl rfl rfl (Qt_assign rfl) ?_
        refine Ow_nil ?_
        refine Shift.done ?_
        exact ⟨[(1, (sv vp1)), (5, (sv v142)), (7, (.int .i64 (wI (i395 - 1))))], ⟨rfl, rfl, rfl, trivial⟩, _, Nat.lt_succ_self _, (setI (setI l392 i395 x443) x435 x438), ((rs394.set i395.toNat [(.int .i64 x443)]).set x435.toNat [(.int .i64 x438)]), (wI (i395 - 1)), rfl, rfl, rfl, (hkk399 ▸ H), hR466⟩
      · intro h401
        have h401 := dcd_f (h401)
        have H := iff_ h401 H
        refine Cw_exit ?_
        refine Shift.done ?_
        exact ⟨[(5, (sv v142))], ⟨rfl, trivial⟩, l392, rs394, rfl, rfl, H, hR393⟩
    rintro _ K468 _ hK469 ⟨l311, rs313, rfl, rfl, H, hR312⟩
    unfold M_ref2_Order_J3 at H
    refine Cw_seq ?_
    refine Cw_region ?_
    refine Ow_q rfl rfl rfl (Qt_move rfl) ?_
    refine Ow_q rfl rfl rfl (Qt_assign rfl) ?_
    refine Ow_nil ?_
    refine Cw_ret ?_
    obtain ey0 := inj1 H
    subst y0
    refine ⟨(by first | exact .inl rfl | exact .inr rfl), [(sv v142)], ⟨(sv v142), _, rfl, rfl, rfl⟩, ?_⟩
    refine Shift.done ?_
    exact ⟨v142, rs313, rfl, rfl, hR312⟩

set_option maxHeartbeats 1000000 in
theorem c_M_ref2_Count (p0 : Int) (y0 : Int) (H : M_ref2_Count p0 = some y0) (K : Kp) (G : List Ent)  :
    Fc Try.prog 22 #[(.int .i64 p0)] K (G) (fun v K' G' => v = (.int .i64 y0) ∧ G = G') := by
  refine Fc_body Try.func22 rfl Try.ntmps22 Try.results22 rfl ?_
  unfold M_ref2_Count at H
  refine Cw_seq ?_
  refine Cw_region ?_
  refine Ow_q rfl rfl rfl (Qt_assign rfl) ?_
  refine Ow_nil ?_
  refine Cw_seq ?_
  refine Cw_join (fun env' K' G' => ∃ (i23 : Int) (t24 : Bool), [(0, (.int .i64 i23)), (10, (.bool t24))] = env' ∧ K = K' ∧ G = G' ∧ M_ref2_Count_J1 i23 t24 = some y0) ?_ ?_
  · skip
    refine Cw_region ?_
    refine Ow_q rfl rfl rfl (Qt_move rfl) ?_
    refine Ow_q rfl rfl rfl (Qt_cmp rfl rfl rfl) ?_
    refine Ow_q rfl rfl rfl (Qt_move rfl) ?_
    refine Ow_caseG rfl rfl rfl ?_ ?_
    · intro h25
      have h25 := dcd_t (h25)
      have H := ift h25 H
      refine Ow_pass rfl rfl rfl rfl rfl rfl rfl ?_
      refine Ow_pass rfl rfl rfl rfl rfl rfl rfl ?_
      refine Ow_q rfl rfl rfl (Qt_pick_t rfl rfl) ?_
      refine Ow_nil ?_
      refine Shift.done ?_
      exact ⟨[(0, (.int .i64 p0)), (10, (.bool true))], ⟨rfl, rfl, trivial⟩, p0, true, rfl, rfl, rfl, H⟩
    · intro h25
      have h25 := dcd_f (h25)
      have H := iff_ h25 H
      refine Ow_qw rfl rfl rfl rfl rfl rfl (Qt_move rfl) ?_
      refine Ow_qw rfl rfl rfl rfl rfl rfl (Qt_cmp rfl rfl rfl) ?_
      refine Ow_q rfl rfl rfl (Qt_pick_f rfl rfl) ?_
      refine Ow_nil ?_
      refine Shift.done ?_
      exact ⟨[(0, (.int .i64 p0)), (10, (.bool (dcd (p0 > 20))))], ⟨rfl, rfl, trivial⟩, p0, (dcd (p0 > 20)), rfl, rfl, rfl, H⟩
  rintro _ _ _ - ⟨i23, t24, rfl, rfl, rfl, H⟩
  unfold M_ref2_Count_J1 at H
  refine Cw_cond rfl ?_ ?_
  · intro h26
    have H := ift h26 H
    refine Cw_seq ?_
    refine Cw_region ?_
    refine Ow_q rfl rfl rfl (Qt_assign rfl) ?_
    refine Ow_nil ?_
    refine Cw_ret ?_
    obtain ey0 := inj1 H
    subst y0
    refine ⟨(by first | exact .inl rfl | exact .inr rfl), [(.int .i64 0)], ⟨(.int .i64 0), _, rfl, rfl, rfl⟩, ?_⟩
    refine Shift.done ?_
    exact ⟨rfl, rfl⟩
  · intro h26
    have H := iff_ (btf h26) H
    refine Cw_skip ?_
    refine Cw_seq ?_
    refine Cw_region ?_
    refine Ow_q rfl rfl rfl (Qt_assign rfl) ?_
    refine Ow_nil ?_
    refine Cw_join (fun env' K' G' => ∃ (i37 : Int), [(3, (.int .i64 i37))] = env' ∧ G = G' ∧ M_ref2_Count_J2 i37 = some y0) ?_ ?_
    · skip
      refine Cw_seq ?_
      refine Cw_region ?_
      refine Ow_q rfl rfl rfl (Qt_assign rfl) ?_
      refine Ow_nil ?_
      refine Cw_block ?_
      refine Cw_loopM (fun n48 env' K' G' => ∃ (i46 : Int) (i47 : Int), [(0, (.int .i64 i23)), (3, (.int .i64 i46)), (4, (.int .i64 i47))] = env' ∧ K = K' ∧ G = G' ∧ lp2 (M_ref2_Count_L1 i23) n48 i46 i47 = some y0) BIG ?_ ?_
      · skip
        refine Shift.done ?_
        exact ⟨[(0, (.int .i64 i23)), (3, (.int .i64 1)), (4, (.int .i64 2))], ⟨rfl, rfl, rfl, trivial⟩, 1, 2, rfl, rfl, rfl, H⟩
      rintro n48 _ _ _ - ⟨i46, i47, rfl, rfl, rfl, H⟩
      obtain ⟨m49, k50, rfl, hkk51, H⟩ := lps2 H
      unfold M_ref2_Count_L1 at H
      refine Cw_seq ?_
      refine Cw_seq ?_
      refine Cw_region ?_
      refine Ow_q rfl rfl rfl (Qt_move rfl) ?_
      refine Ow_q rfl rfl rfl (Qt_move rfl) ?_
      refine Ow_q rfl rfl rfl (Qt_cmp rfl rfl rfl) ?_
      refine Ow_nil ?_
      refine Cw_cond rfl ?_ ?_
      · intro h53
        have h53 := dcd_t (h53)
        have H := ift h53 H
        refine Cw_skip ?_
        refine Cw_seq ?_
        refine Cw_block ?_
        refine Cw_region ?_
        refine Ow_q rfl rfl rfl (Qt_move rfl) ?_
        refine Ow_q rfl rfl rfl (Qt_move rfl) ?_
        refine Ow_q rfl rfl rfl (Qt_arith (e := wI (i46 * i47)) rfl rfl rfl rfl) ?_
        refine Ow_q rfl rfl rfl (Qt_assign rfl) ?_
        refine Ow_nil ?_
        refine Cw_region ?_
        refine Ow_q rfl rfl rfl (Qt_move rfl) ?_
        refine Ow_q rfl rfl rfl (Qt_arith (e := wI (i47 + 1)) rfl rfl rfl rfl) ?_
        refine Ow_q rfl rfl rfl (Qt_assign rfl) ?_
        refine Ow_nil ?_
        refine Shift.done ?_
        exact ⟨[(0, (.int .i64 i23)), (3, (.int .i64 (wI (i46 * i47)))), (4, (.int .i64 (wI (i47 + 1))))], ⟨rfl, rfl, rfl, trivial⟩, _, Nat.lt_succ_self _, (wI (i46 * i47)), (wI (i47 + 1)), rfl, rfl, rfl, (hkk51 ▸ H)⟩
      · intro h53
        have h53 := dcd_f (h53)
        have H := iff_ h53 H
        refine Cw_exit ?_
        refine Shift.done ?_
        exact ⟨[(3, (.int .i64 i46))], ⟨rfl, trivial⟩, i46, rfl, rfl, H⟩
    rintro _ K54 _ hK55 ⟨i37, rfl, rfl, H⟩
    unfold M_ref2_Count_J2 at H
    refine Cw_seq ?_
    refine Cw_region ?_
    refine Ow_q rfl rfl rfl (Qt_move rfl) ?_
    refine Ow_q rfl rfl rfl (Qt_assign rfl) ?_
    refine Ow_nil ?_
    refine Cw_ret ?_
    obtain ey0 := inj1 H
    subst y0
    refine ⟨(by first | exact .inl rfl | exact .inr rfl), [(.int .i64 i37)], ⟨(.int .i64 i37), _, rfl, rfl, rfl⟩, ?_⟩
    refine Shift.done ?_
    exact ⟨rfl, rfl⟩

set_option maxHeartbeats 1000000 in
theorem c_M_ref2_Nth (p0 : Int) (p1 : Int) (y0 : List Int) (y1 : Bool) (H : M_ref2_Nth p0 p1 = some (y0, y1)) (K : Kp) (G : List Ent)  :
    Fc Try.prog 23 #[(.int .i64 p0), (.int .i64 p1)] K (G) (fun v K' G' => ∃ (wy0 : SV) (rswy0 : List (List Value)), v = (.tuple #[(sv wy0), (.bool y1)]) ∧ (.row (sv wy0) 3 1 rswy0.flatten) :: G = G' ∧ RowR Ty.i64 K' rswy0 y0) := by
  refine Fc_body Try.func23 rfl Try.ntmps23 Try.results23 rfl ?_
  unfold M_ref2_Nth at H
  refine Cw_seq ?_
  refine Cw_region ?_
  refine Ow_q rfl rfl rfl (Qt_assign rfl) ?_
  refine Ow_q rfl rfl rfl (Qt_assign rfl) ?_
  refine Ow_nil ?_
  refine Cw_seq ?_
  refine Cw_join (fun env' K' G' => ∃ (t81 : Bool), [(0, (.int .i64 p0)), (1, (.int .i64 p1)), (23, (.bool t81))] = env' ∧ G = G' ∧ M_ref2_Nth_J1 p0 p1 t81 = some (y0, y1)) ?_ ?_
  · skip
    refine Cw_region ?_
    refine Ow_q rfl rfl rfl (Qt_move rfl) ?_
    refine Ow_q rfl rfl rfl (Qt_cmp rfl rfl rfl) ?_
    refine Ow_q rfl rfl rfl (Qt_move rfl) ?_
    refine Ow_caseG rfl rfl rfl ?_ ?_
    · intro h82
      have h82 := dcd_t (h82)
      have H := ift h82 H
      refine Ow_pass rfl rfl rfl rfl rfl rfl rfl ?_
      refine Ow_pass rfl rfl rfl rfl rfl rfl rfl ?_
      refine Ow_q rfl rfl rfl (Qt_pick_t rfl rfl) ?_
      refine Ow_q rfl rfl rfl (Qt_move rfl) ?_
      refine Ow_pass rfl rfl rfl rfl rfl rfl rfl ?_
      refine Ow_pass rfl rfl rfl rfl rfl rfl rfl ?_
      refine Ow_q rfl rfl rfl (Qt_pick_t rfl rfl) ?_
      refine Ow_q rfl rfl rfl (Qt_move rfl) ?_
      refine Ow_pass rfl rfl rfl rfl rfl rfl rfl ?_
      refine Ow_pass rfl rfl rfl rfl rfl rfl rfl ?_
      refine Ow_pass rfl rfl rfl rfl rfl rfl rfl ?_
      refine Ow_pass rfl rfl rfl rfl rfl rfl rfl ?_
      refine Ow_q rfl rfl rfl (Qt_pick_t rfl rfl) ?_
      refine Ow_nil ?_
      refine Shift.done ?_
      exact ⟨[(0, (.int .i64 p0)), (1, (.int .i64 p1)), (23, (.bool true))], ⟨rfl, rfl, rfl, trivial⟩, true, rfl, rfl, H⟩
    · intro h82
      have h82 := dcd_f (h82)
      have H := iff_ h82 H
      refine Ow_qw rfl rfl rfl rfl rfl rfl (Qt_move rfl) ?_
      refine Ow_qw rfl rfl rfl rfl rfl rfl (Qt_cmp rfl rfl rfl) ?_
      refine Ow_q rfl rfl rfl (Qt_pick_f rfl rfl) ?_
      refine Ow_q rfl rfl rfl (Qt_move rfl) ?_
      refine Ow_caseG rfl rfl rfl ?_ ?_
      · intro h83
        have h83 := dcd_t (h83)
        have H := ift h83 H
        refine Ow_pass rfl rfl rfl rfl rfl rfl rfl ?_
        refine Ow_pass rfl rfl rfl rfl rfl rfl rfl ?_
        refine Ow_q rfl rfl rfl (Qt_pick_t rfl rfl) ?_
        refine Ow_q rfl rfl rfl (Qt_move rfl) ?_
        refine Ow_pass rfl rfl rfl rfl rfl rfl rfl ?_
        refine Ow_pass rfl rfl rfl rfl rfl rfl rfl ?_
        refine Ow_pass rfl rfl rfl rfl rfl rfl rfl ?_
        refine Ow_pass rfl rfl rfl rfl rfl rfl rfl ?_
        refine Ow_q rfl rfl rfl (Qt_pick_t rfl rfl) ?_
        refine Ow_nil ?_
        refine Shift.done ?_
        exact ⟨[(0, (.int .i64 p0)), (1, (.int .i64 p1)), (23, (.bool true))], ⟨rfl, rfl, rfl, trivial⟩, true, rfl, rfl, H⟩
      · intro h83
        have h83 := dcd_f (h83)
        have H := iff_ h83 H
        refine Ow_qw rfl rfl rfl rfl rfl rfl (Qt_move rfl) ?_
        refine Ow_qw rfl rfl rfl rfl rfl rfl (Qt_cmp rfl rfl rfl) ?_
        refine Ow_q rfl rfl rfl (Qt_pick_f rfl rfl) ?_
        refine Ow_q rfl rfl rfl (Qt_move rfl) ?_
        refine Ow_caseG rfl rfl rfl ?_ ?_
        · intro h84
          have h84 := dcd_t (h84)
          have H := ift h84 H
          refine Ow_pass rfl rfl rfl rfl rfl rfl rfl ?_
          refine Ow_pass rfl rfl rfl rfl rfl rfl rfl ?_
          refine Ow_pass rfl rfl rfl rfl rfl rfl rfl ?_
          refine Ow_pass rfl rfl rfl rfl rfl rfl rfl ?_
          refine Ow_q rfl rfl rfl (Qt_pick_t rfl rfl) ?_
          refine Ow_nil ?_
          refine Shift.done ?_
          exact ⟨[(0, (.int .i64 p0)), (1, (.int .i64 p1)), (23, (.bool true))], ⟨rfl, rfl, rfl, trivial⟩, true, rfl, rfl, H⟩
        · intro h84
          have h84 := dcd_f (h84)
          have H := iff_ h84 H
          refine Ow_qw rfl rfl rfl rfl rfl rfl (Qt_move rfl) ?_
          refine Ow_qw rfl rfl rfl rfl rfl rfl (Qt_move rfl) ?_
          obtain ⟨x85, hx86, H⟩ := bnd H
          refine Ow_want rfl rfl rfl rfl (OpW_call rfl Try.call22 rfl rfl (c_M_ref2_Count p0 x85 hx86 _ _ ) ?_)
          rintro _ K87 _ hK88 ⟨rfl, rfl⟩
          refine Ow_qw rfl rfl rfl rfl rfl rfl (Qt_cmp rfl rfl rfl) ?_
          refine Ow_q rfl rfl rfl (Qt_pick_f rfl rfl) ?_
          refine Ow_nil ?_
          refine Shift.done ?_
          exact ⟨[(0, (.int .i64 p0)), (1, (.int .i64 p1)), (23, (.bool (dcd (p1 ≥ x85))))], ⟨rfl, rfl, rfl, trivial⟩, (dcd (p1 ≥ x85)), rfl, rfl, H⟩
  rintro _ K89 _ hK90 ⟨t81, rfl, rfl, H⟩
  unfold M_ref2_Nth_J1 at H
  refine Cw_cond rfl ?_ ?_
  · intro h91
    have H := ift h91 H
    refine Cw_seq ?_
    refine Cw_region ?_
    refine Ow_q rfl rfl rfl (Qt_assign rfl) ?_
    refine Ow_q rfl rfl rfl (Qt_assign rfl) ?_
    refine Ow_nil ?_
    refine Cw_ret ?_
    obtain ⟨ey0, ey1⟩ := inj2 H
    subst y0 y1
    refine ⟨(by first | exact .inl rfl | exact .inr rfl), [(sv nilS), (.bool false)], ⟨(sv nilS), _, rfl, rfl, ⟨(.bool false), _, rfl, rfl, rfl⟩⟩, ?_⟩
    have hR92 : RowR Ty.i64 K89 [] [] := RowR.nil
    refine Shift.nilRow 3 1 ?_
    refine Shift.done ?_
    exact ⟨nilS, ([] : List (List Value)), rfl, rfl, hR92⟩
  · intro h91
    have H := iff_ (btf h91) H
    refine Cw_skip ?_
    refine Cw_seq ?_
    refine Cw_region ?_
    refine Ow_q rfl rfl rfl (Qt_move rfl) ?_
    obtain ⟨x93, hx94, H⟩ := bnd H
    refine Ow_cons rfl (O_make (T := Ty.i64) (r := [(.int .i64 0)]) rfl rfl rfl hx94 rfl rfl rfl rfl rfl rfl rfl rfl rfl rfl (fun v95 rs96 hR97 hz98 => ?_))
    refine Ow_q rfl rfl rfl (Qt_assign rfl) ?_
    refine Ow_nil ?_
    refine Cw_join (fun env' K' G' => ∃ (l138 : List Int) (rs140 : List (List Value)), [(6, (sv v95))] = env' ∧ (.row (sv v95) 3 1 rs140.flatten) :: G = G' ∧ M_ref2_Nth_J2 l138 = some (y0, y1) ∧ RowR Ty.i64 K' rs140 l138) ?_ ?_
    · skip
      refine Cw_seq ?_
      refine Cw_region ?_
      refine Ow_q rfl rfl rfl (Qt_move rfl) ?_
      refine Ow_q rfl rfl rfl (Qt_assign rfl) ?_
      refine Ow_nil ?_
      refine Cw_block ?_
      refine Cw_loopM (fun n180 env' K' G' => ∃ (i175 : Int) (l176 : List Int) (rs178 : List (List Value)) (i179 : Int), [(1, (.int .i64 i175)), (6, (sv v95)), (7, (.int .i64 i179))] = env' ∧ K89 = K' ∧ (.row (sv v95) 3 1 rs178.flatten) :: G = G' ∧ lp3 (M_ref2_Nth_L1) n180 i175 l176 i179 = some (y0, y1) ∧ RowR Ty.i64 K' rs178 l176) BIG ?_ ?_
      · skip
        refine Shift.done ?_
        exact ⟨[(1, (.int .i64 p1)), (6, (sv v95)), (7, (.int .i64 p0))], ⟨rfl, rfl, rfl, trivial⟩, p1, x93, rs96, p0, rfl, rfl, rfl, H, hR97⟩
      rintro n180 _ _ _ - ⟨i175, l176, rs178, i179, rfl, rfl, rfl, H, hR177⟩
      obtain ⟨m181, k182, rfl, hkk183, H⟩ := lps3 H
      unfold M_ref2_Nth_L1 at H
      refine Cw_seq ?_
      refine Cw_seq ?_
      refine Cw_region ?_
      refine Ow_q rfl rfl rfl (Qt_move rfl) ?_
      refine Ow_q rfl rfl rfl (Qt_cmp rfl rfl rfl) ?_
      refine Ow_nil ?_
      refine Cw_cond rfl ?_ ?_
      · intro h185
        have h185 := dcd_t (h185)
        have H := ift h185 H
        refine Cw_skip ?_
        refine Cw_seq ?_
        refine Cw_block ?_
        refine Cw_seq ?_
        refine Cw_region ?_
        refine Ow_q rfl rfl rfl (Qt_move rfl) ?_
        refine Ow_q rfl rfl rfl (Qt_move rfl) ?_
        refine Ow_q rfl rfl rfl (Qt_arith (e := wI (i179 - 1)) rfl rfl rfl rfl) ?_
        refine Ow_q rfl rfl rfl (Qt_move rfl) ?_
        refine Ow_q rfl rfl rfl (Qt_move rfl) ?_
        obtain ⟨x197, hx198, H⟩ := bnd H
        refine Ow_q rfl rfl rfl (Q_rem hx198 rfl rfl) ?_
        obtain ⟨x199, hx200, H⟩ := bnd H
        obtain ⟨r201, hq202, hr203⟩ := RowR.at hR177 hx200
        obtain rfl := hr203
        refine Ow_q rfl rfl rfl (Q_ixR (T := Ty.i64) (.head _) hR177 hq202 (getI_ix hx200).1 rfl rfl rfl rfl rfl) ?_
        refine Ow_cons rfl (O_storeR (T := Ty.i64) (vs := [(.int .i64 x197)]) (r' := [(.int .i64 x197)]) (l' := (setI l176 (wI (i179 - 1)) x197)) rfl rfl rfl rfl rfl .here hR177 hq202 rfl rfl rfl (RowR.set (wI (i179 - 1)) hR177 rfl) (fun hR204 => ?_))
        have hE205 := set_at hq202 (v := [(.int .i64 x197)])
        refine Ow_nil ?_
        refine Cw_region ?_
        refine Ow_q rfl rfl rfl (Qt_move rfl) ?_
        refine Ow_q rfl rfl rfl (Qt_move rfl) ?_
        obtain ⟨x206, hx207, H⟩ := bnd H
        refine Ow_q rfl rfl rfl (Q_quo hx207 rfl rfl) ?_
        refine Ow_q rfl rfl rfl (Qt_assign rfl) ?_
        refine Ow_nil ?_
        refine Cw_region ?_
        refine Ow_q rfl rfl rfl (Qt_move rfl) ?_
        refine Ow_q rfl rfl rfl (Qt_arith (e := wI (i179 - 1)) rfl rfl rfl rfl) ?_
        refine Ow_q rfl rfl rfl (Qt_assign rfl) ?_
        refine Ow_nil ?_
        refine Shift.done ?_
        exact ⟨[(1, (.int .i64 (wI x206))), (6, (sv v95)), (7, (.int .i64 (wI (i179 - 1))))], ⟨rfl, rfl, rfl, trivial⟩, _, Nat.lt_succ_self _, (wI x206), (setI l176 (wI (i179 - 1)) x197), (rs178.set (wI (i179 - 1)).toNat [(.int .i64 x197)]), (wI (i179 - 1)), rfl, rfl, rfl, (hkk183 ▸ H), hR204⟩
      · intro h185
        have h185 := dcd_f (h185)
        have H := iff_ h185 H
        refine Cw_exit ?_
        refine Shift.done ?_
        exact ⟨[(6, (sv v95))], ⟨rfl, trivial⟩, l176, rs178, rfl, rfl, H, hR177⟩
    rintro _ K208 _ hK209 ⟨l138, rs140, rfl, rfl, H, hR139⟩
    unfold M_ref2_Nth_J2 at H
    refine Cw_seq ?_
    refine Cw_region ?_
    refine Ow_q rfl rfl rfl (Qt_move rfl) ?_
    refine Ow_q rfl rfl rfl (Qt_assign rfl) ?_
    refine Ow_q rfl rfl rfl (Qt_assign rfl) ?_
    refine Ow_nil ?_
    refine Cw_ret ?_
    obtain ⟨ey0, ey1⟩ := inj2 H
    subst y0 y1
    refine ⟨(by first | exact .inl rfl | exact .inr rfl), [(sv v95), (.bool true)], ⟨(sv v95), _, rfl, rfl, ⟨(.bool true), _, rfl, rfl, rfl⟩⟩, ?_⟩
    refine Shift.done ?_
    exact ⟨v95, rs140, rfl, rfl, hR139⟩


end Go.Hx
