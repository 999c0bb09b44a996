/- Printed by program. -/
import Derived.Test.YthpjaddchdnejaaXBM
namespace Go.Hx
open Go Go.Proofs
set_option linter.unusedSimpArgs false
set_option linter.unusedVariables false
set_option maxRecDepth 10000
set_option maxHeartbeats 1000000 in
theorem c_M_happens_join_m0row (p0 : List Int) (vp0 : SV) (rsp0 : List (List Value)) (p1 : List Int) (vp1 : SV) (uvp0 : List Int) (H : M_happens_join_m0row p0 p1 = some uvp0) (K : Kp) (G : List Ent) (hp0 : RowR Ty.i64 K rsp0 p0) (hp1 : Slr Ty.i64 K (sv vp1) p1) :
    Fc Try.prog 50 #[(sv vp0), (sv vp1)] K ((.row (sv vp0) 3 1 rsp0.flatten) :: G) (fun v K' G' => ∃ (rsuvp0 : List (List Value)), v = (.tuple #[]) ∧ (.row (sv vp0) 3 1 rsuvp0.flatten) :: G = G' ∧ RowR Ty.i64 K' rsuvp0 uvp0) := by
  refine Fc_body Try.func50 rfl Try.ntmps50 Try.results50 rfl ?_
  unfold M_happens_join_m0row at H
  refine Cw_seq ?_
  refine Cw_region ?_
  refine Ow_q rfl rfl rfl (Qt_move rfl) ?_
  refine Ow_q rfl rfl rfl (Q_lenR (T := Ty.i64) (.head _) hp0 rfl rfl rfl) ?_
  refine Ow_q rfl rfl rfl (Qt_move rfl) ?_
  refine Ow_nil ?_
  refine Cw_block ?_
  refine Cw_loopM (fun n153 env' K' G' => ∃ (l149 : List Int) (rs151 : List (List Value)) (i152 : Int), [(0, (sv vp0)), (1, (sv vp1)), (6, (.int .i64 (p0.length : Int))), (7, (.int .i64 i152))] = env' ∧ K = K' ∧ (.row (sv vp0) 3 1 rs151.flatten) :: G = G' ∧ lp2 (M_happens_join_m0row_L1 p1 p0) n153 l149 i152 = some uvp0 ∧ RowR Ty.i64 K' rs151 l149) BIG ?_ ?_
  · skip
    refine Shift.done ?_
    exact ⟨[(0, (sv vp0)), (1, (sv vp1)), (6, (.int .i64 (p0.length : Int))), (7, (.int .i64 0))], ⟨rfl, rfl, rfl, rfl, trivial⟩, p0, rsp0, 0, rfl, rfl, rfl, H, hp0⟩
  rintro n153 _ _ _ - ⟨l149, rs151, i152, rfl, rfl, rfl, H, hR150⟩
  obtain ⟨m154, k155, rfl, hkk156, H⟩ := lps2 H
  unfold M_happens_join_m0row_L1 at H
  refine Cw_seq ?_
  refine Cw_region ?_
  refine Ow_q rfl rfl rfl (Qt_cmp rfl rfl rfl) ?_
  refine Ow_nil ?_
  refine Cw_seq ?_
  refine Cw_cond rfl ?_ ?_
  · intro h158
    have h158 := dcd_t (h158)
    have H := ift h158 H
    refine Cw_skip ?_
    refine Cw_seq ?_
    refine Cw_block ?_
    refine Cw_seq ?_
    refine Cw_region ?_
    refine Ow_q rfl rfl rfl (Qt_move rfl) ?_
    refine Ow_q rfl rfl rfl (Qt_assign rfl) ?_
    refine Ow_nil ?_
    refine Cw_seq ?_
    refine Cw_region ?_
    refine Ow_q rfl rfl rfl (Qt_move rfl) ?_
    refine Ow_q rfl rfl rfl (Qt_move rfl) ?_
    refine Ow_q rfl rfl rfl (Q_len (T := Ty.i64) hp1 rfl rfl) ?_
    refine Ow_q rfl rfl rfl (Qt_cmp rfl rfl rfl) ?_
    refine Ow_nil ?_
    refine Cw_cond rfl ?_ ?_
    · intro h188
      have h188 := dcd_t (h188)
      have H := ift h188 H
      obtain ⟨x189, hx190, H⟩ := bnd H
      obtain ⟨x194, hx195, H⟩ := bnd H
      obtain ⟨x199, hx200, H⟩ := bnd H
      refine Cw_region_any [] rfl Inc.nil ?_
      refine Aw_q 0 rfl (by kernel_rfl) (by kernel_rfl) (by kernel_rfl) rfl rfl rfl (Qt_move rfl) ?_
      refine Aw_q 1 rfl (by kernel_rfl) (by kernel_rfl) (by kernel_rfl) rfl rfl rfl (Qt_move rfl) ?_
      refine Aw_q 2 rfl (by kernel_rfl) (by kernel_rfl) (by kernel_rfl) rfl rfl rfl (Qt_move rfl) ?_
      refine Aw_q 3 rfl (by kernel_rfl) (by kernel_rfl) (by kernel_rfl) rfl rfl rfl (Qt_move rfl) ?_
      refine Aw_q 6 rfl (by kernel_rfl) (by kernel_rfl) (by kernel_rfl) rfl rfl rfl (Qt_move rfl) ?_
      refine Aw_q 7 rfl (by kernel_rfl) (by kernel_rfl) (by kernel_rfl) rfl rfl rfl (Qt_move rfl) ?_
      obtain ⟨r206, hr207, hk208⟩ := Slr.at hp1 hx195
      obtain rfl := hr207
      refine Aw_q 8 rfl (by kernel_rfl) (by kernel_rfl) (by kernel_rfl) rfl rfl rfl (Q_ix (T := Ty.i64) hp1 hx195 rfl rfl rfl rfl rfl) ?_
      refine Aw_q 9 rfl (by kernel_rfl) (by kernel_rfl) (by kernel_rfl) rfl rfl rfl (Qt_load1 (v := (.int .i64 x194)) rfl rfl rfl (Rdc.k hk208 rfl)) ?_
      obtain ⟨r209, hq210, hr211⟩ := RowR.at hR150 hx190
      obtain rfl := hr211
      refine Aw_one 4 (by kernel_rfl) (Ax_mk rfl rfl (OpW_of_Qt rfl rfl (Q_ixR (T := Ty.i64) (.head _) hR150 hq210 (getI_ix hx190).1 rfl rfl rfl rfl rfl) ⟨Inc.nil, ?_⟩))
      refine Aw_one 5 (by kernel_rfl) (Ax_mk rfl rfl (OpW_of_Qt rfl rfl (Qt_load1 (v := (.int .i64 x189)) rfl rfl rfl (Rd_row (T := Ty.i64) (.head _) hR150 hq210 rfl rfl)) ⟨Inc.nil, ?_⟩))
      refine Aw_q 10 rfl (by kernel_rfl) (by kernel_rfl) (by kernel_rfl) rfl rfl rfl (Qt_max2 rfl rfl) ?_
      obtain ⟨r212, hq213, hr214⟩ := RowR.at hR150 hx200
      obtain rfl := hr214
      refine Aw_one 11 (by kernel_rfl) (Ax_mk rfl rfl (OpW_of_Qt rfl rfl (Q_ixR (T := Ty.i64) (.head _) hR150 hq213 (getI_ix hx200).1 rfl rfl rfl rfl rfl) ⟨Inc.nil, ?_⟩))
      refine Aw_one 12 (by kernel_rfl) (Ax_mk rfl rfl ?_)
      refine O_storeR (T := Ty.i64) (vs := [(.int .i64 (if x189 < x194 then x194 else x189))]) (r' := [(.int .i64 (if x189 < x194 then x194 else x189))]) (l' := (setI l149 i152 (if x189 < x194 then x194 else x189))) rfl rfl rfl rfl rfl .here hR150 hq213 rfl rfl rfl (RowR.set i152 hR150 rfl) (fun hR215 => ⟨Inc.nil, ?_⟩)
      have hE216 := set_at hq213 (v := [(.int .i64 (if x189 < x194 then x194 else x189))])
      refine Aw_done (by kernel_rfl) ?_
      refine Cw_region ?_
      refine Ow_q rfl rfl rfl (Qt_arith (e := wI (i152 + 1)) rfl rfl rfl rfl) ?_
      refine Ow_q rfl rfl rfl (Qt_move rfl) ?_
      refine Ow_nil ?_
      refine Shift.done ?_
      exact ⟨[(0, (sv vp0)), (1, (sv vp1)), (6, (.int .i64 (p0.length : Int))), (7, (.int .i64 (wI (i152 + 1))))], ⟨rfl, rfl, rfl, rfl, trivial⟩, _, Nat.lt_succ_self _, (setI l149 i152 (if x189 < x194 then x194 else x189)), (rs151.set i152.toNat [(.int .i64 (if x189 < x194 then x194 else x189))]), (wI (i152 + 1)), rfl, rfl, rfl, (hkk156 ▸ H), hR215⟩
    · intro h188
      have h188 := dcd_f (h188)
      have H := iff_ h188 H
      refine Cw_skip ?_
      refine Cw_region ?_
      refine Ow_q rfl rfl rfl (Qt_arith (e := wI (i152 + 1)) rfl rfl rfl rfl) ?_
      refine Ow_q rfl rfl rfl (Qt_move rfl) ?_
      refine Ow_nil ?_
      refine Shift.done ?_
      exact ⟨[(0, (sv vp0)), (1, (sv vp1)), (6, (.int .i64 (p0.length : Int))), (7, (.int .i64 (wI (i152 + 1))))], ⟨rfl, rfl, rfl, rfl, trivial⟩, _, Nat.lt_succ_self _, l149, rs151, (wI (i152 + 1)), rfl, rfl, rfl, (hkk156 ▸ H), hR150⟩
  · intro h158
    have h158 := dcd_f (h158)
    have H := iff_ h158 H
    refine Cw_exit ?_
    obtain euvp0 := inj1 H
    subst uvp0
    refine ⟨(by first | exact .inl rfl | exact .inr rfl), [], rfl, ?_⟩
    refine Shift.done ?_
    exact ⟨rs151, rfl, rfl, hR150⟩


end Go.Hx
