/- Printed by program. -/
import Derived.Test.YtgpoanmjkggijaaXCM
namespace Go.Hx
open Go Go.Proofs
set_option linter.unusedSimpArgs false
set_option linter.unusedVariables false
set_option maxRecDepth 10000
set_option maxHeartbeats 1000000 in
theorem c_M_ref4_SameWords (p0 : List Int) (vp0 : SV) (p1 : List Int) (vp1 : SV) (y0 : Bool) (H : M_ref4_SameWords p0 p1 = some y0) (K : Kp) (G : List Ent) (hp0 : Slr Ty.u64 K (sv vp0) p0) (hp1 : Slr Ty.u64 K (sv vp1) p1) :
    Fc Try.prog 36 #[(sv vp0), (sv vp1)] K (G) (fun v K' G' => v = (.bool y0) ∧ G = G') := by
  refine Fc_body Try.func36 rfl Try.ntmps36 Try.results36 rfl ?_
  unfold M_ref4_SameWords at H
  refine Cw_seq ?_
  refine Cw_region ?_
  refine Ow_q rfl rfl rfl (Qt_assign rfl) ?_
  refine Ow_nil ?_
  refine Cw_seq ?_
  refine Cw_seq ?_
  refine Cw_region ?_
  refine Ow_q rfl rfl rfl (Qt_move rfl) ?_
  refine Ow_q rfl rfl rfl (Q_len (T := Ty.u64) hp0 rfl rfl) ?_
  refine Ow_q rfl rfl rfl (Qt_move rfl) ?_
  refine Ow_q rfl rfl rfl (Q_len (T := Ty.u64) hp1 rfl rfl) ?_
  refine Ow_q rfl rfl rfl (Qt_cmp rfl rfl rfl) ?_
  refine Ow_nil ?_
  refine Cw_cond rfl ?_ ?_
  · intro h53
    have h53 := dcd_f (nt_t (h53))
    have H := iff_ h53 H
    refine Cw_seq ?_
    refine Cw_region ?_
    refine Ow_q rfl rfl rfl (Qt_assign rfl) ?_
    refine Ow_nil ?_
    refine Cw_ret ?_
    obtain ey0 := inj1 H
    subst y0
    refine ⟨(by first | exact .inl rfl | exact .inr rfl), [(.bool false)], ⟨(.bool false), _, rfl, rfl, rfl⟩, ?_⟩
    refine Shift.done ?_
    exact ⟨rfl, rfl⟩
  · intro h53
    have h53 := dcd_t (nt_f (h53))
    have H := ift h53 H
    refine Cw_skip ?_
    refine Cw_join (fun env' K' G' => [] = env' ∧ G = G' ∧ M_ref4_SameWords_J1 = some y0) ?_ ?_
    · skip
      refine Cw_seq ?_
      refine Cw_region ?_
      refine Ow_q rfl rfl rfl (Qt_assign rfl) ?_
      refine Ow_nil ?_
      refine Cw_block ?_
      refine Cw_loopM (fun n150 env' K' G' => ∃ (i149 : Int), [(0, (sv vp0)), (1, (sv vp1)), (5, (.int .i64 i149))] = env' ∧ K = K' ∧ G = G' ∧ lp1 (M_ref4_SameWords_L1 p0 p1) n150 i149 = some y0) BIG ?_ ?_
      · skip
        refine Shift.done ?_
        exact ⟨[(0, (sv vp0)), (1, (sv vp1)), (5, (.int .i64 0))], ⟨rfl, rfl, rfl, trivial⟩, 0, rfl, rfl, rfl, H⟩
      rintro n150 _ _ _ - ⟨i149, rfl, rfl, rfl, H⟩
      obtain ⟨m151, k152, rfl, hkk153, H⟩ := lps1 H
      unfold M_ref4_SameWords_L1 at H
      refine Cw_seq ?_
      refine Cw_seq ?_
      refine Cw_region ?_
      refine Ow_q rfl rfl rfl (Qt_move rfl) ?_
      refine Ow_q rfl rfl rfl (Qt_move rfl) ?_
      refine Ow_q rfl rfl rfl (Q_len (T := Ty.u64) hp0 rfl rfl) ?_
      refine Ow_q rfl rfl rfl (Qt_cmp rfl rfl rfl) ?_
      refine Ow_nil ?_
      refine Cw_cond rfl ?_ ?_
      · intro h155
        have h155 := dcd_t (h155)
        have H := ift h155 H
        refine Cw_skip ?_
        refine Cw_seq ?_
        refine Cw_block ?_
        refine Cw_seq ?_
        obtain ⟨x173, hx174, H⟩ := bnd H
        obtain ⟨x178, hx179, H⟩ := bnd H
        refine Cw_region_any [] rfl Inc.nil ?_
        refine Aw_q 0 rfl (by kernel_rfl) (by kernel_rfl) (by kernel_rfl) rfl rfl rfl (Qt_move rfl) ?_
        refine Aw_q 1 rfl (by kernel_rfl) (by kernel_rfl) (by kernel_rfl) rfl rfl rfl (Qt_move rfl) ?_
        obtain ⟨r183, hr184, hk185⟩ := Slr.at hp0 hx174
        obtain rfl := hr184
        refine Aw_q 2 rfl (by kernel_rfl) (by kernel_rfl) (by kernel_rfl) rfl rfl rfl (Q_ix (T := Ty.u64) hp0 hx174 rfl rfl rfl rfl rfl) ?_
        refine Aw_q 3 rfl (by kernel_rfl) (by kernel_rfl) (by kernel_rfl) rfl rfl rfl (Qt_load1 (v := (.int .u64 x173)) rfl rfl rfl (Rdc.k hk185 rfl)) ?_
        refine Aw_q 4 rfl (by kernel_rfl) (by kernel_rfl) (by kernel_rfl) rfl rfl rfl (Qt_move rfl) ?_
        refine Aw_q 5 rfl (by kernel_rfl) (by kernel_rfl) (by kernel_rfl) rfl rfl rfl (Qt_move rfl) ?_
        obtain ⟨r186, hr187, hk188⟩ := Slr.at hp1 hx179
        obtain rfl := hr187
        refine Aw_q 6 rfl (by kernel_rfl) (by kernel_rfl) (by kernel_rfl) rfl rfl rfl (Q_ix (T := Ty.u64) hp1 hx179 rfl rfl rfl rfl rfl) ?_
        refine Aw_q 7 rfl (by kernel_rfl) (by kernel_rfl) (by kernel_rfl) rfl rfl rfl (Qt_load1 (v := (.int .u64 x178)) rfl rfl rfl (Rdc.k hk188 rfl)) ?_
        refine Aw_q 8 rfl (by kernel_rfl) (by kernel_rfl) (by kernel_rfl) rfl rfl rfl (Qt_cmp rfl rfl rfl) ?_
        refine Aw_done (by kernel_rfl) ?_
        refine Cw_cond rfl ?_ ?_
        · intro h189
          have h189 := dcd_f (nt_t (h189))
          have H := iff_ h189 H
          refine Cw_seq ?_
          refine Cw_region ?_
          refine Ow_q rfl rfl rfl (Qt_assign rfl) ?_
          refine Ow_nil ?_
          refine Cw_ret ?_
          obtain ey0 := inj1 H
          subst y0
          refine ⟨(by first | exact .inl rfl | exact .inr rfl), [(.bool false)], ⟨(.bool false), _, rfl, rfl, rfl⟩, ?_⟩
          refine Shift.done ?_
          exact ⟨rfl, rfl⟩
        · intro h189
          have h189 := dcd_t (nt_f (h189))
          have H := ift h189 H
          refine Cw_skip ?_
          refine Cw_region ?_
          refine Ow_q rfl rfl rfl (Qt_move rfl) ?_
          refine Ow_q rfl rfl rfl (Qt_arith (e := wI (i149 + 1)) rfl rfl rfl rfl) ?_
          refine Ow_q rfl rfl rfl (Qt_assign rfl) ?_
          refine Ow_nil ?_
          refine Shift.done ?_
          exact ⟨[(0, (sv vp0)), (1, (sv vp1)), (5, (.int .i64 (wI (i149 + 1))))], ⟨rfl, rfl, rfl, trivial⟩, _, Nat.lt_succ_self _, (wI (i149 + 1)), rfl, rfl, rfl, (hkk153 ▸ H)⟩
      · intro h155
        have h155 := dcd_f (h155)
        have H := iff_ h155 H
        refine Cw_exit ?_
        refine Shift.done ?_
        exact ⟨[], trivial, rfl, rfl, H⟩
    rintro _ K190 _ hK191 ⟨rfl, rfl, H⟩
    unfold M_ref4_SameWords_J1 at H
    refine Cw_seq ?_
    refine Cw_region ?_
    refine Ow_q rfl rfl rfl (Qt_assign rfl) ?_
    refine Ow_nil ?_
    refine Cw_ret ?_
    obtain ey0 := inj1 H
    subst y0
    refine ⟨(by first | exact .inl rfl | exact .inr rfl), [(.bool true)], ⟨(.bool true), _, rfl, rfl, rfl⟩, ?_⟩
    refine Shift.done ?_
    exact ⟨rfl, rfl⟩



end Go.Hx
