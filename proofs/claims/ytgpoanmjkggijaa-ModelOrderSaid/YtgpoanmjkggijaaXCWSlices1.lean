/- Printed by program. -/
import Derived.Test.YtgpoanmjkggijaaXCM
import Derived.Test.YtgpoanmjkggijaaXCWModel1
namespace Go.Hx
open Go Go.Proofs
set_option linter.unusedSimpArgs false
set_option linter.unusedVariables false
set_option maxRecDepth 10000
set_option maxHeartbeats 1000000 in
theorem c_M_slices_IndexFunc_api_Case_api_Case_1f61blk29 (p0 : List Case) (vp0 : SV) (bc1_0 : Nat) (c1_0 : List Chan) (vc1_0 : SV) (y0 : Int) (H : M_slices_IndexFunc_api_Case_api_Case_1f61blk29 p0 c1_0 = some y0) (K : Kp) (G : List Ent) (hp0 : Slr TyCase K (sv vp0) p0) (hc1_0 : Slr TyChan K (sv vc1_0) c1_0) :
    Fc Try.prog 94 #[(sv vp0), (.func (.func 61) #[] #[(.pointer (some ((⟨bc1_0, 0, none⟩ : Addr).add 0)))])] K ((.blk bc1_0 29 [(sv vc1_0)]) :: G) (fun v K' G' => v = (.int .i64 y0) ∧ (.blk bc1_0 29 [(sv vc1_0)]) :: G = G') := by
  refine Fc_body Try.func94 rfl Try.ntmps94 Try.results94 rfl ?_
  unfold M_slices_IndexFunc_api_Case_api_Case_1f61blk29 at H
  refine Cw_seq ?_
  refine Cw_region ?_
  refine Ow_q rfl rfl rfl (Qt_assign rfl) ?_
  refine Ow_nil ?_
  refine Cw_join (fun env' K' G' => [] = env' ∧ (.blk bc1_0 29 [(sv vc1_0)]) :: G = G' ∧ M_slices_IndexFunc_api_Case_api_Case_1f61blk29_J1 c1_0 = some y0) ?_ ?_
  · skip
    refine Cw_seq ?_
    refine Cw_region ?_
    refine Ow_q rfl rfl rfl (Qt_move rfl) ?_
    refine Ow_q rfl rfl rfl (Q_len (T := TyCase) hp0 rfl rfl) ?_
    refine Ow_q rfl rfl rfl (Qt_move rfl) ?_
    refine Ow_nil ?_
    refine Cw_block ?_
    refine Cw_loopM (fun n87 env' K' G' => ∃ (i86 : Int), [(0, (sv vp0)), (1, (.func (.func 61) #[] #[(.pointer (some ((⟨bc1_0, 0, none⟩ : Addr).add 0)))])), (7, (.int .i64 (p0.length : Int))), (8, (.int .i64 i86))] = env' ∧ K = K' ∧ (.blk bc1_0 29 [(sv vc1_0)]) :: G = G' ∧ lp1 (M_slices_IndexFunc_api_Case_api_Case_1f61blk29_L1 p0 c1_0) n87 i86 = some y0) BIG ?_ ?_
    · skip
      refine Shift.done ?_
      exact ⟨[(0, (sv vp0)), (1, (.func (.func 61) #[] #[(.pointer (some ((⟨bc1_0, 0, none⟩ : Addr).add 0)))])), (7, (.int .i64 (p0.length : Int))), (8, (.int .i64 0))], ⟨rfl, rfl, rfl, rfl, trivial⟩, 0, rfl, rfl, rfl, H⟩
    rintro n87 _ _ _ - ⟨i86, rfl, rfl, rfl, H⟩
    obtain ⟨m88, k89, rfl, hkk90, H⟩ := lps1 H
    unfold M_slices_IndexFunc_api_Case_api_Case_1f61blk29_L1 at H
    refine Cw_seq ?_
    refine Cw_region ?_
    refine Ow_q rfl rfl rfl (Qt_cmp rfl rfl rfl) ?_
    refine Ow_nil ?_
    refine Cw_seq ?_
    refine Cw_cond rfl ?_ ?_
    · intro h92
      have h92 := dcd_t (h92)
      have H := ift h92 H
      refine Cw_skip ?_
      refine Cw_seq ?_
      refine Cw_block ?_
      refine Cw_seq ?_
      refine Cw_region ?_
      refine Ow_q rfl rfl rfl (Qt_move rfl) ?_
      refine Ow_q rfl rfl rfl (Qt_assign rfl) ?_
      refine Ow_nil ?_
      refine Cw_seq ?_
      refine Cw_region ?_
      refine Ow_q rfl rfl rfl (Qt_move rfl) ?_
      refine Ow_q rfl rfl rfl (Qt_move rfl) ?_
      refine Ow_q rfl rfl rfl (Qt_move rfl) ?_
      obtain ⟨x101, hx102, H⟩ := bnd H
      obtain ⟨r103, hr104, hk105⟩ := Slr.at hp0 hx102
      obtain rfl := hr104
      refine Ow_q rfl rfl rfl (Q_ix (T := TyCase) hp0 hx102 rfl rfl rfl rfl rfl) ?_
      refine Ow_q rfl rfl rfl (Qt_loadA (m := 3) (cs := (Case.cells x101)) rfl rfl rfl rfl ⟨rfl, Rdc.k hk105 rfl⟩) ?_
      obtain ⟨x106, hx107, H⟩ := bnd H
      refine Ow_cons rfl (OpW_call rfl Try.call61 rfl rfl (c_M_model_Apply_1_freeblk29 x101 bc1_0 c1_0 vc1_0 x106 hx107 _ _ hc1_0) ?_)
      rintro _ _ _ - ⟨rfl, rfl, rfl⟩
      refine Ow_nil ?_
      refine Cw_cond rfl ?_ ?_
      · intro h108
        have H := ift h108 H
        refine Cw_seq ?_
        refine Cw_region ?_
        refine Ow_q rfl rfl rfl (Qt_move rfl) ?_
        refine Ow_q rfl rfl rfl (Qt_assign rfl) ?_
        refine Ow_nil ?_
        refine Cw_ret ?_
        obtain ey0 := inj1 H
        subst y0
        refine ⟨(by first | exact .inl rfl | exact .inr rfl), [(.int .i64 i86)], ⟨(.int .i64 i86), _, rfl, rfl, rfl⟩, ?_⟩
        refine Shift.done ?_
        exact ⟨rfl, rfl⟩
      · intro h108
        have H := iff_ (btf h108) H
        refine Cw_skip ?_
        refine Cw_region ?_
        refine Ow_q rfl rfl rfl (Qt_arith (e := wI (i86 + 1)) rfl rfl rfl rfl) ?_
        refine Ow_q rfl rfl rfl (Qt_move rfl) ?_
        refine Ow_nil ?_
        refine Shift.done ?_
        exact ⟨[(0, (sv vp0)), (1, (.func (.func 61) #[] #[(.pointer (some ((⟨bc1_0, 0, none⟩ : Addr).add 0)))])), (7, (.int .i64 (p0.length : Int))), (8, (.int .i64 (wI (i86 + 1))))], ⟨rfl, rfl, rfl, rfl, trivial⟩, _, Nat.lt_succ_self _, (wI (i86 + 1)), rfl, rfl, rfl, (hkk90 ▸ H)⟩
    · intro h92
      have h92 := dcd_f (h92)
      have H := iff_ h92 H
      refine Cw_exit ?_
      refine Shift.done ?_
      exact ⟨[], trivial, rfl, rfl, H⟩
  rintro _ K109 _ hK110 ⟨rfl, rfl, H⟩
  unfold M_slices_IndexFunc_api_Case_api_Case_1f61blk29_J1 at H
  refine Cw_seq ?_
  refine Cw_region ?_
  refine Ow_q rfl rfl rfl (Qt_assign rfl) ?_
  refine Ow_nil ?_
  refine Cw_ret ?_
  obtain ey0 := inj1 H
  subst y0
  refine ⟨(by first | exact .inl rfl | exact .inr rfl), [(.int .i64 (-1))], ⟨(.int .i64 (-1)), _, rfl, rfl, rfl⟩, ?_⟩
  refine Shift.done ?_
  exact ⟨rfl, rfl⟩

set_option maxHeartbeats 1000000 in
theorem c_M_slices_ContainsFunc_api_Case_api_Case_1f61blk29 (p0 : List Case) (vp0 : SV) (bc1_0 : Nat) (c1_0 : List Chan) (vc1_0 : SV) (y0 : Bool) (H : M_slices_ContainsFunc_api_Case_api_Case_1f61blk29 p0 c1_0 = some y0) (K : Kp) (G : List Ent) (hp0 : Slr TyCase K (sv vp0) p0) (hc1_0 : Slr TyChan K (sv vc1_0) c1_0) :
    Fc Try.prog 59 #[(sv vp0), (.func (.func 61) #[] #[(.pointer (some ((⟨bc1_0, 0, none⟩ : Addr).add 0)))])] K ((.blk bc1_0 29 [(sv vc1_0)]) :: G) (fun v K' G' => v = (.bool y0) ∧ (.blk bc1_0 29 [(sv vc1_0)]) :: G = G') := by
  refine Fc_body Try.func59 rfl Try.ntmps59 Try.results59 rfl ?_
  unfold M_slices_ContainsFunc_api_Case_api_Case_1f61blk29 at H
  refine Cw_seq ?_
  refine Cw_region ?_
  refine Ow_q rfl rfl rfl (Qt_assign rfl) ?_
  refine Ow_nil ?_
  refine Cw_seq ?_
  refine Cw_region ?_
  refine Ow_q rfl rfl rfl (Qt_move rfl) ?_
  refine Ow_q rfl rfl rfl (Qt_move rfl) ?_
  obtain ⟨x5, hx6, H⟩ := bnd H
  refine Ow_cons rfl (OpW_call rfl Try.call94 rfl rfl (c_M_slices_IndexFunc_api_Case_api_Case_1f61blk29 p0 vp0 bc1_0 c1_0 vc1_0 x5 hx6 _ _ hp0 hc1_0) ?_)
  rintro _ K7 _ hK8 ⟨rfl, rfl⟩
  refine Ow_q rfl rfl rfl (Qt_cmp rfl rfl rfl) ?_
  refine Ow_q rfl rfl rfl (Qt_assign rfl) ?_
  refine Ow_nil ?_
  refine Cw_ret ?_
  obtain ey0 := inj1 H
  subst y0
  refine ⟨(by first | exact .inl rfl | exact .inr rfl), [(.bool (dcd (x5 ≥ 0)))], ⟨(.bool (dcd (x5 ≥ 0))), _, rfl, rfl, rfl⟩, ?_⟩
  refine Shift.done ?_
  exact ⟨rfl, rfl⟩

set_option maxHeartbeats 1000000 in
theorem c_M_slices_Equal_uint64_uint64 (p0 : List Int) (vp0 : SV) (p1 : List Int) (vp1 : SV) (y0 : Bool) (H : M_slices_Equal_uint64_uint64 p0 p1 = some y0) (K : Kp) (G : List Ent) (hp0 : Slr Ty.u64 K (sv vp0) p0) (hp1 : Slr Ty.u64 K (sv vp1) p1) :
    Fc Try.prog 86 #[(sv vp0), (sv vp1)] K (G) (fun v K' G' => v = (.bool y0) ∧ G = G') := by
  refine Fc_body Try.func86 rfl Try.ntmps86 Try.results86 rfl ?_
  unfold M_slices_Equal_uint64_uint64 at H
  refine Cw_seq ?_
  refine Cw_region ?_
  refine Ow_q rfl rfl rfl (Qt_assign rfl) ?_
  refine Ow_nil ?_
  refine Cw_seq ?_
  refine Cw_seq ?_
  refine Cw_region ?_
  refine Ow_q rfl rfl rfl (Qt_move rfl) ?_
  refine Ow_q rfl rfl rfl (Q_len (T := Ty.u64) hp0 rfl rfl) ?_
  refine Ow_q rfl rfl rfl (Qt_move rfl) ?_
  refine Ow_q rfl rfl rfl (Q_len (T := Ty.u64) hp1 rfl rfl) ?_
  refine Ow_q rfl rfl rfl (Qt_cmp rfl rfl rfl) ?_
  refine Ow_nil ?_
  refine Cw_cond rfl ?_ ?_
  · intro h55
    have h55 := dcd_f (nt_t (h55))
    have H := iff_ h55 H
    refine Cw_seq ?_
    refine Cw_region ?_
    refine Ow_q rfl rfl rfl (Qt_assign rfl) ?_
    refine Ow_nil ?_
    refine Cw_ret ?_
    obtain ey0 := inj1 H
    subst y0
    refine ⟨(by first | exact .inl rfl | exact .inr rfl), [(.bool false)], ⟨(.bool false), _, rfl, rfl, rfl⟩, ?_⟩
    refine Shift.done ?_
    exact ⟨rfl, rfl⟩
  · intro h55
    have h55 := dcd_t (nt_f (h55))
    have H := ift h55 H
    refine Cw_skip ?_
    refine Cw_join (fun env' K' G' => [] = env' ∧ G = G' ∧ M_slices_Equal_uint64_uint64_J1 = some y0) ?_ ?_
    · skip
      refine Cw_seq ?_
      refine Cw_region ?_
      refine Ow_q rfl rfl rfl (Qt_move rfl) ?_
      refine Ow_q rfl rfl rfl (Q_len (T := Ty.u64) hp0 rfl rfl) ?_
      refine Ow_q rfl rfl rfl (Qt_move rfl) ?_
      refine Ow_nil ?_
      refine Cw_block ?_
      refine Cw_loopM (fun n156 env' K' G' => ∃ (i155 : Int), [(0, (sv vp0)), (1, (sv vp1)), (12, (.int .i64 (p0.length : Int))), (13, (.int .i64 i155))] = env' ∧ K = K' ∧ G = G' ∧ lp1 (M_slices_Equal_uint64_uint64_L1 p0 p1) n156 i155 = some y0) BIG ?_ ?_
      · skip
        refine Shift.done ?_
        exact ⟨[(0, (sv vp0)), (1, (sv vp1)), (12, (.int .i64 (p0.length : Int))), (13, (.int .i64 0))], ⟨rfl, rfl, rfl, rfl, trivial⟩, 0, rfl, rfl, rfl, H⟩
      rintro n156 _ _ _ - ⟨i155, rfl, rfl, rfl, H⟩
      obtain ⟨m157, k158, rfl, hkk159, H⟩ := lps1 H
      unfold M_slices_Equal_uint64_uint64_L1 at H
      refine Cw_seq ?_
      refine Cw_region ?_
      refine Ow_q rfl rfl rfl (Qt_cmp rfl rfl rfl) ?_
      refine Ow_nil ?_
      refine Cw_seq ?_
      refine Cw_cond rfl ?_ ?_
      · intro h161
        have h161 := dcd_t (h161)
        have H := ift h161 H
        refine Cw_skip ?_
        refine Cw_seq ?_
        refine Cw_block ?_
        refine Cw_seq ?_
        refine Cw_region ?_
        refine Ow_q rfl rfl rfl (Qt_move rfl) ?_
        refine Ow_q rfl rfl rfl (Qt_assign rfl) ?_
        refine Ow_nil ?_
        refine Cw_seq ?_
        obtain ⟨x179, hx180, H⟩ := bnd H
        obtain ⟨x184, hx185, H⟩ := bnd H
        refine Cw_region_any [] rfl Inc.nil ?_
        refine Aw_q 0 rfl (by kernel_rfl) (by kernel_rfl) (by kernel_rfl) rfl rfl rfl (Qt_move rfl) ?_
        refine Aw_q 1 rfl (by kernel_rfl) (by kernel_rfl) (by kernel_rfl) rfl rfl rfl (Qt_move rfl) ?_
        obtain ⟨r189, hr190, hk191⟩ := Slr.at hp0 hx180
        obtain rfl := hr190
        refine Aw_q 2 rfl (by kernel_rfl) (by kernel_rfl) (by kernel_rfl) rfl rfl rfl (Q_ix (T := Ty.u64) hp0 hx180 rfl rfl rfl rfl rfl) ?_
        refine Aw_q 3 rfl (by kernel_rfl) (by kernel_rfl) (by kernel_rfl) rfl rfl rfl (Qt_load1 (v := (.int .u64 x179)) rfl rfl rfl (Rdc.k hk191 rfl)) ?_
        refine Aw_q 4 rfl (by kernel_rfl) (by kernel_rfl) (by kernel_rfl) rfl rfl rfl (Qt_move rfl) ?_
        refine Aw_q 5 rfl (by kernel_rfl) (by kernel_rfl) (by kernel_rfl) rfl rfl rfl (Qt_move rfl) ?_
        obtain ⟨r192, hr193, hk194⟩ := Slr.at hp1 hx185
        obtain rfl := hr193
        refine Aw_q 6 rfl (by kernel_rfl) (by kernel_rfl) (by kernel_rfl) rfl rfl rfl (Q_ix (T := Ty.u64) hp1 hx185 rfl rfl rfl rfl rfl) ?_
        refine Aw_q 7 rfl (by kernel_rfl) (by kernel_rfl) (by kernel_rfl) rfl rfl rfl (Qt_load1 (v := (.int .u64 x184)) rfl rfl rfl (Rdc.k hk194 rfl)) ?_
        refine Aw_q 8 rfl (by kernel_rfl) (by kernel_rfl) (by kernel_rfl) rfl rfl rfl (Qt_cmp rfl rfl rfl) ?_
        refine Aw_done (by kernel_rfl) ?_
        refine Cw_cond rfl ?_ ?_
        · intro h195
          have h195 := dcd_f (nt_t (h195))
          have H := iff_ h195 H
          refine Cw_seq ?_
          refine Cw_region ?_
          refine Ow_q rfl rfl rfl (Qt_assign rfl) ?_
          refine Ow_nil ?_
          refine Cw_ret ?_
          obtain ey0 := inj1 H
          subst y0
          refine ⟨(by first | exact .inl rfl | exact .inr rfl), [(.bool false)], ⟨(.bool false), _, rfl, rfl, rfl⟩, ?_⟩
          refine Shift.done ?_
          exact ⟨rfl, rfl⟩
        · intro h195
          have h195 := dcd_t (nt_f (h195))
          have H := ift h195 H
          refine Cw_skip ?_
          refine Cw_region ?_
          refine Ow_q rfl rfl rfl (Qt_arith (e := wI (i155 + 1)) rfl rfl rfl rfl) ?_
          refine Ow_q rfl rfl rfl (Qt_move rfl) ?_
          refine Ow_nil ?_
          refine Shift.done ?_
          exact ⟨[(0, (sv vp0)), (1, (sv vp1)), (12, (.int .i64 (p0.length : Int))), (13, (.int .i64 (wI (i155 + 1))))], ⟨rfl, rfl, rfl, rfl, trivial⟩, _, Nat.lt_succ_self _, (wI (i155 + 1)), rfl, rfl, rfl, (hkk159 ▸ H)⟩
      · intro h161
        have h161 := dcd_f (h161)
        have H := iff_ h161 H
        refine Cw_exit ?_
        refine Shift.done ?_
        exact ⟨[], trivial, rfl, rfl, H⟩
    rintro _ K196 _ hK197 ⟨rfl, rfl, H⟩
    unfold M_slices_Equal_uint64_uint64_J1 at H
    refine Cw_seq ?_
    refine Cw_region ?_
    refine Ow_q rfl rfl rfl (Qt_assign rfl) ?_
    refine Ow_nil ?_
    refine Cw_ret ?_
    obtain ey0 := inj1 H
    subst y0
    refine ⟨(by first | exact .inl rfl | exact .inr rfl), [(.bool true)], ⟨(.bool true), _, rfl, rfl, rfl⟩, ?_⟩
    refine Shift.done ?_
    exact ⟨rfl, rfl⟩


end Go.Hx
