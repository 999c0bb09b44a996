/- Printed by program. -/
import Derived.Test.YtlegagccaeoidaaXFM
import Derived.Test.YtlegagccaeoidaaXFShelf
import Derived.Test.YtlegagccaeoidaaXFWCases
namespace Go.Hx
open Go Go.Proofs
set_option linter.unusedSimpArgs false
set_option linter.unusedVariables false
set_option maxRecDepth 10000
set_option maxHeartbeats 1000000 in
theorem c_M_slices_IndexFunc_int_int_1f41blk34 (p0 : List Int) (vp0 : SV) (bc1_0 : Nat) (c1_0 : Config) (vc1_0_capacities : SV) (vc1_0_starts : SV) (y0 : Int) (H : M_slices_IndexFunc_int_int_1f41blk34 p0 c1_0 = some y0) (K : Kp) (G : List Ent) (hp0 : Slr Ty.i64 K (sv vp0) p0) (hc1_0_capacities : Slr Ty.i64 K (sv vc1_0_capacities) c1_0.capacities) (hc1_0_starts : Slr Ty.u64 K (sv vc1_0_starts) c1_0.starts) :
    Fc Try.prog 50 #[(sv vp0), (.func (.func 41) #[] #[(.pointer (some ((⟨bc1_0, 0, none⟩ : Addr).add 0)))])] K ((.blk bc1_0 34 (Config.cells c1_0 vc1_0_capacities vc1_0_starts)) :: G) (fun v K' G' => v = (.int .i64 y0) ∧ (.blk bc1_0 34 (Config.cells c1_0 vc1_0_capacities vc1_0_starts)) :: G = G') := by
  refine Fc_body Try.func50 rfl Try.ntmps50 Try.results50 rfl ?_
  unfold M_slices_IndexFunc_int_int_1f41blk34 at H
  refine Cw_seq ?_
  refine Cw_region ?_
  refine Ow_q rfl rfl rfl (Qt_assign rfl) ?_
  refine Ow_nil ?_
  refine Cw_join (fun env' K' G' => [] = env' ∧ (.blk bc1_0 34 (Config.cells c1_0 vc1_0_capacities vc1_0_starts)) :: G = G' ∧ M_slices_IndexFunc_int_int_1f41blk34_J1 c1_0 = some y0) ?_ ?_
  · skip
    refine Cw_seq ?_
    refine Cw_region ?_
    refine Ow_q rfl rfl rfl (Qt_move rfl) ?_
    refine Ow_q rfl rfl rfl (Q_len (T := Ty.i64) hp0 rfl rfl) ?_
    refine Ow_q rfl rfl rfl (Qt_move rfl) ?_
    refine Ow_nil ?_
    refine Cw_block ?_
    refine Cw_loopM (fun n93 env' K' G' => ∃ (i92 : Int), [(0, (sv vp0)), (1, (.func (.func 41) #[] #[(.pointer (some ((⟨bc1_0, 0, none⟩ : Addr).add 0)))])), (7, (.int .i64 (p0.length : Int))), (8, (.int .i64 i92))] = env' ∧ K = K' ∧ (.blk bc1_0 34 (Config.cells c1_0 vc1_0_capacities vc1_0_starts)) :: G = G' ∧ lp1 (M_slices_IndexFunc_int_int_1f41blk34_L1 p0 c1_0) n93 i92 = some y0) BIG ?_ ?_
    · skip
      refine Shift.done ?_
      exact ⟨[(0, (sv vp0)), (1, (.func (.func 41) #[] #[(.pointer (some ((⟨bc1_0, 0, none⟩ : Addr).add 0)))])), (7, (.int .i64 (p0.length : Int))), (8, (.int .i64 0))], ⟨rfl, rfl, rfl, rfl, trivial⟩, 0, rfl, rfl, rfl, H⟩
    rintro n93 _ _ _ - ⟨i92, rfl, rfl, rfl, H⟩
    obtain ⟨m94, k95, rfl, hkk96, H⟩ := lps1 H
    unfold M_slices_IndexFunc_int_int_1f41blk34_L1 at H
    refine Cw_seq ?_
    refine Cw_region ?_
    refine Ow_q rfl rfl rfl (Qt_cmp rfl rfl rfl) ?_
    refine Ow_nil ?_
    refine Cw_seq ?_
    refine Cw_cond rfl ?_ ?_
    · intro h98
      have h98 := dcd_t (h98)
      have H := ift h98 H
      refine Cw_skip ?_
      refine Cw_seq ?_
      refine Cw_block ?_
      refine Cw_seq ?_
      refine Cw_region ?_
      refine Ow_q rfl rfl rfl (Qt_move rfl) ?_
      refine Ow_q rfl rfl rfl (Qt_assign rfl) ?_
      refine Ow_nil ?_
      refine Cw_seq ?_
      refine Cw_region ?_
      refine Ow_q rfl rfl rfl (Qt_move rfl) ?_
      refine Ow_q rfl rfl rfl (Qt_move rfl) ?_
      refine Ow_q rfl rfl rfl (Qt_move rfl) ?_
      obtain ⟨x107, hx108, H⟩ := bnd H
      obtain ⟨r109, hr110, hk111⟩ := Slr.at hp0 hx108
      obtain rfl := hr110
      refine Ow_q rfl rfl rfl (Q_ix (T := Ty.i64) hp0 hx108 rfl rfl rfl rfl rfl) ?_
      refine Ow_q rfl rfl rfl (Qt_load1 (v := (.int .i64 x107)) rfl rfl rfl (Rdc.k hk111 rfl)) ?_
      obtain ⟨x112, hx113, H⟩ := bnd H
      refine Ow_cons rfl (OpW_call rfl Try.call41 rfl rfl (c_M_cases_Locks_1_freeblk34 x107 bc1_0 c1_0 vc1_0_capacities vc1_0_starts x112 hx113 _ _ hc1_0_capacities hc1_0_starts) ?_)
      rintro _ _ _ - ⟨rfl, rfl, rfl⟩
      refine Ow_nil ?_
      refine Cw_cond rfl ?_ ?_
      · intro h114
        have H := ift h114 H
        refine Cw_seq ?_
        refine Cw_region ?_
        refine Ow_q rfl rfl rfl (Qt_move rfl) ?_
        refine Ow_q rfl rfl rfl (Qt_assign rfl) ?_
        refine Ow_nil ?_
        refine Cw_ret ?_
        obtain ey0 := inj1 H
        subst y0
        refine ⟨(by first | exact .inl rfl | exact .inr rfl), [(.int .i64 i92)], ⟨(.int .i64 i92), _, rfl, rfl, rfl⟩, ?_⟩
        refine Shift.done ?_
        exact ⟨rfl, rfl⟩
      · intro h114
        have H := iff_ (btf h114) H
        refine Cw_skip ?_
        refine Cw_region ?_
        refine Ow_q rfl rfl rfl (Qt_arith (e := wI (i92 + 1)) rfl rfl rfl rfl) ?_
        refine Ow_q rfl rfl rfl (Qt_move rfl) ?_
        refine Ow_nil ?_
        refine Shift.done ?_
        exact ⟨[(0, (sv vp0)), (1, (.func (.func 41) #[] #[(.pointer (some ((⟨bc1_0, 0, none⟩ : Addr).add 0)))])), (7, (.int .i64 (p0.length : Int))), (8, (.int .i64 (wI (i92 + 1))))], ⟨rfl, rfl, rfl, rfl, trivial⟩, _, Nat.lt_succ_self _, (wI (i92 + 1)), rfl, rfl, rfl, (hkk96 ▸ H)⟩
    · intro h98
      have h98 := dcd_f (h98)
      have H := iff_ h98 H
      refine Cw_exit ?_
      refine Shift.done ?_
      exact ⟨[], trivial, rfl, rfl, H⟩
  rintro _ K115 _ hK116 ⟨rfl, rfl, H⟩
  unfold M_slices_IndexFunc_int_int_1f41blk34_J1 at H
  refine Cw_seq ?_
  refine Cw_region ?_
  refine Ow_q rfl rfl rfl (Qt_assign rfl) ?_
  refine Ow_nil ?_
  refine Cw_ret ?_
  obtain ey0 := inj1 H
  subst y0
  refine ⟨(by first | exact .inl rfl | exact .inr rfl), [(.int .i64 (-1))], ⟨(.int .i64 (-1)), _, rfl, rfl, rfl⟩, ?_⟩
  refine Shift.done ?_
  exact ⟨rfl, rfl⟩

set_option maxHeartbeats 1000000 in
theorem c_M_slices_IndexFunc_int_int_1f41blk34_m0row (p0 : List Int) (vp0 : SV) (rsp0 : List (List Value)) (bc1_0 : Nat) (c1_0 : Config) (vc1_0_capacities : SV) (vc1_0_starts : SV) (y0 : Int) (H : M_slices_IndexFunc_int_int_1f41blk34_m0row p0 c1_0 = some y0) (K : Kp) (G : List Ent) (hp0 : RowR Ty.i64 K rsp0 p0) (hc1_0_capacities : Slr Ty.i64 K (sv vc1_0_capacities) c1_0.capacities) (hc1_0_starts : Slr Ty.u64 K (sv vc1_0_starts) c1_0.starts) :
    Fc Try.prog 50 #[(sv vp0), (.func (.func 41) #[] #[(.pointer (some ((⟨bc1_0, 0, none⟩ : Addr).add 0)))])] K ((.row (sv vp0) 3 1 rsp0.flatten) :: (.blk bc1_0 34 (Config.cells c1_0 vc1_0_capacities vc1_0_starts)) :: G) (fun v K' G' => v = (.int .i64 y0) ∧ (.blk bc1_0 34 (Config.cells c1_0 vc1_0_capacities vc1_0_starts)) :: (.row (sv vp0) 3 1 rsp0.flatten) :: G = G') := by
  refine Fc_body Try.func50 rfl Try.ntmps50 Try.results50 rfl ?_
  unfold M_slices_IndexFunc_int_int_1f41blk34_m0row at H
  refine Cw_seq ?_
  refine Cw_region ?_
  refine Ow_q rfl rfl rfl (Qt_assign rfl) ?_
  refine Ow_nil ?_
  refine Cw_join (fun env' K' G' => [] = env' ∧ (.blk bc1_0 34 (Config.cells c1_0 vc1_0_capacities vc1_0_starts)) :: (.row (sv vp0) 3 1 rsp0.flatten) :: G = G' ∧ M_slices_IndexFunc_int_int_1f41blk34_m0row_J1 c1_0 p0 = some y0) ?_ ?_
  · skip
    refine Cw_seq ?_
    refine Cw_region ?_
    refine Ow_q rfl rfl rfl (Qt_move rfl) ?_
    refine Ow_q rfl rfl rfl (Q_lenR (T := Ty.i64) (.head _) hp0 rfl rfl rfl) ?_
    refine Ow_q rfl rfl rfl (Qt_move rfl) ?_
    refine Ow_nil ?_
    refine Cw_block ?_
    refine Cw_loopM (fun n93 env' K' G' => ∃ (i92 : Int), [(0, (sv vp0)), (1, (.func (.func 41) #[] #[(.pointer (some ((⟨bc1_0, 0, none⟩ : Addr).add 0)))])), (7, (.int .i64 (p0.length : Int))), (8, (.int .i64 i92))] = env' ∧ K = K' ∧ (.blk bc1_0 34 (Config.cells c1_0 vc1_0_capacities vc1_0_starts)) :: (.row (sv vp0) 3 1 rsp0.flatten) :: G = G' ∧ lp1 (M_slices_IndexFunc_int_int_1f41blk34_m0row_L1 p0 c1_0) n93 i92 = some y0) BIG ?_ ?_
    · skip
      refine Shift.pull (.there .here) ?_
      refine Shift.done ?_
      exact ⟨[(0, (sv vp0)), (1, (.func (.func 41) #[] #[(.pointer (some ((⟨bc1_0, 0, none⟩ : Addr).add 0)))])), (7, (.int .i64 (p0.length : Int))), (8, (.int .i64 0))], ⟨rfl, rfl, rfl, rfl, trivial⟩, 0, rfl, rfl, rfl, H⟩
    rintro n93 _ _ _ - ⟨i92, rfl, rfl, rfl, H⟩
    obtain ⟨m94, k95, rfl, hkk96, H⟩ := lps1 H
    unfold M_slices_IndexFunc_int_int_1f41blk34_m0row_L1 at H
    refine Cw_seq ?_
    refine Cw_region ?_
    refine Ow_q rfl rfl rfl (Qt_cmp rfl rfl rfl) ?_
    refine Ow_nil ?_
    refine Cw_seq ?_
    refine Cw_cond rfl ?_ ?_
    · intro h98
      have h98 := dcd_t (h98)
      have H := ift h98 H
      refine Cw_skip ?_
      refine Cw_seq ?_
      refine Cw_block ?_
      refine Cw_seq ?_
      refine Cw_region ?_
      refine Ow_q rfl rfl rfl (Qt_move rfl) ?_
      refine Ow_q rfl rfl rfl (Qt_assign rfl) ?_
      refine Ow_nil ?_
      refine Cw_seq ?_
      refine Cw_region ?_
      refine Ow_q rfl rfl rfl (Qt_move rfl) ?_
      refine Ow_q rfl rfl rfl (Qt_move rfl) ?_
      refine Ow_q rfl rfl rfl (Qt_move rfl) ?_
      obtain ⟨x107, hx108, H⟩ := bnd H
      obtain ⟨r109, hq110, hr111⟩ := RowR.at hp0 hx108
      obtain rfl := hr111
      refine Ow_q rfl rfl rfl (Q_ixR (T := Ty.i64) (.tail _ (.head _)) hp0 hq110 (getI_ix hx108).1 rfl rfl rfl rfl rfl) ?_
      refine Ow_q rfl rfl rfl (Qt_load1 (v := (.int .i64 x107)) rfl rfl rfl (Rd_row (T := Ty.i64) (.tail _ (.head _)) hp0 hq110 rfl rfl)) ?_
      obtain ⟨x112, hx113, H⟩ := bnd H
      refine Ow_cons rfl (OpW_call rfl Try.call41 rfl rfl (c_M_cases_Locks_1_freeblk34 x107 bc1_0 c1_0 vc1_0_capacities vc1_0_starts x112 hx113 _ _ hc1_0_capacities hc1_0_starts) ?_)
      rintro _ _ _ - ⟨rfl, rfl, rfl⟩
      refine Ow_nil ?_
      refine Cw_cond rfl ?_ ?_
      · intro h114
        have H := ift h114 H
        refine Cw_seq ?_
        refine Cw_region ?_
        refine Ow_q rfl rfl rfl (Qt_move rfl) ?_
        refine Ow_q rfl rfl rfl (Qt_assign rfl) ?_
        refine Ow_nil ?_
        refine Cw_ret ?_
        obtain ey0 := inj1 H
        subst y0
        refine ⟨(by first | exact .inl rfl | exact .inr rfl), [(.int .i64 i92)], ⟨(.int .i64 i92), _, rfl, rfl, rfl⟩, ?_⟩
        refine Shift.pull (.there .here) ?_
        refine Shift.pull (.there .here) ?_
        refine Shift.done ?_
        exact ⟨rfl, rfl⟩
      · intro h114
        have H := iff_ (btf h114) H
        refine Cw_skip ?_
        refine Cw_region ?_
        refine Ow_q rfl rfl rfl (Qt_arith (e := wI (i92 + 1)) rfl rfl rfl rfl) ?_
        refine Ow_q rfl rfl rfl (Qt_move rfl) ?_
        refine Ow_nil ?_
        refine Shift.pull (.there .here) ?_
        refine Shift.pull (.there .here) ?_
        refine Shift.done ?_
        exact ⟨[(0, (sv vp0)), (1, (.func (.func 41) #[] #[(.pointer (some ((⟨bc1_0, 0, none⟩ : Addr).add 0)))])), (7, (.int .i64 (p0.length : Int))), (8, (.int .i64 (wI (i92 + 1))))], ⟨rfl, rfl, rfl, rfl, trivial⟩, _, Nat.lt_succ_self _, (wI (i92 + 1)), rfl, rfl, rfl, (hkk96 ▸ H)⟩
    · intro h98
      have h98 := dcd_f (h98)
      have H := iff_ h98 H
      refine Cw_exit ?_
      refine Shift.pull (.there .here) ?_
      refine Shift.pull (.there .here) ?_
      refine Shift.done ?_
      exact ⟨[], trivial, rfl, rfl, H⟩
  rintro _ K115 _ hK116 ⟨rfl, rfl, H⟩
  unfold M_slices_IndexFunc_int_int_1f41blk34_m0row_J1 at H
  refine Cw_seq ?_
  refine Cw_region ?_
  refine Ow_q rfl rfl rfl (Qt_assign rfl) ?_
  refine Ow_nil ?_
  refine Cw_ret ?_
  obtain ey0 := inj1 H
  subst y0
  refine ⟨(by first | exact .inl rfl | exact .inr rfl), [(.int .i64 (-1))], ⟨(.int .i64 (-1)), _, rfl, rfl, rfl⟩, ?_⟩
  refine Shift.pull (.there .here) ?_
  refine Shift.pull (.there .here) ?_
  refine Shift.done ?_
  exact ⟨rfl, rfl⟩

set_option maxHeartbeats 1000000 in
theorem c_M_slices_DeleteFunc_int_int_1f41blk34 (p0 : List Int) (vp0 : SV) (rsp0 : List (List Value)) (bc1_0 : Nat) (c1_0 : Config) (vc1_0_capacities : SV) (vc1_0_starts : SV) (y0 : List Int) (z0_threads : Int) (H : M_slices_DeleteFunc_int_int_1f41blk34 p0 c1_0 = some (y0, z0_threads)) (K : Kp) (G : List Ent) (hp0 : RowR Ty.i64 K rsp0 p0) (hc1_0_capacities : Slr Ty.i64 K (sv vc1_0_capacities) c1_0.capacities) (hc1_0_starts : Slr Ty.u64 K (sv vc1_0_starts) c1_0.starts) :
    Fc Try.prog 40 #[(sv vp0), (.func (.func 41) #[] #[(.pointer (some ((⟨bc1_0, 0, none⟩ : Addr).add 0)))])] K ((.row (sv vp0) 3 1 rsp0.flatten) :: (.blk bc1_0 34 (Config.cells c1_0 vc1_0_capacities vc1_0_starts)) :: G) (fun v K' G' => ∃ (wy0 : SV) (rswy0 : List (List Value)), v = (sv wy0) ∧ (.blk bc1_0 34 (Config.cells (Config.mk c1_0.capacities c1_0.starts z0_threads) vc1_0_capacities vc1_0_starts)) :: (.row (sv wy0) 3 1 rswy0.flatten) :: G = G' ∧ RowR Ty.i64 K' rswy0 y0) := by
  refine Fc_body Try.func40 rfl Try.ntmps40 Try.results40 rfl ?_
  unfold M_slices_DeleteFunc_int_int_1f41blk34 at H
  refine Cw_seq ?_
  refine Cw_region ?_
  refine Ow_q rfl rfl rfl (Qt_assign rfl) ?_
  refine Ow_nil ?_
  refine Cw_seq ?_
  refine Cw_region ?_
  refine Ow_q rfl rfl rfl (Qt_move rfl) ?_
  refine Ow_q rfl rfl rfl (Qt_move rfl) ?_
  obtain ⟨x69, hx70, H⟩ := bnd H
  refine Ow.shift (Shift.pull (.there .here) (Shift.done ?_))
  refine Ow.shift (Shift.pull (.there .here) (Shift.done ?_))
  refine Ow_cons rfl (OpW_call rfl Try.call50 rfl rfl (c_M_slices_IndexFunc_int_int_1f41blk34_m0row p0 vp0 rsp0 bc1_0 c1_0 vc1_0_capacities vc1_0_starts x69 hx70 _ _ hp0 hc1_0_capacities hc1_0_starts) ?_)
  rintro _ K71 _ hK72 ⟨rfl, rfl⟩
  refine Ow_q rfl rfl rfl (Qt_assign rfl) ?_
  refine Ow_nil ?_
  refine Cw_seq ?_
  refine Cw_seq ?_
  refine Cw_region ?_
  refine Ow_q rfl rfl rfl (Qt_move rfl) ?_
  refine Ow_q rfl rfl rfl (Qt_cmp rfl rfl rfl) ?_
  refine Ow_nil ?_
  refine Cw_cond rfl ?_ ?_
  · intro h74
    have h74 := dcd_t (h74)
    have H := ift h74 H
    refine Cw_seq ?_
    refine Cw_region ?_
    refine Ow_q rfl rfl rfl (Qt_move rfl) ?_
    refine Ow_q rfl rfl rfl (Qt_assign rfl) ?_
    refine Ow_nil ?_
    refine Cw_ret ?_
    obtain ⟨ey0, ez0_threads⟩ := inj2 H
    subst y0 z0_threads
    refine ⟨(by first | exact .inl rfl | exact .inr rfl), [(sv vp0)], ⟨(sv vp0), _, rfl, rfl, rfl⟩, ?_⟩
    refine Shift.pull (.there .here) ?_
    refine Shift.pull (.there .here) ?_
    have hs75 := (hp0).mono hK72
    refine Shift.done ?_
    exact ⟨vp0, rsp0, rfl, rfl, hs75⟩
  · intro h74
    have h74 := dcd_f (h74)
    have H := iff_ h74 H
    refine Cw_skip ?_
    refine Cw_join (fun env' K' G' => ∃ (l127 : List Int) (rs129 : List (List Value)) (i130 : Int), [(0, (sv vp0)), (5, (.int .i64 i130))] = env' ∧ (.blk bc1_0 34 (Config.cells c1_0 vc1_0_capacities vc1_0_starts)) :: (.row (sv vp0) 3 1 rs129.flatten) :: G = G' ∧ M_slices_DeleteFunc_int_int_1f41blk34_J1 c1_0 l127 i130 = some (y0, z0_threads) ∧ RowR Ty.i64 K' rs129 l127) ?_ ?_
    · skip
      refine Cw_seq ?_
      refine Cw_region ?_
      refine Ow_q rfl rfl rfl (Qt_move rfl) ?_
      refine Ow_q rfl rfl rfl (Qt_arith (e := wI (x69 + 1)) rfl rfl rfl rfl) ?_
      refine Ow_q rfl rfl rfl (Qt_assign rfl) ?_
      refine Ow_nil ?_
      refine Cw_block ?_
      refine Cw_loopM (fun n182 env' K' G' => ∃ (l177 : List Int) (rs179 : List (List Value)) (i180 : Int) (i181 : Int), [(0, (sv vp0)), (1, (.func (.func 41) #[] #[(.pointer (some ((⟨bc1_0, 0, none⟩ : Addr).add 0)))])), (5, (.int .i64 i180)), (6, (.int .i64 i181))] = env' ∧ K71 = K' ∧ (.blk bc1_0 34 (Config.cells c1_0 vc1_0_capacities vc1_0_starts)) :: (.row (sv vp0) 3 1 rs179.flatten) :: G = G' ∧ lp3 (M_slices_DeleteFunc_int_int_1f41blk34_L1 c1_0) n182 l177 i180 i181 = some (y0, z0_threads) ∧ RowR Ty.i64 K' rs179 l177) BIG ?_ ?_
      · skip
        refine Shift.pull (.there .here) ?_
        refine Shift.pull (.there .here) ?_
        have hs183 := (hp0).mono hK72
        refine Shift.done ?_
        exact ⟨[(0, (sv vp0)), (1, (.func (.func 41) #[] #[(.pointer (some ((⟨bc1_0, 0, none⟩ : Addr).add 0)))])), (5, (.int .i64 x69)), (6, (.int .i64 (wI (x69 + 1))))], ⟨rfl, rfl, rfl, rfl, trivial⟩, p0, rsp0, x69, (wI (x69 + 1)), rfl, rfl, rfl, H, hs183⟩
      rintro n182 _ _ _ - ⟨l177, rs179, i180, i181, rfl, rfl, rfl, H, hR178⟩
      obtain ⟨m184, k185, rfl, hkk186, H⟩ := lps3 H
      unfold M_slices_DeleteFunc_int_int_1f41blk34_L1 at H
      refine Cw_seq ?_
      refine Cw_seq ?_
      refine Cw_region ?_
      refine Ow_q rfl rfl rfl (Qt_move rfl) ?_
      refine Ow_q rfl rfl rfl (Qt_move rfl) ?_
      refine Ow_q rfl rfl rfl (Q_lenR (T := Ty.i64) (.tail _ (.head _)) hR178 rfl rfl rfl) ?_
      refine Ow_q rfl rfl rfl (Qt_cmp rfl rfl rfl) ?_
      refine Ow_nil ?_
      refine Cw_cond rfl ?_ ?_
      · intro h188
        have h188 := dcd_t (h188)
        have H := ift h188 H
        refine Cw_skip ?_
        refine Cw_seq ?_
        refine Cw_block ?_
        refine Cw_seq ?_
        refine Cw_region ?_
        refine Ow_q rfl rfl rfl (Qt_move rfl) ?_
        refine Ow_q rfl rfl rfl (Qt_move rfl) ?_
        obtain ⟨x206, hx207, H⟩ := bnd H
        obtain ⟨r208, hq209, hr210⟩ := RowR.at hR178 hx207
        obtain rfl := hr210
        refine Ow_q rfl rfl rfl (Q_ixR (T := Ty.i64) (.tail _ (.head _)) hR178 hq209 (getI_ix hx207).1 rfl rfl rfl rfl rfl) ?_
        refine Ow_q rfl rfl rfl (Qt_load1 (v := (.int .i64 x206)) rfl rfl rfl (Rd_row (T := Ty.i64) (.tail _ (.head _)) hR178 hq209 rfl rfl)) ?_
        refine Ow_q rfl rfl rfl (Qt_assign rfl) ?_
        refine Ow_nil ?_
        refine Cw_seq ?_
        refine Cw_region ?_
        refine Ow_q rfl rfl rfl (Qt_move rfl) ?_
        refine Ow_q rfl rfl rfl (Qt_move rfl) ?_
        obtain ⟨x211, hx212, H⟩ := bnd H
        have hs213 := (hc1_0_capacities).mono hK72
        have hs214 := (hc1_0_starts).mono hK72
        refine Ow_cons rfl (OpW_call rfl Try.call41 rfl rfl (c_M_cases_Locks_1_freeblk34 x206 bc1_0 c1_0 vc1_0_capacities vc1_0_starts x211 hx212 _ _ hs213 hs214) ?_)
        rintro _ _ _ - ⟨rfl, rfl, rfl⟩
        refine Ow_q rfl rfl rfl (Qt_not rfl) ?_
        refine Ow_nil ?_
        refine Cw_cond rfl ?_ ?_
        · intro h215
          have h215 := nt_t (h215)
          have H := iff_ (btf h215) H
          refine Cw_seq ?_
          refine Cw_region ?_
          refine Ow_q rfl rfl rfl (Qt_move rfl) ?_
          refine Ow_q rfl rfl rfl (Qt_move rfl) ?_
          refine Ow_q rfl rfl rfl (Qt_move rfl) ?_
          obtain ⟨x216, hx217, H⟩ := bnd H
          obtain ⟨r218, hq219, hr220⟩ := RowR.at hR178 hx217
          obtain rfl := hr220
          refine Ow_q rfl rfl rfl (Q_ixR (T := Ty.i64) (.tail _ (.head _)) hR178 hq219 (getI_ix hx217).1 rfl rfl rfl rfl rfl) ?_
          refine Ow_cons rfl (O_storeR (T := Ty.i64) (vs := [(.int .i64 x206)]) (r' := [(.int .i64 x206)]) (l' := (setI l177 i180 x206)) rfl rfl rfl rfl rfl (.there .here) hR178 hq219 rfl rfl rfl (RowR.set i180 hR178 rfl) (fun hR221 => ?_))
          have hE222 := set_at hq219 (v := [(.int .i64 x206)])
          refine Ow_nil ?_
          refine Cw_region ?_
          refine Ow_q rfl rfl rfl (Qt_move rfl) ?_
          refine Ow_q rfl rfl rfl (Qt_arith (e := wI (i180 + 1)) rfl rfl rfl rfl) ?_
          refine Ow_q rfl rfl rfl (Qt_assign rfl) ?_
          refine Ow_nil ?_
          refine Cw_region ?_
          refine Ow_q rfl rfl rfl (Qt_move rfl) ?_
          refine Ow_q rfl rfl rfl (Qt_arith (e := wI (i181 + 1)) rfl rfl rfl rfl) ?_
          refine Ow_q rfl rfl rfl (Qt_assign rfl) ?_
          refine Ow_nil ?_
          refine Shift.pull (.there .here) ?_
          refine Shift.pull (.there .here) ?_
          refine Shift.done ?_
          exact ⟨[(0, (sv vp0)), (1, (.func (.func 41) #[] #[(.pointer (some ((⟨bc1_0, 0, none⟩ : Addr).add 0)))])), (5, (.int .i64 (wI (i180 + 1)))), (6, (.int .i64 (wI (i181 + 1))))], ⟨rfl, rfl, rfl, rfl, trivial⟩, _, Nat.lt_succ_self _, (setI l177 i180 x206), (rs179.set i180.toNat [(.int .i64 x206)]), (wI (i180 + 1)), (wI (i181 + 1)), rfl, rfl, rfl, (hkk186 ▸ H), hR221⟩
        · intro h215
          have h215 := nt_f (h215)
          have H := ift h215 H
          refine Cw_skip ?_
          refine Cw_region ?_
          refine Ow_q rfl rfl rfl (Qt_move rfl) ?_
          refine Ow_q rfl rfl rfl (Qt_arith (e := wI (i181 + 1)) rfl rfl rfl rfl) ?_
          refine Ow_q rfl rfl rfl (Qt_assign rfl) ?_
          refine Ow_nil ?_
          refine Shift.pull (.there .here) ?_
          refine Shift.pull (.there .here) ?_
          refine Shift.done ?_
          exact ⟨[(0, (sv vp0)), (1, (.func (.func 41) #[] #[(.pointer (some ((⟨bc1_0, 0, none⟩ : Addr).add 0)))])), (5, (.int .i64 i180)), (6, (.int .i64 (wI (i181 + 1))))], ⟨rfl, rfl, rfl, rfl, trivial⟩, _, Nat.lt_succ_self _, l177, rs179, i180, (wI (i181 + 1)), rfl, rfl, rfl, (hkk186 ▸ H), hR178⟩
      · intro h188
        have h188 := dcd_f (h188)
        have H := iff_ h188 H
        refine Cw_exit ?_
        refine Shift.pull (.there .here) ?_
        refine Shift.pull (.there .here) ?_
        refine Shift.done ?_
        exact ⟨[(0, (sv vp0)), (5, (.int .i64 i180))], ⟨rfl, rfl, trivial⟩, l177, rs179, i180, rfl, rfl, H, hR178⟩
    rintro _ K223 _ hK224 ⟨l127, rs129, i130, rfl, rfl, H, hR128⟩
    unfold M_slices_DeleteFunc_int_int_1f41blk34_J1 at H
    refine Cw_seq ?_
    refine Cw_region ?_
    refine Ow_q rfl rfl rfl (Qt_move rfl) ?_
    refine Ow_q rfl rfl rfl (Qt_move rfl) ?_
    obtain ⟨x225, hx226, H⟩ := bnd H
    refine Ow_q rfl rfl rfl (Q_cutRL (T := Ty.i64) (.tail _ (.head _)) hR128 rfl hx226 rfl rfl rfl rfl rfl) ?_
    refine Ow_cons rfl (O_clearCut (T := Ty.i64) rfl rfl rfl rfl rfl rfl rfl (by first | rfl | kernel_rfl | decide) (.tail _ (.head _)) hR128 hx226 rfl (fun rs227 hR228 => ⟨_, (.there .here), ?_⟩))
    refine Ow_nil ?_
    refine Cw_seq ?_
    refine Cw_region ?_
    refine Ow_q rfl rfl rfl (Qt_move rfl) ?_
    refine Ow_q rfl rfl rfl (Qt_move rfl) ?_
    obtain ⟨x229, hx230, H⟩ := bnd H
    refine Ow_q rfl rfl rfl (Q_cutRH (T := Ty.i64) (.tail _ (.head _)) hR228 rfl hx230 rfl rfl rfl rfl) ?_
    refine Ow_q rfl rfl rfl (Qt_assign rfl) ?_
    refine Ow_nil ?_
    refine Cw_ret ?_
    obtain ⟨ey0, ez0_threads⟩ := inj2 H
    subst y0 z0_threads
    refine ⟨(by first | exact .inl rfl | exact .inr rfl), [(sv (cutS vp0 1 0 i130.toNat))], ⟨(sv (cutS vp0 1 0 i130.toNat)), _, rfl, rfl, rfl⟩, ?_⟩
    refine Shift.pull (.there .here) ?_
    have hR231 := RowR.cutH hR228 hx230
    refine Shift.cutRow (T := Ty.i64) hR228 rfl hx230 ?_
    refine Shift.pull (.there .here) ?_
    refine Shift.done ?_
    exact ⟨(cutS vp0 1 0 i130.toNat), (rs227.take i130.toNat), rfl, rfl, hR231⟩

set_option maxHeartbeats 1000000 in
theorem c_M_slices_Sort_int_int (p0 : List Int) (vp0 : SV) (rsp0 : List (List Value)) (uvp0 : List Int) (H : M_slices_Sort_int_int p0 = some uvp0) (K : Kp) (G : List Ent) (hp0 : RowR Ty.i64 K rsp0 p0) :
    Fc Try.prog 42 #[(sv vp0)] K ((.row (sv vp0) 3 1 rsp0.flatten) :: G) (fun v K' G' => ∃ (rsuvp0 : List (List Value)), v = (.tuple #[]) ∧ K = K' ∧ (.row (sv vp0) 3 1 rsuvp0.flatten) :: G = G' ∧ RowR Ty.i64 K' rsuvp0 uvp0) :=
  Fc_sort Try.slices_Sort_int Try.slices_Sort_int_none H hp0

set_option maxHeartbeats 1000000 in
theorem c_M_slices_Compact_int_int (p0 : List Int) (vp0 : SV) (rsp0 : List (List Value)) (y0 : List Int) (H : M_slices_Compact_int_int p0 = some y0) (K : Kp) (G : List Ent) (hp0 : RowR Ty.i64 K rsp0 p0) :
    Fc Try.prog 43 #[(sv vp0)] K ((.row (sv vp0) 3 1 rsp0.flatten) :: G) (fun v K' G' => ∃ (wy0 : SV) (rswy0 : List (List Value)), v = (sv wy0) ∧ K = K' ∧ (.row (sv wy0) 3 1 rswy0.flatten) :: G = G' ∧ RowR Ty.i64 K' rswy0 y0) :=
  Fc_compact Try.slices_Compact_int Try.slices_Compact_int_empty compact_len H hp0


end Go.Hx
