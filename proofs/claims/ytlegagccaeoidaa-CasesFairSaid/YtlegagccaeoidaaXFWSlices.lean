/- Printed by program. -/
import Derived.Test.YtlegagccaeoidaaXFM
import Derived.Test.YtlegagccaeoidaaXFShelf
import Derived.Test.YtlegagccaeoidaaXFWCases
namespace Go.Hx
open Go Go.Proofs
set_option linter.unusedSimpArgs false
set_option linter.unusedVariables false
set_option maxRecDepth 10000
set_option maxHeartbeats 1000000 in
theorem c_M_slices_IndexFunc_int_int_1f41blk34 (p0 : List Int) (vp0 : SV) (bc1_0 : Nat) (c1_0 : Config) (vc1_0_capacities : SV) (vc1_0_starts : SV) (y0 : Int) (z0_threads : Int) (H : M_slices_IndexFunc_int_int_1f41blk34 p0 c1_0 = some (y0, z0_threads)) (K : Kp) (G : List Ent) (hp0 : Slr Ty.i64 K (sv vp0) p0) (hc1_0_capacities : Slr Ty.i64 K (sv vc1_0_capacities) c1_0.capacities) (hc1_0_starts : Slr Ty.u64 K (sv vc1_0_starts) c1_0.starts) :
    Fc Try.prog 50 #[(sv vp0), (.func (.func 41) #[] #[(.pointer (some ((⟨bc1_0, 0, none⟩ : Addr).add 0)))])] K ((.blk bc1_0 34 (Config.cells c1_0 vc1_0_capacities vc1_0_starts)) :: G) (fun v K' G' => v = (.int .i64 y0) ∧ (.blk bc1_0 34 (Config.cells (Config.mk c1_0.capacities c1_0.starts z0_threads) vc1_0_capacities vc1_0_starts)) :: G = G') := by
  refine Fc_body Try.func50 rfl Try.ntmps50 Try.results50 rfl ?_
  unfold M_slices_IndexFunc_int_int_1f41blk34 at H
  refine Cw_seq ?_
  refine Cw_region ?_
  refine Ow_q rfl rfl rfl (Qt_assign rfl) ?_
  refine Ow_nil ?_
  refine Cw_join (fun env' K' G' => ∃ (i64 : Int), [] = env' ∧ (.blk bc1_0 34 (Config.cells (Config.mk c1_0.capacities c1_0.starts i64) vc1_0_capacities vc1_0_starts)) :: G = G' ∧ M_slices_IndexFunc_int_int_1f41blk34_J1 c1_0 i64 = some (y0, z0_threads)) ?_ ?_
  · skip
    refine Cw_seq ?_
    refine Cw_region ?_
    refine Ow_q rfl rfl rfl (Qt_move rfl) ?_
    refine Ow_q rfl rfl rfl (Q_len (T := Ty.i64) hp0 rfl rfl) ?_
    refine Ow_q rfl rfl rfl (Qt_move rfl) ?_
    refine Ow_nil ?_
    refine Cw_block ?_
    refine Cw_loopM (fun n95 env' K' G' => ∃ (i94 : Int), [(0, (sv vp0)), (1, (.func (.func 41) #[] #[(.pointer (some ((⟨bc1_0, 0, none⟩ : Addr).add 0)))])), (7, (.int .i64 (p0.length : Int))), (8, (.int .i64 i94))] = env' ∧ K = K' ∧ (.blk bc1_0 34 (Config.cells c1_0 vc1_0_capacities vc1_0_starts)) :: G = G' ∧ lp1 (M_slices_IndexFunc_int_int_1f41blk34_L1 p0 c1_0) n95 i94 = some (y0, z0_threads)) BIG ?_ ?_
    · skip
      refine Shift.done ?_
      exact ⟨[(0, (sv vp0)), (1, (.func (.func 41) #[] #[(.pointer (some ((⟨bc1_0, 0, none⟩ : Addr).add 0)))])), (7, (.int .i64 (p0.length : Int))), (8, (.int .i64 0))], ⟨rfl, rfl, rfl, rfl, trivial⟩, 0, rfl, rfl, rfl, H⟩
    rintro n95 _ _ _ - ⟨i94, rfl, rfl, rfl, H⟩
    obtain ⟨m96, k97, rfl, hkk98, H⟩ := lps1 H
    unfold M_slices_IndexFunc_int_int_1f41blk34_L1 at H
    refine Cw_seq ?_
    refine Cw_region ?_
    refine Ow_q rfl rfl rfl (Qt_cmp rfl rfl rfl) ?_
    refine Ow_nil ?_
    refine Cw_seq ?_
    refine Cw_cond rfl ?_ ?_
    · intro h100
      have h100 := dcd_t (h100)
      have H := ift h100 H
      refine Cw_skip ?_
      refine Cw_seq ?_
      refine Cw_block ?_
      refine Cw_seq ?_
      refine Cw_region ?_
      refine Ow_q rfl rfl rfl (Qt_move rfl) ?_
      refine Ow_q rfl rfl rfl (Qt_assign rfl) ?_
      refine Ow_nil ?_
      refine Cw_seq ?_
      refine Cw_region ?_
      refine Ow_q rfl rfl rfl (Qt_move rfl) ?_
      refine Ow_q rfl rfl rfl (Qt_move rfl) ?_
      refine Ow_q rfl rfl rfl (Qt_move rfl) ?_
      obtain ⟨x109, hx110, H⟩ := bnd H
      obtain ⟨r111, hr112, hk113⟩ := Slr.at hp0 hx110
      obtain rfl := hr112
      refine Ow_q rfl rfl rfl (Q_ix (T := Ty.i64) hp0 hx110 rfl rfl rfl rfl rfl) ?_
      refine Ow_q rfl rfl rfl (Qt_load1 (v := (.int .i64 x109)) rfl rfl rfl (Rdc.k hk113 rfl)) ?_
      obtain ⟨x114, hx115, H⟩ := bnd H
      refine Ow_cons rfl (OpW_call rfl Try.call41 rfl rfl (c_M_cases_Locks_1_freeblk34 x109 bc1_0 c1_0 vc1_0_capacities vc1_0_starts x114 hx115 _ _ hc1_0_capacities hc1_0_starts) ?_)
      rintro _ _ _ - ⟨rfl, rfl, rfl⟩
      refine Ow_nil ?_
      refine Cw_cond rfl ?_ ?_
      · intro h116
        have H := ift h116 H
        refine Cw_seq ?_
        refine Cw_region ?_
        refine Ow_q rfl rfl rfl (Qt_move rfl) ?_
        refine Ow_q rfl rfl rfl (Qt_assign rfl) ?_
        refine Ow_nil ?_
        refine Cw_ret ?_
        obtain ⟨ey0, ez0_threads⟩ := inj2 H
        subst y0 z0_threads
        refine ⟨(by first | exact .inl rfl | exact .inr rfl), [(.int .i64 i94)], ⟨(.int .i64 i94), _, rfl, rfl, rfl⟩, ?_⟩
        refine Shift.done ?_
        exact ⟨rfl, rfl⟩
      · intro h116
        have H := iff_ (btf h116) H
        refine Cw_skip ?_
        refine Cw_region ?_
        refine Ow_q rfl rfl rfl (Qt_arith (e := wI (i94 + 1)) rfl rfl rfl rfl) ?_
        refine Ow_q rfl rfl rfl (Qt_move rfl) ?_
        refine Ow_nil ?_
        refine Shift.done ?_
        exact ⟨[(0, (sv vp0)), (1, (.func (.func 41) #[] #[(.pointer (some ((⟨bc1_0, 0, none⟩ : Addr).add 0)))])), (7, (.int .i64 (p0.length : Int))), (8, (.int .i64 (wI (i94 + 1))))], ⟨rfl, rfl, rfl, rfl, trivial⟩, _, Nat.lt_succ_self _, (wI (i94 + 1)), rfl, rfl, rfl, (hkk98 ▸ H)⟩
    · intro h100
      have h100 := dcd_f (h100)
      have H := iff_ h100 H
      refine Cw_exit ?_
      refine Shift.done ?_
      exact ⟨[], trivial, c1_0.threads, rfl, rfl, H⟩
  rintro _ K117 _ hK118 ⟨i64, rfl, rfl, H⟩
  unfold M_slices_IndexFunc_int_int_1f41blk34_J1 at H
  refine Cw_seq ?_
  refine Cw_region ?_
  refine Ow_q rfl rfl rfl (Qt_assign rfl) ?_
  refine Ow_nil ?_
  refine Cw_ret ?_
  obtain ⟨ey0, ez0_threads⟩ := inj2 H
  subst y0 z0_threads
  refine ⟨(by first | exact .inl rfl | exact .inr rfl), [(.int .i64 (-1))], ⟨(.int .i64 (-1)), _, rfl, rfl, rfl⟩, ?_⟩
  refine Shift.done ?_
  exact ⟨rfl, rfl⟩

set_option maxHeartbeats 1000000 in
theorem c_M_slices_IndexFunc_int_int_1f41blk34_m0row (p0 : List Int) (vp0 : SV) (rsp0 : List (List Value)) (bc1_0 : Nat) (c1_0 : Config) (vc1_0_capacities : SV) (vc1_0_starts : SV) (y0 : Int) (z0_threads : Int) (H : M_slices_IndexFunc_int_int_1f41blk34_m0row p0 c1_0 = some (y0, z0_threads)) (K : Kp) (G : List Ent) (hp0 : RowR Ty.i64 K rsp0 p0) (hc1_0_capacities : Slr Ty.i64 K (sv vc1_0_capacities) c1_0.capacities) (hc1_0_starts : Slr Ty.u64 K (sv vc1_0_starts) c1_0.starts) :
    Fc Try.prog 50 #[(sv vp0), (.func (.func 41) #[] #[(.pointer (some ((⟨bc1_0, 0, none⟩ : Addr).add 0)))])] K ((.row (sv vp0) 3 1 rsp0.flatten) :: (.blk bc1_0 34 (Config.cells c1_0 vc1_0_capacities vc1_0_starts)) :: G) (fun v K' G' => v = (.int .i64 y0) ∧ (.blk bc1_0 34 (Config.cells (Config.mk c1_0.capacities c1_0.starts z0_threads) vc1_0_capacities vc1_0_starts)) :: (.row (sv vp0) 3 1 rsp0.flatten) :: G = G') := by
  refine Fc_body Try.func50 rfl Try.ntmps50 Try.results50 rfl ?_
  unfold M_slices_IndexFunc_int_int_1f41blk34_m0row at H
  refine Cw_seq ?_
  refine Cw_region ?_
  refine Ow_q rfl rfl rfl (Qt_assign rfl) ?_
  refine Ow_nil ?_
  refine Cw_join (fun env' K' G' => ∃ (i64 : Int), [] = env' ∧ (.blk bc1_0 34 (Config.cells (Config.mk c1_0.capacities c1_0.starts i64) vc1_0_capacities vc1_0_starts)) :: (.row (sv vp0) 3 1 rsp0.flatten) :: G = G' ∧ M_slices_IndexFunc_int_int_1f41blk34_m0row_J1 c1_0 p0 i64 = some (y0, z0_threads)) ?_ ?_
  · skip
    refine Cw_seq ?_
    refine Cw_region ?_
    refine Ow_q rfl rfl rfl (Qt_move rfl) ?_
    refine Ow_q rfl rfl rfl (Q_lenR (T := Ty.i64) (.head _) hp0 rfl rfl rfl) ?_
    refine Ow_q rfl rfl rfl (Qt_move rfl) ?_
    refine Ow_nil ?_
    refine Cw_block ?_
    refine Cw_loopM (fun n95 env' K' G' => ∃ (i94 : Int), [(0, (sv vp0)), (1, (.func (.func 41) #[] #[(.pointer (some ((⟨bc1_0, 0, none⟩ : Addr).add 0)))])), (7, (.int .i64 (p0.length : Int))), (8, (.int .i64 i94))] = env' ∧ K = K' ∧ (.blk bc1_0 34 (Config.cells c1_0 vc1_0_capacities vc1_0_starts)) :: (.row (sv vp0) 3 1 rsp0.flatten) :: G = G' ∧ lp1 (M_slices_IndexFunc_int_int_1f41blk34_m0row_L1 p0 c1_0) n95 i94 = some (y0, z0_threads)) BIG ?_ ?_
    · skip
      refine Shift.pull (.there .here) ?_
      refine Shift.done ?_
      exact ⟨[(0, (sv vp0)), (1, (.func (.func 41) #[] #[(.pointer (some ((⟨bc1_0, 0, none⟩ : Addr).add 0)))])), (7, (.int .i64 (p0.length : Int))), (8, (.int .i64 0))], ⟨rfl, rfl, rfl, rfl, trivial⟩, 0, rfl, rfl, rfl, H⟩
    rintro n95 _ _ _ - ⟨i94, rfl, rfl, rfl, H⟩
    obtain ⟨m96, k97, rfl, hkk98, H⟩ := lps1 H
    unfold M_slices_IndexFunc_int_int_1f41blk34_m0row_L1 at H
    refine Cw_seq ?_
    refine Cw_region ?_
    refine Ow_q rfl rfl rfl (Qt_cmp rfl rfl rfl) ?_
    refine Ow_nil ?_
    refine Cw_seq ?_
    refine Cw_cond rfl ?_ ?_
    · intro h100
      have h100 := dcd_t (h100)
      have H := ift h100 H
      refine Cw_skip ?_
      refine Cw_seq ?_
      refine Cw_block ?_
      refine Cw_seq ?_
      refine Cw_region ?_
      refine Ow_q rfl rfl rfl (Qt_move rfl) ?_
      refine Ow_q rfl rfl rfl (Qt_assign rfl) ?_
      refine Ow_nil ?_
      refine Cw_seq ?_
      refine Cw_region ?_
      refine Ow_q rfl rfl rfl (Qt_move rfl) ?_
      refine Ow_q rfl rfl rfl (Qt_move rfl) ?_
      refine Ow_q rfl rfl rfl (Qt_move rfl) ?_
      obtain ⟨x109, hx110, H⟩ := bnd H
      obtain ⟨r111, hq112, hr113⟩ := RowR.at hp0 hx110
      obtain rfl := hr113
      refine Ow_q rfl rfl rfl (Q_ixR (T := Ty.i64) (.tail _ (.head _)) hp0 hq112 (getI_ix hx110).1 rfl rfl rfl rfl rfl) ?_
      refine Ow_q rfl rfl rfl (Qt_load1 (v := (.int .i64 x109)) rfl rfl rfl (Rd_row (T := Ty.i64) (.tail _ (.head _)) hp0 hq112 rfl rfl)) ?_
      obtain ⟨x114, hx115, H⟩ := bnd H
      refine Ow_cons rfl (OpW_call rfl Try.call41 rfl rfl (c_M_cases_Locks_1_freeblk34 x109 bc1_0 c1_0 vc1_0_capacities vc1_0_starts x114 hx115 _ _ hc1_0_capacities hc1_0_starts) ?_)
      rintro _ _ _ - ⟨rfl, rfl, rfl⟩
      refine Ow_nil ?_
      refine Cw_cond rfl ?_ ?_
      · intro h116
        have H := ift h116 H
        refine Cw_seq ?_
        refine Cw_region ?_
        refine Ow_q rfl rfl rfl (Qt_move rfl) ?_
        refine Ow_q rfl rfl rfl (Qt_assign rfl) ?_
        refine Ow_nil ?_
        refine Cw_ret ?_
        obtain ⟨ey0, ez0_threads⟩ := inj2 H
        subst y0 z0_threads
        refine ⟨(by first | exact .inl rfl | exact .inr rfl), [(.int .i64 i94)], ⟨(.int .i64 i94), _, rfl, rfl, rfl⟩, ?_⟩
        refine Shift.pull (.there .here) ?_
        refine Shift.pull (.there .here) ?_
        refine Shift.done ?_
        exact ⟨rfl, rfl⟩
      · intro h116
        have H := iff_ (btf h116) H
        refine Cw_skip ?_
        refine Cw_region ?_
        refine Ow_q rfl rfl rfl (Qt_arith (e := wI (i94 + 1)) rfl rfl rfl rfl) ?_
        refine Ow_q rfl rfl rfl (Qt_move rfl) ?_
        refine Ow_nil ?_
        refine Shift.pull (.there .here) ?_
        refine Shift.pull (.there .here) ?_
        refine Shift.done ?_
        exact ⟨[(0, (sv vp0)), (1, (.func (.func 41) #[] #[(.pointer (some ((⟨bc1_0, 0, none⟩ : Addr).add 0)))])), (7, (.int .i64 (p0.length : Int))), (8, (.int .i64 (wI (i94 + 1))))], ⟨rfl, rfl, rfl, rfl, trivial⟩, _, Nat.lt_succ_self _, (wI (i94 + 1)), rfl, rfl, rfl, (hkk98 ▸ H)⟩
    · intro h100
      have h100 := dcd_f (h100)
      have H := iff_ h100 H
      refine Cw_exit ?_
      refine Shift.pull (.there .here) ?_
      refine Shift.pull (.there .here) ?_
      refine Shift.done ?_
      exact ⟨[], trivial, c1_0.threads, rfl, rfl, H⟩
  rintro _ K117 _ hK118 ⟨i64, rfl, rfl, H⟩
  unfold M_slices_IndexFunc_int_int_1f41blk34_m0row_J1 at H
  refine Cw_seq ?_
  refine Cw_region ?_
  refine Ow_q rfl rfl rfl (Qt_assign rfl) ?_
  refine Ow_nil ?_
  refine Cw_ret ?_
  obtain ⟨ey0, ez0_threads⟩ := inj2 H
  subst y0 z0_threads
  refine ⟨(by first | exact .inl rfl | exact .inr rfl), [(.int .i64 (-1))], ⟨(.int .i64 (-1)), _, rfl, rfl, rfl⟩, ?_⟩
  refine Shift.pull (.there .here) ?_
  refine Shift.pull (.there .here) ?_
  refine Shift.done ?_
  exact ⟨rfl, rfl⟩

set_option maxHeartbeats 1000000 in
theorem c_M_slices_DeleteFunc_int_int_1f41blk34 (p0 : List Int) (vp0 : SV) (rsp0 : List (List Value)) (bc1_0 : Nat) (c1_0 : Config) (vc1_0_capacities : SV) (vc1_0_starts : SV) (y0 : List Int) (z0_threads : Int) (H : M_slices_DeleteFunc_int_int_1f41blk34 p0 c1_0 = some (y0, z0_threads)) (K : Kp) (G : List Ent) (hp0 : RowR Ty.i64 K rsp0 p0) (hc1_0_capacities : Slr Ty.i64 K (sv vc1_0_capacities) c1_0.capacities) (hc1_0_starts : Slr Ty.u64 K (sv vc1_0_starts) c1_0.starts) :
    Fc Try.prog 40 #[(sv vp0), (.func (.func 41) #[] #[(.pointer (some ((⟨bc1_0, 0, none⟩ : Addr).add 0)))])] K ((.row (sv vp0) 3 1 rsp0.flatten) :: (.blk bc1_0 34 (Config.cells c1_0 vc1_0_capacities vc1_0_starts)) :: G) (fun v K' G' => ∃ (wy0 : SV) (rswy0 : List (List Value)), v = (sv wy0) ∧ (.blk bc1_0 34 (Config.cells (Config.mk c1_0.capacities c1_0.starts z0_threads) vc1_0_capacities vc1_0_starts)) :: (.row (sv wy0) 3 1 rswy0.flatten) :: G = G' ∧ RowR Ty.i64 K' rswy0 y0) := by
  refine Fc_body Try.func40 rfl Try.ntmps40 Try.results40 rfl ?_
  unfold M_slices_DeleteFunc_int_int_1f41blk34 at H
  refine Cw_seq ?_
  refine Cw_region ?_
  refine Ow_q rfl rfl rfl (Qt_assign rfl) ?_
  refine Ow_nil ?_
  refine Cw_seq ?_
  refine Cw_region ?_
  refine Ow_q rfl rfl rfl (Qt_move rfl) ?_
  refine Ow_q rfl rfl rfl (Qt_move rfl) ?_
  obtain ⟨x72, x73, hx74, H⟩ := bnd2 H
  refine Ow.shift (Shift.pull (.there .here) (Shift.done ?_))
  refine Ow.shift (Shift.pull (.there .here) (Shift.done ?_))
  refine Ow_cons rfl (OpW_call rfl Try.call50 rfl rfl (c_M_slices_IndexFunc_int_int_1f41blk34_m0row p0 vp0 rsp0 bc1_0 c1_0 vc1_0_capacities vc1_0_starts x72 x73 hx74 _ _ hp0 hc1_0_capacities hc1_0_starts) ?_)
  rintro _ K75 _ hK76 ⟨rfl, rfl⟩
  refine Ow_q rfl rfl rfl (Qt_assign rfl) ?_
  refine Ow_nil ?_
  refine Cw_seq ?_
  refine Cw_seq ?_
  refine Cw_region ?_
  refine Ow_q rfl rfl rfl (Qt_move rfl) ?_
  refine Ow_q rfl rfl rfl (Qt_cmp rfl rfl rfl) ?_
  refine Ow_nil ?_
  refine Cw_cond rfl ?_ ?_
  · intro h78
    have h78 := dcd_t (h78)
    have H := ift h78 H
    refine Cw_seq ?_
    refine Cw_region ?_
    refine Ow_q rfl rfl rfl (Qt_move rfl) ?_
    refine Ow_q rfl rfl rfl (Qt_assign rfl) ?_
    refine Ow_nil ?_
    refine Cw_ret ?_
    obtain ⟨ey0, ez0_threads⟩ := inj2 H
    subst y0 z0_threads
    refine ⟨(by first | exact .inl rfl | exact .inr rfl), [(sv vp0)], ⟨(sv vp0), _, rfl, rfl, rfl⟩, ?_⟩
    refine Shift.pull (.there .here) ?_
    refine Shift.pull (.there .here) ?_
    have hs79 := (hp0).mono hK76
    refine Shift.done ?_
    exact ⟨vp0, rsp0, rfl, rfl, hs79⟩
  · intro h78
    have h78 := dcd_f (h78)
    have H := iff_ h78 H
    cases H

set_option maxHeartbeats 1000000 in
theorem c_M_slices_Sort_int_int (p0 : List Int) (vp0 : SV) (rsp0 : List (List Value)) (uvp0 : List Int) (H : M_slices_Sort_int_int p0 = some uvp0) (K : Kp) (G : List Ent) (hp0 : RowR Ty.i64 K rsp0 p0) :
    Fc Try.prog 42 #[(sv vp0)] K ((.row (sv vp0) 3 1 rsp0.flatten) :: G) (fun v K' G' => ∃ (rsuvp0 : List (List Value)), v = (.tuple #[]) ∧ K = K' ∧ (.row (sv vp0) 3 1 rsuvp0.flatten) :: G = G' ∧ RowR Ty.i64 K' rsuvp0 uvp0) :=
  Fc_sort Try.slices_Sort_int Try.slices_Sort_int_none H hp0

set_option maxHeartbeats 1000000 in
theorem c_M_slices_Compact_int_int (p0 : List Int) (vp0 : SV) (rsp0 : List (List Value)) (y0 : List Int) (H : M_slices_Compact_int_int p0 = some y0) (K : Kp) (G : List Ent) (hp0 : RowR Ty.i64 K rsp0 p0) :
    Fc Try.prog 43 #[(sv vp0)] K ((.row (sv vp0) 3 1 rsp0.flatten) :: G) (fun v K' G' => ∃ (wy0 : SV) (rswy0 : List (List Value)), v = (sv wy0) ∧ K = K' ∧ (.row (sv wy0) 3 1 rswy0.flatten) :: G = G' ∧ RowR Ty.i64 K' rswy0 y0) :=
  Fc_compact Try.slices_Compact_int Try.slices_Compact_int_empty compact_len H hp0


end Go.Hx
