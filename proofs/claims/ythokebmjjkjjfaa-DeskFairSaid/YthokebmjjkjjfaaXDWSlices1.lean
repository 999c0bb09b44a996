/- Printed by program. -/
import Derived.Test.YthokebmjjkjjfaaXDM
import Derived.Test.YthokebmjjkjjfaaXDWDesk2
namespace Go.Hx
open Go Go.Proofs
set_option linter.unusedSimpArgs false
set_option linter.unusedVariables false
set_option maxRecDepth 10000
set_option maxHeartbeats 1000000 in
theorem c_M_87z (p0 : List Waiter) (vp0 : SV) (bc1_0 : Nat) (c1_0 : Case) (bc1_1 : Nat) (c1_1 : Int) (y0 : Int) (H : M_87z p0 c1_0 c1_1 = some y0) (K : Kp) (G : List Ent) (hp0 : Slr TyWaiter K (sv vp0) p0) :
  Fc Try.prog 68 #[(sv vp0), (.func (.func 69) #[] #[(.pointer (some ((⟨bc1_0, 0, none⟩ : Addr).add 0))), (.pointer (some ((⟨bc1_1, 0, none⟩ : Addr).add 0)))])] K ((.blk bc1_0 45 (Case.cells c1_0)) :: (.blk bc1_1 3 [(.int .i64 c1_1)]) :: G) (fun v K' G' => v = (.int .i64 y0) ∧ (.blk bc1_0 45 (Case.cells c1_0)) :: (.blk bc1_1 3 [(.int .i64 c1_1)]) :: G = G') := by
 refine Fc_body Try.func68 rfl Try.ntmps68 Try.results68 rfl ?_
 unfold M_87z at H
 refine Cw_seq ?_
 refine Cw_region ?_
 refine Ow_q rfl rfl rfl (Qt_assign rfl) ?_
 refine Ow_nil ?_
 refine Cw_join (fun env' K' G' => [] = env' ∧ (.blk bc1_1 3 [(.int .i64 c1_1)]) :: (.blk bc1_0 45 (Case.cells c1_0)) :: G = G' ∧ M_140z c1_1 c1_0 = some y0) ?_ ?_
 ·skip
  refine Cw_seq ?_
  refine Cw_region ?_
  refine Ow_q rfl rfl rfl (Qt_move rfl) ?_
  refine Ow_q rfl rfl rfl (Q_len (T := TyWaiter) hp0 rfl rfl) ?_
  refine Ow_q rfl rfl rfl (Qt_move rfl) ?_
  refine Ow_nil ?_
  refine Cw_block ?_
  refine Cw_loopM (fun n117 env' K' G' => ∃ (i116 : Int), [(0, (sv vp0)), (1, (.func (.func 69) #[] #[(.pointer (some ((⟨bc1_0, 0, none⟩ : Addr).add 0))), (.pointer (some ((⟨bc1_1, 0, none⟩ : Addr).add 0)))])), (7, (.int .i64 (p0.length : Int))), (8, (.int .i64 i116))] = env' ∧ (.blk bc1_1 3 [(.int .i64 c1_1)]) :: (.blk bc1_0 45 (Case.cells c1_0)) :: G = G' ∧ lp1 (M_86z p0 c1_1 c1_0) n117 i116 = some y0) BIG ?_ ?_
  ·skip
   refine Shift.pull (.there .here) ?_
   refine Shift.done ?_
   exact ⟨[(0, (sv vp0)), (1, (.func (.func 69) #[] #[(.pointer (some ((⟨bc1_0, 0, none⟩ : Addr).add 0))), (.pointer (some ((⟨bc1_1, 0, none⟩ : Addr).add 0)))])), (7, (.int .i64 (p0.length : Int))), (8, (.int .i64 0))], ⟨rfl, rfl, rfl, rfl, trivial⟩, 0, rfl, rfl, H⟩
  rintro n117 _ K118 _ hK119 ⟨i116, rfl, rfl, H⟩
  obtain ⟨m120, k121, rfl, hkk122, H⟩ := lps1 H
  unfold M_86z at H
  refine Cw_seq ?_
  refine Cw_region ?_
  refine Ow_q rfl rfl rfl (Qt_cmp rfl rfl rfl) ?_
  refine Ow_nil ?_
  refine Cw_seq ?_
  refine Cw_cond rfl ?_ ?_
  ·intro h124
   have h124 := dcd_t (h124)
   have H := ift h124 H
   refine Cw_skip ?_
   refine Cw_seq ?_
   refine Cw_block ?_
   refine Cw_seq ?_
   refine Cw_region ?_
   refine Ow_q rfl rfl rfl (Qt_move rfl) ?_
   refine Ow_q rfl rfl rfl (Qt_assign rfl) ?_
   refine Ow_nil ?_
   refine Cw_seq ?_
   refine Cw_region ?_
   refine Ow_q rfl rfl rfl (Qt_move rfl) ?_
   refine Ow_q rfl rfl rfl (Qt_move rfl) ?_
   refine Ow_q rfl rfl rfl (Qt_move rfl) ?_
   obtain ⟨x140, hx141, H⟩ := bnd H
   have hs142 := (hp0).mono hK119
   obtain ⟨r143, hr144, hk145⟩ := Slr.at hs142 hx141
   obtain ⟨v146, v147, rfl, hs148, hs149⟩ := hr144
   refine Ow_q rfl rfl rfl (Q_ix (T := TyWaiter) hs142 hx141 rfl rfl rfl rfl rfl) ?_
   refine Ow_q rfl rfl rfl (Qt_loadA (m := 8) (cs := (Waiter.cells x140 v146 v147)) rfl rfl rfl rfl ⟨rfl, Rdc.k hk145 rfl⟩) ?_
   obtain ⟨x150, hx151, H⟩ := bnd H
   refine Ow.shift (Shift.pull (.there .here) (Shift.done ?_))
   refine Ow_cons rfl (OpW_call rfl Try.call69 rfl rfl (c_M_42z x140 v146 v147 bc1_0 c1_0 bc1_1 c1_1 x150 hx151 _ _ hs148 hs149) ?_)
   rintro _ K152 _ hK153 ⟨rfl, rfl⟩
   refine Ow_nil ?_
   refine Cw_cond rfl ?_ ?_
   ·intro h154
    have H := ift h154 H
    refine Cw_seq ?_
    refine Cw_region ?_
    refine Ow_q rfl rfl rfl (Qt_move rfl) ?_
    refine Ow_q rfl rfl rfl (Qt_assign rfl) ?_
    refine Ow_nil ?_
    refine Cw_ret ?_
    obtain ey0 := inj1 H
    subst y0
    refine ⟨(by first | exact .inl rfl | exact .inr rfl), [(.int .i64 i116)], ⟨(.int .i64 i116), _, rfl, rfl, rfl⟩, ?_⟩
    refine Shift.pull (.there .here) ?_
    refine Shift.pull (.there .here) ?_
    refine Shift.done ?_
    exact ⟨rfl, rfl⟩
   ·intro h154
    have H := iff_ (btf h154) H
    refine Cw_skip ?_
    refine Cw_region ?_
    refine Ow_q rfl rfl rfl (Qt_arith (e := wI (i116 + 1)) rfl rfl rfl rfl) ?_
    refine Ow_q rfl rfl rfl (Qt_move rfl) ?_
    refine Ow_nil ?_
    refine Shift.pull (.there .here) ?_
    refine Shift.done ?_
    exact ⟨[(0, (sv vp0)), (1, (.func (.func 69) #[] #[(.pointer (some ((⟨bc1_0, 0, none⟩ : Addr).add 0))), (.pointer (some ((⟨bc1_1, 0, none⟩ : Addr).add 0)))])), (7, (.int .i64 (p0.length : Int))), (8, (.int .i64 (wI (i116 + 1))))], ⟨rfl, rfl, rfl, rfl, trivial⟩, _, Nat.lt_succ_self _, (wI (i116 + 1)), rfl, rfl, (hkk122 ▸ H)⟩
  ·intro h124
   have h124 := dcd_f (h124)
   have H := iff_ h124 H
   refine Cw_exit ?_
   refine Shift.pull (.there .here) ?_
   refine Shift.pull (.there .here) ?_
   refine Shift.done ?_
   exact ⟨[], trivial, rfl, rfl, H⟩
 rintro _ K155 _ hK156 ⟨rfl, rfl, H⟩
 unfold M_140z at H
 refine Cw_seq ?_
 refine Cw_region ?_
 refine Ow_q rfl rfl rfl (Qt_assign rfl) ?_
 refine Ow_nil ?_
 refine Cw_ret ?_
 obtain ey0 := inj1 H
 subst y0
 refine ⟨(by first | exact .inl rfl | exact .inr rfl), [(.int .i64 (-1))], ⟨(.int .i64 (-1)), _, rfl, rfl, rfl⟩, ?_⟩
 refine Shift.pull (.there .here) ?_
 refine Shift.done ?_
 exact ⟨rfl, rfl⟩

set_option maxHeartbeats 1000000 in
theorem c_M_92z (p0 : List Waiter) (vp0 : SV) (rsp0 : List (List Value)) (bc1_0 : Nat) (c1_0 : Case) (bc1_1 : Nat) (c1_1 : Int) (y0 : Int) (H : M_92z p0 c1_0 c1_1 = some y0) (K : Kp) (G : List Ent) (hp0 : RowR TyWaiter K rsp0 p0) :
  Fc Try.prog 68 #[(sv vp0), (.func (.func 69) #[] #[(.pointer (some ((⟨bc1_0, 0, none⟩ : Addr).add 0))), (.pointer (some ((⟨bc1_1, 0, none⟩ : Addr).add 0)))])] K ((.row (sv vp0) 52 8 rsp0.flatten) :: (.blk bc1_0 45 (Case.cells c1_0)) :: (.blk bc1_1 3 [(.int .i64 c1_1)]) :: G) (fun v K' G' => v = (.int .i64 y0) ∧ (.blk bc1_0 45 (Case.cells c1_0)) :: (.blk bc1_1 3 [(.int .i64 c1_1)]) :: (.row (sv vp0) 52 8 rsp0.flatten) :: G = G') := by
 refine Fc_body Try.func68 rfl Try.ntmps68 Try.results68 rfl ?_
 unfold M_92z at H
 refine Cw_seq ?_
 refine Cw_region ?_
 refine Ow_q rfl rfl rfl (Qt_assign rfl) ?_
 refine Ow_nil ?_
 refine Cw_join (fun env' K' G' => [] = env' ∧ (.blk bc1_1 3 [(.int .i64 c1_1)]) :: (.blk bc1_0 45 (Case.cells c1_0)) :: (.row (sv vp0) 52 8 rsp0.flatten) :: G = G' ∧ M_142z c1_1 c1_0 p0 = some y0) ?_ ?_
 ·skip
  refine Cw_seq ?_
  refine Cw_region ?_
  refine Ow_q rfl rfl rfl (Qt_move rfl) ?_
  refine Ow_q rfl rfl rfl (Q_lenR (T := TyWaiter) (.head _) hp0 rfl rfl rfl) ?_
  refine Ow_q rfl rfl rfl (Qt_move rfl) ?_
  refine Ow_nil ?_
  refine Cw_block ?_
  refine Cw_loopM (fun n117 env' K' G' => ∃ (i116 : Int), [(0, (sv vp0)), (1, (.func (.func 69) #[] #[(.pointer (some ((⟨bc1_0, 0, none⟩ : Addr).add 0))), (.pointer (some ((⟨bc1_1, 0, none⟩ : Addr).add 0)))])), (7, (.int .i64 (p0.length : Int))), (8, (.int .i64 i116))] = env' ∧ (.blk bc1_1 3 [(.int .i64 c1_1)]) :: (.blk bc1_0 45 (Case.cells c1_0)) :: (.row (sv vp0) 52 8 rsp0.flatten) :: G = G' ∧ lp1 (M_91z p0 c1_1 c1_0) n117 i116 = some y0) BIG ?_ ?_
  ·skip
   refine Shift.pull (.there .here) ?_
   refine Shift.pull (.there (.there .here)) ?_
   refine Shift.done ?_
   exact ⟨[(0, (sv vp0)), (1, (.func (.func 69) #[] #[(.pointer (some ((⟨bc1_0, 0, none⟩ : Addr).add 0))), (.pointer (some ((⟨bc1_1, 0, none⟩ : Addr).add 0)))])), (7, (.int .i64 (p0.length : Int))), (8, (.int .i64 0))], ⟨rfl, rfl, rfl, rfl, trivial⟩, 0, rfl, rfl, H⟩
  rintro n117 _ K118 _ hK119 ⟨i116, rfl, rfl, H⟩
  obtain ⟨m120, k121, rfl, hkk122, H⟩ := lps1 H
  unfold M_91z at H
  refine Cw_seq ?_
  refine Cw_region ?_
  refine Ow_q rfl rfl rfl (Qt_cmp rfl rfl rfl) ?_
  refine Ow_nil ?_
  refine Cw_seq ?_
  refine Cw_cond rfl ?_ ?_
  ·intro h124
   have h124 := dcd_t (h124)
   have H := ift h124 H
   refine Cw_skip ?_
   refine Cw_seq ?_
   refine Cw_block ?_
   refine Cw_seq ?_
   refine Cw_region ?_
   refine Ow_q rfl rfl rfl (Qt_move rfl) ?_
   refine Ow_q rfl rfl rfl (Qt_assign rfl) ?_
   refine Ow_nil ?_
   refine Cw_seq ?_
   refine Cw_region ?_
   refine Ow_q rfl rfl rfl (Qt_move rfl) ?_
   refine Ow_q rfl rfl rfl (Qt_move rfl) ?_
   refine Ow_q rfl rfl rfl (Qt_move rfl) ?_
   obtain ⟨x140, hx141, H⟩ := bnd H
   have hs142 := (hp0).mono hK119
   obtain ⟨r143, hq144, hr145⟩ := RowR.at hs142 hx141
   obtain ⟨v146, v147, rfl, hs148, hs149⟩ := hr145
   refine Ow_q rfl rfl rfl (Q_ixR (T := TyWaiter) (.tail _ (.tail _ (.head _))) hs142 hq144 (getI_ix hx141).1 rfl rfl rfl rfl rfl) ?_
   refine Ow_q rfl rfl rfl (Qt_loadA (m := 8) (cs := (Waiter.cells x140 v146 v147)) rfl rfl rfl rfl ⟨rfl, Rd_row (T := TyWaiter) (.tail _ (.tail _ (.head _))) hs142 hq144 rfl rfl⟩) ?_
   obtain ⟨x150, hx151, H⟩ := bnd H
   refine Ow.shift (Shift.pull (.there .here) (Shift.done ?_))
   refine Ow_cons rfl (OpW_call rfl Try.call69 rfl rfl (c_M_42z x140 v146 v147 bc1_0 c1_0 bc1_1 c1_1 x150 hx151 _ _ hs148 hs149) ?_)
   rintro _ K152 _ hK153 ⟨rfl, rfl⟩
   refine Ow_nil ?_
   refine Cw_cond rfl ?_ ?_
   ·intro h154
    have H := ift h154 H
    refine Cw_seq ?_
    refine Cw_region ?_
    refine Ow_q rfl rfl rfl (Qt_move rfl) ?_
    refine Ow_q rfl rfl rfl (Qt_assign rfl) ?_
    refine Ow_nil ?_
    refine Cw_ret ?_
    obtain ey0 := inj1 H
    subst y0
    refine ⟨(by first | exact .inl rfl | exact .inr rfl), [(.int .i64 i116)], ⟨(.int .i64 i116), _, rfl, rfl, rfl⟩, ?_⟩
    refine Shift.pull (.there (.there .here)) ?_
    refine Shift.pull (.there (.there .here)) ?_
    refine Shift.pull (.there (.there .here)) ?_
    refine Shift.done ?_
    exact ⟨rfl, rfl⟩
   ·intro h154
    have H := iff_ (btf h154) H
    refine Cw_skip ?_
    refine Cw_region ?_
    refine Ow_q rfl rfl rfl (Qt_arith (e := wI (i116 + 1)) rfl rfl rfl rfl) ?_
    refine Ow_q rfl rfl rfl (Qt_move rfl) ?_
    refine Ow_nil ?_
    refine Shift.pull (.there (.there .here)) ?_
    refine Shift.pull (.there .here) ?_
    refine Shift.pull (.there (.there .here)) ?_
    refine Shift.done ?_
    exact ⟨[(0, (sv vp0)), (1, (.func (.func 69) #[] #[(.pointer (some ((⟨bc1_0, 0, none⟩ : Addr).add 0))), (.pointer (some ((⟨bc1_1, 0, none⟩ : Addr).add 0)))])), (7, (.int .i64 (p0.length : Int))), (8, (.int .i64 (wI (i116 + 1))))], ⟨rfl, rfl, rfl, rfl, trivial⟩, _, Nat.lt_succ_self _, (wI (i116 + 1)), rfl, rfl, (hkk122 ▸ H)⟩
  ·intro h124
   have h124 := dcd_f (h124)
   have H := iff_ h124 H
   refine Cw_exit ?_
   refine Shift.pull (.there (.there .here)) ?_
   refine Shift.pull (.there (.there .here)) ?_
   refine Shift.pull (.there (.there .here)) ?_
   refine Shift.done ?_
   exact ⟨[], trivial, rfl, rfl, H⟩
 rintro _ K155 _ hK156 ⟨rfl, rfl, H⟩
 unfold M_142z at H
 refine Cw_seq ?_
 refine Cw_region ?_
 refine Ow_q rfl rfl rfl (Qt_assign rfl) ?_
 refine Ow_nil ?_
 refine Cw_ret ?_
 obtain ey0 := inj1 H
 subst y0
 refine ⟨(by first | exact .inl rfl | exact .inr rfl), [(.int .i64 (-1))], ⟨(.int .i64 (-1)), _, rfl, rfl, rfl⟩, ?_⟩
 refine Shift.pull (.there (.there .here)) ?_
 refine Shift.pull (.there .here) ?_
 refine Shift.pull (.there (.there .here)) ?_
 refine Shift.done ?_
 exact ⟨rfl, rfl⟩

set_option maxHeartbeats 1000000 in
theorem c_M_45z (p0 : List Int) (vp0 : SV) (y0 : List Int) (H : M_45z p0 = some y0) (K : Kp) (G : List Ent) (hp0 : Slr Ty.u64 K (sv vp0) p0) :
  Fc Try.prog 77 #[(sv vp0)] K (G) (fun v K' G' => ∃ (wy0 : SV) (rswy0 : List (List Value)), v = (sv wy0) ∧ K = K' ∧ (.row (sv wy0) 38 1 rswy0.flatten) :: G = G' ∧ RowR Ty.u64 K' rswy0 y0) := by
 refine Fc_body Try.func77 rfl Try.ntmps77 Try.results77 rfl ?_
 unfold M_45z at H
 refine Cw_seq ?_
 refine Cw_region ?_
 refine Ow_q rfl rfl rfl (Qt_assign rfl) ?_
 refine Ow_nil ?_
 refine Cw_seq ?_
 refine Cw_seq ?_
 refine Cw_region ?_
 refine Ow_q rfl rfl rfl (Qt_move rfl) ?_
 refine Ow_q rfl rfl rfl (Qt_eqNilS rfl rfl rfl) ?_
 refine Ow_nil ?_
 refine Cw_cond rfl ?_ ?_
 ·intro h15
  have hl16 := Slr.nil_of hp0 h15
  have H : some [] = some y0 := by rw [hl16] at H; simpa [app] using H
  refine Cw_seq ?_
  refine Cw_region ?_
  refine Ow_q rfl rfl rfl (Qt_assign rfl) ?_
  refine Ow_nil ?_
  refine Cw_ret ?_
  obtain ey0 := inj1 H
  subst y0
  refine ⟨(by first | exact .inl rfl | exact .inr rfl), [(sv nilS)], ⟨(sv nilS), _, rfl, rfl, rfl⟩, ?_⟩
  have hR17 : RowR Ty.u64 K [] [] := RowR.nil
  refine Shift.nilRow 38 1 ?_
  refine Shift.done ?_
  exact ⟨nilS, ([] : List (List Value)), rfl, rfl, rfl, hR17⟩
 ·intro h15
  refine Cw_skip ?_
  refine Cw_seq ?_
  refine Cw_region ?_
  have hR19 : RowR Ty.u64 K [] [] := RowR.nil
  refine Ow_cons rfl (O_lit0 (T := Ty.u64) rfl rfl rfl rfl rfl (fun v18 => ?_))
  refine Ow_q rfl rfl rfl (Qt_move rfl) ?_
  obtain ⟨x20, hx21, H⟩ := bnd H
  refine Ow_cons rfl (O_appRow (T := Ty.u64) (bytes := 8) rfl rfl rfl (.head _) hR19 (SrcT.sl hp0) hx21 rfl rfl rfl rfl rfl rfl rfl rfl (fun v22 rs23 hR24 => ⟨_, .here, ?_⟩))
  refine Ow_q rfl rfl rfl (Qt_assign rfl) ?_
  refine Ow_nil ?_
  refine Cw_ret ?_
  obtain ey0 := inj1 H
  subst y0
  refine ⟨(by first | exact .inl rfl | exact .inr rfl), [(sv v22)], ⟨(sv v22), _, rfl, rfl, rfl⟩, ?_⟩
  refine Shift.done ?_
  exact ⟨v22, rs23, rfl, rfl, rfl, hR24⟩



end Go.Hx
