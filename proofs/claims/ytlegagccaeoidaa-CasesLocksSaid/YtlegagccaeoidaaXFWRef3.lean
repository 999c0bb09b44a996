/- Printed by program. -/
import Derived.Test.YtlegagccaeoidaaXFM
import Derived.Test.YtlegagccaeoidaaXFWRef2
namespace Go.Hx
open Go Go.Proofs
set_option linter.unusedSimpArgs false
set_option linter.unusedVariables false
set_option maxRecDepth 10000
set_option maxHeartbeats 1000000 in
theorem c_M_ref3_named (p0 : Int) (y0 : Bool) (H : M_ref3_named p0 = some y0) (K : Kp) (G : List Ent)  :
    Fc Try.prog 49 #[(.int .i64 p0)] K (G) (fun v K' G' => v = (.bool y0) ∧ K = K' ∧ G = G') := by
  refine Fc_body Try.func49 rfl Try.ntmps49 Try.results49 rfl ?_
  unfold M_ref3_named at H
  refine Cw_seq ?_
  refine Cw_region ?_
  refine Ow_q rfl rfl rfl (Qt_assign rfl) ?_
  refine Ow_nil ?_
  refine Cw_seq ?_
  refine Cw_region ?_
  refine Ow_q rfl rfl rfl (Qt_move rfl) ?_
  refine Ow_q rfl rfl rfl (Qt_cmp rfl rfl rfl) ?_
  refine Ow_q rfl rfl rfl (Qt_move rfl) ?_
  refine Ow_caseG rfl rfl rfl ?_ ?_
  · intro h3
    have h3 := dcd_t (h3)
    have H := ift h3 H
    refine Ow_qw rfl rfl rfl rfl rfl rfl (Qt_move rfl) ?_
    refine Ow_qw rfl rfl rfl rfl rfl rfl (Qt_cmp rfl rfl rfl) ?_
    refine Ow_q rfl rfl rfl (Qt_pick_t rfl rfl) ?_
    refine Ow_q rfl rfl rfl (Qt_assign rfl) ?_
    refine Ow_nil ?_
    refine Cw_ret ?_
    obtain ey0 := inj1 H
    subst y0
    refine ⟨(by first | exact .inl rfl | exact .inr rfl), [(.bool (dcd (p0 < 8)))], ⟨(.bool (dcd (p0 < 8))), _, rfl, rfl, rfl⟩, ?_⟩
    refine Shift.done ?_
    exact ⟨rfl, rfl, rfl⟩
  · intro h3
    have h3 := dcd_f (h3)
    have H := iff_ h3 H
    refine Ow_pass rfl rfl rfl rfl rfl rfl rfl ?_
    refine Ow_pass rfl rfl rfl rfl rfl rfl rfl ?_
    refine Ow_q rfl rfl rfl (Qt_pick_f rfl rfl) ?_
    refine Ow_q rfl rfl rfl (Qt_assign rfl) ?_
    refine Ow_nil ?_
    refine Cw_ret ?_
    obtain ey0 := inj1 H
    subst y0
    refine ⟨(by first | exact .inl rfl | exact .inr rfl), [(.bool false)], ⟨(.bool false), _, rfl, rfl, rfl⟩, ?_⟩
    refine Shift.done ?_
    exact ⟨rfl, rfl, rfl⟩

set_option maxHeartbeats 1000000 in
theorem c_M_ref3_ranges (p0 : Op) (vp0_cases : SV) (vp0_draws : SV) (y0 : Bool) (H : M_ref3_ranges p0 = some y0) (K : Kp) (G : List Ent) (hp0_cases : Slr TyCase K (sv vp0_cases) p0.cases) (hp0_draws : Slr Ty.i64 K (sv vp0_draws) p0.draws) :
    Fc Try.prog 38 #[(.agg (Op.cells p0 vp0_cases vp0_draws).toArray)] K (G) (fun v K' G' => v = (.bool y0) ∧ G = G') := by
  refine Fc_body Try.func38 rfl Try.ntmps38 Try.results38 rfl ?_
  unfold M_ref3_ranges at H
  refine Cw_seq ?_
  refine Cw_region ?_
  refine Ow_cons rfl (OpW_box (cs := (Op.cells p0 vp0_cases vp0_draws)) rfl rfl rfl (fun b41 => ?_))
  refine Ow_q rfl rfl rfl (Qt_assign rfl) ?_
  refine Ow_nil ?_
  refine Cw_seq ?_
  refine Cw_join (fun env' K' G' => ∃ (t57 : Bool) (i58 : Int) (i59 : Int) (i60 : Int) (i61 : Int) (i62 : Int), [(1, (.pointer (some ((⟨b41, 0, none⟩ : Addr).add 0)))), (17, (.bool t57))] = env' ∧ K = K' ∧ (.blk b41 26 (Op.cells (Op.mk i58 i59 i60 i61 i62 p0.cases p0.draws) vp0_cases vp0_draws)) :: G = G' ∧ M_ref3_ranges_J1 p0 t57 i58 i59 i60 i61 i62 = some y0) ?_ ?_
  · skip
    refine Cw_region ?_
    refine Ow_q rfl rfl rfl (Qt_fieldAddr (m := 2) rfl rfl rfl rfl rfl) ?_
    refine Ow_q rfl rfl rfl (Qt_load1 (v := (.int .i64 p0.channel)) rfl rfl rfl (Rdc.blk (.head _) rfl)) ?_
    obtain ⟨x63, hx64, H⟩ := bnd H
    refine Ow_cons rfl (OpW_call rfl Try.call49 rfl rfl (c_M_ref3_named p0.channel x63 hx64 _ _ ) ?_)
    rintro _ _ _ - ⟨rfl, rfl, rfl⟩
    refine Ow_q rfl rfl rfl (Qt_not rfl) ?_
    refine Ow_q rfl rfl rfl (Qt_move rfl) ?_
    refine Ow_caseG rfl rfl rfl ?_ ?_
    · intro h65
      have h65 := nt_t (h65)
      have H := iff_ (btf h65) H
      refine Ow_pass rfl rfl rfl rfl rfl rfl rfl ?_
      refine Ow_pass rfl rfl rfl rfl rfl rfl rfl ?_
      refine Ow_pass rfl rfl rfl rfl rfl rfl rfl ?_
      refine Ow_q rfl rfl rfl (Qt_pick_t rfl rfl) ?_
      refine Ow_q rfl rfl rfl (Qt_move rfl) ?_
      refine Ow_pass rfl rfl rfl rfl rfl rfl rfl ?_
      refine Ow_pass rfl rfl rfl rfl rfl rfl rfl ?_
      refine Ow_pass rfl rfl rfl rfl rfl rfl rfl ?_
      refine Ow_q rfl rfl rfl (Qt_pick_t rfl rfl) ?_
      refine Ow_nil ?_
      refine Shift.done ?_
      exact ⟨[(1, (.pointer (some ((⟨b41, 0, none⟩ : Addr).add 0)))), (17, (.bool true))], ⟨rfl, rfl, trivial⟩, true, p0.kind, p0.mode, p0.channel, p0.value, p0.deadline, rfl, rfl, rfl, H⟩
    · intro h65
      have h65 := nt_f (h65)
      have H := ift h65 H
      refine Ow_qw rfl rfl rfl rfl rfl rfl (Qt_fieldAddr (m := 4) rfl rfl rfl rfl rfl) ?_
      refine Ow_qw rfl rfl rfl rfl rfl rfl (Qt_load1 (v := (.int .i64 p0.deadline)) rfl rfl rfl (Rdc.blk (.head _) rfl)) ?_
      refine Ow_qw rfl rfl rfl rfl rfl rfl (Qt_cmp rfl rfl rfl) ?_
      refine Ow_q rfl rfl rfl (Qt_pick_f rfl rfl) ?_
      refine Ow_q rfl rfl rfl (Qt_move rfl) ?_
      refine Ow_caseG rfl rfl rfl ?_ ?_
      · intro h66
        have h66 := dcd_t (h66)
        have H := ift h66 H
        refine Ow_pass rfl rfl rfl rfl rfl rfl rfl ?_
        refine Ow_pass rfl rfl rfl rfl rfl rfl rfl ?_
        refine Ow_pass rfl rfl rfl rfl rfl rfl rfl ?_
        refine Ow_q rfl rfl rfl (Qt_pick_t rfl rfl) ?_
        refine Ow_nil ?_
        refine Shift.done ?_
        exact ⟨[(1, (.pointer (some ((⟨b41, 0, none⟩ : Addr).add 0)))), (17, (.bool true))], ⟨rfl, rfl, trivial⟩, true, p0.kind, p0.mode, p0.channel, p0.value, p0.deadline, rfl, rfl, rfl, H⟩
      · intro h66
        have h66 := dcd_f (h66)
        have H := iff_ h66 H
        refine Ow_qw rfl rfl rfl rfl rfl rfl (Qt_fieldAddr (m := 4) rfl rfl rfl rfl rfl) ?_
        refine Ow_qw rfl rfl rfl rfl rfl rfl (Qt_load1 (v := (.int .i64 p0.deadline)) rfl rfl rfl (Rdc.blk (.head _) rfl)) ?_
        refine Ow_qw rfl rfl rfl rfl rfl rfl (Qt_cmp rfl rfl rfl) ?_
        refine Ow_q rfl rfl rfl (Qt_pick_f rfl rfl) ?_
        refine Ow_nil ?_
        refine Shift.done ?_
        exact ⟨[(1, (.pointer (some ((⟨b41, 0, none⟩ : Addr).add 0)))), (17, (.bool (dcd (p0.deadline > 1099511627776))))], ⟨rfl, rfl, trivial⟩, (dcd (p0.deadline > 1099511627776)), p0.kind, p0.mode, p0.channel, p0.value, p0.deadline, rfl, rfl, rfl, H⟩
  rintro _ _ _ - ⟨t57, i58, i59, i60, i61, i62, rfl, rfl, rfl, H⟩
  unfold M_ref3_ranges_J1 at H
  refine Cw_cond rfl ?_ ?_
  · intro h67
    have H := ift h67 H
    refine Cw_seq ?_
    refine Cw_region ?_
    refine Ow_q rfl rfl rfl (Qt_assign rfl) ?_
    refine Ow_nil ?_
    refine Cw_ret ?_
    obtain ey0 := inj1 H
    subst y0
    refine ⟨(by first | exact .inl rfl | exact .inr rfl), [(.bool false)], ⟨(.bool false), _, rfl, rfl, rfl⟩, ?_⟩
    refine Shift.rem .here ?_
    refine Shift.done ?_
    exact ⟨rfl, rfl⟩
  · intro h67
    have H := iff_ (btf h67) H
    refine Cw_skip ?_
    refine Cw_join (fun env' K' G' => [] = env' ∧ G = G' ∧ M_ref3_ranges_J2 = some y0) ?_ ?_
    · skip
      refine Cw_seq ?_
      refine Cw_region ?_
      refine Ow_q rfl rfl rfl (Qt_assign rfl) ?_
      refine Ow_nil ?_
      refine Cw_block ?_
      refine Cw_loopM (fun n120 env' K' G' => ∃ (i119 : Int), [(1, (.pointer (some ((⟨b41, 0, none⟩ : Addr).add 0)))), (3, (.int .i64 i119))] = env' ∧ K = K' ∧ (.blk b41 26 (Op.cells (Op.mk i58 i59 i60 i61 i62 p0.cases p0.draws) vp0_cases vp0_draws)) :: G = G' ∧ lp1 (M_ref3_ranges_L1 i58 i59 i60 i61 i62 p0) n120 i119 = some y0) BIG ?_ ?_
      · skip
        refine Shift.done ?_
        exact ⟨[(1, (.pointer (some ((⟨b41, 0, none⟩ : Addr).add 0)))), (3, (.int .i64 0))], ⟨rfl, rfl, trivial⟩, 0, rfl, rfl, rfl, H⟩
      rintro n120 _ _ _ - ⟨i119, rfl, rfl, rfl, H⟩
      obtain ⟨m121, k122, rfl, hkk123, H⟩ := lps1 H
      unfold M_ref3_ranges_L1 at H
      refine Cw_seq ?_
      refine Cw_seq ?_
      refine Cw_region ?_
      refine Ow_q rfl rfl rfl (Qt_move rfl) ?_
      refine Ow_q rfl rfl rfl (Qt_fieldAddr (m := 5) rfl rfl rfl rfl rfl) ?_
      refine Ow_q rfl rfl rfl (Qt_load1 (v := (sv vp0_cases)) rfl rfl rfl (Rdc.blk (.head _) rfl)) ?_
      refine Ow_q rfl rfl rfl (Q_len (T := TyCase) hp0_cases rfl rfl) ?_
      refine Ow_q rfl rfl rfl (Qt_cmp rfl rfl rfl) ?_
      refine Ow_nil ?_
      refine Cw_cond rfl ?_ ?_
      · intro h125
        have h125 := dcd_t (h125)
        have H := ift h125 H
        refine Cw_skip ?_
        refine Cw_seq ?_
        refine Cw_block ?_
        refine Cw_seq ?_
        refine Cw_region ?_
        refine Ow_q rfl rfl rfl (Qt_fieldAddr (m := 5) rfl rfl rfl rfl rfl) ?_
        refine Ow_q rfl rfl rfl (Qt_load1 (v := (sv vp0_cases)) rfl rfl rfl (Rdc.blk (.head _) rfl)) ?_
        refine Ow_q rfl rfl rfl (Qt_move rfl) ?_
        obtain ⟨x134, hx135, H⟩ := bnd H
        obtain ⟨r136, hr137, hk138⟩ := Slr.at hp0_cases hx135
        obtain rfl := hr137
        refine Ow_q rfl rfl rfl (Q_ix (T := TyCase) hp0_cases hx135 rfl rfl rfl rfl rfl) ?_
        refine Ow_q rfl rfl rfl (Qt_fieldAddr (m := 1) rfl rfl rfl rfl rfl) ?_
        refine Ow_q rfl rfl rfl (Qt_load1 (v := (.int .i64 x134.channel)) rfl rfl rfl (Rdc.k hk138 rfl)) ?_
        obtain ⟨x139, hx140, H⟩ := bnd H
        refine Ow_cons rfl (OpW_call rfl Try.call49 rfl rfl (c_M_ref3_named x134.channel x139 hx140 _ _ ) ?_)
        rintro _ _ _ - ⟨rfl, rfl, rfl⟩
        refine Ow_q rfl rfl rfl (Qt_not rfl) ?_
        refine Ow_nil ?_
        refine Cw_cond rfl ?_ ?_
        · intro h141
          have h141 := nt_t (h141)
          have H := iff_ (btf h141) H
          refine Cw_seq ?_
          refine Cw_region ?_
          refine Ow_q rfl rfl rfl (Qt_assign rfl) ?_
          refine Ow_nil ?_
          refine Cw_ret ?_
          obtain ey0 := inj1 H
          subst y0
          refine ⟨(by first | exact .inl rfl | exact .inr rfl), [(.bool false)], ⟨(.bool false), _, rfl, rfl, rfl⟩, ?_⟩
          refine Shift.rem .here ?_
          refine Shift.done ?_
          exact ⟨rfl, rfl⟩
        · intro h141
          have h141 := nt_f (h141)
          have H := ift h141 H
          refine Cw_skip ?_
          refine Cw_region ?_
          refine Ow_q rfl rfl rfl (Qt_move rfl) ?_
          refine Ow_q rfl rfl rfl (Qt_arith (e := wI (i119 + 1)) rfl rfl rfl rfl) ?_
          refine Ow_q rfl rfl rfl (Qt_assign rfl) ?_
          refine Ow_nil ?_
          refine Shift.done ?_
          exact ⟨[(1, (.pointer (some ((⟨b41, 0, none⟩ : Addr).add 0)))), (3, (.int .i64 (wI (i119 + 1))))], ⟨rfl, rfl, trivial⟩, _, Nat.lt_succ_self _, (wI (i119 + 1)), rfl, rfl, rfl, (hkk123 ▸ H)⟩
      · intro h125
        have h125 := dcd_f (h125)
        have H := iff_ h125 H
        refine Cw_exit ?_
        refine Shift.rem .here ?_
        refine Shift.done ?_
        exact ⟨[], trivial, rfl, rfl, H⟩
    rintro _ K142 _ hK143 ⟨rfl, rfl, H⟩
    unfold M_ref3_ranges_J2 at H
    refine Cw_seq ?_
    refine Cw_region ?_
    refine Ow_q rfl rfl rfl (Qt_assign rfl) ?_
    refine Ow_nil ?_
    refine Cw_ret ?_
    obtain ey0 := inj1 H
    subst y0
    refine ⟨(by first | exact .inl rfl | exact .inr rfl), [(.bool true)], ⟨(.bool true), _, rfl, rfl, rfl⟩, ?_⟩
    refine Shift.done ?_
    exact ⟨rfl, rfl⟩

set_option maxHeartbeats 1000000 in
theorem c_M_ref3_shape (p0 : Op) (vp0_cases : SV) (vp0_draws : SV) (y0 : Bool) (H : M_ref3_shape p0 = some y0) (K : Kp) (G : List Ent) (hp0_cases : Slr TyCase K (sv vp0_cases) p0.cases) (hp0_draws : Slr Ty.i64 K (sv vp0_draws) p0.draws) :
    Fc Try.prog 39 #[(.agg (Op.cells p0 vp0_cases vp0_draws).toArray)] K (G) (fun v K' G' => v = (.bool y0) ∧ G = G') := by
  refine Fc_body Try.func39 rfl Try.ntmps39 Try.results39 rfl ?_
  unfold M_ref3_shape at H
  refine Cw_seq ?_
  refine Cw_region ?_
  refine Ow_cons rfl (OpW_box (cs := (Op.cells p0 vp0_cases vp0_draws)) rfl rfl rfl (fun b89 => ?_))
  refine Ow_q rfl rfl rfl (Qt_assign rfl) ?_
  refine Ow_nil ?_
  refine Cw_join (fun env' K' G' => ∃ (t92 : Bool), [(1, (.pointer (some ((⟨b89, 0, none⟩ : Addr).add 0)))), (3, (.bool t92))] = env' ∧ K = K' ∧ (.blk b89 26 (Op.cells p0 vp0_cases vp0_draws)) :: G = G' ∧ M_ref3_shape_J1 p0 t92 = some y0) ?_ ?_
  · skip
    refine Cw_region ?_
    refine Ow_q rfl rfl rfl (Qt_fieldAddr (m := 0) rfl rfl rfl rfl rfl) ?_
    refine Ow_q rfl rfl rfl (Qt_load1 (v := (.int .i64 p0.kind)) rfl rfl rfl (Rdc.blk (.head _) rfl)) ?_
    refine Ow_q rfl rfl rfl (Qt_cmp rfl rfl rfl) ?_
    refine Ow_q rfl rfl rfl (Qt_move rfl) ?_
    refine Ow_caseG rfl rfl rfl ?_ ?_
    · intro h93
      have h93 := dcd_t (h93)
      have H := ift h93 H
      refine Ow_pass rfl rfl rfl rfl rfl rfl rfl ?_
      refine Ow_pass rfl rfl rfl rfl rfl rfl rfl ?_
      refine Ow_pass rfl rfl rfl rfl rfl rfl rfl ?_
      refine Ow_q rfl rfl rfl (Qt_pick_t rfl rfl) ?_
      refine Ow_q rfl rfl rfl (Qt_move rfl) ?_
      refine Ow_pass rfl rfl rfl rfl rfl rfl rfl ?_
      refine Ow_pass rfl rfl rfl rfl rfl rfl rfl ?_
      refine Ow_pass rfl rfl rfl rfl rfl rfl rfl ?_
      refine Ow_q rfl rfl rfl (Qt_pick_t rfl rfl) ?_
      refine Ow_q rfl rfl rfl (Qt_assign rfl) ?_
      refine Ow_nil ?_
      refine Shift.done ?_
      exact ⟨[(1, (.pointer (some ((⟨b89, 0, none⟩ : Addr).add 0)))), (3, (.bool true))], ⟨rfl, rfl, trivial⟩, true, rfl, rfl, rfl, H⟩
    · intro h93
      have h93 := dcd_f (h93)
      have H := iff_ h93 H
      refine Ow_qw rfl rfl rfl rfl rfl rfl (Qt_fieldAddr (m := 0) rfl rfl rfl rfl rfl) ?_
      refine Ow_qw rfl rfl rfl rfl rfl rfl (Qt_load1 (v := (.int .i64 p0.kind)) rfl rfl rfl (Rdc.blk (.head _) rfl)) ?_
      refine Ow_qw rfl rfl rfl rfl rfl rfl (Qt_cmp rfl rfl rfl) ?_
      refine Ow_q rfl rfl rfl (Qt_pick_f rfl rfl) ?_
      refine Ow_q rfl rfl rfl (Qt_move rfl) ?_
      refine Ow_caseG rfl rfl rfl ?_ ?_
      · intro h94
        have h94 := dcd_t (h94)
        have H := ift h94 H
        refine Ow_pass rfl rfl rfl rfl rfl rfl rfl ?_
        refine Ow_pass rfl rfl rfl rfl rfl rfl rfl ?_
        refine Ow_pass rfl rfl rfl rfl rfl rfl rfl ?_
        refine Ow_q rfl rfl rfl (Qt_pick_t rfl rfl) ?_
        refine Ow_q rfl rfl rfl (Qt_assign rfl) ?_
        refine Ow_nil ?_
        refine Shift.done ?_
        exact ⟨[(1, (.pointer (some ((⟨b89, 0, none⟩ : Addr).add 0)))), (3, (.bool true))], ⟨rfl, rfl, trivial⟩, true, rfl, rfl, rfl, H⟩
      · intro h94
        have h94 := dcd_f (h94)
        have H := iff_ h94 H
        refine Ow_qw rfl rfl rfl rfl rfl rfl (Qt_fieldAddr (m := 0) rfl rfl rfl rfl rfl) ?_
        refine Ow_qw rfl rfl rfl rfl rfl rfl (Qt_load1 (v := (.int .i64 p0.kind)) rfl rfl rfl (Rdc.blk (.head _) rfl)) ?_
        refine Ow_qw rfl rfl rfl rfl rfl rfl (Qt_cmp rfl rfl rfl) ?_
        refine Ow_q rfl rfl rfl (Qt_pick_f rfl rfl) ?_
        refine Ow_q rfl rfl rfl (Qt_assign rfl) ?_
        refine Ow_nil ?_
        refine Shift.done ?_
        exact ⟨[(1, (.pointer (some ((⟨b89, 0, none⟩ : Addr).add 0)))), (3, (.bool (dcd (p0.kind = 6))))], ⟨rfl, rfl, trivial⟩, (dcd (p0.kind = 6)), rfl, rfl, rfl, H⟩
  rintro _ _ _ - ⟨t92, rfl, rfl, rfl, H⟩
  unfold M_ref3_shape_J1 at H
  refine Cw_seq ?_
  refine Cw_join (fun env' K' G' => ∃ (t105 : Bool), [(1, (.pointer (some ((⟨b89, 0, none⟩ : Addr).add 0)))), (33, (.bool t105))] = env' ∧ K = K' ∧ (.blk b89 26 (Op.cells p0 vp0_cases vp0_draws)) :: G = G' ∧ M_ref3_shape_J2 p0 t105 = some y0) ?_ ?_
  · skip
    refine Cw_region ?_
    refine Ow_q rfl rfl rfl (Qt_move rfl) ?_
    refine Ow_q rfl rfl rfl (Qt_move rfl) ?_
    refine Ow_caseG rfl rfl rfl ?_ ?_
    · intro h106
      have H := ift h106 H
      refine Ow_qw rfl rfl rfl rfl rfl rfl (Qt_fieldAddr (m := 1) rfl rfl rfl rfl rfl) ?_
      refine Ow_qw rfl rfl rfl rfl rfl rfl (Qt_load1 (v := (.int .i64 p0.mode)) rfl rfl rfl (Rdc.blk (.head _) rfl)) ?_
      refine Ow_qw rfl rfl rfl rfl rfl rfl (Qt_cmp rfl rfl rfl) ?_
      refine Ow_q rfl rfl rfl (Qt_pick_t rfl rfl) ?_
      refine Ow_q rfl rfl rfl (Qt_move rfl) ?_
      refine Ow_caseG rfl rfl rfl ?_ ?_
      · intro h107
        have h107 := dcd_f (nt_t (h107))
        have H := iff_ h107 H
        refine Ow_pass rfl rfl rfl rfl rfl rfl rfl ?_
        refine Ow_pass rfl rfl rfl rfl rfl rfl rfl ?_
        refine Ow_pass rfl rfl rfl rfl rfl rfl rfl ?_
        refine Ow_pass rfl rfl rfl rfl rfl rfl rfl ?_
        refine Ow_passU rfl rfl rfl rfl rfl ?_
        refine Ow_passU rfl rfl rfl rfl rfl ?_
        refine Ow_passU rfl rfl rfl rfl rfl ?_
        refine Ow_pass rfl rfl rfl rfl rfl rfl rfl ?_
        refine Ow_q rfl rfl rfl (Qt_pick_t rfl rfl) ?_
        refine Ow_nil ?_
        refine Shift.done ?_
        exact ⟨[(1, (.pointer (some ((⟨b89, 0, none⟩ : Addr).add 0)))), (33, (.bool true))], ⟨rfl, rfl, trivial⟩, true, rfl, rfl, rfl, H⟩
      · intro h107
        have h107 := dcd_t (nt_f (h107))
        have H := ift h107 H
        refine Ow_qw rfl rfl rfl rfl rfl rfl (Qt_fieldAddr (m := 4) rfl rfl rfl rfl rfl) ?_
        refine Ow_qw rfl rfl rfl rfl rfl rfl (Qt_load1 (v := (.int .i64 p0.deadline)) rfl rfl rfl (Rdc.blk (.head _) rfl)) ?_
        refine Ow_qw rfl rfl rfl rfl rfl rfl (Qt_cmp rfl rfl rfl) ?_
        refine Ow_qw rfl rfl rfl rfl rfl rfl (Qt_move rfl) ?_
        refine Ow_caseG rfl rfl rfl ?_ ?_
        · intro h108
          have h108 := dcd_f (nt_t (h108))
          have H := iff_ h108 H
          refine Ow_qw rfl rfl rfl rfl rfl rfl (Qt_fieldAddr (m := 1) rfl rfl rfl rfl rfl) ?_
          refine Ow_qw rfl rfl rfl rfl rfl rfl (Qt_load1 (v := (.int .i64 p0.mode)) rfl rfl rfl (Rdc.blk (.head _) rfl)) ?_
          refine Ow_qw rfl rfl rfl rfl rfl rfl (Qt_cmp rfl rfl rfl) ?_
          refine Ow_qw rfl rfl rfl rfl rfl rfl (Qt_pick_t rfl rfl) ?_
          refine Ow_q rfl rfl rfl (Qt_pick_f rfl rfl) ?_
          refine Ow_nil ?_
          refine Shift.done ?_
          exact ⟨[(1, (.pointer (some ((⟨b89, 0, none⟩ : Addr).add 0)))), (33, (.bool (!(dcd (p0.mode = 2)))))], ⟨rfl, rfl, trivial⟩, (!(dcd (p0.mode = 2))), rfl, rfl, rfl, H⟩
        · intro h108
          have h108 := dcd_t (nt_f (h108))
          have H := ift h108 H
          refine Ow_pass rfl rfl rfl rfl rfl rfl rfl ?_
          refine Ow_pass rfl rfl rfl rfl rfl rfl rfl ?_
          refine Ow_pass rfl rfl rfl rfl rfl rfl rfl ?_
          refine Ow_qw rfl rfl rfl rfl rfl rfl (Qt_pick_f rfl rfl) ?_
          refine Ow_q rfl rfl rfl (Qt_pick_f rfl rfl) ?_
          refine Ow_nil ?_
          refine Shift.done ?_
          exact ⟨[(1, (.pointer (some ((⟨b89, 0, none⟩ : Addr).add 0)))), (33, (.bool false))], ⟨rfl, rfl, trivial⟩, false, rfl, rfl, rfl, H⟩
    · intro h106
      have H := iff_ (btf h106) H
      refine Ow_pass rfl rfl rfl rfl rfl rfl rfl ?_
      refine Ow_pass rfl rfl rfl rfl rfl rfl rfl ?_
      refine Ow_pass rfl rfl rfl rfl rfl rfl rfl ?_
      refine Ow_q rfl rfl rfl (Qt_pick_f rfl rfl) ?_
      refine Ow_q rfl rfl rfl (Qt_move rfl) ?_
      refine Ow_qw rfl rfl rfl rfl rfl rfl (Qt_fieldAddr (m := 4) rfl rfl rfl rfl rfl) ?_
      refine Ow_qw rfl rfl rfl rfl rfl rfl (Qt_load1 (v := (.int .i64 p0.deadline)) rfl rfl rfl (Rdc.blk (.head _) rfl)) ?_
      refine Ow_qw rfl rfl rfl rfl rfl rfl (Qt_cmp rfl rfl rfl) ?_
      refine Ow_qw rfl rfl rfl rfl rfl rfl (Qt_move rfl) ?_
      refine Ow_caseG rfl rfl rfl ?_ ?_
      · intro h109
        have h109 := dcd_f (nt_t (h109))
        have H := iff_ h109 H
        refine Ow_qw rfl rfl rfl rfl rfl rfl (Qt_fieldAddr (m := 1) rfl rfl rfl rfl rfl) ?_
        refine Ow_qw rfl rfl rfl rfl rfl rfl (Qt_load1 (v := (.int .i64 p0.mode)) rfl rfl rfl (Rdc.blk (.head _) rfl)) ?_
        refine Ow_qw rfl rfl rfl rfl rfl rfl (Qt_cmp rfl rfl rfl) ?_
        refine Ow_qw rfl rfl rfl rfl rfl rfl (Qt_pick_t rfl rfl) ?_
        refine Ow_q rfl rfl rfl (Qt_pick_f rfl rfl) ?_
        refine Ow_nil ?_
        refine Shift.done ?_
        exact ⟨[(1, (.pointer (some ((⟨b89, 0, none⟩ : Addr).add 0)))), (33, (.bool (!(dcd (p0.mode = 2)))))], ⟨rfl, rfl, trivial⟩, (!(dcd (p0.mode = 2))), rfl, rfl, rfl, H⟩
      · intro h109
        have h109 := dcd_t (nt_f (h109))
        have H := ift h109 H
        refine Ow_pass rfl rfl rfl rfl rfl rfl rfl ?_
        refine Ow_pass rfl rfl rfl rfl rfl rfl rfl ?_
        refine Ow_pass rfl rfl rfl rfl rfl rfl rfl ?_
        refine Ow_qw rfl rfl rfl rfl rfl rfl (Qt_pick_f rfl rfl) ?_
        refine Ow_q rfl rfl rfl (Qt_pick_f rfl rfl) ?_
        refine Ow_nil ?_
        refine Shift.done ?_
        exact ⟨[(1, (.pointer (some ((⟨b89, 0, none⟩ : Addr).add 0)))), (33, (.bool false))], ⟨rfl, rfl, trivial⟩, false, rfl, rfl, rfl, H⟩
  rintro _ _ _ - ⟨t105, rfl, rfl, rfl, H⟩
  unfold M_ref3_shape_J2 at H
  refine Cw_cond rfl ?_ ?_
  · intro h110
    have H := ift h110 H
    refine Cw_seq ?_
    refine Cw_region ?_
    refine Ow_q rfl rfl rfl (Qt_assign rfl) ?_
    refine Ow_nil ?_
    refine Cw_ret ?_
    obtain ey0 := inj1 H
    subst y0
    refine ⟨(by first | exact .inl rfl | exact .inr rfl), [(.bool false)], ⟨(.bool false), _, rfl, rfl, rfl⟩, ?_⟩
    refine Shift.rem .here ?_
    refine Shift.done ?_
    exact ⟨rfl, rfl⟩
  · intro h110
    have H := iff_ (btf h110) H
    refine Cw_skip ?_
    refine Cw_seq ?_
    refine Cw_seq ?_
    refine Cw_region ?_
    refine Ow_q rfl rfl rfl (Qt_fieldAddr (m := 0) rfl rfl rfl rfl rfl) ?_
    refine Ow_q rfl rfl rfl (Qt_load1 (v := (.int .i64 p0.kind)) rfl rfl rfl (Rdc.blk (.head _) rfl)) ?_
    refine Ow_q rfl rfl rfl (Qt_cmp rfl rfl rfl) ?_
    refine Ow_nil ?_
    refine Cw_cond rfl ?_ ?_
    · intro h116
      have h116 := dcd_f (nt_t (h116))
      have H := iff_ h116 H
      refine Cw_join (fun env' K' G' => ∃ (t120 : Bool), [(2, (.bool t120))] = env' ∧ K = K' ∧ G = G' ∧ M_ref3_shape_J3 t120 = some y0) ?_ ?_
      · skip
        refine Cw_region ?_
        refine Ow_q rfl rfl rfl (Qt_fieldAddr (m := 5) rfl rfl rfl rfl rfl) ?_
        refine Ow_q rfl rfl rfl (Qt_load1 (v := (sv vp0_cases)) rfl rfl rfl (Rdc.blk (.head _) rfl)) ?_
        refine Ow_q rfl rfl rfl (Q_len (T := TyCase) hp0_cases rfl rfl) ?_
        refine Ow_q rfl rfl rfl (Qt_cmp rfl rfl rfl) ?_
        refine Ow_q rfl rfl rfl (Qt_move rfl) ?_
        refine Ow_caseG rfl rfl rfl ?_ ?_
        · intro h121
          have h121 := dcd_t (h121)
          have H := ift h121 H
          refine Ow_qw rfl rfl rfl rfl rfl rfl (Qt_fieldAddr (m := 6) rfl rfl rfl rfl rfl) ?_
          refine Ow_qw rfl rfl rfl rfl rfl rfl (Qt_load1 (v := (sv vp0_draws)) rfl rfl rfl (Rdc.blk (.head _) rfl)) ?_
          refine Ow_qw rfl rfl rfl rfl rfl rfl (Q_len (T := Ty.i64) hp0_draws rfl rfl) ?_
          refine Ow_qw rfl rfl rfl rfl rfl rfl (Qt_cmp rfl rfl rfl) ?_
          refine Ow_q rfl rfl rfl (Qt_pick_t rfl rfl) ?_
          refine Ow_q rfl rfl rfl (Qt_move rfl) ?_
          refine Ow_caseG rfl rfl rfl ?_ ?_
          · intro h122
            have h122 := dcd_t (h122)
            have H := ift h122 H
            refine Ow_qw rfl rfl rfl rfl rfl rfl (Qt_fieldAddr (m := 0) rfl rfl rfl rfl rfl) ?_
            refine Ow_qw rfl rfl rfl rfl rfl rfl (Qt_load1 (v := (.int .i64 p0.kind)) rfl rfl rfl (Rdc.blk (.head _) rfl)) ?_
            refine Ow_qw rfl rfl rfl rfl rfl rfl (Qt_cmp rfl rfl rfl) ?_
            refine Ow_qw rfl rfl rfl rfl rfl rfl (Qt_move rfl) ?_
            refine Ow_caseG rfl rfl rfl ?_ ?_
            · intro h123
              have h123 := dcd_t (h123)
              have H := ift h123 H
              refine Ow_pass rfl rfl rfl rfl rfl rfl rfl ?_
              refine Ow_pass rfl rfl rfl rfl rfl rfl rfl ?_
              refine Ow_pass rfl rfl rfl rfl rfl rfl rfl ?_
              refine Ow_qw rfl rfl rfl rfl rfl rfl (Qt_pick_t rfl rfl) ?_
              refine Ow_q rfl rfl rfl (Qt_pick_t rfl rfl) ?_
              refine Ow_q rfl rfl rfl (Qt_assign rfl) ?_
              refine Ow_nil ?_
              refine Shift.rem .here ?_
              refine Shift.done ?_
              exact ⟨[(2, (.bool true))], ⟨rfl, trivial⟩, true, rfl, rfl, rfl, H⟩
            · intro h123
              have h123 := dcd_f (h123)
              have H := iff_ h123 H
              refine Ow_qw rfl rfl rfl rfl rfl rfl (Qt_fieldAddr (m := 3) rfl rfl rfl rfl rfl) ?_
              refine Ow_qw rfl rfl rfl rfl rfl rfl (Qt_load1 (v := (.int .u64 p0.value)) rfl rfl rfl (Rdc.blk (.head _) rfl)) ?_
              refine Ow_qw rfl rfl rfl rfl rfl rfl (Qt_cmp rfl rfl rfl) ?_
              refine Ow_qw rfl rfl rfl rfl rfl rfl (Qt_pick_f rfl rfl) ?_
              refine Ow_q rfl rfl rfl (Qt_pick_t rfl rfl) ?_
              refine Ow_q rfl rfl rfl (Qt_assign rfl) ?_
              refine Ow_nil ?_
              refine Shift.rem .here ?_
              refine Shift.done ?_
              exact ⟨[(2, (.bool (dcd (p0.value = 0))))], ⟨rfl, trivial⟩, (dcd (p0.value = 0)), rfl, rfl, rfl, H⟩
          · intro h122
            have h122 := dcd_f (h122)
            have H := iff_ h122 H
            refine Ow_pass rfl rfl rfl rfl rfl rfl rfl ?_
            refine Ow_pass rfl rfl rfl rfl rfl rfl rfl ?_
            refine Ow_pass rfl rfl rfl rfl rfl rfl rfl ?_
            refine Ow_pass rfl rfl rfl rfl rfl rfl rfl ?_
            refine Ow_passU rfl rfl rfl rfl rfl ?_
            refine Ow_passU rfl rfl rfl rfl rfl ?_
            refine Ow_passU rfl rfl rfl rfl rfl ?_
            refine Ow_pass rfl rfl rfl rfl rfl rfl rfl ?_
            refine Ow_q rfl rfl rfl (Qt_pick_f rfl rfl) ?_
            refine Ow_q rfl rfl rfl (Qt_assign rfl) ?_
            refine Ow_nil ?_
            refine Shift.rem .here ?_
            refine Shift.done ?_
            exact ⟨[(2, (.bool false))], ⟨rfl, trivial⟩, false, rfl, rfl, rfl, H⟩
        · intro h121
          have h121 := dcd_f (h121)
          have H := iff_ h121 H
          refine Ow_pass rfl rfl rfl rfl rfl rfl rfl ?_
          refine Ow_pass rfl rfl rfl rfl rfl rfl rfl ?_
          refine Ow_pass rfl rfl rfl rfl rfl rfl rfl ?_
          refine Ow_pass rfl rfl rfl rfl rfl rfl rfl ?_
          refine Ow_q rfl rfl rfl (Qt_pick_f rfl rfl) ?_
          refine Ow_q rfl rfl rfl (Qt_move rfl) ?_
          refine Ow_pass rfl rfl rfl rfl rfl rfl rfl ?_
          refine Ow_pass rfl rfl rfl rfl rfl rfl rfl ?_
          refine Ow_pass rfl rfl rfl rfl rfl rfl rfl ?_
          refine Ow_pass rfl rfl rfl rfl rfl rfl rfl ?_
          refine Ow_passU rfl rfl rfl rfl rfl ?_
          refine Ow_passU rfl rfl rfl rfl rfl ?_
          refine Ow_passU rfl rfl rfl rfl rfl ?_
          refine Ow_pass rfl rfl rfl rfl rfl rfl rfl ?_
          refine Ow_q rfl rfl rfl (Qt_pick_f rfl rfl) ?_
          refine Ow_q rfl rfl rfl (Qt_assign rfl) ?_
          refine Ow_nil ?_
          refine Shift.rem .here ?_
          refine Shift.done ?_
          exact ⟨[(2, (.bool false))], ⟨rfl, trivial⟩, false, rfl, rfl, rfl, H⟩
      rintro _ _ _ - ⟨t120, rfl, rfl, rfl, H⟩
      unfold M_ref3_shape_J3 at H
      refine Cw_ret ?_
      obtain ey0 := inj1 H
      subst y0
      refine ⟨(by first | exact .inl rfl | exact .inr rfl), [(.bool t120)], ⟨(.bool t120), _, rfl, rfl, rfl⟩, ?_⟩
      refine Shift.done ?_
      exact ⟨rfl, rfl⟩
    · intro h116
      have h116 := dcd_t (nt_f (h116))
      have H := ift h116 H
      refine Cw_skip ?_
      refine Cw_seq ?_
      refine Cw_join (fun env' K' G' => ∃ (t130 : Bool), [(1, (.pointer (some ((⟨b89, 0, none⟩ : Addr).add 0)))), (73, (.bool t130))] = env' ∧ K = K' ∧ (.blk b89 26 (Op.cells p0 vp0_cases vp0_draws)) :: G = G' ∧ M_ref3_shape_J4 p0 t130 = some y0) ?_ ?_
      · skip
        refine Cw_region ?_
        refine Ow_q rfl rfl rfl (Qt_fieldAddr (m := 2) rfl rfl rfl rfl rfl) ?_
        refine Ow_q rfl rfl rfl (Qt_load1 (v := (.int .i64 p0.channel)) rfl rfl rfl (Rdc.blk (.head _) rfl)) ?_
        refine Ow_q rfl rfl rfl (Qt_cmp rfl rfl rfl) ?_
        refine Ow_q rfl rfl rfl (Qt_move rfl) ?_
        refine Ow_caseG rfl rfl rfl ?_ ?_
        · intro h131
          have h131 := dcd_f (nt_t (h131))
          have H := iff_ h131 H
          refine Ow_pass rfl rfl rfl rfl rfl rfl rfl ?_
          refine Ow_pass rfl rfl rfl rfl rfl rfl rfl ?_
          refine Ow_pass rfl rfl rfl rfl rfl rfl rfl ?_
          refine Ow_q rfl rfl rfl (Qt_pick_t rfl rfl) ?_
          refine Ow_q rfl rfl rfl (Qt_move rfl) ?_
          refine Ow_pass rfl rfl rfl rfl rfl rfl rfl ?_
          refine Ow_pass rfl rfl rfl rfl rfl rfl rfl ?_
          refine Ow_pass rfl rfl rfl rfl rfl rfl rfl ?_
          refine Ow_pass rfl rfl rfl rfl rfl rfl rfl ?_
          refine Ow_pass rfl rfl rfl rfl rfl rfl rfl ?_
          refine Ow_pass rfl rfl rfl rfl rfl rfl rfl ?_
          refine Ow_pass rfl rfl rfl rfl rfl rfl rfl ?_
          refine Ow_q rfl rfl rfl (Qt_pick_t rfl rfl) ?_
          refine Ow_nil ?_
          refine Shift.done ?_
          exact ⟨[(1, (.pointer (some ((⟨b89, 0, none⟩ : Addr).add 0)))), (73, (.bool true))], ⟨rfl, rfl, trivial⟩, true, rfl, rfl, rfl, H⟩
        · intro h131
          have h131 := dcd_t (nt_f (h131))
          have H := ift h131 H
          refine Ow_qw rfl rfl rfl rfl rfl rfl (Qt_fieldAddr (m := 3) rfl rfl rfl rfl rfl) ?_
          refine Ow_qw rfl rfl rfl rfl rfl rfl (Qt_load1 (v := (.int .u64 p0.value)) rfl rfl rfl (Rdc.blk (.head _) rfl)) ?_
          refine Ow_qw rfl rfl rfl rfl rfl rfl (Qt_cmp rfl rfl rfl) ?_
          refine Ow_q rfl rfl rfl (Qt_pick_f rfl rfl) ?_
          refine Ow_q rfl rfl rfl (Qt_move rfl) ?_
          refine Ow_caseG rfl rfl rfl ?_ ?_
          · intro h132
            have h132 := dcd_f (nt_t (h132))
            have H := iff_ h132 H
            refine Ow_pass rfl rfl rfl rfl rfl rfl rfl ?_
            refine Ow_pass rfl rfl rfl rfl rfl rfl rfl ?_
            refine Ow_pass rfl rfl rfl rfl rfl rfl rfl ?_
            refine Ow_pass rfl rfl rfl rfl rfl rfl rfl ?_
            refine Ow_pass rfl rfl rfl rfl rfl rfl rfl ?_
            refine Ow_pass rfl rfl rfl rfl rfl rfl rfl ?_
            refine Ow_pass rfl rfl rfl rfl rfl rfl rfl ?_
            refine Ow_q rfl rfl rfl (Qt_pick_t rfl rfl) ?_
            refine Ow_nil ?_
            refine Shift.done ?_
            exact ⟨[(1, (.pointer (some ((⟨b89, 0, none⟩ : Addr).add 0)))), (73, (.bool true))], ⟨rfl, rfl, trivial⟩, true, rfl, rfl, rfl, H⟩
          · intro h132
            have h132 := dcd_t (nt_f (h132))
            have H := ift h132 H
            refine Ow_qw rfl rfl rfl rfl rfl rfl (Qt_fieldAddr (m := 6) rfl rfl rfl rfl rfl) ?_
            refine Ow_qw rfl rfl rfl rfl rfl rfl (Qt_load1 (v := (sv vp0_draws)) rfl rfl rfl (Rdc.blk (.head _) rfl)) ?_
            refine Ow_qw rfl rfl rfl rfl rfl rfl (Q_len (T := Ty.i64) hp0_draws rfl rfl) ?_
            refine Ow_qw rfl rfl rfl rfl rfl rfl (Qt_fieldAddr (m := 5) rfl rfl rfl rfl rfl) ?_
            refine Ow_qw rfl rfl rfl rfl rfl rfl (Qt_load1 (v := (sv vp0_cases)) rfl rfl rfl (Rdc.blk (.head _) rfl)) ?_
            refine Ow_qw rfl rfl rfl rfl rfl rfl (Q_len (T := TyCase) hp0_cases rfl rfl) ?_
            refine Ow_qw rfl rfl rfl rfl rfl rfl (Qt_cmp rfl rfl rfl) ?_
            refine Ow_q rfl rfl rfl (Qt_pick_f rfl rfl) ?_
            refine Ow_nil ?_
            refine Shift.done ?_
            exact ⟨[(1, (.pointer (some ((⟨b89, 0, none⟩ : Addr).add 0)))), (73, (.bool (!(dcd ((p0.draws.length : Int) = (p0.cases.length : Int))))))], ⟨rfl, rfl, trivial⟩, (!(dcd ((p0.draws.length : Int) = (p0.cases.length : Int)))), rfl, rfl, rfl, H⟩
      rintro _ _ _ - ⟨t130, rfl, rfl, rfl, H⟩
      unfold M_ref3_shape_J4 at H
      refine Cw_cond rfl ?_ ?_
      · intro h133
        have H := ift h133 H
        refine Cw_seq ?_
        refine Cw_region ?_
        refine Ow_q rfl rfl rfl (Qt_assign rfl) ?_
        refine Ow_nil ?_
        refine Cw_ret ?_
        obtain ey0 := inj1 H
        subst y0
        refine ⟨(by first | exact .inl rfl | exact .inr rfl), [(.bool false)], ⟨(.bool false), _, rfl, rfl, rfl⟩, ?_⟩
        refine Shift.rem .here ?_
        refine Shift.done ?_
        exact ⟨rfl, rfl⟩
      · intro h133
        have H := iff_ (btf h133) H
        refine Cw_skip ?_
        refine Cw_join (fun env' K' G' => [] = env' ∧ G = G' ∧ M_ref3_shape_J5 = some y0) ?_ ?_
        · skip
          refine Cw_seq ?_
          refine Cw_region ?_
          refine Ow_q rfl rfl rfl (Qt_assign rfl) ?_
          refine Ow_nil ?_
          refine Cw_block ?_
          refine Cw_loopM (fun n206 env' K' G' => ∃ (i205 : Int), [(1, (.pointer (some ((⟨b89, 0, none⟩ : Addr).add 0)))), (4, (.int .i64 i205))] = env' ∧ K = K' ∧ (.blk b89 26 (Op.cells p0 vp0_cases vp0_draws)) :: G = G' ∧ lp1 (M_ref3_shape_L1 p0) n206 i205 = some y0) BIG ?_ ?_
          · skip
            refine Shift.done ?_
            exact ⟨[(1, (.pointer (some ((⟨b89, 0, none⟩ : Addr).add 0)))), (4, (.int .i64 0))], ⟨rfl, rfl, trivial⟩, 0, rfl, rfl, rfl, H⟩
          rintro n206 _ _ _ - ⟨i205, rfl, rfl, rfl, H⟩
          obtain ⟨m207, k208, rfl, hkk209, H⟩ := lps1 H
          unfold M_ref3_shape_L1 at H
          refine Cw_seq ?_
          refine Cw_seq ?_
          refine Cw_region ?_
          refine Ow_q rfl rfl rfl (Qt_move rfl) ?_
          refine Ow_q rfl rfl rfl (Qt_fieldAddr (m := 5) rfl rfl rfl rfl rfl) ?_
          refine Ow_q rfl rfl rfl (Qt_load1 (v := (sv vp0_cases)) rfl rfl rfl (Rdc.blk (.head _) rfl)) ?_
          refine Ow_q rfl rfl rfl (Q_len (T := TyCase) hp0_cases rfl rfl) ?_
          refine Ow_q rfl rfl rfl (Qt_cmp rfl rfl rfl) ?_
          refine Ow_nil ?_
          refine Cw_cond rfl ?_ ?_
          · intro h211
            have h211 := dcd_t (h211)
            have H := ift h211 H
            refine Cw_skip ?_
            refine Cw_seq ?_
            refine Cw_block ?_
            refine Cw_join (fun env' K' G' => ∃ (t236 : Bool), [(1, (.pointer (some ((⟨b89, 0, none⟩ : Addr).add 0)))), (4, (.int .i64 i205)), (96, (.bool t236))] = env' ∧ K = K' ∧ (.blk b89 26 (Op.cells p0 vp0_cases vp0_draws)) :: G = G' ∧ M_ref3_shape_J6 i205 p0 k208 t236 = some y0) ?_ ?_
            · skip
              refine Cw_region ?_
              refine Ow_q rfl rfl rfl (Qt_fieldAddr (m := 5) rfl rfl rfl rfl rfl) ?_
              refine Ow_q rfl rfl rfl (Qt_load1 (v := (sv vp0_cases)) rfl rfl rfl (Rdc.blk (.head _) rfl)) ?_
              refine Ow_q rfl rfl rfl (Qt_move rfl) ?_
              obtain ⟨x237, hx238, H⟩ := bnd H
              obtain ⟨r239, hr240, hk241⟩ := Slr.at hp0_cases hx238
              obtain rfl := hr240
              refine Ow_q rfl rfl rfl (Q_ix (T := TyCase) hp0_cases hx238 rfl rfl rfl rfl rfl) ?_
              refine Ow_q rfl rfl rfl (Qt_fieldAddr (m := 0) rfl rfl rfl rfl rfl) ?_
              refine Ow_q rfl rfl rfl (Qt_load1 (v := (.bool x237.send)) rfl rfl rfl (Rdc.k hk241 rfl)) ?_
              refine Ow_q rfl rfl rfl (Qt_not rfl) ?_
              refine Ow_q rfl rfl rfl (Qt_move rfl) ?_
              refine Ow_caseG rfl rfl rfl ?_ ?_
              · intro h242
                have h242 := nt_t (h242)
                have H := iff_ (btf h242) H
                refine Ow_qw rfl rfl rfl rfl rfl rfl (Qt_fieldAddr (m := 5) rfl rfl rfl rfl rfl) ?_
                refine Ow_qw rfl rfl rfl rfl rfl rfl (Qt_load1 (v := (sv vp0_cases)) rfl rfl rfl (Rdc.blk (.head _) rfl)) ?_
                refine Ow_qw rfl rfl rfl rfl rfl rfl (Qt_move rfl) ?_
                obtain ⟨x243, hx244, H⟩ := bnd H
                obtain ⟨r245, hr246, hk247⟩ := Slr.at hp0_cases hx244
                obtain rfl := hr246
                refine Ow_qw rfl rfl rfl rfl rfl rfl (Q_ix (T := TyCase) hp0_cases hx244 rfl rfl rfl rfl rfl) ?_
                refine Ow_qw rfl rfl rfl rfl rfl rfl (Qt_fieldAddr (m := 2) rfl rfl rfl rfl rfl) ?_
                refine Ow_qw rfl rfl rfl rfl rfl rfl (Qt_load1 (v := (.int .u64 x243.value)) rfl rfl rfl (Rdc.k hk247 rfl)) ?_
                refine Ow_qw rfl rfl rfl rfl rfl rfl (Qt_cmp rfl rfl rfl) ?_
                refine Ow_q rfl rfl rfl (Qt_pick_t rfl rfl) ?_
                refine Ow_nil ?_
                refine Shift.done ?_
                exact ⟨[(1, (.pointer (some ((⟨b89, 0, none⟩ : Addr).add 0)))), (4, (.int .i64 i205)), (96, (.bool (!(dcd (x243.value = 0)))))], ⟨rfl, rfl, rfl, trivial⟩, (!(dcd (x243.value = 0))), rfl, rfl, rfl, H⟩
              · intro h242
                have h242 := nt_f (h242)
                have H := ift h242 H
                refine Ow_pass rfl rfl rfl rfl rfl rfl rfl ?_
                refine Ow_pass rfl rfl rfl rfl rfl rfl rfl ?_
                refine Ow_pass rfl rfl rfl rfl rfl rfl rfl ?_
                refine Ow_pass rfl rfl rfl rfl rfl rfl rfl ?_
                refine Ow_pass rfl rfl rfl rfl rfl rfl rfl ?_
                refine Ow_pass rfl rfl rfl rfl rfl rfl rfl ?_
                refine Ow_pass rfl rfl rfl rfl rfl rfl rfl ?_
                refine Ow_q rfl rfl rfl (Qt_pick_f rfl rfl) ?_
                refine Ow_nil ?_
                refine Shift.done ?_
                exact ⟨[(1, (.pointer (some ((⟨b89, 0, none⟩ : Addr).add 0)))), (4, (.int .i64 i205)), (96, (.bool false))], ⟨rfl, rfl, rfl, trivial⟩, false, rfl, rfl, rfl, H⟩
            rintro _ _ _ - ⟨t236, rfl, rfl, rfl, H⟩
            unfold M_ref3_shape_J6 at H
            refine Cw_cond rfl ?_ ?_
            · intro h248
              have H := ift h248 H
              refine Cw_seq ?_
              refine Cw_region ?_
              refine Ow_q rfl rfl rfl (Qt_assign rfl) ?_
              refine Ow_nil ?_
              refine Cw_ret ?_
              obtain ey0 := inj1 H
              subst y0
              refine ⟨(by first | exact .inl rfl | exact .inr rfl), [(.bool false)], ⟨(.bool false), _, rfl, rfl, rfl⟩, ?_⟩
              refine Shift.rem .here ?_
              refine Shift.done ?_
              exact ⟨rfl, rfl⟩
            · intro h248
              have H := iff_ (btf h248) H
              refine Cw_skip ?_
              refine Cw_region ?_
              refine Ow_q rfl rfl rfl (Qt_move rfl) ?_
              refine Ow_q rfl rfl rfl (Qt_arith (e := wI (i205 + 1)) rfl rfl rfl rfl) ?_
              refine Ow_q rfl rfl rfl (Qt_assign rfl) ?_
              refine Ow_nil ?_
              refine Shift.done ?_
              exact ⟨[(1, (.pointer (some ((⟨b89, 0, none⟩ : Addr).add 0)))), (4, (.int .i64 (wI (i205 + 1))))], ⟨rfl, rfl, trivial⟩, _, Nat.lt_succ_self _, (wI (i205 + 1)), rfl, rfl, rfl, (hkk209 ▸ H)⟩
          · intro h211
            have h211 := dcd_f (h211)
            have H := iff_ h211 H
            refine Cw_exit ?_
            refine Shift.rem .here ?_
            refine Shift.done ?_
            exact ⟨[], trivial, rfl, rfl, H⟩
        rintro _ K249 _ hK250 ⟨rfl, rfl, H⟩
        unfold M_ref3_shape_J5 at H
        refine Cw_seq ?_
        refine Cw_region ?_
        refine Ow_q rfl rfl rfl (Qt_assign rfl) ?_
        refine Ow_nil ?_
        refine Cw_ret ?_
        obtain ey0 := inj1 H
        subst y0
        refine ⟨(by first | exact .inl rfl | exact .inr rfl), [(.bool true)], ⟨(.bool true), _, rfl, rfl, rfl⟩, ?_⟩
        refine Shift.done ?_
        exact ⟨rfl, rfl⟩

set_option maxHeartbeats 1000000 in
theorem c_M_ref3_Check (p0 : Op) (vp0_cases : SV) (vp0_draws : SV) (y0 : Int) (H : M_ref3_Check p0 = some y0) (K : Kp) (G : List Ent) (hp0_cases : Slr TyCase K (sv vp0_cases) p0.cases) (hp0_draws : Slr Ty.i64 K (sv vp0_draws) p0.draws) :
    Fc Try.prog 14 #[(.agg (Op.cells p0 vp0_cases vp0_draws).toArray)] K (G) (fun v K' G' => v = (.int .i64 y0) ∧ G = G') := by
  refine Fc_body Try.func14 rfl Try.ntmps14 Try.results14 rfl ?_
  unfold M_ref3_Check at H
  refine Cw_seq ?_
  refine Cw_region ?_
  refine Ow_cons rfl (OpW_box (cs := (Op.cells p0 vp0_cases vp0_draws)) rfl rfl rfl (fun b93 => ?_))
  refine Ow_q rfl rfl rfl (Qt_assign rfl) ?_
  refine Ow_nil ?_
  refine Cw_seq ?_
  refine Cw_join (fun env' K' G' => ∃ (t102 : Bool), [(1, (.pointer (some ((⟨b93, 0, none⟩ : Addr).add 0)))), (21, (.bool t102))] = env' ∧ K = K' ∧ (.blk b93 26 (Op.cells p0 vp0_cases vp0_draws)) :: G = G' ∧ M_ref3_Check_J1 p0 t102 = some y0) ?_ ?_
  · skip
    refine Cw_region ?_
    refine Ow_q rfl rfl rfl (Qt_fieldAddr (m := 0) rfl rfl rfl rfl rfl) ?_
    refine Ow_q rfl rfl rfl (Qt_load1 (v := (.int .i64 p0.kind)) rfl rfl rfl (Rdc.blk (.head _) rfl)) ?_
    refine Ow_q rfl rfl rfl (Qt_cmp rfl rfl rfl) ?_
    refine Ow_q rfl rfl rfl (Qt_move rfl) ?_
    refine Ow_caseG rfl rfl rfl ?_ ?_
    · intro h103
      have h103 := dcd_t (h103)
      have H := ift h103 H
      refine Ow_pass rfl rfl rfl rfl rfl rfl rfl ?_
      refine Ow_pass rfl rfl rfl rfl rfl rfl rfl ?_
      refine Ow_pass rfl rfl rfl rfl rfl rfl rfl ?_
      refine Ow_q rfl rfl rfl (Qt_pick_t rfl rfl) ?_
      refine Ow_q rfl rfl rfl (Qt_move rfl) ?_
      refine Ow_pass rfl rfl rfl rfl rfl rfl rfl ?_
      refine Ow_pass rfl rfl rfl rfl rfl rfl rfl ?_
      refine Ow_pass rfl rfl rfl rfl rfl rfl rfl ?_
      refine Ow_q rfl rfl rfl (Qt_pick_t rfl rfl) ?_
      refine Ow_q rfl rfl rfl (Qt_move rfl) ?_
      refine Ow_pass rfl rfl rfl rfl rfl rfl rfl ?_
      refine Ow_pass rfl rfl rfl rfl rfl rfl rfl ?_
      refine Ow_pass rfl rfl rfl rfl rfl rfl rfl ?_
      refine Ow_q rfl rfl rfl (Qt_pick_t rfl rfl) ?_
      refine Ow_nil ?_
      refine Shift.done ?_
      exact ⟨[(1, (.pointer (some ((⟨b93, 0, none⟩ : Addr).add 0)))), (21, (.bool true))], ⟨rfl, rfl, trivial⟩, true, rfl, rfl, rfl, H⟩
    · intro h103
      have h103 := dcd_f (h103)
      have H := iff_ h103 H
      refine Ow_qw rfl rfl rfl rfl rfl rfl (Qt_fieldAddr (m := 0) rfl rfl rfl rfl rfl) ?_
      refine Ow_qw rfl rfl rfl rfl rfl rfl (Qt_load1 (v := (.int .i64 p0.kind)) rfl rfl rfl (Rdc.blk (.head _) rfl)) ?_
      refine Ow_qw rfl rfl rfl rfl rfl rfl (Qt_cmp rfl rfl rfl) ?_
      refine Ow_q rfl rfl rfl (Qt_pick_f rfl rfl) ?_
      refine Ow_q rfl rfl rfl (Qt_move rfl) ?_
      refine Ow_caseG rfl rfl rfl ?_ ?_
      · intro h104
        have h104 := dcd_t (h104)
        have H := ift h104 H
        refine Ow_pass rfl rfl rfl rfl rfl rfl rfl ?_
        refine Ow_pass rfl rfl rfl rfl rfl rfl rfl ?_
        refine Ow_pass rfl rfl rfl rfl rfl rfl rfl ?_
        refine Ow_q rfl rfl rfl (Qt_pick_t rfl rfl) ?_
        refine Ow_q rfl rfl rfl (Qt_move rfl) ?_
        refine Ow_pass rfl rfl rfl rfl rfl rfl rfl ?_
        refine Ow_pass rfl rfl rfl rfl rfl rfl rfl ?_
        refine Ow_pass rfl rfl rfl rfl rfl rfl rfl ?_
        refine Ow_q rfl rfl rfl (Qt_pick_t rfl rfl) ?_
        refine Ow_nil ?_
        refine Shift.done ?_
        exact ⟨[(1, (.pointer (some ((⟨b93, 0, none⟩ : Addr).add 0)))), (21, (.bool true))], ⟨rfl, rfl, trivial⟩, true, rfl, rfl, rfl, H⟩
      · intro h104
        have h104 := dcd_f (h104)
        have H := iff_ h104 H
        refine Ow_qw rfl rfl rfl rfl rfl rfl (Qt_fieldAddr (m := 1) rfl rfl rfl rfl rfl) ?_
        refine Ow_qw rfl rfl rfl rfl rfl rfl (Qt_load1 (v := (.int .i64 p0.mode)) rfl rfl rfl (Rdc.blk (.head _) rfl)) ?_
        refine Ow_qw rfl rfl rfl rfl rfl rfl (Qt_cmp rfl rfl rfl) ?_
        refine Ow_q rfl rfl rfl (Qt_pick_f rfl rfl) ?_
        refine Ow_q rfl rfl rfl (Qt_move rfl) ?_
        refine Ow_caseG rfl rfl rfl ?_ ?_
        · intro h105
          have h105 := dcd_t (h105)
          have H := ift h105 H
          refine Ow_pass rfl rfl rfl rfl rfl rfl rfl ?_
          refine Ow_pass rfl rfl rfl rfl rfl rfl rfl ?_
          refine Ow_pass rfl rfl rfl rfl rfl rfl rfl ?_
          refine Ow_q rfl rfl rfl (Qt_pick_t rfl rfl) ?_
          refine Ow_nil ?_
          refine Shift.done ?_
          exact ⟨[(1, (.pointer (some ((⟨b93, 0, none⟩ : Addr).add 0)))), (21, (.bool true))], ⟨rfl, rfl, trivial⟩, true, rfl, rfl, rfl, H⟩
        · intro h105
          have h105 := dcd_f (h105)
          have H := iff_ h105 H
          refine Ow_qw rfl rfl rfl rfl rfl rfl (Qt_fieldAddr (m := 1) rfl rfl rfl rfl rfl) ?_
          refine Ow_qw rfl rfl rfl rfl rfl rfl (Qt_load1 (v := (.int .i64 p0.mode)) rfl rfl rfl (Rdc.blk (.head _) rfl)) ?_
          refine Ow_qw rfl rfl rfl rfl rfl rfl (Qt_cmp rfl rfl rfl) ?_
          refine Ow_q rfl rfl rfl (Qt_pick_f rfl rfl) ?_
          refine Ow_nil ?_
          refine Shift.done ?_
          exact ⟨[(1, (.pointer (some ((⟨b93, 0, none⟩ : Addr).add 0)))), (21, (.bool (dcd (p0.mode > 2))))], ⟨rfl, rfl, trivial⟩, (dcd (p0.mode > 2)), rfl, rfl, rfl, H⟩
  rintro _ _ _ - ⟨t102, rfl, rfl, rfl, H⟩
  unfold M_ref3_Check_J1 at H
  refine Cw_cond rfl ?_ ?_
  · intro h106
    have H := ift h106 H
    refine Cw_seq ?_
    refine Cw_region ?_
    refine Ow_q rfl rfl rfl (Qt_assign rfl) ?_
    refine Ow_nil ?_
    refine Cw_ret ?_
    obtain ey0 := inj1 H
    subst y0
    refine ⟨(by first | exact .inl rfl | exact .inr rfl), [(.int .i64 2)], ⟨(.int .i64 2), _, rfl, rfl, rfl⟩, ?_⟩
    refine Shift.rem .here ?_
    refine Shift.done ?_
    exact ⟨rfl, rfl⟩
  · intro h106
    have H := iff_ (btf h106) H
    refine Cw_skip ?_
    refine Cw_seq ?_
    refine Cw_seq ?_
    refine Cw_region ?_
    refine Ow_q rfl rfl rfl (Qt_loadA (m := 7) (cs := (Op.cells p0 vp0_cases vp0_draws)) rfl rfl rfl rfl ⟨rfl, Rdc.blk (.head _) rfl⟩) ?_
    obtain ⟨x112, hx113, H⟩ := bnd H
    refine Ow_cons rfl (OpW_call rfl Try.call38 rfl rfl (c_M_ref3_ranges p0 vp0_cases vp0_draws x112 hx113 _ _ hp0_cases hp0_draws) ?_)
    rintro _ K114 _ hK115 ⟨rfl, rfl⟩
    refine Ow_q rfl rfl rfl (Qt_not rfl) ?_
    refine Ow_nil ?_
    refine Cw_cond rfl ?_ ?_
    · intro h116
      have h116 := nt_t (h116)
      have H := iff_ (btf h116) H
      refine Cw_seq ?_
      refine Cw_region ?_
      refine Ow_q rfl rfl rfl (Qt_assign rfl) ?_
      refine Ow_nil ?_
      refine Cw_ret ?_
      obtain ey0 := inj1 H
      subst y0
      refine ⟨(by first | exact .inl rfl | exact .inr rfl), [(.int .i64 2)], ⟨(.int .i64 2), _, rfl, rfl, rfl⟩, ?_⟩
      refine Shift.rem .here ?_
      refine Shift.done ?_
      exact ⟨rfl, rfl⟩
    · intro h116
      have h116 := nt_f (h116)
      have H := ift h116 H
      refine Cw_skip ?_
      refine Cw_seq ?_
      refine Cw_join (fun env' K' G' => ∃ (t125 : Bool), [(1, (.pointer (some ((⟨b93, 0, none⟩ : Addr).add 0)))), (34, (.bool t125))] = env' ∧ K114 = K' ∧ (.blk b93 26 (Op.cells p0 vp0_cases vp0_draws)) :: G = G' ∧ M_ref3_Check_J2 p0 t125 = some y0) ?_ ?_
      · skip
        refine Cw_region ?_
        refine Ow_q rfl rfl rfl (Qt_fieldAddr (m := 5) rfl rfl rfl rfl rfl) ?_
        refine Ow_q rfl rfl rfl (Qt_load1 (v := (sv vp0_cases)) rfl rfl rfl (Rdc.blk (.head _) rfl)) ?_
        have hs126 := (hp0_cases).mono hK115
        refine Ow_q rfl rfl rfl (Q_len (T := TyCase) hs126 rfl rfl) ?_
        refine Ow_q rfl rfl rfl (Qt_cmp rfl rfl rfl) ?_
        refine Ow_q rfl rfl rfl (Qt_move rfl) ?_
        refine Ow_caseG rfl rfl rfl ?_ ?_
        · intro h127
          have h127 := dcd_t (h127)
          have H := ift h127 H
          refine Ow_pass rfl rfl rfl rfl rfl rfl rfl ?_
          refine Ow_pass rfl rfl rfl rfl rfl rfl rfl ?_
          refine Ow_pass rfl rfl rfl rfl rfl rfl rfl ?_
          refine Ow_pass rfl rfl rfl rfl rfl rfl rfl ?_
          refine Ow_q rfl rfl rfl (Qt_pick_t rfl rfl) ?_
          refine Ow_nil ?_
          refine Shift.done ?_
          exact ⟨[(1, (.pointer (some ((⟨b93, 0, none⟩ : Addr).add 0)))), (34, (.bool true))], ⟨rfl, rfl, trivial⟩, true, rfl, rfl, rfl, H⟩
        · intro h127
          have h127 := dcd_f (h127)
          have H := iff_ h127 H
          refine Ow_qw rfl rfl rfl rfl rfl rfl (Qt_fieldAddr (m := 6) rfl rfl rfl rfl rfl) ?_
          refine Ow_qw rfl rfl rfl rfl rfl rfl (Qt_load1 (v := (sv vp0_draws)) rfl rfl rfl (Rdc.blk (.head _) rfl)) ?_
          have hs128 := (hp0_draws).mono hK115
          refine Ow_qw rfl rfl rfl rfl rfl rfl (Q_len (T := Ty.i64) hs128 rfl rfl) ?_
          refine Ow_qw rfl rfl rfl rfl rfl rfl (Qt_cmp rfl rfl rfl) ?_
          refine Ow_q rfl rfl rfl (Qt_pick_f rfl rfl) ?_
          refine Ow_nil ?_
          refine Shift.done ?_
          exact ⟨[(1, (.pointer (some ((⟨b93, 0, none⟩ : Addr).add 0)))), (34, (.bool (dcd ((p0.draws.length : Int) > 6))))], ⟨rfl, rfl, trivial⟩, (dcd ((p0.draws.length : Int) > 6)), rfl, rfl, rfl, H⟩
      rintro _ _ _ - ⟨t125, rfl, rfl, rfl, H⟩
      unfold M_ref3_Check_J2 at H
      refine Cw_cond rfl ?_ ?_
      · intro h129
        have H := ift h129 H
        refine Cw_seq ?_
        refine Cw_region ?_
        refine Ow_q rfl rfl rfl (Qt_assign rfl) ?_
        refine Ow_nil ?_
        refine Cw_ret ?_
        obtain ey0 := inj1 H
        subst y0
        refine ⟨(by first | exact .inl rfl | exact .inr rfl), [(.int .i64 3)], ⟨(.int .i64 3), _, rfl, rfl, rfl⟩, ?_⟩
        refine Shift.rem .here ?_
        refine Shift.done ?_
        exact ⟨rfl, rfl⟩
      · intro h129
        have H := iff_ (btf h129) H
        refine Cw_skip ?_
        refine Cw_join (fun env' K' G' => [(1, (.pointer (some ((⟨b93, 0, none⟩ : Addr).add 0))))] = env' ∧ (.blk b93 26 (Op.cells p0 vp0_cases vp0_draws)) :: G = G' ∧ M_ref3_Check_J3 p0 = some y0) ?_ ?_
        · skip
          refine Cw_seq ?_
          refine Cw_region ?_
          refine Ow_q rfl rfl rfl (Qt_assign rfl) ?_
          refine Ow_nil ?_
          refine Cw_block ?_
          refine Cw_loopM (fun n202 env' K' G' => ∃ (i201 : Int), [(1, (.pointer (some ((⟨b93, 0, none⟩ : Addr).add 0)))), (3, (.int .i64 i201))] = env' ∧ K114 = K' ∧ (.blk b93 26 (Op.cells p0 vp0_cases vp0_draws)) :: G = G' ∧ lp1 (M_ref3_Check_L1 p0) n202 i201 = some y0) BIG ?_ ?_
          · skip
            refine Shift.done ?_
            exact ⟨[(1, (.pointer (some ((⟨b93, 0, none⟩ : Addr).add 0)))), (3, (.int .i64 0))], ⟨rfl, rfl, trivial⟩, 0, rfl, rfl, rfl, H⟩
          rintro n202 _ _ _ - ⟨i201, rfl, rfl, rfl, H⟩
          obtain ⟨m203, k204, rfl, hkk205, H⟩ := lps1 H
          unfold M_ref3_Check_L1 at H
          refine Cw_seq ?_
          refine Cw_seq ?_
          refine Cw_region ?_
          refine Ow_q rfl rfl rfl (Qt_move rfl) ?_
          refine Ow_q rfl rfl rfl (Qt_fieldAddr (m := 6) rfl rfl rfl rfl rfl) ?_
          refine Ow_q rfl rfl rfl (Qt_load1 (v := (sv vp0_draws)) rfl rfl rfl (Rdc.blk (.head _) rfl)) ?_
          have hs208 := (hp0_draws).mono hK115
          refine Ow_q rfl rfl rfl (Q_len (T := Ty.i64) hs208 rfl rfl) ?_
          refine Ow_q rfl rfl rfl (Qt_cmp rfl rfl rfl) ?_
          refine Ow_nil ?_
          refine Cw_cond rfl ?_ ?_
          · intro h209
            have h209 := dcd_t (h209)
            have H := ift h209 H
            refine Cw_skip ?_
            refine Cw_seq ?_
            refine Cw_block ?_
            refine Cw_join (fun env' K' G' => ∃ (t234 : Bool), [(1, (.pointer (some ((⟨b93, 0, none⟩ : Addr).add 0)))), (3, (.int .i64 i201)), (56, (.bool t234))] = env' ∧ K114 = K' ∧ (.blk b93 26 (Op.cells p0 vp0_cases vp0_draws)) :: G = G' ∧ M_ref3_Check_J4 i201 p0 k204 t234 = some y0) ?_ ?_
            · skip
              refine Cw_region ?_
              refine Ow_q rfl rfl rfl (Qt_fieldAddr (m := 6) rfl rfl rfl rfl rfl) ?_
              refine Ow_q rfl rfl rfl (Qt_load1 (v := (sv vp0_draws)) rfl rfl rfl (Rdc.blk (.head _) rfl)) ?_
              refine Ow_q rfl rfl rfl (Qt_move rfl) ?_
              obtain ⟨x235, hx236, H⟩ := bnd H
              obtain ⟨r237, hr238, hk239⟩ := Slr.at hs208 hx236
              obtain rfl := hr238
              refine Ow_q rfl rfl rfl (Q_ix (T := Ty.i64) hs208 hx236 rfl rfl rfl rfl rfl) ?_
              refine Ow_q rfl rfl rfl (Qt_load1 (v := (.int .i64 x235)) rfl rfl rfl (Rdc.k hk239 rfl)) ?_
              refine Ow_q rfl rfl rfl (Qt_cmp rfl rfl rfl) ?_
              refine Ow_q rfl rfl rfl (Qt_move rfl) ?_
              refine Ow_caseG rfl rfl rfl ?_ ?_
              · intro h240
                have h240 := dcd_t (h240)
                have H := ift h240 H
                refine Ow_pass rfl rfl rfl rfl rfl rfl rfl ?_
                refine Ow_pass rfl rfl rfl rfl rfl rfl rfl ?_
                refine Ow_pass rfl rfl rfl rfl rfl rfl rfl ?_
                refine Ow_pass rfl rfl rfl rfl rfl rfl rfl ?_
                refine Ow_pass rfl rfl rfl rfl rfl rfl rfl ?_
                refine Ow_pass rfl rfl rfl rfl rfl rfl rfl ?_
                refine Ow_pass rfl rfl rfl rfl rfl rfl rfl ?_
                refine Ow_q rfl rfl rfl (Qt_pick_t rfl rfl) ?_
                refine Ow_nil ?_
                refine Shift.done ?_
                exact ⟨[(1, (.pointer (some ((⟨b93, 0, none⟩ : Addr).add 0)))), (3, (.int .i64 i201)), (56, (.bool true))], ⟨rfl, rfl, rfl, trivial⟩, true, rfl, rfl, rfl, H⟩
              · intro h240
                have h240 := dcd_f (h240)
                have H := iff_ h240 H
                refine Ow_qw rfl rfl rfl rfl rfl rfl (Qt_fieldAddr (m := 6) rfl rfl rfl rfl rfl) ?_
                refine Ow_qw rfl rfl rfl rfl rfl rfl (Qt_load1 (v := (sv vp0_draws)) rfl rfl rfl (Rdc.blk (.head _) rfl)) ?_
                refine Ow_qw rfl rfl rfl rfl rfl rfl (Qt_move rfl) ?_
                obtain ⟨x241, hx242, H⟩ := bnd H
                obtain ⟨r243, hr244, hk245⟩ := Slr.at hs208 hx242
                obtain rfl := hr244
                refine Ow_qw rfl rfl rfl rfl rfl rfl (Q_ix (T := Ty.i64) hs208 hx242 rfl rfl rfl rfl rfl) ?_
                refine Ow_qw rfl rfl rfl rfl rfl rfl (Qt_load1 (v := (.int .i64 x241)) rfl rfl rfl (Rdc.k hk245 rfl)) ?_
                refine Ow_qw rfl rfl rfl rfl rfl rfl (Qt_move rfl) ?_
                refine Ow_qw rfl rfl rfl rfl rfl rfl (Qt_cmp rfl rfl rfl) ?_
                refine Ow_q rfl rfl rfl (Qt_pick_f rfl rfl) ?_
                refine Ow_nil ?_
                refine Shift.done ?_
                exact ⟨[(1, (.pointer (some ((⟨b93, 0, none⟩ : Addr).add 0)))), (3, (.int .i64 i201)), (56, (.bool (dcd (x241 > i201))))], ⟨rfl, rfl, rfl, trivial⟩, (dcd (x241 > i201)), rfl, rfl, rfl, H⟩
            rintro _ _ _ - ⟨t234, rfl, rfl, rfl, H⟩
            unfold M_ref3_Check_J4 at H
            refine Cw_cond rfl ?_ ?_
            · intro h246
              have H := ift h246 H
              refine Cw_seq ?_
              refine Cw_region ?_
              refine Ow_q rfl rfl rfl (Qt_assign rfl) ?_
              refine Ow_nil ?_
              refine Cw_ret ?_
              obtain ey0 := inj1 H
              subst y0
              refine ⟨(by first | exact .inl rfl | exact .inr rfl), [(.int .i64 2)], ⟨(.int .i64 2), _, rfl, rfl, rfl⟩, ?_⟩
              refine Shift.rem .here ?_
              refine Shift.done ?_
              exact ⟨rfl, rfl⟩
            · intro h246
              have H := iff_ (btf h246) H
              refine Cw_skip ?_
              refine Cw_region ?_
              refine Ow_q rfl rfl rfl (Qt_move rfl) ?_
              refine Ow_q rfl rfl rfl (Qt_arith (e := wI (i201 + 1)) rfl rfl rfl rfl) ?_
              refine Ow_q rfl rfl rfl (Qt_assign rfl) ?_
              refine Ow_nil ?_
              refine Shift.done ?_
              exact ⟨[(1, (.pointer (some ((⟨b93, 0, none⟩ : Addr).add 0)))), (3, (.int .i64 (wI (i201 + 1))))], ⟨rfl, rfl, trivial⟩, _, Nat.lt_succ_self _, (wI (i201 + 1)), rfl, rfl, rfl, (hkk205 ▸ H)⟩
          · intro h209
            have h209 := dcd_f (h209)
            have H := iff_ h209 H
            refine Cw_exit ?_
            refine Shift.done ?_
            exact ⟨[(1, (.pointer (some ((⟨b93, 0, none⟩ : Addr).add 0))))], ⟨rfl, trivial⟩, rfl, rfl, H⟩
        rintro _ K247 _ hK248 ⟨rfl, rfl, H⟩
        unfold M_ref3_Check_J3 at H
        refine Cw_seq ?_
        refine Cw_seq ?_
        refine Cw_region ?_
        refine Ow_q rfl rfl rfl (Qt_loadA (m := 7) (cs := (Op.cells p0 vp0_cases vp0_draws)) rfl rfl rfl rfl ⟨rfl, Rdc.blk (.head _) rfl⟩) ?_
        obtain ⟨x256, hx257, H⟩ := bnd H
        have hs258 := ((hp0_cases).mono hK115).mono hK248
        have hs259 := ((hp0_draws).mono hK115).mono hK248
        refine Ow_cons rfl (OpW_call rfl Try.call39 rfl rfl (c_M_ref3_shape p0 vp0_cases vp0_draws x256 hx257 _ _ hs258 hs259) ?_)
        rintro _ K260 _ hK261 ⟨rfl, rfl⟩
        refine Ow_q rfl rfl rfl (Qt_not rfl) ?_
        refine Ow_nil ?_
        refine Cw_cond rfl ?_ ?_
        · intro h262
          have h262 := nt_t (h262)
          have H := iff_ (btf h262) H
          refine Cw_seq ?_
          refine Cw_region ?_
          refine Ow_q rfl rfl rfl (Qt_assign rfl) ?_
          refine Ow_nil ?_
          refine Cw_ret ?_
          obtain ey0 := inj1 H
          subst y0
          refine ⟨(by first | exact .inl rfl | exact .inr rfl), [(.int .i64 5)], ⟨(.int .i64 5), _, rfl, rfl, rfl⟩, ?_⟩
          refine Shift.rem .here ?_
          refine Shift.done ?_
          exact ⟨rfl, rfl⟩
        · intro h262
          have h262 := nt_f (h262)
          have H := ift h262 H
          refine Cw_skip ?_
          refine Cw_seq ?_
          refine Cw_region ?_
          refine Ow_q rfl rfl rfl (Qt_assign rfl) ?_
          refine Ow_nil ?_
          refine Cw_ret ?_
          obtain ey0 := inj1 H
          subst y0
          refine ⟨(by first | exact .inl rfl | exact .inr rfl), [(.int .i64 0)], ⟨(.int .i64 0), _, rfl, rfl, rfl⟩, ?_⟩
          refine Shift.rem .here ?_
          refine Shift.done ?_
          exact ⟨rfl, rfl⟩

set_option maxHeartbeats 1000000 in
theorem c_M_ref3_Single (p0 : Op) (vp0_cases : SV) (vp0_draws : SV) (y0 : Case) (y1 : Bool) (H : M_ref3_Single p0 = some (y0, y1)) (K : Kp) (G : List Ent) (hp0_cases : Slr TyCase K (sv vp0_cases) p0.cases) (hp0_draws : Slr Ty.i64 K (sv vp0_draws) p0.draws) :
    Fc Try.prog 27 #[(.agg (Op.cells p0 vp0_cases vp0_draws).toArray)] K (G) (fun v K' G' => v = (.tuple #[(.agg (Case.cells y0).toArray), (.bool y1)]) ∧ K = K' ∧ G = G') := by
  refine Fc_body Try.func27 rfl Try.ntmps27 Try.results27 rfl ?_
  unfold M_ref3_Single at H
  refine Cw_seq ?_
  refine Cw_region ?_
  refine Ow_cons rfl (OpW_box (cs := (Op.cells p0 vp0_cases vp0_draws)) rfl rfl rfl (fun b13 => ?_))
  refine Ow_cons rfl (OpW_alloc (cs := (Case.cells (Case.mk false 0 0))) rfl rfl rfl rfl (fun b14 => ?_))
  refine Ow_q rfl rfl rfl (Qt_assign rfl) ?_
  refine Ow_nil ?_
  refine Cw_seq ?_
  refine Cw_join (fun env' K' G' => ∃ (t26 : Bool) (i27 : Int) (i28 : Int) (i29 : Int) (i30 : Int) (i31 : Int) (i32 : Int) (i33 : Int), [(1, (.pointer (some ((⟨b13, 0, none⟩ : Addr).add 0)))), (2, (.pointer (some ((⟨b14, 0, none⟩ : Addr).add 0)))), (11, (.bool t26))] = env' ∧ K = K' ∧ (.blk b14 56 (Case.cells (Case.mk false i27 i28))) :: (.blk b13 26 (Op.cells (Op.mk i29 i30 i31 i32 i33 p0.cases p0.draws) vp0_cases vp0_draws)) :: G = G' ∧ M_ref3_Single_J1 p0 t26 i27 i28 i29 i30 i31 i32 i33 = some (y0, y1)) ?_ ?_
  · skip
    refine Cw_region ?_
    refine Ow_q rfl rfl rfl (Qt_fieldAddr (m := 0) rfl rfl rfl rfl rfl) ?_
    refine Ow_q rfl rfl rfl (Qt_load1 (v := (.int .i64 p0.kind)) rfl rfl rfl (Rdc.blk (.tail _ (.head _)) rfl)) ?_
    refine Ow_q rfl rfl rfl (Qt_cmp rfl rfl rfl) ?_
    refine Ow_q rfl rfl rfl (Qt_move rfl) ?_
    refine Ow_caseG rfl rfl rfl ?_ ?_
    · intro h34
      have h34 := dcd_f (nt_t (h34))
      have H := iff_ h34 H
      refine Ow_qw rfl rfl rfl rfl rfl rfl (Qt_fieldAddr (m := 0) rfl rfl rfl rfl rfl) ?_
      refine Ow_qw rfl rfl rfl rfl rfl rfl (Qt_load1 (v := (.int .i64 p0.kind)) rfl rfl rfl (Rdc.blk (.tail _ (.head _)) rfl)) ?_
      refine Ow_qw rfl rfl rfl rfl rfl rfl (Qt_cmp rfl rfl rfl) ?_
      refine Ow_q rfl rfl rfl (Qt_pick_t rfl rfl) ?_
      refine Ow_nil ?_
      refine Shift.pull (.there .here) ?_
      refine Shift.pull (.there .here) ?_
      refine Shift.done ?_
      exact ⟨[(1, (.pointer (some ((⟨b13, 0, none⟩ : Addr).add 0)))), (2, (.pointer (some ((⟨b14, 0, none⟩ : Addr).add 0)))), (11, (.bool (!(dcd (p0.kind = 2)))))], ⟨rfl, rfl, rfl, trivial⟩, (!(dcd (p0.kind = 2))), 0, 0, p0.kind, p0.mode, p0.channel, p0.value, p0.deadline, rfl, rfl, rfl, H⟩
    · intro h34
      have h34 := dcd_t (nt_f (h34))
      have H := ift h34 H
      refine Ow_pass rfl rfl rfl rfl rfl rfl rfl ?_
      refine Ow_pass rfl rfl rfl rfl rfl rfl rfl ?_
      refine Ow_pass rfl rfl rfl rfl rfl rfl rfl ?_
      refine Ow_q rfl rfl rfl (Qt_pick_f rfl rfl) ?_
      refine Ow_nil ?_
      refine Shift.pull (.there .here) ?_
      refine Shift.pull (.there .here) ?_
      refine Shift.done ?_
      exact ⟨[(1, (.pointer (some ((⟨b13, 0, none⟩ : Addr).add 0)))), (2, (.pointer (some ((⟨b14, 0, none⟩ : Addr).add 0)))), (11, (.bool false))], ⟨rfl, rfl, rfl, trivial⟩, false, 0, 0, p0.kind, p0.mode, p0.channel, p0.value, p0.deadline, rfl, rfl, rfl, H⟩
  rintro _ _ _ - ⟨t26, i27, i28, i29, i30, i31, i32, i33, rfl, rfl, rfl, H⟩
  unfold M_ref3_Single_J1 at H
  refine Cw_cond rfl ?_ ?_
  · intro h35
    have H := ift h35 H
    refine Cw_seq ?_
    refine Cw_region ?_
    refine Ow_q rfl rfl rfl (Qt_build (cs := (Case.cells (Case.mk false 0 0))) rfl rfl rfl rfl rfl rfl) ?_
    refine Ow_cons rfl (OpW_store (vs := (Case.cells (Case.mk false 0 0))) (all' := (Case.cells (Case.mk false 0 0))) rfl rfl rfl rfl rfl .here rfl rfl rfl ?_)
    refine Ow_q rfl rfl rfl (Qt_assign rfl) ?_
    refine Ow_nil ?_
    refine Cw_ret ?_
    obtain ⟨ey0, ey1⟩ := inj2 H
    subst y0 y1
    refine ⟨(by first | exact .inl rfl | exact .inr rfl), [(.agg (Case.cells (Case.mk false 0 0)).toArray), (.bool false)], ⟨(.agg (Case.cells (Case.mk false 0 0)).toArray), _, rfl, ⟨_, 3, (Case.cells (Case.mk false 0 0)), rfl, rfl, rfl, rfl, ⟨rfl, Rdc.blk (.head _) rfl⟩, rfl⟩, ⟨(.bool false), _, rfl, rfl, rfl⟩⟩, ?_⟩
    refine Shift.rem .here ?_
    refine Shift.rem .here ?_
    refine Shift.done ?_
    exact ⟨rfl, rfl, rfl⟩
  · intro h35
    have H := iff_ (btf h35) H
    refine Cw_skip ?_
    refine Cw_seq ?_
    refine Cw_region ?_
    refine Ow_q rfl rfl rfl (Qt_fieldAddr (m := 0) rfl rfl rfl rfl rfl) ?_
    refine Ow_q rfl rfl rfl (Qt_load1 (v := (.int .i64 i29)) rfl rfl rfl (Rdc.blk (.tail _ (.head _)) rfl)) ?_
    refine Ow_q rfl rfl rfl (Qt_cmp rfl rfl rfl) ?_
    refine Ow_q rfl rfl rfl (Qt_fieldAddr (m := 2) rfl rfl rfl rfl rfl) ?_
    refine Ow_q rfl rfl rfl (Qt_load1 (v := (.int .i64 i31)) rfl rfl rfl (Rdc.blk (.tail _ (.head _)) rfl)) ?_
    refine Ow_q rfl rfl rfl (Qt_fieldAddr (m := 3) rfl rfl rfl rfl rfl) ?_
    refine Ow_q rfl rfl rfl (Qt_load1 (v := (.int .u64 i32)) rfl rfl rfl (Rdc.blk (.tail _ (.head _)) rfl)) ?_
    refine Ow_q rfl rfl rfl (Qt_build (cs := (Case.cells (Case.mk (dcd (i29 = 1)) i31 i32))) rfl rfl rfl rfl rfl rfl) ?_
    refine Ow_cons rfl (OpW_store (vs := (Case.cells (Case.mk (dcd (i29 = 1)) i31 i32))) (all' := (Case.cells (Case.mk (dcd (i29 = 1)) i31 i32))) rfl rfl rfl rfl rfl .here rfl rfl rfl ?_)
    refine Ow_q rfl rfl rfl (Qt_assign rfl) ?_
    refine Ow_nil ?_
    refine Cw_ret ?_
    obtain ⟨ey0, ey1⟩ := inj2 H
    subst y0 y1
    refine ⟨(by first | exact .inl rfl | exact .inr rfl), [(.agg (Case.cells (Case.mk (dcd (i29 = 1)) i31 i32)).toArray), (.bool true)], ⟨(.agg (Case.cells (Case.mk (dcd (i29 = 1)) i31 i32)).toArray), _, rfl, ⟨_, 3, (Case.cells (Case.mk (dcd (i29 = 1)) i31 i32)), rfl, rfl, rfl, rfl, ⟨rfl, Rdc.blk (.head _) rfl⟩, rfl⟩, ⟨(.bool true), _, rfl, rfl, rfl⟩⟩, ?_⟩
    refine Shift.rem .here ?_
    refine Shift.rem .here ?_
    refine Shift.done ?_
    exact ⟨rfl, rfl, rfl⟩

set_option maxHeartbeats 1000000 in
theorem c_M_ref3_Order (p0 : Op) (vp0_cases : SV) (vp0_draws : SV) (y0 : List Int) (H : M_ref3_Order p0 = some y0) (K : Kp) (G : List Ent) (hp0_cases : Slr TyCase K (sv vp0_cases) p0.cases) (hp0_draws : Slr Ty.i64 K (sv vp0_draws) p0.draws) :
    Fc Try.prog 28 #[(.agg (Op.cells p0 vp0_cases vp0_draws).toArray)] K (G) (fun v K' G' => ∃ (wy0 : SV) (rswy0 : List (List Value)), v = (sv wy0) ∧ (.row (sv wy0) 3 1 rswy0.flatten) :: G = G' ∧ RowR Ty.i64 K' rswy0 y0) := by
  refine Fc_body Try.func28 rfl Try.ntmps28 Try.results28 rfl ?_
  unfold M_ref3_Order at H
  refine Cw_seq ?_
  refine Cw_region ?_
  refine Ow_cons rfl (OpW_box (cs := (Op.cells p0 vp0_cases vp0_draws)) rfl rfl rfl (fun b9 => ?_))
  refine Ow_q rfl rfl rfl (Qt_assign rfl) ?_
  refine Ow_nil ?_
  refine Cw_seq ?_
  refine Cw_region ?_
  refine Ow_q rfl rfl rfl (Qt_fieldAddr (m := 5) rfl rfl rfl rfl rfl) ?_
  refine Ow_q rfl rfl rfl (Qt_load1 (v := (sv vp0_cases)) rfl rfl rfl (Rdc.blk (.head _) rfl)) ?_
  refine Ow_q rfl rfl rfl (Q_len (T := TyCase) hp0_cases rfl rfl) ?_
  refine Ow_q rfl rfl rfl (Qt_fieldAddr (m := 6) rfl rfl rfl rfl rfl) ?_
  refine Ow_q rfl rfl rfl (Qt_load1 (v := (sv vp0_draws)) rfl rfl rfl (Rdc.blk (.head _) rfl)) ?_
  obtain ⟨x10, hx11, H⟩ := bnd H
  refine Ow_cons rfl (OpW_call rfl Try.call45 rfl rfl (c_M_ref2_Order (p0.cases.length : Int) p0.draws vp0_draws x10 hx11 _ _ hp0_draws) ?_)
  rintro _ K14 _ hK15 ⟨v12, rs13, rfl, rfl, hs16⟩
  refine Ow_q rfl rfl rfl (Qt_assign rfl) ?_
  refine Ow_nil ?_
  refine Cw_ret ?_
  obtain ey0 := inj1 H
  subst y0
  refine ⟨(by first | exact .inl rfl | exact .inr rfl), [(sv v12)], ⟨(sv v12), _, rfl, rfl, rfl⟩, ?_⟩
  refine Shift.rem (.there .here) ?_
  refine Shift.done ?_
  exact ⟨v12, rs13, rfl, rfl, hs16⟩

set_option maxHeartbeats 1000000 in
theorem c_M_ref3_Locks (p0 : Config) (vp0_capacities : SV) (vp0_starts : SV) (p1 : Op) (vp1_cases : SV) (vp1_draws : SV) (y0 : List Int) (H : M_ref3_Locks p0 p1 = some y0) (K : Kp) (G : List Ent) (hp0_capacities : Slr Ty.i64 K (sv vp0_capacities) p0.capacities) (hp0_starts : Slr Ty.u64 K (sv vp0_starts) p0.starts) (hp1_cases : Slr TyCase K (sv vp1_cases) p1.cases) (hp1_draws : Slr Ty.i64 K (sv vp1_draws) p1.draws) :
    Fc Try.prog 18 #[(.agg (Config.cells p0 vp0_capacities vp0_starts).toArray), (.agg (Op.cells p1 vp1_cases vp1_draws).toArray)] K (G) (fun v K' G' => ∃ (wy0 : SV), v = (sv wy0) ∧ (.tok 3 1 [(sv wy0)]) :: G = G' ∧ Slr Ty.i64 K' (sv wy0) y0) := by
  refine Fc_body Try.func18 rfl Try.ntmps18 Try.results18 rfl ?_
  unfold M_ref3_Locks at H
  refine Cw_seq ?_
  refine Cw_region ?_
  refine Ow_cons rfl (OpW_box (cs := (Config.cells p0 vp0_capacities vp0_starts)) rfl rfl rfl (fun b171 => ?_))
  refine Ow_cons rfl (OpW_box (cs := (Op.cells p1 vp1_cases vp1_draws)) rfl rfl rfl (fun b172 => ?_))
  refine Ow_q rfl rfl rfl (Qt_assign rfl) ?_
  refine Ow_nil ?_
  refine Cw_seq ?_
  refine Cw_region ?_
  refine Ow_q rfl rfl rfl (Qt_assign rfl) ?_
  refine Ow_nil ?_
  refine Cw_join (fun env' K' G' => ∃ (v288 : SV) (l289 : List Int), [(5, (sv v288))] = env' ∧ (.tok 3 1 [(sv v288)]) :: G = G' ∧ M_ref3_Locks_J1 l289 = some y0 ∧ Slr Ty.i64 K' (sv v288) l289) ?_ ?_
  · skip
    refine Cw_seq ?_
    refine Cw_region ?_
    refine Ow_q rfl rfl rfl (Qt_assign rfl) ?_
    refine Ow_nil ?_
    refine Cw_block ?_
    refine Cw_loopM (fun n406 env' K' G' => ∃ (v402 : SV) (l403 : List Int) (i405 : Int), [(2, (.pointer (some ((⟨b171, 0, none⟩ : Addr).add 0)))), (3, (.pointer (some ((⟨b172, 0, none⟩ : Addr).add 0)))), (5, (sv v402)), (6, (.int .i64 i405))] = env' ∧ (.blk b172 26 (Op.cells p1 vp1_cases vp1_draws)) :: (.blk b171 34 (Config.cells p0 vp0_capacities vp0_starts)) :: (.tok 3 1 [(sv v402)]) :: G = G' ∧ lp2 (M_ref3_Locks_L1 p1 p0) n406 l403 i405 = some y0 ∧ Slr Ty.i64 K' (sv v402) l403) BIG ?_ ?_
    · skip
      refine Shift.nilTok1 3 1 ?_
      refine Shift.pull (.there (.there .here)) ?_
      refine Shift.pull (.there (.there .here)) ?_
      refine Shift.done ?_
      exact ⟨[(2, (.pointer (some ((⟨b171, 0, none⟩ : Addr).add 0)))), (3, (.pointer (some ((⟨b172, 0, none⟩ : Addr).add 0)))), (5, (sv nilS)), (6, (.int .i64 0))], ⟨rfl, rfl, rfl, rfl, trivial⟩, nilS, ([] : List Int), 0, rfl, rfl, H, (Slr.nil Ty.i64 _)⟩
    rintro n406 _ K407 _ hK408 ⟨v402, l403, i405, rfl, rfl, H, hs404⟩
    obtain ⟨m409, k410, rfl, hkk411, H⟩ := lps2 H
    unfold M_ref3_Locks_L1 at H
    refine Cw_seq ?_
    refine Cw_seq ?_
    refine Cw_region ?_
    refine Ow_q rfl rfl rfl (Qt_move rfl) ?_
    refine Ow_q rfl rfl rfl (Qt_fieldAddr (m := 0) rfl rfl rfl rfl rfl) ?_
    refine Ow_q rfl rfl rfl (Qt_load1 (v := (sv vp0_capacities)) rfl rfl rfl (Rdc.blk (.tail _ (.head _)) rfl)) ?_
    have hs414 := (hp0_capacities).mono hK408
    refine Ow_q rfl rfl rfl (Q_len (T := Ty.i64) hs414 rfl rfl) ?_
    refine Ow_q rfl rfl rfl (Qt_cmp rfl rfl rfl) ?_
    refine Ow_nil ?_
    refine Cw_cond rfl ?_ ?_
    · intro h415
      have h415 := dcd_t (h415)
      have H := ift h415 H
      refine Cw_skip ?_
      refine Cw_join (fun env' K' G' => ∃ (v461 : SV) (l462 : List Int), [(2, (.pointer (some ((⟨b171, 0, none⟩ : Addr).add 0)))), (3, (.pointer (some ((⟨b172, 0, none⟩ : Addr).add 0)))), (5, (sv v461)), (6, (.int .i64 i405))] = env' ∧ (.blk b172 26 (Op.cells p1 vp1_cases vp1_draws)) :: (.blk b171 34 (Config.cells p0 vp0_capacities vp0_starts)) :: (.tok 3 1 [(sv v461)]) :: G = G' ∧ M_ref3_Locks_J2 i405 p1 p0 k410 l462 = some y0 ∧ Slr Ty.i64 K' (sv v461) l462) ?_ ?_
      · skip
        refine Cw_block ?_
        refine Cw_join (fun env' K' G' => ∃ (t465 : Bool), [(2, (.pointer (some ((⟨b171, 0, none⟩ : Addr).add 0)))), (3, (.pointer (some ((⟨b172, 0, none⟩ : Addr).add 0)))), (5, (sv v402)), (6, (.int .i64 i405)), (7, (.bool t465))] = env' ∧ K407 = K' ∧ (.blk b172 26 (Op.cells p1 vp1_cases vp1_draws)) :: (.blk b171 34 (Config.cells p0 vp0_capacities vp0_starts)) :: (.tok 3 1 [(sv v402)]) :: G = G' ∧ M_ref3_Locks_J3 l403 i405 p1 p0 k410 t465 = some y0) ?_ ?_
        · skip
          refine Cw_region ?_
          refine Ow_q rfl rfl rfl (Qt_fieldAddr (m := 0) rfl rfl rfl rfl rfl) ?_
          refine Ow_q rfl rfl rfl (Qt_load1 (v := (.int .i64 p1.kind)) rfl rfl rfl (Rdc.blk (.head _) rfl)) ?_
          refine Ow_q rfl rfl rfl (Qt_cmp rfl rfl rfl) ?_
          refine Ow_q rfl rfl rfl (Qt_move rfl) ?_
          refine Ow_caseG rfl rfl rfl ?_ ?_
          · intro h466
            have h466 := dcd_f (nt_t (h466))
            have H := iff_ h466 H
            refine Ow_qw rfl rfl rfl rfl rfl rfl (Qt_fieldAddr (m := 2) rfl rfl rfl rfl rfl) ?_
            refine Ow_qw rfl rfl rfl rfl rfl rfl (Qt_load1 (v := (.int .i64 p1.channel)) rfl rfl rfl (Rdc.blk (.head _) rfl)) ?_
            refine Ow_qw rfl rfl rfl rfl rfl rfl (Qt_move rfl) ?_
            refine Ow_qw rfl rfl rfl rfl rfl rfl (Qt_cmp rfl rfl rfl) ?_
            refine Ow_q rfl rfl rfl (Qt_pick_t rfl rfl) ?_
            refine Ow_q rfl rfl rfl (Qt_assign rfl) ?_
            refine Ow_nil ?_
            refine Shift.pull (.there (.there .here)) ?_
            refine Shift.pull (.there (.there .here)) ?_
            refine Shift.pull (.there (.there .here)) ?_
            refine Shift.done ?_
            exact ⟨[(2, (.pointer (some ((⟨b171, 0, none⟩ : Addr).add 0)))), (3, (.pointer (some ((⟨b172, 0, none⟩ : Addr).add 0)))), (5, (sv v402)), (6, (.int .i64 i405)), (7, (.bool (dcd (p1.channel = i405))))], ⟨rfl, rfl, rfl, rfl, rfl, trivial⟩, (dcd (p1.channel = i405)), rfl, rfl, rfl, H⟩
          · intro h466
            have h466 := dcd_t (nt_f (h466))
            have H := ift h466 H
            refine Ow_pass rfl rfl rfl rfl rfl rfl rfl ?_
            refine Ow_pass rfl rfl rfl rfl rfl rfl rfl ?_
            refine Ow_pass rfl rfl rfl rfl rfl rfl rfl ?_
            refine Ow_pass rfl rfl rfl rfl rfl rfl rfl ?_
            refine Ow_q rfl rfl rfl (Qt_pick_f rfl rfl) ?_
            refine Ow_q rfl rfl rfl (Qt_assign rfl) ?_
            refine Ow_nil ?_
            refine Shift.pull (.there (.there .here)) ?_
            refine Shift.pull (.there (.there .here)) ?_
            refine Shift.pull (.there (.there .here)) ?_
            refine Shift.done ?_
            exact ⟨[(2, (.pointer (some ((⟨b171, 0, none⟩ : Addr).add 0)))), (3, (.pointer (some ((⟨b172, 0, none⟩ : Addr).add 0)))), (5, (sv v402)), (6, (.int .i64 i405)), (7, (.bool false))], ⟨rfl, rfl, rfl, rfl, rfl, trivial⟩, false, rfl, rfl, rfl, H⟩
        rintro _ _ _ - ⟨t465, rfl, rfl, rfl, H⟩
        unfold M_ref3_Locks_J3 at H
        refine Cw_join (fun env' K' G' => ∃ (t497 : Bool), [(2, (.pointer (some ((⟨b171, 0, none⟩ : Addr).add 0)))), (3, (.pointer (some ((⟨b172, 0, none⟩ : Addr).add 0)))), (5, (sv v402)), (6, (.int .i64 i405)), (7, (.bool t497))] = env' ∧ (.blk b172 26 (Op.cells p1 vp1_cases vp1_draws)) :: (.blk b171 34 (Config.cells p0 vp0_capacities vp0_starts)) :: (.tok 3 1 [(sv v402)]) :: G = G' ∧ M_ref3_Locks_J4 l403 i405 p1 p0 k410 t497 = some y0) ?_ ?_
        · skip
          refine Cw_seq ?_
          refine Cw_region ?_
          refine Ow_q rfl rfl rfl (Qt_assign rfl) ?_
          refine Ow_nil ?_
          refine Cw_block ?_
          refine Cw_loopM (fun n528 env' K' G' => ∃ (t526 : Bool) (i527 : Int), [(2, (.pointer (some ((⟨b171, 0, none⟩ : Addr).add 0)))), (3, (.pointer (some ((⟨b172, 0, none⟩ : Addr).add 0)))), (5, (sv v402)), (6, (.int .i64 i405)), (7, (.bool t526)), (8, (.int .i64 i527))] = env' ∧ K407 = K' ∧ (.blk b172 26 (Op.cells p1 vp1_cases vp1_draws)) :: (.blk b171 34 (Config.cells p0 vp0_capacities vp0_starts)) :: (.tok 3 1 [(sv v402)]) :: G = G' ∧ lp2 (M_ref3_Locks_L2 l403 i405 p1 p0 k410) n528 t526 i527 = some y0) BIG ?_ ?_
          · skip
            refine Shift.pull (.there (.there .here)) ?_
            refine Shift.pull (.there (.there .here)) ?_
            refine Shift.pull (.there (.there .here)) ?_
            refine Shift.done ?_
            exact ⟨[(2, (.pointer (some ((⟨b171, 0, none⟩ : Addr).add 0)))), (3, (.pointer (some ((⟨b172, 0, none⟩ : Addr).add 0)))), (5, (sv v402)), (6, (.int .i64 i405)), (7, (.bool t465)), (8, (.int .i64 0))], ⟨rfl, rfl, rfl, rfl, rfl, rfl, trivial⟩, t465, 0, rfl, rfl, rfl, H⟩
          rintro n528 _ _ _ - ⟨t526, i527, rfl, rfl, rfl, H⟩
          obtain ⟨m529, k530, rfl, hkk531, H⟩ := lps2 H
          unfold M_ref3_Locks_L2 at H
          refine Cw_seq ?_
          refine Cw_join (fun env' K' G' => ∃ (t538 : Bool), [(2, (.pointer (some ((⟨b171, 0, none⟩ : Addr).add 0)))), (3, (.pointer (some ((⟨b172, 0, none⟩ : Addr).add 0)))), (5, (sv v402)), (6, (.int .i64 i405)), (7, (.bool t526)), (8, (.int .i64 i527)), (34, (.bool t538))] = env' ∧ K407 = K' ∧ (.blk b172 26 (Op.cells p1 vp1_cases vp1_draws)) :: (.blk b171 34 (Config.cells p0 vp0_capacities vp0_starts)) :: (.tok 3 1 [(sv v402)]) :: G = G' ∧ M_ref3_Locks_J5 l403 i405 t526 i527 p1 p0 k410 k530 t538 = some y0) ?_ ?_
          · skip
            refine Cw_region ?_
            refine Ow_q rfl rfl rfl (Qt_move rfl) ?_
            refine Ow_q rfl rfl rfl (Qt_fieldAddr (m := 5) rfl rfl rfl rfl rfl) ?_
            refine Ow_q rfl rfl rfl (Qt_load1 (v := (sv vp1_cases)) rfl rfl rfl (Rdc.blk (.head _) rfl)) ?_
            have hs539 := (hp1_cases).mono hK408
            refine Ow_q rfl rfl rfl (Q_len (T := TyCase) hs539 rfl rfl) ?_
            refine Ow_q rfl rfl rfl (Qt_cmp rfl rfl rfl) ?_
            refine Ow_q rfl rfl rfl (Qt_move rfl) ?_
            refine Ow_caseG rfl rfl rfl ?_ ?_
            · intro h540
              have h540 := dcd_t (h540)
              have H := ift h540 H
              refine Ow_qw rfl rfl rfl rfl rfl rfl (Qt_fieldAddr (m := 0) rfl rfl rfl rfl rfl) ?_
              refine Ow_qw rfl rfl rfl rfl rfl rfl (Qt_load1 (v := (.int .i64 p1.kind)) rfl rfl rfl (Rdc.blk (.head _) rfl)) ?_
              refine Ow_qw rfl rfl rfl rfl rfl rfl (Qt_cmp rfl rfl rfl) ?_
              refine Ow_q rfl rfl rfl (Qt_pick_t rfl rfl) ?_
              refine Ow_nil ?_
              refine Shift.pull (.there (.there .here)) ?_
              refine Shift.pull (.there (.there .here)) ?_
              refine Shift.pull (.there (.there .here)) ?_
              refine Shift.done ?_
              exact ⟨[(2, (.pointer (some ((⟨b171, 0, none⟩ : Addr).add 0)))), (3, (.pointer (some ((⟨b172, 0, none⟩ : Addr).add 0)))), (5, (sv v402)), (6, (.int .i64 i405)), (7, (.bool t526)), (8, (.int .i64 i527)), (34, (.bool (dcd (p1.kind = 4))))], ⟨rfl, rfl, rfl, rfl, rfl, rfl, rfl, trivial⟩, (dcd (p1.kind = 4)), rfl, rfl, rfl, H⟩
            · intro h540
              have h540 := dcd_f (h540)
              have H := iff_ h540 H
              refine Ow_pass rfl rfl rfl rfl rfl rfl rfl ?_
              refine Ow_pass rfl rfl rfl rfl rfl rfl rfl ?_
              refine Ow_pass rfl rfl rfl rfl rfl rfl rfl ?_
              refine Ow_q rfl rfl rfl (Qt_pick_f rfl rfl) ?_
              refine Ow_nil ?_
              refine Shift.pull (.there (.there .here)) ?_
              refine Shift.pull (.there (.there .here)) ?_
              refine Shift.pull (.there (.there .here)) ?_
              refine Shift.done ?_
              exact ⟨[(2, (.pointer (some ((⟨b171, 0, none⟩ : Addr).add 0)))), (3, (.pointer (some ((⟨b172, 0, none⟩ : Addr).add 0)))), (5, (sv v402)), (6, (.int .i64 i405)), (7, (.bool t526)), (8, (.int .i64 i527)), (34, (.bool false))], ⟨rfl, rfl, rfl, rfl, rfl, rfl, rfl, trivial⟩, false, rfl, rfl, rfl, H⟩
          rintro _ _ _ - ⟨t538, rfl, rfl, rfl, H⟩
          unfold M_ref3_Locks_J5 at H
          refine Cw_cond rfl ?_ ?_
          · intro h541
            have H := ift h541 H
            refine Cw_skip ?_
            refine Cw_seq ?_
            refine Cw_block ?_
            refine Cw_region ?_
            refine Ow_q rfl rfl rfl (Qt_move rfl) ?_
            refine Ow_q rfl rfl rfl (Qt_move rfl) ?_
            refine Ow_caseG rfl rfl rfl ?_ ?_
            · intro h549
              have H := ift h549 H
              refine Ow_pass rfl rfl rfl rfl rfl rfl rfl ?_
              refine Ow_pass rfl rfl rfl rfl rfl rfl rfl ?_
              refine Ow_pass rfl rfl rfl rfl rfl rfl rfl ?_
              refine Ow_pass rfl rfl rfl rfl rfl rfl rfl ?_
              refine Ow_pass rfl rfl rfl rfl rfl rfl rfl ?_
              refine Ow_pass rfl rfl rfl rfl rfl rfl rfl ?_
              refine Ow_pass rfl rfl rfl rfl rfl rfl rfl ?_
              refine Ow_pass rfl rfl rfl rfl rfl rfl rfl ?_
              refine Ow_q rfl rfl rfl (Qt_pick_t rfl rfl) ?_
              refine Ow_q rfl rfl rfl (Qt_assign rfl) ?_
              refine Ow_nil ?_
              refine Cw_region ?_
              refine Ow_q rfl rfl rfl (Qt_move rfl) ?_
              refine Ow_q rfl rfl rfl (Qt_arith (e := wI (i527 + 1)) rfl rfl rfl rfl) ?_
              refine Ow_q rfl rfl rfl (Qt_assign rfl) ?_
              refine Ow_nil ?_
              refine Shift.pull (.there (.there .here)) ?_
              refine Shift.pull (.there (.there .here)) ?_
              refine Shift.pull (.there (.there .here)) ?_
              refine Shift.done ?_
              exact ⟨[(2, (.pointer (some ((⟨b171, 0, none⟩ : Addr).add 0)))), (3, (.pointer (some ((⟨b172, 0, none⟩ : Addr).add 0)))), (5, (sv v402)), (6, (.int .i64 i405)), (7, (.bool true)), (8, (.int .i64 (wI (i527 + 1))))], ⟨rfl, rfl, rfl, rfl, rfl, rfl, trivial⟩, _, Nat.lt_succ_self _, true, (wI (i527 + 1)), rfl, rfl, rfl, (hkk531 ▸ H)⟩
            · intro h549
              have H := iff_ (btf h549) H
              refine Ow_qw rfl rfl rfl rfl rfl rfl (Qt_fieldAddr (m := 5) rfl rfl rfl rfl rfl) ?_
              refine Ow_qw rfl rfl rfl rfl rfl rfl (Qt_load1 (v := (sv vp1_cases)) rfl rfl rfl (Rdc.blk (.head _) rfl)) ?_
              refine Ow_qw rfl rfl rfl rfl rfl rfl (Qt_move rfl) ?_
              obtain ⟨x550, hx551, H⟩ := bnd H
              have hs552 := (hp1_cases).mono hK408
              obtain ⟨r553, hr554, hk555⟩ := Slr.at hs552 hx551
              obtain rfl := hr554
              refine Ow_qw rfl rfl rfl rfl rfl rfl (Q_ix (T := TyCase) hs552 hx551 rfl rfl rfl rfl rfl) ?_
              refine Ow_qw rfl rfl rfl rfl rfl rfl (Qt_fieldAddr (m := 1) rfl rfl rfl rfl rfl) ?_
              refine Ow_qw rfl rfl rfl rfl rfl rfl (Qt_load1 (v := (.int .i64 x550.channel)) rfl rfl rfl (Rdc.k hk555 rfl)) ?_
              refine Ow_qw rfl rfl rfl rfl rfl rfl (Qt_move rfl) ?_
              refine Ow_qw rfl rfl rfl rfl rfl rfl (Qt_cmp rfl rfl rfl) ?_
              refine Ow_q rfl rfl rfl (Qt_pick_f rfl rfl) ?_
              refine Ow_q rfl rfl rfl (Qt_assign rfl) ?_
              refine Ow_nil ?_
              refine Cw_region ?_
              refine Ow_q rfl rfl rfl (Qt_move rfl) ?_
              refine Ow_q rfl rfl rfl (Qt_arith (e := wI (i527 + 1)) rfl rfl rfl rfl) ?_
              refine Ow_q rfl rfl rfl (Qt_assign rfl) ?_
              refine Ow_nil ?_
              refine Shift.pull (.there (.there .here)) ?_
              refine Shift.pull (.there (.there .here)) ?_
              refine Shift.pull (.there (.there .here)) ?_
              refine Shift.done ?_
              exact ⟨[(2, (.pointer (some ((⟨b171, 0, none⟩ : Addr).add 0)))), (3, (.pointer (some ((⟨b172, 0, none⟩ : Addr).add 0)))), (5, (sv v402)), (6, (.int .i64 i405)), (7, (.bool (dcd (x550.channel = i405)))), (8, (.int .i64 (wI (i527 + 1))))], ⟨rfl, rfl, rfl, rfl, rfl, rfl, trivial⟩, _, Nat.lt_succ_self _, (dcd (x550.channel = i405)), (wI (i527 + 1)), rfl, rfl, rfl, (hkk531 ▸ H)⟩
          · intro h541
            have H := iff_ (btf h541) H
            refine Cw_exit ?_
            refine Shift.pull (.there (.there .here)) ?_
            refine Shift.pull (.there (.there .here)) ?_
            refine Shift.pull (.there (.there .here)) ?_
            refine Shift.done ?_
            exact ⟨[(2, (.pointer (some ((⟨b171, 0, none⟩ : Addr).add 0)))), (3, (.pointer (some ((⟨b172, 0, none⟩ : Addr).add 0)))), (5, (sv v402)), (6, (.int .i64 i405)), (7, (.bool t526))], ⟨rfl, rfl, rfl, rfl, rfl, trivial⟩, t526, rfl, rfl, H⟩
        rintro _ K556 _ hK557 ⟨t497, rfl, rfl, H⟩
        unfold M_ref3_Locks_J4 at H
        refine Cw_seq ?_
        refine Cw_region ?_
        refine Ow_q rfl rfl rfl (Qt_move rfl) ?_
        refine Ow_nil ?_
        refine Cw_cond rfl ?_ ?_
        · intro h558
          have H := ift h558 H
          refine Cw_region ?_
          refine Ow_q rfl rfl rfl (Qt_move rfl) ?_
          refine Ow_q rfl rfl rfl (Qt_move rfl) ?_
          have hR560 : RowR Ty.i64 K556 [[(.int .i64 i405)]] [i405] := RowR.cons rfl (RowR.nil)
          refine Ow_cons rfl (O_lit (T := Ty.i64) (rows := [[(.int .i64 i405)]]) (l := [i405]) rfl rfl rfl hR560 rfl rfl rfl rfl rfl rfl rfl rfl (fun v559 => ?_))
          obtain ⟨x561, hx562, H⟩ := bnd H
          have hs567 := (hs404).mono hK557
          refine Ow_cons rfl (O_appTok (T := Ty.i64) (bytes := 8) (q := 0) rfl rfl rfl hs567 (.tail _ (.tail _ (.tail _ (.head _)))) rfl (SrcT.row (.head _) hR560 rfl) hx562 rfl rfl rfl rfl rfl rfl rfl rfl (fun v563 K564 hK565 hs566 => ⟨_, (.there (.there (.there .here))), ?_⟩))
          refine Ow.shift (Shift.rem .here (Shift.done ?_))
          refine Ow_q rfl rfl rfl (Qt_assign rfl) ?_
          refine Ow_nil ?_
          refine Shift.pull (.there (.there .here)) ?_
          refine Shift.pull (.there (.there .here)) ?_
          refine Shift.pull (.there (.there .here)) ?_
          refine Shift.done ?_
          exact ⟨[(2, (.pointer (some ((⟨b171, 0, none⟩ : Addr).add 0)))), (3, (.pointer (some ((⟨b172, 0, none⟩ : Addr).add 0)))), (5, (sv v563)), (6, (.int .i64 i405))], ⟨rfl, rfl, rfl, rfl, trivial⟩, v563, x561, rfl, rfl, H, hs566⟩
        · intro h558
          have H := iff_ (btf h558) H
          refine Cw_skip ?_
          refine Shift.pull (.there (.there .here)) ?_
          refine Shift.pull (.there (.there .here)) ?_
          refine Shift.pull (.there (.there .here)) ?_
          have hs568 := (hs404).mono hK557
          refine Shift.done ?_
          exact ⟨[(2, (.pointer (some ((⟨b171, 0, none⟩ : Addr).add 0)))), (3, (.pointer (some ((⟨b172, 0, none⟩ : Addr).add 0)))), (5, (sv v402)), (6, (.int .i64 i405))], ⟨rfl, rfl, rfl, rfl, trivial⟩, v402, l403, rfl, rfl, H, hs568⟩
      rintro _ K569 _ hK570 ⟨v461, l462, rfl, rfl, H, hs463⟩
      unfold M_ref3_Locks_J2 at H
      refine Cw_region ?_
      refine Ow_q rfl rfl rfl (Qt_move rfl) ?_
      refine Ow_q rfl rfl rfl (Qt_arith (e := wI (i405 + 1)) rfl rfl rfl rfl) ?_
      refine Ow_q rfl rfl rfl (Qt_assign rfl) ?_
      refine Ow_nil ?_
      refine Shift.pull (.there (.there .here)) ?_
      refine Shift.pull (.there (.there .here)) ?_
      refine Shift.pull (.there (.there .here)) ?_
      refine Shift.done ?_
      exact ⟨[(2, (.pointer (some ((⟨b171, 0, none⟩ : Addr).add 0)))), (3, (.pointer (some ((⟨b172, 0, none⟩ : Addr).add 0)))), (5, (sv v461)), (6, (.int .i64 (wI (i405 + 1))))], ⟨rfl, rfl, rfl, rfl, trivial⟩, _, Nat.lt_succ_self _, v461, l462, (wI (i405 + 1)), rfl, rfl, (hkk411 ▸ H), hs463⟩
    · intro h415
      have h415 := dcd_f (h415)
      have H := iff_ h415 H
      refine Cw_exit ?_
      refine Shift.pull (.there (.there .here)) ?_
      refine Shift.rem (.there .here) ?_
      refine Shift.rem (.there .here) ?_
      refine Shift.done ?_
      exact ⟨[(5, (sv v402))], ⟨rfl, trivial⟩, v402, l403, rfl, rfl, H, hs404⟩
  rintro _ K571 _ hK572 ⟨v288, l289, rfl, rfl, H, hs290⟩
  unfold M_ref3_Locks_J1 at H
  refine Cw_seq ?_
  refine Cw_region ?_
  refine Ow_q rfl rfl rfl (Qt_move rfl) ?_
  refine Ow_q rfl rfl rfl (Qt_assign rfl) ?_
  refine Ow_nil ?_
  refine Cw_ret ?_
  obtain ey0 := inj1 H
  subst y0
  refine ⟨(by first | exact .inl rfl | exact .inr rfl), [(sv v288)], ⟨(sv v288), _, rfl, rfl, rfl⟩, ?_⟩
  refine Shift.done ?_
  exact ⟨v288, rfl, rfl, hs290⟩

set_option maxHeartbeats 1000000 in
theorem c_M_ref3_Exists (p0 : Config) (vp0_capacities : SV) (vp0_starts : SV) (p1 : Int) (y0 : Bool) (H : M_ref3_Exists p0 p1 = some y0) (K : Kp) (G : List Ent) (hp0_capacities : Slr Ty.i64 K (sv vp0_capacities) p0.capacities) (hp0_starts : Slr Ty.u64 K (sv vp0_starts) p0.starts) :
    Fc Try.prog 21 #[(.agg (Config.cells p0 vp0_capacities vp0_starts).toArray), (.int .i64 p1)] K (G) (fun v K' G' => v = (.bool y0) ∧ K = K' ∧ G = G') := by
  refine Fc_body Try.func21 rfl Try.ntmps21 Try.results21 rfl ?_
  unfold M_ref3_Exists at H
  refine Cw_seq ?_
  refine Cw_region ?_
  refine Ow_cons rfl (OpW_box (cs := (Config.cells p0 vp0_capacities vp0_starts)) rfl rfl rfl (fun b3 => ?_))
  refine Ow_q rfl rfl rfl (Qt_assign rfl) ?_
  refine Ow_nil ?_
  refine Cw_seq ?_
  refine Cw_region ?_
  refine Ow_q rfl rfl rfl (Qt_move rfl) ?_
  refine Ow_q rfl rfl rfl (Qt_cmp rfl rfl rfl) ?_
  refine Ow_q rfl rfl rfl (Qt_move rfl) ?_
  refine Ow_caseG rfl rfl rfl ?_ ?_
  · intro h5
    have h5 := dcd_t (h5)
    have H := ift h5 H
    refine Ow_qw rfl rfl rfl rfl rfl rfl (Qt_move rfl) ?_
    refine Ow_qw rfl rfl rfl rfl rfl rfl (Qt_fieldAddr (m := 0) rfl rfl rfl rfl rfl) ?_
    refine Ow_qw rfl rfl rfl rfl rfl rfl (Qt_load1 (v := (sv vp0_capacities)) rfl rfl rfl (Rdc.blk (.head _) rfl)) ?_
    refine Ow_qw rfl rfl rfl rfl rfl rfl (Q_len (T := Ty.i64) hp0_capacities rfl rfl) ?_
    refine Ow_qw rfl rfl rfl rfl rfl rfl (Qt_cmp rfl rfl rfl) ?_
    refine Ow_q rfl rfl rfl (Qt_pick_t rfl rfl) ?_
    refine Ow_q rfl rfl rfl (Qt_assign rfl) ?_
    refine Ow_nil ?_
    refine Cw_ret ?_
    obtain ey0 := inj1 H
    subst y0
    refine ⟨(by first | exact .inl rfl | exact .inr rfl), [(.bool (dcd (p1 < (p0.capacities.length : Int))))], ⟨(.bool (dcd (p1 < (p0.capacities.length : Int)))), _, rfl, rfl, rfl⟩, ?_⟩
    refine Shift.rem .here ?_
    refine Shift.done ?_
    exact ⟨rfl, rfl, rfl⟩
  · intro h5
    have h5 := dcd_f (h5)
    have H := iff_ h5 H
    refine Ow_pass rfl rfl rfl rfl rfl rfl rfl ?_
    refine Ow_pass rfl rfl rfl rfl rfl rfl rfl ?_
    refine Ow_pass rfl rfl rfl rfl rfl rfl rfl ?_
    refine Ow_pass rfl rfl rfl rfl rfl rfl rfl ?_
    refine Ow_pass rfl rfl rfl rfl rfl rfl rfl ?_
    refine Ow_q rfl rfl rfl (Qt_pick_f rfl rfl) ?_
    refine Ow_q rfl rfl rfl (Qt_assign rfl) ?_
    refine Ow_nil ?_
    refine Cw_ret ?_
    obtain ey0 := inj1 H
    subst y0
    refine ⟨(by first | exact .inl rfl | exact .inr rfl), [(.bool false)], ⟨(.bool false), _, rfl, rfl, rfl⟩, ?_⟩
    refine Shift.rem .here ?_
    refine Shift.done ?_
    exact ⟨rfl, rfl, rfl⟩


end Go.Hx
