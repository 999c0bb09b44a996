/- Printed by program. -/
import Derived.Test.YtlegagccaeoidaaXFM
import Derived.Test.YtlegagccaeoidaaXFWCases1
import Derived.Test.YtlegagccaeoidaaXFWSlices1
namespace Go.Hx
open Go Go.Proofs
set_option linter.unusedSimpArgs false
set_option linter.unusedVariables false
set_option maxRecDepth 10000
set_option maxHeartbeats 1000000 in
theorem c_M_cases_shape (p0 : Op) (vp0_cases : SV) (vp0_draws : SV) (y0 : Bool) (H : M_cases_shape p0 = some y0) (K : Kp) (G : List Ent) (hp0_cases : Slr TyCase K (sv vp0_cases) p0.cases) (hp0_draws : Slr Ty.i64 K (sv vp0_draws) p0.draws) :
    Fc Try.prog 36 #[(.agg (Op.cells p0 vp0_cases vp0_draws).toArray)] K (G) (fun v K' G' => v = (.bool y0) ∧ G = G') := by
  refine Fc_body Try.func36 rfl Try.ntmps36 Try.results36 rfl ?_
  unfold M_cases_shape at H
  refine Cw_seq ?_
  refine Cw_region ?_
  refine Ow_cons rfl (OpW_box (cs := (Op.cells p0 vp0_cases vp0_draws)) rfl rfl rfl (fun b38 => ?_))
  refine Ow_q rfl rfl rfl (Qt_assign rfl) ?_
  refine Ow_nil ?_
  refine Cw_seq ?_
  refine Cw_block ?_
  refine Cw_join (fun env' K' G' => ∃ (t74 : Bool) (i75 : Int) (i76 : Int) (i77 : Int) (i78 : Int) (i79 : Int), [(1, (.pointer (some ((⟨b38, 0, none⟩ : Addr).add 0)))), (3, (.bool t74))] = env' ∧ K = K' ∧ (.blk b38 26 (Op.cells (Op.mk i75 i76 i77 i78 i79 p0.cases p0.draws) vp0_cases vp0_draws)) :: G = G' ∧ M_cases_shape_J1 p0 t74 i75 i76 i77 i78 i79 = some y0) ?_ ?_
  · skip
    refine Cw_region ?_
    refine Ow_q rfl rfl rfl (Qt_fieldAddr (m := 0) rfl rfl rfl rfl rfl) ?_
    refine Ow_q rfl rfl rfl (Qt_load1 (v := (.int .i64 p0.kind)) rfl rfl rfl (Rdc.blk (.head _) rfl)) ?_
    refine Ow_q rfl rfl rfl (Qt_cmp rfl rfl rfl) ?_
    refine Ow_q rfl rfl rfl (Qt_move rfl) ?_
    refine Ow_caseG rfl rfl rfl ?_ ?_
    · intro h80
      have h80 := dcd_f (nt_t (h80))
      have H := iff_ h80 H
      refine Ow_qw rfl rfl rfl rfl rfl rfl (Qt_fieldAddr (m := 0) rfl rfl rfl rfl rfl) ?_
      refine Ow_qw rfl rfl rfl rfl rfl rfl (Qt_load1 (v := (.int .i64 p0.kind)) rfl rfl rfl (Rdc.blk (.head _) rfl)) ?_
      refine Ow_qw rfl rfl rfl rfl rfl rfl (Qt_cmp rfl rfl rfl) ?_
      refine Ow_q rfl rfl rfl (Qt_pick_t rfl rfl) ?_
      refine Ow_q rfl rfl rfl (Qt_move rfl) ?_
      refine Ow_caseG rfl rfl rfl ?_ ?_
      · intro h81
        have h81 := dcd_f (nt_t (h81))
        have H := iff_ h81 H
        refine Ow_qw rfl rfl rfl rfl rfl rfl (Qt_fieldAddr (m := 0) rfl rfl rfl rfl rfl) ?_
        refine Ow_qw rfl rfl rfl rfl rfl rfl (Qt_load1 (v := (.int .i64 p0.kind)) rfl rfl rfl (Rdc.blk (.head _) rfl)) ?_
        refine Ow_qw rfl rfl rfl rfl rfl rfl (Qt_cmp rfl rfl rfl) ?_
        refine Ow_q rfl rfl rfl (Qt_pick_t rfl rfl) ?_
        refine Ow_q rfl rfl rfl (Qt_move rfl) ?_
        refine Ow_caseG rfl rfl rfl ?_ ?_
        · intro h82
          have h82 := dcd_f (nt_t (h82))
          have H := iff_ h82 H
          refine Ow_qw rfl rfl rfl rfl rfl rfl (Qt_fieldAddr (m := 1) rfl rfl rfl rfl rfl) ?_
          refine Ow_qw rfl rfl rfl rfl rfl rfl (Qt_load1 (v := (.int .i64 p0.mode)) rfl rfl rfl (Rdc.blk (.head _) rfl)) ?_
          refine Ow_qw rfl rfl rfl rfl rfl rfl (Qt_cmp rfl rfl rfl) ?_
          refine Ow_q rfl rfl rfl (Qt_pick_t rfl rfl) ?_
          refine Ow_q rfl rfl rfl (Qt_assign rfl) ?_
          refine Ow_nil ?_
          refine Shift.done ?_
          exact ⟨[(1, (.pointer (some ((⟨b38, 0, none⟩ : Addr).add 0)))), (3, (.bool (!(dcd (p0.mode = 0)))))], ⟨rfl, rfl, trivial⟩, (!(dcd (p0.mode = 0))), p0.kind, p0.mode, p0.channel, p0.value, p0.deadline, rfl, rfl, rfl, H⟩
        · intro h82
          have h82 := dcd_t (nt_f (h82))
          have H := ift h82 H
          refine Ow_pass rfl rfl rfl rfl rfl rfl rfl ?_
          refine Ow_pass rfl rfl rfl rfl rfl rfl rfl ?_
          refine Ow_pass rfl rfl rfl rfl rfl rfl rfl ?_
          refine Ow_q rfl rfl rfl (Qt_pick_f rfl rfl) ?_
          refine Ow_q rfl rfl rfl (Qt_assign rfl) ?_
          refine Ow_nil ?_
          refine Shift.done ?_
          exact ⟨[(1, (.pointer (some ((⟨b38, 0, none⟩ : Addr).add 0)))), (3, (.bool false))], ⟨rfl, rfl, trivial⟩, false, p0.kind, p0.mode, p0.channel, p0.value, p0.deadline, rfl, rfl, rfl, H⟩
      · intro h81
        have h81 := dcd_t (nt_f (h81))
        have H := ift h81 H
        refine Ow_pass rfl rfl rfl rfl rfl rfl rfl ?_
        refine Ow_pass rfl rfl rfl rfl rfl rfl rfl ?_
        refine Ow_pass rfl rfl rfl rfl rfl rfl rfl ?_
        refine Ow_q rfl rfl rfl (Qt_pick_f rfl rfl) ?_
        refine Ow_q rfl rfl rfl (Qt_move rfl) ?_
        refine Ow_pass rfl rfl rfl rfl rfl rfl rfl ?_
        refine Ow_pass rfl rfl rfl rfl rfl rfl rfl ?_
        refine Ow_pass rfl rfl rfl rfl rfl rfl rfl ?_
        refine Ow_q rfl rfl rfl (Qt_pick_f rfl rfl) ?_
        refine Ow_q rfl rfl rfl (Qt_assign rfl) ?_
        refine Ow_nil ?_
        refine Shift.done ?_
        exact ⟨[(1, (.pointer (some ((⟨b38, 0, none⟩ : Addr).add 0)))), (3, (.bool false))], ⟨rfl, rfl, trivial⟩, false, p0.kind, p0.mode, p0.channel, p0.value, p0.deadline, rfl, rfl, rfl, H⟩
    · intro h80
      have h80 := dcd_t (nt_f (h80))
      have H := ift h80 H
      refine Ow_pass rfl rfl rfl rfl rfl rfl rfl ?_
      refine Ow_pass rfl rfl rfl rfl rfl rfl rfl ?_
      refine Ow_pass rfl rfl rfl rfl rfl rfl rfl ?_
      refine Ow_q rfl rfl rfl (Qt_pick_f rfl rfl) ?_
      refine Ow_q rfl rfl rfl (Qt_move rfl) ?_
      refine Ow_pass rfl rfl rfl rfl rfl rfl rfl ?_
      refine Ow_pass rfl rfl rfl rfl rfl rfl rfl ?_
      refine Ow_pass rfl rfl rfl rfl rfl rfl rfl ?_
      refine Ow_q rfl rfl rfl (Qt_pick_f rfl rfl) ?_
      refine Ow_q rfl rfl rfl (Qt_move rfl) ?_
      refine Ow_pass rfl rfl rfl rfl rfl rfl rfl ?_
      refine Ow_pass rfl rfl rfl rfl rfl rfl rfl ?_
      refine Ow_pass rfl rfl rfl rfl rfl rfl rfl ?_
      refine Ow_q rfl rfl rfl (Qt_pick_f rfl rfl) ?_
      refine Ow_q rfl rfl rfl (Qt_assign rfl) ?_
      refine Ow_nil ?_
      refine Shift.done ?_
      exact ⟨[(1, (.pointer (some ((⟨b38, 0, none⟩ : Addr).add 0)))), (3, (.bool false))], ⟨rfl, rfl, trivial⟩, false, p0.kind, p0.mode, p0.channel, p0.value, p0.deadline, rfl, rfl, rfl, H⟩
  rintro _ _ _ - ⟨t74, i75, i76, i77, i78, i79, rfl, rfl, rfl, H⟩
  unfold M_cases_shape_J1 at H
  refine Cw_cond rfl ?_ ?_
  · intro h83
    have H := ift h83 H
    refine Cw_seq ?_
    refine Cw_region ?_
    refine Ow_q rfl rfl rfl (Qt_assign rfl) ?_
    refine Ow_nil ?_
    refine Cw_ret ?_
    obtain ey0 := inj1 H
    subst y0
    refine ⟨(by first | exact .inl rfl | exact .inr rfl), [(.bool false)], ⟨(.bool false), _, rfl, rfl, rfl⟩, ?_⟩
    refine Shift.rem .here ?_
    refine Shift.done ?_
    exact ⟨rfl, rfl⟩
  · intro h83
    have H := iff_ (btf h83) H
    refine Cw_join (fun env' K' G' => ∃ (t85 : Bool), [(1, (.pointer (some ((⟨b38, 0, none⟩ : Addr).add 0)))), (22, (.bool t85))] = env' ∧ K = K' ∧ (.blk b38 26 (Op.cells (Op.mk i75 i76 i77 i78 i79 p0.cases p0.draws) vp0_cases vp0_draws)) :: G = G' ∧ M_cases_shape_J2 i75 i76 i77 i78 i79 p0 t85 = some y0) ?_ ?_
    · skip
      refine Cw_region ?_
      refine Ow_q rfl rfl rfl (Qt_fieldAddr (m := 4) rfl rfl rfl rfl rfl) ?_
      refine Ow_q rfl rfl rfl (Qt_load1 (v := (.int .i64 i79)) rfl rfl rfl (Rdc.blk (.head _) rfl)) ?_
      refine Ow_q rfl rfl rfl (Qt_cmp rfl rfl rfl) ?_
      refine Ow_q rfl rfl rfl (Qt_move rfl) ?_
      refine Ow_caseG rfl rfl rfl ?_ ?_
      · intro h86
        have h86 := dcd_f (nt_t (h86))
        have H := iff_ h86 H
        refine Ow_qw rfl rfl rfl rfl rfl rfl (Qt_fieldAddr (m := 1) rfl rfl rfl rfl rfl) ?_
        refine Ow_qw rfl rfl rfl rfl rfl rfl (Qt_load1 (v := (.int .i64 i76)) rfl rfl rfl (Rdc.blk (.head _) rfl)) ?_
        refine Ow_qw rfl rfl rfl rfl rfl rfl (Qt_cmp rfl rfl rfl) ?_
        refine Ow_q rfl rfl rfl (Qt_pick_t rfl rfl) ?_
        refine Ow_q rfl rfl rfl (Qt_assign rfl) ?_
        refine Ow_nil ?_
        refine Shift.done ?_
        exact ⟨[(1, (.pointer (some ((⟨b38, 0, none⟩ : Addr).add 0)))), (22, (.bool (!(dcd (i76 = 2)))))], ⟨rfl, rfl, trivial⟩, (!(dcd (i76 = 2))), rfl, rfl, rfl, H⟩
      · intro h86
        have h86 := dcd_t (nt_f (h86))
        have H := ift h86 H
        refine Ow_pass rfl rfl rfl rfl rfl rfl rfl ?_
        refine Ow_pass rfl rfl rfl rfl rfl rfl rfl ?_
        refine Ow_pass rfl rfl rfl rfl rfl rfl rfl ?_
        refine Ow_q rfl rfl rfl (Qt_pick_f rfl rfl) ?_
        refine Ow_q rfl rfl rfl (Qt_assign rfl) ?_
        refine Ow_nil ?_
        refine Shift.done ?_
        exact ⟨[(1, (.pointer (some ((⟨b38, 0, none⟩ : Addr).add 0)))), (22, (.bool false))], ⟨rfl, rfl, trivial⟩, false, rfl, rfl, rfl, H⟩
    rintro _ _ _ - ⟨t85, rfl, rfl, rfl, H⟩
    unfold M_cases_shape_J2 at H
    refine Cw_cond rfl ?_ ?_
    · intro h87
      have H := ift h87 H
      refine Cw_seq ?_
      refine Cw_region ?_
      refine Ow_q rfl rfl rfl (Qt_assign rfl) ?_
      refine Ow_nil ?_
      refine Cw_ret ?_
      obtain ey0 := inj1 H
      subst y0
      refine ⟨(by first | exact .inl rfl | exact .inr rfl), [(.bool false)], ⟨(.bool false), _, rfl, rfl, rfl⟩, ?_⟩
      refine Shift.rem .here ?_
      refine Shift.done ?_
      exact ⟨rfl, rfl⟩
    · intro h87
      have H := iff_ (btf h87) H
      refine Cw_seq ?_
      refine Cw_region ?_
      refine Ow_q rfl rfl rfl (Qt_fieldAddr (m := 0) rfl rfl rfl rfl rfl) ?_
      refine Ow_q rfl rfl rfl (Qt_load1 (v := (.int .i64 i75)) rfl rfl rfl (Rdc.blk (.head _) rfl)) ?_
      refine Ow_q rfl rfl rfl (Qt_cmp rfl rfl rfl) ?_
      refine Ow_q rfl rfl rfl (Qt_assign rfl) ?_
      refine Ow_nil ?_
      refine Cw_cond rfl ?_ ?_
      · intro h88
        have h88 := dcd_f (nt_t (h88))
        have H := iff_ h88 H
        refine Cw_join (fun env' K' G' => ∃ (t92 : Bool), [(2, (.bool t92))] = env' ∧ K = K' ∧ G = G' ∧ M_cases_shape_J3 t92 = some y0) ?_ ?_
        · skip
          refine Cw_region ?_
          refine Ow_q rfl rfl rfl (Qt_fieldAddr (m := 5) rfl rfl rfl rfl rfl) ?_
          refine Ow_q rfl rfl rfl (Qt_load1 (v := (sv vp0_cases)) rfl rfl rfl (Rdc.blk (.head _) rfl)) ?_
          refine Ow_q rfl rfl rfl (Q_len (T := TyCase) hp0_cases rfl rfl) ?_
          refine Ow_q rfl rfl rfl (Qt_cmp rfl rfl rfl) ?_
          refine Ow_q rfl rfl rfl (Qt_move rfl) ?_
          refine Ow_caseG rfl rfl rfl ?_ ?_
          · intro h93
            have h93 := dcd_t (h93)
            have H := ift h93 H
            refine Ow_qw rfl rfl rfl rfl rfl rfl (Qt_fieldAddr (m := 6) rfl rfl rfl rfl rfl) ?_
            refine Ow_qw rfl rfl rfl rfl rfl rfl (Qt_load1 (v := (sv vp0_draws)) rfl rfl rfl (Rdc.blk (.head _) rfl)) ?_
            refine Ow_qw rfl rfl rfl rfl rfl rfl (Q_len (T := Ty.i64) hp0_draws rfl rfl) ?_
            refine Ow_qw rfl rfl rfl rfl rfl rfl (Qt_cmp rfl rfl rfl) ?_
            refine Ow_q rfl rfl rfl (Qt_pick_t rfl rfl) ?_
            refine Ow_q rfl rfl rfl (Qt_move rfl) ?_
            refine Ow_caseG rfl rfl rfl ?_ ?_
            · intro h94
              have h94 := dcd_t (h94)
              have H := ift h94 H
              refine Ow_qw rfl rfl rfl rfl rfl rfl (Qt_fieldAddr (m := 0) rfl rfl rfl rfl rfl) ?_
              refine Ow_qw rfl rfl rfl rfl rfl rfl (Qt_load1 (v := (.int .i64 i75)) rfl rfl rfl (Rdc.blk (.head _) rfl)) ?_
              refine Ow_qw rfl rfl rfl rfl rfl rfl (Qt_cmp rfl rfl rfl) ?_
              refine Ow_qw rfl rfl rfl rfl rfl rfl (Qt_move rfl) ?_
              refine Ow_caseG rfl rfl rfl ?_ ?_
              · intro h95
                have h95 := dcd_t (h95)
                have H := ift h95 H
                refine Ow_pass rfl rfl rfl rfl rfl rfl rfl ?_
                refine Ow_pass rfl rfl rfl rfl rfl rfl rfl ?_
                refine Ow_pass rfl rfl rfl rfl rfl rfl rfl ?_
                refine Ow_qw rfl rfl rfl rfl rfl rfl (Qt_pick_t rfl rfl) ?_
                refine Ow_q rfl rfl rfl (Qt_pick_t rfl rfl) ?_
                refine Ow_q rfl rfl rfl (Qt_assign rfl) ?_
                refine Ow_nil ?_
                refine Shift.rem .here ?_
                refine Shift.done ?_
                exact ⟨[(2, (.bool true))], ⟨rfl, trivial⟩, true, rfl, rfl, rfl, H⟩
              · intro h95
                have h95 := dcd_f (h95)
                have H := iff_ h95 H
                refine Ow_qw rfl rfl rfl rfl rfl rfl (Qt_fieldAddr (m := 3) rfl rfl rfl rfl rfl) ?_
                refine Ow_qw rfl rfl rfl rfl rfl rfl (Qt_load1 (v := (.int .u64 i78)) rfl rfl rfl (Rdc.blk (.head _) rfl)) ?_
                refine Ow_qw rfl rfl rfl rfl rfl rfl (Qt_cmp rfl rfl rfl) ?_
                refine Ow_qw rfl rfl rfl rfl rfl rfl (Qt_pick_f rfl rfl) ?_
                refine Ow_q rfl rfl rfl (Qt_pick_t rfl rfl) ?_
                refine Ow_q rfl rfl rfl (Qt_assign rfl) ?_
                refine Ow_nil ?_
                refine Shift.rem .here ?_
                refine Shift.done ?_
                exact ⟨[(2, (.bool (dcd (i78 = 0))))], ⟨rfl, trivial⟩, (dcd (i78 = 0)), rfl, rfl, rfl, H⟩
            · intro h94
              have h94 := dcd_f (h94)
              have H := iff_ h94 H
              refine Ow_pass rfl rfl rfl rfl rfl rfl rfl ?_
              refine Ow_pass rfl rfl rfl rfl rfl rfl rfl ?_
              refine Ow_pass rfl rfl rfl rfl rfl rfl rfl ?_
              refine Ow_pass rfl rfl rfl rfl rfl rfl rfl ?_
              refine Ow_passU rfl rfl rfl rfl rfl ?_
              refine Ow_passU rfl rfl rfl rfl rfl ?_
              refine Ow_passU rfl rfl rfl rfl rfl ?_
              refine Ow_pass rfl rfl rfl rfl rfl rfl rfl ?_
              refine Ow_q rfl rfl rfl (Qt_pick_f rfl rfl) ?_
              refine Ow_q rfl rfl rfl (Qt_assign rfl) ?_
              refine Ow_nil ?_
              refine Shift.rem .here ?_
              refine Shift.done ?_
              exact ⟨[(2, (.bool false))], ⟨rfl, trivial⟩, false, rfl, rfl, rfl, H⟩
          · intro h93
            have h93 := dcd_f (h93)
            have H := iff_ h93 H
            refine Ow_pass rfl rfl rfl rfl rfl rfl rfl ?_
            refine Ow_pass rfl rfl rfl rfl rfl rfl rfl ?_
            refine Ow_pass rfl rfl rfl rfl rfl rfl rfl ?_
            refine Ow_pass rfl rfl rfl rfl rfl rfl rfl ?_
            refine Ow_q rfl rfl rfl (Qt_pick_f rfl rfl) ?_
            refine Ow_q rfl rfl rfl (Qt_move rfl) ?_
            refine Ow_pass rfl rfl rfl rfl rfl rfl rfl ?_
            refine Ow_pass rfl rfl rfl rfl rfl rfl rfl ?_
            refine Ow_pass rfl rfl rfl rfl rfl rfl rfl ?_
            refine Ow_pass rfl rfl rfl rfl rfl rfl rfl ?_
            refine Ow_passU rfl rfl rfl rfl rfl ?_
            refine Ow_passU rfl rfl rfl rfl rfl ?_
            refine Ow_passU rfl rfl rfl rfl rfl ?_
            refine Ow_pass rfl rfl rfl rfl rfl rfl rfl ?_
            refine Ow_q rfl rfl rfl (Qt_pick_f rfl rfl) ?_
            refine Ow_q rfl rfl rfl (Qt_assign rfl) ?_
            refine Ow_nil ?_
            refine Shift.rem .here ?_
            refine Shift.done ?_
            exact ⟨[(2, (.bool false))], ⟨rfl, trivial⟩, false, rfl, rfl, rfl, H⟩
        rintro _ _ _ - ⟨t92, rfl, rfl, rfl, H⟩
        unfold M_cases_shape_J3 at H
        refine Cw_ret ?_
        obtain ey0 := inj1 H
        subst y0
        refine ⟨(by first | exact .inl rfl | exact .inr rfl), [(.bool t92)], ⟨(.bool t92), _, rfl, rfl, rfl⟩, ?_⟩
        refine Shift.done ?_
        exact ⟨rfl, rfl⟩
      · intro h88
        have h88 := dcd_t (nt_f (h88))
        have H := ift h88 H
        refine Cw_join (fun env' K' G' => ∃ (t98 : Bool), [(1, (.pointer (some ((⟨b38, 0, none⟩ : Addr).add 0)))), (55, (.bool t98))] = env' ∧ K = K' ∧ (.blk b38 26 (Op.cells (Op.mk i75 i76 i77 i78 i79 p0.cases p0.draws) vp0_cases vp0_draws)) :: G = G' ∧ M_cases_shape_J4 i75 i76 i77 i78 i79 p0 t98 = some y0) ?_ ?_
        · skip
          refine Cw_region ?_
          refine Ow_q rfl rfl rfl (Qt_fieldAddr (m := 2) rfl rfl rfl rfl rfl) ?_
          refine Ow_q rfl rfl rfl (Qt_load1 (v := (.int .i64 i77)) rfl rfl rfl (Rdc.blk (.head _) rfl)) ?_
          refine Ow_q rfl rfl rfl (Qt_cmp rfl rfl rfl) ?_
          refine Ow_q rfl rfl rfl (Qt_move rfl) ?_
          refine Ow_caseG rfl rfl rfl ?_ ?_
          · intro h99
            have h99 := dcd_f (nt_t (h99))
            have H := iff_ h99 H
            refine Ow_pass rfl rfl rfl rfl rfl rfl rfl ?_
            refine Ow_pass rfl rfl rfl rfl rfl rfl rfl ?_
            refine Ow_pass rfl rfl rfl rfl rfl rfl rfl ?_
            refine Ow_q rfl rfl rfl (Qt_pick_t rfl rfl) ?_
            refine Ow_q rfl rfl rfl (Qt_move rfl) ?_
            refine Ow_pass rfl rfl rfl rfl rfl rfl rfl ?_
            refine Ow_pass rfl rfl rfl rfl rfl rfl rfl ?_
            refine Ow_pass rfl rfl rfl rfl rfl rfl rfl ?_
            refine Ow_pass rfl rfl rfl rfl rfl rfl rfl ?_
            refine Ow_pass rfl rfl rfl rfl rfl rfl rfl ?_
            refine Ow_pass rfl rfl rfl rfl rfl rfl rfl ?_
            refine Ow_pass rfl rfl rfl rfl rfl rfl rfl ?_
            refine Ow_q rfl rfl rfl (Qt_pick_t rfl rfl) ?_
            refine Ow_q rfl rfl rfl (Qt_assign rfl) ?_
            refine Ow_nil ?_
            refine Shift.done ?_
            exact ⟨[(1, (.pointer (some ((⟨b38, 0, none⟩ : Addr).add 0)))), (55, (.bool true))], ⟨rfl, rfl, trivial⟩, true, rfl, rfl, rfl, H⟩
          · intro h99
            have h99 := dcd_t (nt_f (h99))
            have H := ift h99 H
            refine Ow_qw rfl rfl rfl rfl rfl rfl (Qt_fieldAddr (m := 3) rfl rfl rfl rfl rfl) ?_
            refine Ow_qw rfl rfl rfl rfl rfl rfl (Qt_load1 (v := (.int .u64 i78)) rfl rfl rfl (Rdc.blk (.head _) rfl)) ?_
            refine Ow_qw rfl rfl rfl rfl rfl rfl (Qt_cmp rfl rfl rfl) ?_
            refine Ow_q rfl rfl rfl (Qt_pick_f rfl rfl) ?_
            refine Ow_q rfl rfl rfl (Qt_move rfl) ?_
            refine Ow_caseG rfl rfl rfl ?_ ?_
            · intro h100
              have h100 := dcd_f (nt_t (h100))
              have H := iff_ h100 H
              refine Ow_pass rfl rfl rfl rfl rfl rfl rfl ?_
              refine Ow_pass rfl rfl rfl rfl rfl rfl rfl ?_
              refine Ow_pass rfl rfl rfl rfl rfl rfl rfl ?_
              refine Ow_pass rfl rfl rfl rfl rfl rfl rfl ?_
              refine Ow_pass rfl rfl rfl rfl rfl rfl rfl ?_
              refine Ow_pass rfl rfl rfl rfl rfl rfl rfl ?_
              refine Ow_pass rfl rfl rfl rfl rfl rfl rfl ?_
              refine Ow_q rfl rfl rfl (Qt_pick_t rfl rfl) ?_
              refine Ow_q rfl rfl rfl (Qt_assign rfl) ?_
              refine Ow_nil ?_
              refine Shift.done ?_
              exact ⟨[(1, (.pointer (some ((⟨b38, 0, none⟩ : Addr).add 0)))), (55, (.bool true))], ⟨rfl, rfl, trivial⟩, true, rfl, rfl, rfl, H⟩
            · intro h100
              have h100 := dcd_t (nt_f (h100))
              have H := ift h100 H
              refine Ow_qw rfl rfl rfl rfl rfl rfl (Qt_fieldAddr (m := 6) rfl rfl rfl rfl rfl) ?_
              refine Ow_qw rfl rfl rfl rfl rfl rfl (Qt_load1 (v := (sv vp0_draws)) rfl rfl rfl (Rdc.blk (.head _) rfl)) ?_
              refine Ow_qw rfl rfl rfl rfl rfl rfl (Q_len (T := Ty.i64) hp0_draws rfl rfl) ?_
              refine Ow_qw rfl rfl rfl rfl rfl rfl (Qt_fieldAddr (m := 5) rfl rfl rfl rfl rfl) ?_
              refine Ow_qw rfl rfl rfl rfl rfl rfl (Qt_load1 (v := (sv vp0_cases)) rfl rfl rfl (Rdc.blk (.head _) rfl)) ?_
              refine Ow_qw rfl rfl rfl rfl rfl rfl (Q_len (T := TyCase) hp0_cases rfl rfl) ?_
              refine Ow_qw rfl rfl rfl rfl rfl rfl (Qt_cmp rfl rfl rfl) ?_
              refine Ow_q rfl rfl rfl (Qt_pick_f rfl rfl) ?_
              refine Ow_q rfl rfl rfl (Qt_assign rfl) ?_
              refine Ow_nil ?_
              refine Shift.done ?_
              exact ⟨[(1, (.pointer (some ((⟨b38, 0, none⟩ : Addr).add 0)))), (55, (.bool (!(dcd ((p0.draws.length : Int) = (p0.cases.length : Int))))))], ⟨rfl, rfl, trivial⟩, (!(dcd ((p0.draws.length : Int) = (p0.cases.length : Int)))), rfl, rfl, rfl, H⟩
        rintro _ _ _ - ⟨t98, rfl, rfl, rfl, H⟩
        unfold M_cases_shape_J4 at H
        refine Cw_cond rfl ?_ ?_
        · intro h101
          have H := ift h101 H
          refine Cw_seq ?_
          refine Cw_region ?_
          refine Ow_q rfl rfl rfl (Qt_assign rfl) ?_
          refine Ow_nil ?_
          refine Cw_ret ?_
          obtain ey0 := inj1 H
          subst y0
          refine ⟨(by first | exact .inl rfl | exact .inr rfl), [(.bool false)], ⟨(.bool false), _, rfl, rfl, rfl⟩, ?_⟩
          refine Shift.rem .here ?_
          refine Shift.done ?_
          exact ⟨rfl, rfl⟩
        · intro h101
          have H := iff_ (btf h101) H
          refine Cw_skip ?_
          refine Cw_seq ?_
          refine Cw_region ?_
          refine Ow_q rfl rfl rfl (Qt_fieldAddr (m := 5) rfl rfl rfl rfl rfl) ?_
          refine Ow_q rfl rfl rfl (Qt_load1 (v := (sv vp0_cases)) rfl rfl rfl (Rdc.blk (.head _) rfl)) ?_
          obtain ⟨x102, hx103, H⟩ := bnd H
          refine Ow_cons rfl (OpW_call rfl Try.call34 rfl rfl (c_M_slices_ContainsFunc_api_Case_api_Case_1f48 p0.cases vp0_cases x102 hx103 _ _ hp0_cases) ?_)
          rintro _ K104 _ hK105 ⟨rfl, rfl⟩
          refine Ow_q rfl rfl rfl (Qt_not rfl) ?_
          refine Ow_q rfl rfl rfl (Qt_assign rfl) ?_
          refine Ow_nil ?_
          refine Cw_ret ?_
          obtain ey0 := inj1 H
          subst y0
          refine ⟨(by first | exact .inl rfl | exact .inr rfl), [(.bool (!(x102)))], ⟨(.bool (!(x102))), _, rfl, rfl, rfl⟩, ?_⟩
          refine Shift.rem .here ?_
          refine Shift.done ?_
          exact ⟨rfl, rfl⟩

set_option maxHeartbeats 1000000 in
theorem c_M_cases_Check (p0 : Op) (vp0_cases : SV) (vp0_draws : SV) (y0 : Int) (H : M_cases_Check p0 = some y0) (K : Kp) (G : List Ent) (hp0_cases : Slr TyCase K (sv vp0_cases) p0.cases) (hp0_draws : Slr Ty.i64 K (sv vp0_draws) p0.draws) :
    Fc Try.prog 12 #[(.agg (Op.cells p0 vp0_cases vp0_draws).toArray)] K (G) (fun v K' G' => v = (.int .i64 y0) ∧ G = G') := by
  refine Fc_body Try.func12 rfl Try.ntmps12 Try.results12 rfl ?_
  unfold M_cases_Check at H
  refine Cw_seq ?_
  refine Cw_region ?_
  refine Ow_cons rfl (OpW_box (cs := (Op.cells p0 vp0_cases vp0_draws)) rfl rfl rfl (fun b100 => ?_))
  refine Ow_q rfl rfl rfl (Qt_assign rfl) ?_
  refine Ow_nil ?_
  refine Cw_seq ?_
  refine Cw_join (fun env' K' G' => ∃ (t109 : Bool), [(1, (.pointer (some ((⟨b100, 0, none⟩ : Addr).add 0)))), (22, (.bool t109))] = env' ∧ K = K' ∧ (.blk b100 26 (Op.cells p0 vp0_cases vp0_draws)) :: G = G' ∧ M_cases_Check_J1 p0 t109 = some y0) ?_ ?_
  · skip
    refine Cw_region ?_
    refine Ow_q rfl rfl rfl (Qt_fieldAddr (m := 0) rfl rfl rfl rfl rfl) ?_
    refine Ow_q rfl rfl rfl (Qt_load1 (v := (.int .i64 p0.kind)) rfl rfl rfl (Rdc.blk (.head _) rfl)) ?_
    refine Ow_q rfl rfl rfl (Qt_cmp rfl rfl rfl) ?_
    refine Ow_q rfl rfl rfl (Qt_move rfl) ?_
    refine Ow_caseG rfl rfl rfl ?_ ?_
    · intro h110
      have h110 := dcd_t (h110)
      have H := ift h110 H
      refine Ow_pass rfl rfl rfl rfl rfl rfl rfl ?_
      refine Ow_pass rfl rfl rfl rfl rfl rfl rfl ?_
      refine Ow_pass rfl rfl rfl rfl rfl rfl rfl ?_
      refine Ow_q rfl rfl rfl (Qt_pick_t rfl rfl) ?_
      refine Ow_q rfl rfl rfl (Qt_move rfl) ?_
      refine Ow_pass rfl rfl rfl rfl rfl rfl rfl ?_
      refine Ow_pass rfl rfl rfl rfl rfl rfl rfl ?_
      refine Ow_pass rfl rfl rfl rfl rfl rfl rfl ?_
      refine Ow_q rfl rfl rfl (Qt_pick_t rfl rfl) ?_
      refine Ow_q rfl rfl rfl (Qt_move rfl) ?_
      refine Ow_pass rfl rfl rfl rfl rfl rfl rfl ?_
      refine Ow_pass rfl rfl rfl rfl rfl rfl rfl ?_
      refine Ow_pass rfl rfl rfl rfl rfl rfl rfl ?_
      refine Ow_q rfl rfl rfl (Qt_pick_t rfl rfl) ?_
      refine Ow_nil ?_
      refine Shift.done ?_
      exact ⟨[(1, (.pointer (some ((⟨b100, 0, none⟩ : Addr).add 0)))), (22, (.bool true))], ⟨rfl, rfl, trivial⟩, true, rfl, rfl, rfl, H⟩
    · intro h110
      have h110 := dcd_f (h110)
      have H := iff_ h110 H
      refine Ow_qw rfl rfl rfl rfl rfl rfl (Qt_fieldAddr (m := 0) rfl rfl rfl rfl rfl) ?_
      refine Ow_qw rfl rfl rfl rfl rfl rfl (Qt_load1 (v := (.int .i64 p0.kind)) rfl rfl rfl (Rdc.blk (.head _) rfl)) ?_
      refine Ow_qw rfl rfl rfl rfl rfl rfl (Qt_cmp rfl rfl rfl) ?_
      refine Ow_q rfl rfl rfl (Qt_pick_f rfl rfl) ?_
      refine Ow_q rfl rfl rfl (Qt_move rfl) ?_
      refine Ow_caseG rfl rfl rfl ?_ ?_
      · intro h111
        have h111 := dcd_t (h111)
        have H := ift h111 H
        refine Ow_pass rfl rfl rfl rfl rfl rfl rfl ?_
        refine Ow_pass rfl rfl rfl rfl rfl rfl rfl ?_
        refine Ow_pass rfl rfl rfl rfl rfl rfl rfl ?_
        refine Ow_q rfl rfl rfl (Qt_pick_t rfl rfl) ?_
        refine Ow_q rfl rfl rfl (Qt_move rfl) ?_
        refine Ow_pass rfl rfl rfl rfl rfl rfl rfl ?_
        refine Ow_pass rfl rfl rfl rfl rfl rfl rfl ?_
        refine Ow_pass rfl rfl rfl rfl rfl rfl rfl ?_
        refine Ow_q rfl rfl rfl (Qt_pick_t rfl rfl) ?_
        refine Ow_nil ?_
        refine Shift.done ?_
        exact ⟨[(1, (.pointer (some ((⟨b100, 0, none⟩ : Addr).add 0)))), (22, (.bool true))], ⟨rfl, rfl, trivial⟩, true, rfl, rfl, rfl, H⟩
      · intro h111
        have h111 := dcd_f (h111)
        have H := iff_ h111 H
        refine Ow_qw rfl rfl rfl rfl rfl rfl (Qt_fieldAddr (m := 1) rfl rfl rfl rfl rfl) ?_
        refine Ow_qw rfl rfl rfl rfl rfl rfl (Qt_load1 (v := (.int .i64 p0.mode)) rfl rfl rfl (Rdc.blk (.head _) rfl)) ?_
        refine Ow_qw rfl rfl rfl rfl rfl rfl (Qt_cmp rfl rfl rfl) ?_
        refine Ow_q rfl rfl rfl (Qt_pick_f rfl rfl) ?_
        refine Ow_q rfl rfl rfl (Qt_move rfl) ?_
        refine Ow_caseG rfl rfl rfl ?_ ?_
        · intro h112
          have h112 := dcd_t (h112)
          have H := ift h112 H
          refine Ow_pass rfl rfl rfl rfl rfl rfl rfl ?_
          refine Ow_pass rfl rfl rfl rfl rfl rfl rfl ?_
          refine Ow_pass rfl rfl rfl rfl rfl rfl rfl ?_
          refine Ow_q rfl rfl rfl (Qt_pick_t rfl rfl) ?_
          refine Ow_nil ?_
          refine Shift.done ?_
          exact ⟨[(1, (.pointer (some ((⟨b100, 0, none⟩ : Addr).add 0)))), (22, (.bool true))], ⟨rfl, rfl, trivial⟩, true, rfl, rfl, rfl, H⟩
        · intro h112
          have h112 := dcd_f (h112)
          have H := iff_ h112 H
          refine Ow_qw rfl rfl rfl rfl rfl rfl (Qt_fieldAddr (m := 1) rfl rfl rfl rfl rfl) ?_
          refine Ow_qw rfl rfl rfl rfl rfl rfl (Qt_load1 (v := (.int .i64 p0.mode)) rfl rfl rfl (Rdc.blk (.head _) rfl)) ?_
          refine Ow_qw rfl rfl rfl rfl rfl rfl (Qt_cmp rfl rfl rfl) ?_
          refine Ow_q rfl rfl rfl (Qt_pick_f rfl rfl) ?_
          refine Ow_nil ?_
          refine Shift.done ?_
          exact ⟨[(1, (.pointer (some ((⟨b100, 0, none⟩ : Addr).add 0)))), (22, (.bool (dcd (p0.mode > 2))))], ⟨rfl, rfl, trivial⟩, (dcd (p0.mode > 2)), rfl, rfl, rfl, H⟩
  rintro _ _ _ - ⟨t109, rfl, rfl, rfl, H⟩
  unfold M_cases_Check_J1 at H
  refine Cw_cond rfl ?_ ?_
  · intro h113
    have H := ift h113 H
    refine Cw_seq ?_
    refine Cw_region ?_
    refine Ow_q rfl rfl rfl (Qt_assign rfl) ?_
    refine Ow_nil ?_
    refine Cw_ret ?_
    obtain ey0 := inj1 H
    subst y0
    refine ⟨(by first | exact .inl rfl | exact .inr rfl), [(.int .i64 2)], ⟨(.int .i64 2), _, rfl, rfl, rfl⟩, ?_⟩
    refine Shift.rem .here ?_
    refine Shift.done ?_
    exact ⟨rfl, rfl⟩
  · intro h113
    have H := iff_ (btf h113) H
    refine Cw_skip ?_
    refine Cw_seq ?_
    refine Cw_join (fun env' K' G' => ∃ (t136 : Bool), [(1, (.pointer (some ((⟨b100, 0, none⟩ : Addr).add 0)))), (41, (.bool t136))] = env' ∧ (.blk b100 26 (Op.cells p0 vp0_cases vp0_draws)) :: G = G' ∧ M_cases_Check_J2 p0 t136 = some y0) ?_ ?_
    · skip
      refine Cw_region ?_
      refine Ow_q rfl rfl rfl (Qt_fieldAddr (m := 2) rfl rfl rfl rfl rfl) ?_
      refine Ow_q rfl rfl rfl (Qt_load1 (v := (.int .i64 p0.channel)) rfl rfl rfl (Rdc.blk (.head _) rfl)) ?_
      obtain ⟨x137, hx138, H⟩ := bnd H
      refine Ow_cons rfl (OpW_call rfl Try.call33 rfl rfl (c_M_cases_channel p0.channel x137 hx138 _ _ ) ?_)
      rintro _ _ _ - ⟨rfl, rfl, rfl⟩
      refine Ow_q rfl rfl rfl (Qt_not rfl) ?_
      refine Ow_q rfl rfl rfl (Qt_move rfl) ?_
      refine Ow_caseG rfl rfl rfl ?_ ?_
      · intro h139
        have h139 := nt_t (h139)
        have H := iff_ (btf h139) H
        refine Ow_pass rfl rfl rfl rfl rfl rfl rfl ?_
        refine Ow_pass rfl rfl rfl rfl rfl rfl rfl ?_
        refine Ow_pass rfl rfl rfl rfl rfl rfl rfl ?_
        refine Ow_q rfl rfl rfl (Qt_pick_t rfl rfl) ?_
        refine Ow_q rfl rfl rfl (Qt_move rfl) ?_
        refine Ow_pass rfl rfl rfl rfl rfl rfl rfl ?_
        refine Ow_pass rfl rfl rfl rfl rfl rfl rfl ?_
        refine Ow_pass rfl rfl rfl rfl rfl rfl rfl ?_
        refine Ow_q rfl rfl rfl (Qt_pick_t rfl rfl) ?_
        refine Ow_q rfl rfl rfl (Qt_move rfl) ?_
        refine Ow_pass rfl rfl rfl rfl rfl rfl rfl ?_
        refine Ow_pass rfl rfl rfl rfl rfl rfl rfl ?_
        refine Ow_pass rfl rfl rfl rfl rfl rfl rfl ?_
        refine Ow_q rfl rfl rfl (Qt_pick_t rfl rfl) ?_
        refine Ow_nil ?_
        refine Shift.done ?_
        exact ⟨[(1, (.pointer (some ((⟨b100, 0, none⟩ : Addr).add 0)))), (41, (.bool true))], ⟨rfl, rfl, trivial⟩, true, rfl, rfl, H⟩
      · intro h139
        have h139 := nt_f (h139)
        have H := ift h139 H
        refine Ow_qw rfl rfl rfl rfl rfl rfl (Qt_fieldAddr (m := 4) rfl rfl rfl rfl rfl) ?_
        refine Ow_qw rfl rfl rfl rfl rfl rfl (Qt_load1 (v := (.int .i64 p0.deadline)) rfl rfl rfl (Rdc.blk (.head _) rfl)) ?_
        refine Ow_qw rfl rfl rfl rfl rfl rfl (Qt_cmp rfl rfl rfl) ?_
        refine Ow_q rfl rfl rfl (Qt_pick_f rfl rfl) ?_
        refine Ow_q rfl rfl rfl (Qt_move rfl) ?_
        refine Ow_caseG rfl rfl rfl ?_ ?_
        · intro h140
          have h140 := dcd_t (h140)
          have H := ift h140 H
          refine Ow_pass rfl rfl rfl rfl rfl rfl rfl ?_
          refine Ow_pass rfl rfl rfl rfl rfl rfl rfl ?_
          refine Ow_pass rfl rfl rfl rfl rfl rfl rfl ?_
          refine Ow_q rfl rfl rfl (Qt_pick_t rfl rfl) ?_
          refine Ow_q rfl rfl rfl (Qt_move rfl) ?_
          refine Ow_pass rfl rfl rfl rfl rfl rfl rfl ?_
          refine Ow_pass rfl rfl rfl rfl rfl rfl rfl ?_
          refine Ow_pass rfl rfl rfl rfl rfl rfl rfl ?_
          refine Ow_q rfl rfl rfl (Qt_pick_t rfl rfl) ?_
          refine Ow_nil ?_
          refine Shift.done ?_
          exact ⟨[(1, (.pointer (some ((⟨b100, 0, none⟩ : Addr).add 0)))), (41, (.bool true))], ⟨rfl, rfl, trivial⟩, true, rfl, rfl, H⟩
        · intro h140
          have h140 := dcd_f (h140)
          have H := iff_ h140 H
          refine Ow_qw rfl rfl rfl rfl rfl rfl (Qt_fieldAddr (m := 4) rfl rfl rfl rfl rfl) ?_
          refine Ow_qw rfl rfl rfl rfl rfl rfl (Qt_load1 (v := (.int .i64 p0.deadline)) rfl rfl rfl (Rdc.blk (.head _) rfl)) ?_
          refine Ow_qw rfl rfl rfl rfl rfl rfl (Qt_cmp rfl rfl rfl) ?_
          refine Ow_q rfl rfl rfl (Qt_pick_f rfl rfl) ?_
          refine Ow_q rfl rfl rfl (Qt_move rfl) ?_
          refine Ow_caseG rfl rfl rfl ?_ ?_
          · intro h141
            have h141 := dcd_t (h141)
            have H := ift h141 H
            refine Ow_pass rfl rfl rfl rfl rfl rfl rfl ?_
            refine Ow_pass rfl rfl rfl rfl rfl rfl rfl ?_
            refine Ow_pass rfl rfl rfl rfl rfl rfl rfl ?_
            refine Ow_q rfl rfl rfl (Qt_pick_t rfl rfl) ?_
            refine Ow_nil ?_
            refine Shift.done ?_
            exact ⟨[(1, (.pointer (some ((⟨b100, 0, none⟩ : Addr).add 0)))), (41, (.bool true))], ⟨rfl, rfl, trivial⟩, true, rfl, rfl, H⟩
          · intro h141
            have h141 := dcd_f (h141)
            have H := iff_ h141 H
            refine Ow_qw rfl rfl rfl rfl rfl rfl (Qt_fieldAddr (m := 5) rfl rfl rfl rfl rfl) ?_
            refine Ow_qw rfl rfl rfl rfl rfl rfl (Qt_load1 (v := (sv vp0_cases)) rfl rfl rfl (Rdc.blk (.head _) rfl)) ?_
            obtain ⟨x142, hx143, H⟩ := bnd H
            refine Ow_want rfl rfl rfl rfl (OpW_call rfl Try.call34 rfl rfl (c_M_slices_ContainsFunc_api_Case_api_Case_1f35 p0.cases vp0_cases x142 hx143 _ _ hp0_cases) ?_)
            rintro _ K144 _ hK145 ⟨rfl, rfl⟩
            refine Ow_q rfl rfl rfl (Qt_pick_f rfl rfl) ?_
            refine Ow_nil ?_
            refine Shift.done ?_
            exact ⟨[(1, (.pointer (some ((⟨b100, 0, none⟩ : Addr).add 0)))), (41, (.bool x142))], ⟨rfl, rfl, trivial⟩, x142, rfl, rfl, H⟩
    rintro _ K146 _ hK147 ⟨t136, rfl, rfl, H⟩
    unfold M_cases_Check_J2 at H
    refine Cw_cond rfl ?_ ?_
    · intro h148
      have H := ift h148 H
      refine Cw_seq ?_
      refine Cw_region ?_
      refine Ow_q rfl rfl rfl (Qt_assign rfl) ?_
      refine Ow_nil ?_
      refine Cw_ret ?_
      obtain ey0 := inj1 H
      subst y0
      refine ⟨(by first | exact .inl rfl | exact .inr rfl), [(.int .i64 2)], ⟨(.int .i64 2), _, rfl, rfl, rfl⟩, ?_⟩
      refine Shift.rem .here ?_
      refine Shift.done ?_
      exact ⟨rfl, rfl⟩
    · intro h148
      have H := iff_ (btf h148) H
      refine Cw_skip ?_
      refine Cw_seq ?_
      refine Cw_join (fun env' K' G' => ∃ (t157 : Bool), [(1, (.pointer (some ((⟨b100, 0, none⟩ : Addr).add 0)))), (51, (.bool t157))] = env' ∧ K146 = K' ∧ (.blk b100 26 (Op.cells p0 vp0_cases vp0_draws)) :: G = G' ∧ M_cases_Check_J3 p0 t157 = some y0) ?_ ?_
      · skip
        refine Cw_region ?_
        refine Ow_q rfl rfl rfl (Qt_fieldAddr (m := 5) rfl rfl rfl rfl rfl) ?_
        refine Ow_q rfl rfl rfl (Qt_load1 (v := (sv vp0_cases)) rfl rfl rfl (Rdc.blk (.head _) rfl)) ?_
        have hs158 := (hp0_cases).mono hK147
        refine Ow_q rfl rfl rfl (Q_len (T := TyCase) hs158 rfl rfl) ?_
        refine Ow_q rfl rfl rfl (Qt_cmp rfl rfl rfl) ?_
        refine Ow_q rfl rfl rfl (Qt_move rfl) ?_
        refine Ow_caseG rfl rfl rfl ?_ ?_
        · intro h159
          have h159 := dcd_t (h159)
          have H := ift h159 H
          refine Ow_pass rfl rfl rfl rfl rfl rfl rfl ?_
          refine Ow_pass rfl rfl rfl rfl rfl rfl rfl ?_
          refine Ow_pass rfl rfl rfl rfl rfl rfl rfl ?_
          refine Ow_pass rfl rfl rfl rfl rfl rfl rfl ?_
          refine Ow_q rfl rfl rfl (Qt_pick_t rfl rfl) ?_
          refine Ow_nil ?_
          refine Shift.done ?_
          exact ⟨[(1, (.pointer (some ((⟨b100, 0, none⟩ : Addr).add 0)))), (51, (.bool true))], ⟨rfl, rfl, trivial⟩, true, rfl, rfl, rfl, H⟩
        · intro h159
          have h159 := dcd_f (h159)
          have H := iff_ h159 H
          refine Ow_qw rfl rfl rfl rfl rfl rfl (Qt_fieldAddr (m := 6) rfl rfl rfl rfl rfl) ?_
          refine Ow_qw rfl rfl rfl rfl rfl rfl (Qt_load1 (v := (sv vp0_draws)) rfl rfl rfl (Rdc.blk (.head _) rfl)) ?_
          have hs160 := (hp0_draws).mono hK147
          refine Ow_qw rfl rfl rfl rfl rfl rfl (Q_len (T := Ty.i64) hs160 rfl rfl) ?_
          refine Ow_qw rfl rfl rfl rfl rfl rfl (Qt_cmp rfl rfl rfl) ?_
          refine Ow_q rfl rfl rfl (Qt_pick_f rfl rfl) ?_
          refine Ow_nil ?_
          refine Shift.done ?_
          exact ⟨[(1, (.pointer (some ((⟨b100, 0, none⟩ : Addr).add 0)))), (51, (.bool (dcd ((p0.draws.length : Int) > 6))))], ⟨rfl, rfl, trivial⟩, (dcd ((p0.draws.length : Int) > 6)), rfl, rfl, rfl, H⟩
      rintro _ _ _ - ⟨t157, rfl, rfl, rfl, H⟩
      unfold M_cases_Check_J3 at H
      refine Cw_cond rfl ?_ ?_
      · intro h161
        have H := ift h161 H
        refine Cw_seq ?_
        refine Cw_region ?_
        refine Ow_q rfl rfl rfl (Qt_assign rfl) ?_
        refine Ow_nil ?_
        refine Cw_ret ?_
        obtain ey0 := inj1 H
        subst y0
        refine ⟨(by first | exact .inl rfl | exact .inr rfl), [(.int .i64 3)], ⟨(.int .i64 3), _, rfl, rfl, rfl⟩, ?_⟩
        refine Shift.rem .here ?_
        refine Shift.done ?_
        exact ⟨rfl, rfl⟩
      · intro h161
        have H := iff_ (btf h161) H
        refine Cw_skip ?_
        refine Cw_join (fun env' K' G' => [(1, (.pointer (some ((⟨b100, 0, none⟩ : Addr).add 0))))] = env' ∧ (.blk b100 26 (Op.cells p0 vp0_cases vp0_draws)) :: G = G' ∧ M_cases_Check_J4 p0 = some y0) ?_ ?_
        · skip
          refine Cw_seq ?_
          refine Cw_region ?_
          refine Ow_q rfl rfl rfl (Qt_fieldAddr (m := 6) rfl rfl rfl rfl rfl) ?_
          refine Ow_q rfl rfl rfl (Qt_load1 (v := (sv vp0_draws)) rfl rfl rfl (Rdc.blk (.head _) rfl)) ?_
          have hs189 := (hp0_draws).mono hK147
          refine Ow_q rfl rfl rfl (Q_len (T := Ty.i64) hs189 rfl rfl) ?_
          refine Ow_q rfl rfl rfl (Qt_move rfl) ?_
          refine Ow_nil ?_
          refine Cw_block ?_
          refine Cw_loopM (fun n216 env' K' G' => ∃ (i215 : Int), [(1, (.pointer (some ((⟨b100, 0, none⟩ : Addr).add 0)))), (53, (sv vp0_draws)), (54, (.int .i64 (p0.draws.length : Int))), (55, (.int .i64 i215))] = env' ∧ K146 = K' ∧ (.blk b100 26 (Op.cells p0 vp0_cases vp0_draws)) :: G = G' ∧ lp1 (M_cases_Check_L1 p0) n216 i215 = some y0) BIG ?_ ?_
          · skip
            refine Shift.done ?_
            exact ⟨[(1, (.pointer (some ((⟨b100, 0, none⟩ : Addr).add 0)))), (53, (sv vp0_draws)), (54, (.int .i64 (p0.draws.length : Int))), (55, (.int .i64 0))], ⟨rfl, rfl, rfl, rfl, trivial⟩, 0, rfl, rfl, rfl, H⟩
          rintro n216 _ _ _ - ⟨i215, rfl, rfl, rfl, H⟩
          obtain ⟨m217, k218, rfl, hkk219, H⟩ := lps1 H
          unfold M_cases_Check_L1 at H
          refine Cw_seq ?_
          refine Cw_region ?_
          refine Ow_q rfl rfl rfl (Qt_cmp rfl rfl rfl) ?_
          refine Ow_nil ?_
          refine Cw_seq ?_
          refine Cw_cond rfl ?_ ?_
          · intro h221
            have h221 := dcd_t (h221)
            have H := ift h221 H
            refine Cw_skip ?_
            refine Cw_seq ?_
            refine Cw_block ?_
            refine Cw_seq ?_
            refine Cw_region ?_
            refine Ow_q rfl rfl rfl (Qt_move rfl) ?_
            obtain ⟨x230, hx231, H⟩ := bnd H
            obtain ⟨r232, hr233, hk234⟩ := Slr.at hs189 hx231
            obtain rfl := hr233
            refine Ow_q rfl rfl rfl (Q_ix (T := Ty.i64) hs189 hx231 rfl rfl rfl rfl rfl) ?_
            refine Ow_q rfl rfl rfl (Qt_load1 (v := (.int .i64 x230)) rfl rfl rfl (Rdc.k hk234 rfl)) ?_
            refine Ow_q rfl rfl rfl (Qt_assign rfl) ?_
            refine Ow_q rfl rfl rfl (Qt_assign rfl) ?_
            refine Ow_nil ?_
            refine Cw_join (fun env' K' G' => ∃ (t236 : Bool), [(1, (.pointer (some ((⟨b100, 0, none⟩ : Addr).add 0)))), (53, (sv vp0_draws)), (54, (.int .i64 (p0.draws.length : Int))), (55, (.int .i64 i215)), (66, (.bool t236))] = env' ∧ K146 = K' ∧ (.blk b100 26 (Op.cells p0 vp0_cases vp0_draws)) :: G = G' ∧ M_cases_Check_J5 p0 i215 k218 t236 = some y0) ?_ ?_
            · skip
              refine Cw_region ?_
              refine Ow_q rfl rfl rfl (Qt_move rfl) ?_
              refine Ow_q rfl rfl rfl (Qt_cmp rfl rfl rfl) ?_
              refine Ow_q rfl rfl rfl (Qt_move rfl) ?_
              refine Ow_caseG rfl rfl rfl ?_ ?_
              · intro h237
                have h237 := dcd_t (h237)
                have H := ift h237 H
                refine Ow_pass rfl rfl rfl rfl rfl rfl rfl ?_
                refine Ow_pass rfl rfl rfl rfl rfl rfl rfl ?_
                refine Ow_pass rfl rfl rfl rfl rfl rfl rfl ?_
                refine Ow_q rfl rfl rfl (Qt_pick_t rfl rfl) ?_
                refine Ow_nil ?_
                refine Shift.done ?_
                exact ⟨[(1, (.pointer (some ((⟨b100, 0, none⟩ : Addr).add 0)))), (53, (sv vp0_draws)), (54, (.int .i64 (p0.draws.length : Int))), (55, (.int .i64 i215)), (66, (.bool true))], ⟨rfl, rfl, rfl, rfl, rfl, trivial⟩, true, rfl, rfl, rfl, H⟩
              · intro h237
                have h237 := dcd_f (h237)
                have H := iff_ h237 H
                refine Ow_qw rfl rfl rfl rfl rfl rfl (Qt_move rfl) ?_
                refine Ow_qw rfl rfl rfl rfl rfl rfl (Qt_move rfl) ?_
                refine Ow_qw rfl rfl rfl rfl rfl rfl (Qt_cmp rfl rfl rfl) ?_
                refine Ow_q rfl rfl rfl (Qt_pick_f rfl rfl) ?_
                refine Ow_nil ?_
                refine Shift.done ?_
                exact ⟨[(1, (.pointer (some ((⟨b100, 0, none⟩ : Addr).add 0)))), (53, (sv vp0_draws)), (54, (.int .i64 (p0.draws.length : Int))), (55, (.int .i64 i215)), (66, (.bool (dcd (x230 > i215))))], ⟨rfl, rfl, rfl, rfl, rfl, trivial⟩, (dcd (x230 > i215)), rfl, rfl, rfl, H⟩
            rintro _ _ _ - ⟨t236, rfl, rfl, rfl, H⟩
            unfold M_cases_Check_J5 at H
            refine Cw_cond rfl ?_ ?_
            · intro h238
              have H := ift h238 H
              refine Cw_seq ?_
              refine Cw_region ?_
              refine Ow_q rfl rfl rfl (Qt_assign rfl) ?_
              refine Ow_nil ?_
              refine Cw_ret ?_
              obtain ey0 := inj1 H
              subst y0
              refine ⟨(by first | exact .inl rfl | exact .inr rfl), [(.int .i64 2)], ⟨(.int .i64 2), _, rfl, rfl, rfl⟩, ?_⟩
              refine Shift.rem .here ?_
              refine Shift.done ?_
              exact ⟨rfl, rfl⟩
            · intro h238
              have H := iff_ (btf h238) H
              refine Cw_skip ?_
              refine Cw_region ?_
              refine Ow_q rfl rfl rfl (Qt_arith (e := wI (i215 + 1)) rfl rfl rfl rfl) ?_
              refine Ow_q rfl rfl rfl (Qt_move rfl) ?_
              refine Ow_nil ?_
              refine Shift.done ?_
              exact ⟨[(1, (.pointer (some ((⟨b100, 0, none⟩ : Addr).add 0)))), (53, (sv vp0_draws)), (54, (.int .i64 (p0.draws.length : Int))), (55, (.int .i64 (wI (i215 + 1))))], ⟨rfl, rfl, rfl, rfl, trivial⟩, _, Nat.lt_succ_self _, (wI (i215 + 1)), rfl, rfl, rfl, (hkk219 ▸ H)⟩
          · intro h221
            have h221 := dcd_f (h221)
            have H := iff_ h221 H
            refine Cw_exit ?_
            refine Shift.done ?_
            exact ⟨[(1, (.pointer (some ((⟨b100, 0, none⟩ : Addr).add 0))))], ⟨rfl, trivial⟩, rfl, rfl, H⟩
        rintro _ K239 _ hK240 ⟨rfl, rfl, H⟩
        unfold M_cases_Check_J4 at H
        refine Cw_seq ?_
        refine Cw_seq ?_
        refine Cw_region ?_
        refine Ow_q rfl rfl rfl (Qt_loadA (m := 7) (cs := (Op.cells p0 vp0_cases vp0_draws)) rfl rfl rfl rfl ⟨rfl, Rdc.blk (.head _) rfl⟩) ?_
        obtain ⟨x248, hx249, H⟩ := bnd H
        have hs250 := ((hp0_cases).mono hK147).mono hK240
        have hs251 := ((hp0_draws).mono hK147).mono hK240
        refine Ow_cons rfl (OpW_call rfl Try.call36 rfl rfl (c_M_cases_shape p0 vp0_cases vp0_draws x248 hx249 _ _ hs250 hs251) ?_)
        rintro _ K252 _ hK253 ⟨rfl, rfl⟩
        refine Ow_q rfl rfl rfl (Qt_not rfl) ?_
        refine Ow_nil ?_
        refine Cw_cond rfl ?_ ?_
        · intro h254
          have h254 := nt_t (h254)
          have H := iff_ (btf h254) H
          refine Cw_seq ?_
          refine Cw_region ?_
          refine Ow_q rfl rfl rfl (Qt_assign rfl) ?_
          refine Ow_nil ?_
          refine Cw_ret ?_
          obtain ey0 := inj1 H
          subst y0
          refine ⟨(by first | exact .inl rfl | exact .inr rfl), [(.int .i64 5)], ⟨(.int .i64 5), _, rfl, rfl, rfl⟩, ?_⟩
          refine Shift.rem .here ?_
          refine Shift.done ?_
          exact ⟨rfl, rfl⟩
        · intro h254
          have h254 := nt_f (h254)
          have H := ift h254 H
          refine Cw_skip ?_
          refine Cw_seq ?_
          refine Cw_region ?_
          refine Ow_q rfl rfl rfl (Qt_assign rfl) ?_
          refine Ow_nil ?_
          refine Cw_ret ?_
          obtain ey0 := inj1 H
          subst y0
          refine ⟨(by first | exact .inl rfl | exact .inr rfl), [(.int .i64 0)], ⟨(.int .i64 0), _, rfl, rfl, rfl⟩, ?_⟩
          refine Shift.rem .here ?_
          refine Shift.done ?_
          exact ⟨rfl, rfl⟩


end Go.Hx
