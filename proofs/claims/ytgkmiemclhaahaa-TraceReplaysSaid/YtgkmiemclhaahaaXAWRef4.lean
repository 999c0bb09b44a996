/- Printed by program. -/
import Derived.Test.YtgkmiemclhaahaaXAM
import Derived.Test.YtgkmiemclhaahaaXAWRef2
namespace Go.Hx
open Go Go.Proofs
set_option linter.unusedSimpArgs false
set_option linter.unusedVariables false
set_option maxRecDepth 10000
set_option maxHeartbeats 1000000 in
theorem c_M_ref4_word (p0 : Memory) (vp0_words : SV) (vp0_lists : SV) (p1 : Int) (y0 : Bool) (H : M_ref4_word p0 p1 = some y0) (K : Kp) (G : List Ent) (hp0_words : Slr Ty.u64 K (sv vp0_words) p0.words) (hp0_lists : Slr (Ty.sl Ty.i64) K (sv vp0_lists) p0.lists) :
    Fc Try.prog 58 #[(.agg (Memory.cells p0 vp0_words vp0_lists).toArray), (.int .i64 p1)] K (G) (fun v K' G' => v = (.bool y0) ∧ K = K' ∧ G = G') := by
  refine Fc_body Try.func58 rfl Try.ntmps58 Try.results58 rfl ?_
  unfold M_ref4_word at H
  refine Cw_seq ?_
  refine Cw_region ?_
  refine Ow_cons rfl (OpW_box (cs := (Memory.cells p0 vp0_words vp0_lists)) rfl rfl rfl (fun b3 => ?_))
  refine Ow_q rfl rfl rfl (Qt_assign rfl) ?_
  refine Ow_nil ?_
  refine Cw_seq ?_
  refine Cw_region ?_
  refine Ow_q rfl rfl rfl (Qt_move rfl) ?_
  refine Ow_q rfl rfl rfl (Qt_cmp rfl rfl rfl) ?_
  refine Ow_q rfl rfl rfl (Qt_move rfl) ?_
  refine Ow_caseG rfl rfl rfl ?_ ?_
  · intro h5
    have h5 := dcd_t (h5)
    have H := ift h5 H
    refine Ow_qw rfl rfl rfl rfl rfl rfl (Qt_move rfl) ?_
    refine Ow_qw rfl rfl rfl rfl rfl rfl (Qt_fieldAddr (m := 0) rfl rfl rfl rfl rfl) ?_
    refine Ow_qw rfl rfl rfl rfl rfl rfl (Qt_load1 (v := (sv vp0_words)) rfl rfl rfl (Rdc.blk (.head _) rfl)) ?_
    refine Ow_qw rfl rfl rfl rfl rfl rfl (Q_len (T := Ty.u64) hp0_words rfl rfl) ?_
    refine Ow_qw rfl rfl rfl rfl rfl rfl (Qt_cmp rfl rfl rfl) ?_
    refine Ow_q rfl rfl rfl (Qt_pick_t rfl rfl) ?_
    refine Ow_q rfl rfl rfl (Qt_assign rfl) ?_
    refine Ow_nil ?_
    refine Cw_ret ?_
    obtain ey0 := inj1 H
    subst y0
    refine ⟨(by first | exact .inl rfl | exact .inr rfl), [(.bool (dcd (p1 < (p0.words.length : Int))))], ⟨(.bool (dcd (p1 < (p0.words.length : Int)))), _, rfl, rfl, rfl⟩, ?_⟩
    refine Shift.rem .here ?_
    refine Shift.done ?_
    exact ⟨rfl, rfl, rfl⟩
  · intro h5
    have h5 := dcd_f (h5)
    have H := iff_ h5 H
    refine Ow_pass rfl rfl rfl rfl rfl rfl rfl ?_
    refine Ow_pass rfl rfl rfl rfl rfl rfl rfl ?_
    refine Ow_pass rfl rfl rfl rfl rfl rfl rfl ?_
    refine Ow_pass rfl rfl rfl rfl rfl rfl rfl ?_
    refine Ow_pass rfl rfl rfl rfl rfl rfl rfl ?_
    refine Ow_q rfl rfl rfl (Qt_pick_f rfl rfl) ?_
    refine Ow_q rfl rfl rfl (Qt_assign rfl) ?_
    refine Ow_nil ?_
    refine Cw_ret ?_
    obtain ey0 := inj1 H
    subst y0
    refine ⟨(by first | exact .inl rfl | exact .inr rfl), [(.bool false)], ⟨(.bool false), _, rfl, rfl, rfl⟩, ?_⟩
    refine Shift.rem .here ?_
    refine Shift.done ?_
    exact ⟨rfl, rfl, rfl⟩

set_option maxHeartbeats 1000000 in
theorem c_M_ref4_Granted (p0 : Memory) (vp0_words : SV) (vp0_lists : SV) (p1 : Access) (y0 : Bool) (H : M_ref4_Granted p0 p1 = some y0) (K : Kp) (G : List Ent) (hp0_words : Slr Ty.u64 K (sv vp0_words) p0.words) (hp0_lists : Slr (Ty.sl Ty.i64) K (sv vp0_lists) p0.lists) :
    Fc Try.prog 37 #[(.agg (Memory.cells p0 vp0_words vp0_lists).toArray), (.agg (Access.cells p1).toArray)] K (G) (fun v K' G' => v = (.bool y0) ∧ K = K' ∧ G = G') := by
  refine Fc_body Try.func37 rfl Try.ntmps37 Try.results37 rfl ?_
  unfold M_ref4_Granted at H
  refine Cw_seq ?_
  refine Cw_region ?_
  refine Ow_cons rfl (OpW_box (cs := (Memory.cells p0 vp0_words vp0_lists)) rfl rfl rfl (fun b25 => ?_))
  refine Ow_cons rfl (OpW_box (cs := (Access.cells p1)) rfl rfl rfl (fun b26 => ?_))
  refine Ow_q rfl rfl rfl (Qt_assign rfl) ?_
  refine Ow_nil ?_
  refine Cw_seq ?_
  refine Cw_seq ?_
  refine Cw_region ?_
  refine Ow_q rfl rfl rfl (Qt_fieldAddr (m := 0) rfl rfl rfl rfl rfl) ?_
  refine Ow_q rfl rfl rfl (Qt_load1 (v := (.int .i64 p1.kind)) rfl rfl rfl (Rdc.blk (.head _) rfl)) ?_
  refine Ow_q rfl rfl rfl (Qt_cmp rfl rfl rfl) ?_
  refine Ow_nil ?_
  refine Cw_cond rfl ?_ ?_
  · intro h48
    have h48 := dcd_t (h48)
    have H := ift h48 H
    refine Cw_join (fun env' K' G' => ∃ (t68 : Bool), [(4, (.bool t68))] = env' ∧ K = K' ∧ G = G' ∧ M_ref4_Granted_J1 t68 = some y0) ?_ ?_
    · skip
      obtain ⟨x69, hx70, H⟩ := bnd H
      rcases bool_ct (!(x69)) with hb_ | hb_ <;> revert hb_
      · intro h71
        have h71 := nt_t (h71)
        have H := iff_ (btf h71) H
        refine Cw_region_any [.blk b26 24 (Access.cells p1), .blk b25 49 (Memory.cells p0 vp0_words vp0_lists)] rfl (Inc.cons (.head _) (Inc.cons (.tail _ (.head _)) Inc.nil)) ?_
        refine Aw_q 0 rfl (by kernel_rfl) (by kernel_rfl) (by kernel_rfl) rfl rfl rfl (Qt_loadA (m := 3) (cs := (Memory.cells p0 vp0_words vp0_lists)) rfl rfl rfl rfl ⟨rfl, Rdc.blk (.tail _ (.head _)) rfl⟩) ?_
        refine Aw_q 1 rfl (by kernel_rfl) (by kernel_rfl) (by kernel_rfl) rfl rfl rfl (Qt_fieldAddr (m := 1) rfl rfl rfl rfl rfl) ?_
        refine Aw_q 2 rfl (by kernel_rfl) (by kernel_rfl) (by kernel_rfl) rfl rfl rfl (Qt_load1 (v := (.int .i64 p1.address)) rfl rfl rfl (Rdc.blk (.head _) rfl)) ?_
        refine Aw_one 3 (by kernel_rfl) (Ax_mk rfl rfl ?_)
        refine OpW_call rfl Try.call58 rfl rfl (c_M_ref4_word p0 vp0_words vp0_lists p1.address x69 hx70 _ _ hp0_words hp0_lists) ?_
        rintro _ _ _ - ⟨rfl, rfl, rfl⟩
        refine ⟨(Inc.cons (.head _) (Inc.cons (.tail _ (.head _)) Inc.nil)), ?_⟩
        refine Aw_q 4 rfl (by kernel_rfl) (by kernel_rfl) (by kernel_rfl) rfl rfl rfl (Qt_not rfl) ?_
        refine Aw_q 5 rfl (by kernel_rfl) (by kernel_rfl) (by kernel_rfl) rfl rfl rfl (Qt_move rfl) ?_
        refine Aw.known (d := 13) rfl (nt_mt (h71)) ?_
        refine Aw_pass 6 rfl (by kernel_rfl) (by kernel_rfl) (by kernel_rfl) rfl rfl rfl rfl rfl rfl rfl ?_
        refine Aw_pass 7 rfl (by kernel_rfl) (by kernel_rfl) (by kernel_rfl) rfl rfl rfl rfl rfl rfl rfl ?_
        refine Aw_pass 8 rfl (by kernel_rfl) (by kernel_rfl) (by kernel_rfl) rfl rfl rfl rfl rfl rfl rfl ?_
        refine Aw_pass 9 rfl (by kernel_rfl) (by kernel_rfl) (by kernel_rfl) rfl rfl rfl rfl rfl rfl rfl ?_
        refine Aw_pass 10 rfl (by kernel_rfl) (by kernel_rfl) (by kernel_rfl) rfl rfl rfl rfl rfl rfl rfl ?_
        refine Aw_pass 11 rfl (by kernel_rfl) (by kernel_rfl) (by kernel_rfl) rfl rfl rfl rfl rfl rfl rfl ?_
        refine Aw_pass 12 rfl (by kernel_rfl) (by kernel_rfl) (by kernel_rfl) rfl rfl rfl rfl rfl rfl rfl ?_
        refine Aw_pass 13 rfl (by kernel_rfl) (by kernel_rfl) (by kernel_rfl) rfl rfl rfl rfl rfl rfl rfl ?_
        refine Aw_pass 14 rfl (by kernel_rfl) (by kernel_rfl) (by kernel_rfl) rfl rfl rfl rfl rfl rfl rfl ?_
        refine Aw_q 15 rfl (by kernel_rfl) (by kernel_rfl) (by kernel_rfl) rfl rfl rfl (Qt_pick_t rfl rfl) ?_
        refine Aw_q 16 rfl (by kernel_rfl) (by kernel_rfl) (by kernel_rfl) rfl rfl rfl (Qt_move rfl) ?_
        refine Aw_pass 17 rfl (by kernel_rfl) (by kernel_rfl) (by kernel_rfl) rfl rfl rfl rfl rfl rfl rfl ?_
        refine Aw_pass 18 rfl (by kernel_rfl) (by kernel_rfl) (by kernel_rfl) rfl rfl rfl rfl rfl rfl rfl ?_
        refine Aw_pass 19 rfl (by kernel_rfl) (by kernel_rfl) (by kernel_rfl) rfl rfl rfl rfl rfl rfl rfl ?_
        refine Aw_pass 20 rfl (by kernel_rfl) (by kernel_rfl) (by kernel_rfl) rfl rfl rfl rfl rfl rfl rfl ?_
        refine Aw_passU 21 rfl (by kernel_rfl) (by kernel_rfl) (by kernel_rfl) rfl rfl rfl rfl rfl ?_
        refine Aw_passU 22 rfl (by kernel_rfl) (by kernel_rfl) (by kernel_rfl) rfl rfl rfl rfl rfl ?_
        refine Aw_passU 23 rfl (by kernel_rfl) (by kernel_rfl) (by kernel_rfl) rfl rfl rfl rfl rfl ?_
        refine Aw_passU 24 rfl (by kernel_rfl) (by kernel_rfl) (by kernel_rfl) rfl rfl rfl rfl rfl ?_
        refine Aw_passU 25 rfl (by kernel_rfl) (by kernel_rfl) (by kernel_rfl) rfl rfl rfl rfl rfl ?_
        refine Aw_passU 26 rfl (by kernel_rfl) (by kernel_rfl) (by kernel_rfl) rfl rfl rfl rfl rfl ?_
        refine Aw_pass 27 rfl (by kernel_rfl) (by kernel_rfl) (by kernel_rfl) rfl rfl rfl rfl rfl rfl rfl ?_
        refine Aw_q 28 rfl (by kernel_rfl) (by kernel_rfl) (by kernel_rfl) rfl rfl rfl (Qt_pick_t rfl rfl) ?_
        refine Aw_q 29 rfl (by kernel_rfl) (by kernel_rfl) (by kernel_rfl) rfl rfl rfl (Qt_assign rfl) ?_
        refine Aw_done (by kernel_rfl) ?_
        refine Shift.rem .here ?_
        refine Shift.rem .here ?_
        refine Shift.done ?_
        exact ⟨[(4, (.bool true))], ⟨rfl, trivial⟩, true, rfl, rfl, rfl, H⟩
      · intro h71
        have h71 := nt_f (h71)
        have H := ift h71 H
        obtain ⟨x72, hx73, H⟩ := bnd H
        rcases bool_ct (!(dcd (x72 = p1.old))) with hb_ | hb_ <;> revert hb_
        · intro h77
          have h77 := dcd_f (nt_t (h77))
          have H := iff_ h77 H
          refine Cw_region_any [.blk b26 24 (Access.cells p1), .blk b25 49 (Memory.cells p0 vp0_words vp0_lists)] rfl (Inc.cons (.head _) (Inc.cons (.tail _ (.head _)) Inc.nil)) ?_
          refine Aw_q 0 rfl (by kernel_rfl) (by kernel_rfl) (by kernel_rfl) rfl rfl rfl (Qt_loadA (m := 3) (cs := (Memory.cells p0 vp0_words vp0_lists)) rfl rfl rfl rfl ⟨rfl, Rdc.blk (.tail _ (.head _)) rfl⟩) ?_
          refine Aw_q 1 rfl (by kernel_rfl) (by kernel_rfl) (by kernel_rfl) rfl rfl rfl (Qt_fieldAddr (m := 1) rfl rfl rfl rfl rfl) ?_
          refine Aw_q 2 rfl (by kernel_rfl) (by kernel_rfl) (by kernel_rfl) rfl rfl rfl (Qt_load1 (v := (.int .i64 p1.address)) rfl rfl rfl (Rdc.blk (.head _) rfl)) ?_
          refine Aw_one 3 (by kernel_rfl) (Ax_mk rfl rfl ?_)
          refine OpW_call rfl Try.call58 rfl rfl (c_M_ref4_word p0 vp0_words vp0_lists p1.address x69 hx70 _ _ hp0_words hp0_lists) ?_
          rintro _ _ _ - ⟨rfl, rfl, rfl⟩
          refine ⟨(Inc.cons (.head _) (Inc.cons (.tail _ (.head _)) Inc.nil)), ?_⟩
          refine Aw_q 4 rfl (by kernel_rfl) (by kernel_rfl) (by kernel_rfl) rfl rfl rfl (Qt_not rfl) ?_
          refine Aw_q 5 rfl (by kernel_rfl) (by kernel_rfl) (by kernel_rfl) rfl rfl rfl (Qt_move rfl) ?_
          refine Aw.known (d := 13) rfl (nt_mf (h71)) ?_
          refine Aw_qw 6 rfl (by kernel_rfl) (by kernel_rfl) (by kernel_rfl) rfl rfl rfl rfl rfl rfl (Qt_fieldAddr (m := 0) rfl rfl rfl rfl rfl) ?_
          refine Aw_qw 7 rfl (by kernel_rfl) (by kernel_rfl) (by kernel_rfl) rfl rfl rfl rfl rfl rfl (Qt_load1 (v := (sv vp0_words)) rfl rfl rfl (Rdc.blk (.tail _ (.head _)) rfl)) ?_
          refine Aw_qw 8 rfl (by kernel_rfl) (by kernel_rfl) (by kernel_rfl) rfl rfl rfl rfl rfl rfl (Qt_fieldAddr (m := 1) rfl rfl rfl rfl rfl) ?_
          refine Aw_qw 9 rfl (by kernel_rfl) (by kernel_rfl) (by kernel_rfl) rfl rfl rfl rfl rfl rfl (Qt_load1 (v := (.int .i64 p1.address)) rfl rfl rfl (Rdc.blk (.head _) rfl)) ?_
          obtain ⟨r78, hr79, hk80⟩ := Slr.at hp0_words hx73
          obtain rfl := hr79
          refine Aw_qw 10 rfl (by kernel_rfl) (by kernel_rfl) (by kernel_rfl) rfl rfl rfl rfl rfl rfl (Q_ix (T := Ty.u64) hp0_words hx73 rfl rfl rfl rfl rfl) ?_
          refine Aw_qw 11 rfl (by kernel_rfl) (by kernel_rfl) (by kernel_rfl) rfl rfl rfl rfl rfl rfl (Qt_load1 (v := (.int .u64 x72)) rfl rfl rfl (Rdc.k hk80 rfl)) ?_
          refine Aw_qw 12 rfl (by kernel_rfl) (by kernel_rfl) (by kernel_rfl) rfl rfl rfl rfl rfl rfl (Qt_fieldAddr (m := 2) rfl rfl rfl rfl rfl) ?_
          refine Aw_qw 13 rfl (by kernel_rfl) (by kernel_rfl) (by kernel_rfl) rfl rfl rfl rfl rfl rfl (Qt_load1 (v := (.int .u64 p1.old)) rfl rfl rfl (Rdc.blk (.head _) rfl)) ?_
          refine Aw_qw 14 rfl (by kernel_rfl) (by kernel_rfl) (by kernel_rfl) rfl rfl rfl rfl rfl rfl (Qt_cmp rfl rfl rfl) ?_
          refine Aw_q 15 rfl (by kernel_rfl) (by kernel_rfl) (by kernel_rfl) rfl rfl rfl (Qt_pick_f rfl rfl) ?_
          refine Aw_q 16 rfl (by kernel_rfl) (by kernel_rfl) (by kernel_rfl) rfl rfl rfl (Qt_move rfl) ?_
          refine Aw.known (d := 24) rfl (nt_mt (dcd_neg h77)) ?_
          refine Aw_pass 17 rfl (by kernel_rfl) (by kernel_rfl) (by kernel_rfl) rfl rfl rfl rfl rfl rfl rfl ?_
          refine Aw_pass 18 rfl (by kernel_rfl) (by kernel_rfl) (by kernel_rfl) rfl rfl rfl rfl rfl rfl rfl ?_
          refine Aw_pass 19 rfl (by kernel_rfl) (by kernel_rfl) (by kernel_rfl) rfl rfl rfl rfl rfl rfl rfl ?_
          refine Aw_pass 20 rfl (by kernel_rfl) (by kernel_rfl) (by kernel_rfl) rfl rfl rfl rfl rfl rfl rfl ?_
          refine Aw_passU 21 rfl (by kernel_rfl) (by kernel_rfl) (by kernel_rfl) rfl rfl rfl rfl rfl ?_
          refine Aw_passU 22 rfl (by kernel_rfl) (by kernel_rfl) (by kernel_rfl) rfl rfl rfl rfl rfl ?_
          refine Aw_passU 23 rfl (by kernel_rfl) (by kernel_rfl) (by kernel_rfl) rfl rfl rfl rfl rfl ?_
          refine Aw_passU 24 rfl (by kernel_rfl) (by kernel_rfl) (by kernel_rfl) rfl rfl rfl rfl rfl ?_
          refine Aw_passU 25 rfl (by kernel_rfl) (by kernel_rfl) (by kernel_rfl) rfl rfl rfl rfl rfl ?_
          refine Aw_passU 26 rfl (by kernel_rfl) (by kernel_rfl) (by kernel_rfl) rfl rfl rfl rfl rfl ?_
          refine Aw_pass 27 rfl (by kernel_rfl) (by kernel_rfl) (by kernel_rfl) rfl rfl rfl rfl rfl rfl rfl ?_
          refine Aw_q 28 rfl (by kernel_rfl) (by kernel_rfl) (by kernel_rfl) rfl rfl rfl (Qt_pick_t rfl rfl) ?_
          refine Aw_q 29 rfl (by kernel_rfl) (by kernel_rfl) (by kernel_rfl) rfl rfl rfl (Qt_assign rfl) ?_
          refine Aw_done (by kernel_rfl) ?_
          refine Shift.rem .here ?_
          refine Shift.rem .here ?_
          refine Shift.done ?_
          exact ⟨[(4, (.bool true))], ⟨rfl, trivial⟩, true, rfl, rfl, rfl, H⟩
        · intro h77
          have h77 := dcd_t (nt_f (h77))
          have H := ift h77 H
          rcases bool_ct (dcd (p1.until_ > 0)) with hb_ | hb_ <;> revert hb_
          · intro h81
            have h81 := dcd_t (h81)
            have H := ift h81 H
            refine Cw_region_any [.blk b26 24 (Access.cells p1), .blk b25 49 (Memory.cells p0 vp0_words vp0_lists)] rfl (Inc.cons (.head _) (Inc.cons (.tail _ (.head _)) Inc.nil)) ?_
            refine Aw_q 0 rfl (by kernel_rfl) (by kernel_rfl) (by kernel_rfl) rfl rfl rfl (Qt_loadA (m := 3) (cs := (Memory.cells p0 vp0_words vp0_lists)) rfl rfl rfl rfl ⟨rfl, Rdc.blk (.tail _ (.head _)) rfl⟩) ?_
            refine Aw_q 1 rfl (by kernel_rfl) (by kernel_rfl) (by kernel_rfl) rfl rfl rfl (Qt_fieldAddr (m := 1) rfl rfl rfl rfl rfl) ?_
            refine Aw_q 2 rfl (by kernel_rfl) (by kernel_rfl) (by kernel_rfl) rfl rfl rfl (Qt_load1 (v := (.int .i64 p1.address)) rfl rfl rfl (Rdc.blk (.head _) rfl)) ?_
            refine Aw_one 3 (by kernel_rfl) (Ax_mk rfl rfl ?_)
            refine OpW_call rfl Try.call58 rfl rfl (c_M_ref4_word p0 vp0_words vp0_lists p1.address x69 hx70 _ _ hp0_words hp0_lists) ?_
            rintro _ _ _ - ⟨rfl, rfl, rfl⟩
            refine ⟨(Inc.cons (.head _) (Inc.cons (.tail _ (.head _)) Inc.nil)), ?_⟩
            refine Aw_q 4 rfl (by kernel_rfl) (by kernel_rfl) (by kernel_rfl) rfl rfl rfl (Qt_not rfl) ?_
            refine Aw_q 5 rfl (by kernel_rfl) (by kernel_rfl) (by kernel_rfl) rfl rfl rfl (Qt_move rfl) ?_
            refine Aw.known (d := 13) rfl (nt_mf (h71)) ?_
            refine Aw_qw 6 rfl (by kernel_rfl) (by kernel_rfl) (by kernel_rfl) rfl rfl rfl rfl rfl rfl (Qt_fieldAddr (m := 0) rfl rfl rfl rfl rfl) ?_
            refine Aw_qw 7 rfl (by kernel_rfl) (by kernel_rfl) (by kernel_rfl) rfl rfl rfl rfl rfl rfl (Qt_load1 (v := (sv vp0_words)) rfl rfl rfl (Rdc.blk (.tail _ (.head _)) rfl)) ?_
            refine Aw_qw 8 rfl (by kernel_rfl) (by kernel_rfl) (by kernel_rfl) rfl rfl rfl rfl rfl rfl (Qt_fieldAddr (m := 1) rfl rfl rfl rfl rfl) ?_
            refine Aw_qw 9 rfl (by kernel_rfl) (by kernel_rfl) (by kernel_rfl) rfl rfl rfl rfl rfl rfl (Qt_load1 (v := (.int .i64 p1.address)) rfl rfl rfl (Rdc.blk (.head _) rfl)) ?_
            obtain ⟨r82, hr83, hk84⟩ := Slr.at hp0_words hx73
            obtain rfl := hr83
            refine Aw_qw 10 rfl (by kernel_rfl) (by kernel_rfl) (by kernel_rfl) rfl rfl rfl rfl rfl rfl (Q_ix (T := Ty.u64) hp0_words hx73 rfl rfl rfl rfl rfl) ?_
            refine Aw_qw 11 rfl (by kernel_rfl) (by kernel_rfl) (by kernel_rfl) rfl rfl rfl rfl rfl rfl (Qt_load1 (v := (.int .u64 x72)) rfl rfl rfl (Rdc.k hk84 rfl)) ?_
            refine Aw_qw 12 rfl (by kernel_rfl) (by kernel_rfl) (by kernel_rfl) rfl rfl rfl rfl rfl rfl (Qt_fieldAddr (m := 2) rfl rfl rfl rfl rfl) ?_
            refine Aw_qw 13 rfl (by kernel_rfl) (by kernel_rfl) (by kernel_rfl) rfl rfl rfl rfl rfl rfl (Qt_load1 (v := (.int .u64 p1.old)) rfl rfl rfl (Rdc.blk (.head _) rfl)) ?_
            refine Aw_qw 14 rfl (by kernel_rfl) (by kernel_rfl) (by kernel_rfl) rfl rfl rfl rfl rfl rfl (Qt_cmp rfl rfl rfl) ?_
            refine Aw_q 15 rfl (by kernel_rfl) (by kernel_rfl) (by kernel_rfl) rfl rfl rfl (Qt_pick_f rfl rfl) ?_
            refine Aw_q 16 rfl (by kernel_rfl) (by kernel_rfl) (by kernel_rfl) rfl rfl rfl (Qt_move rfl) ?_
            refine Aw.known (d := 24) rfl (nt_mf (dcd_pos h77)) ?_
            refine Aw_qw 17 rfl (by kernel_rfl) (by kernel_rfl) (by kernel_rfl) rfl rfl rfl rfl rfl rfl (Qt_fieldAddr (m := 4) rfl rfl rfl rfl rfl) ?_
            refine Aw_qw 18 rfl (by kernel_rfl) (by kernel_rfl) (by kernel_rfl) rfl rfl rfl rfl rfl rfl (Qt_load1 (v := (.int .i64 p1.until_)) rfl rfl rfl (Rdc.blk (.head _) rfl)) ?_
            refine Aw_qw 19 rfl (by kernel_rfl) (by kernel_rfl) (by kernel_rfl) rfl rfl rfl rfl rfl rfl (Qt_cmp rfl rfl rfl) ?_
            refine Aw_qw 20 rfl (by kernel_rfl) (by kernel_rfl) (by kernel_rfl) rfl rfl rfl rfl rfl rfl (Qt_move rfl) ?_
            refine Aw.known (d := 28) rfl (dcd_pos h81) ?_
            refine Aw_qw 21 rfl (by kernel_rfl) (by kernel_rfl) (by kernel_rfl) rfl rfl rfl rfl rfl rfl (Qt_fieldAddr (m := 4) rfl rfl rfl rfl rfl) ?_
            refine Aw_qw 22 rfl (by kernel_rfl) (by kernel_rfl) (by kernel_rfl) rfl rfl rfl rfl rfl rfl (Qt_load1 (v := (.int .i64 p1.until_)) rfl rfl rfl (Rdc.blk (.head _) rfl)) ?_
            refine Aw_qw 23 rfl (by kernel_rfl) (by kernel_rfl) (by kernel_rfl) rfl rfl rfl rfl rfl rfl (Qt_arith (e := wI (p1.until_ - 1)) rfl rfl rfl rfl) ?_
            refine Aw_qw 24 rfl (by kernel_rfl) (by kernel_rfl) (by kernel_rfl) rfl rfl rfl rfl rfl rfl (Qt_fieldAddr (m := 2) rfl rfl rfl rfl rfl) ?_
            refine Aw_qw 25 rfl (by kernel_rfl) (by kernel_rfl) (by kernel_rfl) rfl rfl rfl rfl rfl rfl (Qt_load1 (v := (.int .i64 p0.tick)) rfl rfl rfl (Rdc.blk (.tail _ (.head _)) rfl)) ?_
            refine Aw_qw 26 rfl (by kernel_rfl) (by kernel_rfl) (by kernel_rfl) rfl rfl rfl rfl rfl rfl (Qt_cmp rfl rfl rfl) ?_
            refine Aw_qw 27 rfl (by kernel_rfl) (by kernel_rfl) (by kernel_rfl) rfl rfl rfl rfl rfl rfl (Qt_pick_t rfl rfl) ?_
            refine Aw_q 28 rfl (by kernel_rfl) (by kernel_rfl) (by kernel_rfl) rfl rfl rfl (Qt_pick_f rfl rfl) ?_
            refine Aw_q 29 rfl (by kernel_rfl) (by kernel_rfl) (by kernel_rfl) rfl rfl rfl (Qt_assign rfl) ?_
            refine Aw_done (by kernel_rfl) ?_
            refine Shift.rem .here ?_
            refine Shift.rem .here ?_
            refine Shift.done ?_
            exact ⟨[(4, (.bool (dcd ((wI (p1.until_ - 1)) ≤ p0.tick))))], ⟨rfl, trivial⟩, (dcd ((wI (p1.until_ - 1)) ≤ p0.tick)), rfl, rfl, rfl, H⟩
          · intro h81
            have h81 := dcd_f (h81)
            have H := iff_ h81 H
            refine Cw_region_any [.blk b26 24 (Access.cells p1), .blk b25 49 (Memory.cells p0 vp0_words vp0_lists)] rfl (Inc.cons (.head _) (Inc.cons (.tail _ (.head _)) Inc.nil)) ?_
            refine Aw_q 0 rfl (by kernel_rfl) (by kernel_rfl) (by kernel_rfl) rfl rfl rfl (Qt_loadA (m := 3) (cs := (Memory.cells p0 vp0_words vp0_lists)) rfl rfl rfl rfl ⟨rfl, Rdc.blk (.tail _ (.head _)) rfl⟩) ?_
            refine Aw_q 1 rfl (by kernel_rfl) (by kernel_rfl) (by kernel_rfl) rfl rfl rfl (Qt_fieldAddr (m := 1) rfl rfl rfl rfl rfl) ?_
            refine Aw_q 2 rfl (by kernel_rfl) (by kernel_rfl) (by kernel_rfl) rfl rfl rfl (Qt_load1 (v := (.int .i64 p1.address)) rfl rfl rfl (Rdc.blk (.head _) rfl)) ?_
            refine Aw_one 3 (by kernel_rfl) (Ax_mk rfl rfl ?_)
            refine OpW_call rfl Try.call58 rfl rfl (c_M_ref4_word p0 vp0_words vp0_lists p1.address x69 hx70 _ _ hp0_words hp0_lists) ?_
            rintro _ _ _ - ⟨rfl, rfl, rfl⟩
            refine ⟨(Inc.cons (.head _) (Inc.cons (.tail _ (.head _)) Inc.nil)), ?_⟩
            refine Aw_q 4 rfl (by kernel_rfl) (by kernel_rfl) (by kernel_rfl) rfl rfl rfl (Qt_not rfl) ?_
            refine Aw_q 5 rfl (by kernel_rfl) (by kernel_rfl) (by kernel_rfl) rfl rfl rfl (Qt_move rfl) ?_
            refine Aw.known (d := 13) rfl (nt_mf (h71)) ?_
            refine Aw_qw 6 rfl (by kernel_rfl) (by kernel_rfl) (by kernel_rfl) rfl rfl rfl rfl rfl rfl (Qt_fieldAddr (m := 0) rfl rfl rfl rfl rfl) ?_
            refine Aw_qw 7 rfl (by kernel_rfl) (by kernel_rfl) (by kernel_rfl) rfl rfl rfl rfl rfl rfl (Qt_load1 (v := (sv vp0_words)) rfl rfl rfl (Rdc.blk (.tail _ (.head _)) rfl)) ?_
            refine Aw_qw 8 rfl (by kernel_rfl) (by kernel_rfl) (by kernel_rfl) rfl rfl rfl rfl rfl rfl (Qt_fieldAddr (m := 1) rfl rfl rfl rfl rfl) ?_
            refine Aw_qw 9 rfl (by kernel_rfl) (by kernel_rfl) (by kernel_rfl) rfl rfl rfl rfl rfl rfl (Qt_load1 (v := (.int .i64 p1.address)) rfl rfl rfl (Rdc.blk (.head _) rfl)) ?_
            obtain ⟨r85, hr86, hk87⟩ := Slr.at hp0_words hx73
            obtain rfl := hr86
            refine Aw_qw 10 rfl (by kernel_rfl) (by kernel_rfl) (by kernel_rfl) rfl rfl rfl rfl rfl rfl (Q_ix (T := Ty.u64) hp0_words hx73 rfl rfl rfl rfl rfl) ?_
            refine Aw_qw 11 rfl (by kernel_rfl) (by kernel_rfl) (by kernel_rfl) rfl rfl rfl rfl rfl rfl (Qt_load1 (v := (.int .u64 x72)) rfl rfl rfl (Rdc.k hk87 rfl)) ?_
            refine Aw_qw 12 rfl (by kernel_rfl) (by kernel_rfl) (by kernel_rfl) rfl rfl rfl rfl rfl rfl (Qt_fieldAddr (m := 2) rfl rfl rfl rfl rfl) ?_
            refine Aw_qw 13 rfl (by kernel_rfl) (by kernel_rfl) (by kernel_rfl) rfl rfl rfl rfl rfl rfl (Qt_load1 (v := (.int .u64 p1.old)) rfl rfl rfl (Rdc.blk (.head _) rfl)) ?_
            refine Aw_qw 14 rfl (by kernel_rfl) (by kernel_rfl) (by kernel_rfl) rfl rfl rfl rfl rfl rfl (Qt_cmp rfl rfl rfl) ?_
            refine Aw_q 15 rfl (by kernel_rfl) (by kernel_rfl) (by kernel_rfl) rfl rfl rfl (Qt_pick_f rfl rfl) ?_
            refine Aw_q 16 rfl (by kernel_rfl) (by kernel_rfl) (by kernel_rfl) rfl rfl rfl (Qt_move rfl) ?_
            refine Aw.known (d := 24) rfl (nt_mf (dcd_pos h77)) ?_
            refine Aw_qw 17 rfl (by kernel_rfl) (by kernel_rfl) (by kernel_rfl) rfl rfl rfl rfl rfl rfl (Qt_fieldAddr (m := 4) rfl rfl rfl rfl rfl) ?_
            refine Aw_qw 18 rfl (by kernel_rfl) (by kernel_rfl) (by kernel_rfl) rfl rfl rfl rfl rfl rfl (Qt_load1 (v := (.int .i64 p1.until_)) rfl rfl rfl (Rdc.blk (.head _) rfl)) ?_
            refine Aw_qw 19 rfl (by kernel_rfl) (by kernel_rfl) (by kernel_rfl) rfl rfl rfl rfl rfl rfl (Qt_cmp rfl rfl rfl) ?_
            refine Aw_qw 20 rfl (by kernel_rfl) (by kernel_rfl) (by kernel_rfl) rfl rfl rfl rfl rfl rfl (Qt_move rfl) ?_
            refine Aw.known (d := 28) rfl (dcd_neg h81) ?_
            refine Aw_pass 21 rfl (by kernel_rfl) (by kernel_rfl) (by kernel_rfl) rfl rfl rfl rfl rfl rfl rfl ?_
            refine Aw_pass 22 rfl (by kernel_rfl) (by kernel_rfl) (by kernel_rfl) rfl rfl rfl rfl rfl rfl rfl ?_
            refine Aw_pass 23 rfl (by kernel_rfl) (by kernel_rfl) (by kernel_rfl) rfl rfl rfl rfl rfl rfl rfl ?_
            refine Aw_pass 24 rfl (by kernel_rfl) (by kernel_rfl) (by kernel_rfl) rfl rfl rfl rfl rfl rfl rfl ?_
            refine Aw_pass 25 rfl (by kernel_rfl) (by kernel_rfl) (by kernel_rfl) rfl rfl rfl rfl rfl rfl rfl ?_
            refine Aw_pass 26 rfl (by kernel_rfl) (by kernel_rfl) (by kernel_rfl) rfl rfl rfl rfl rfl rfl rfl ?_
            refine Aw_qw 27 rfl (by kernel_rfl) (by kernel_rfl) (by kernel_rfl) rfl rfl rfl rfl rfl rfl (Qt_pick_f rfl rfl) ?_
            refine Aw_q 28 rfl (by kernel_rfl) (by kernel_rfl) (by kernel_rfl) rfl rfl rfl (Qt_pick_f rfl rfl) ?_
            refine Aw_q 29 rfl (by kernel_rfl) (by kernel_rfl) (by kernel_rfl) rfl rfl rfl (Qt_assign rfl) ?_
            refine Aw_done (by kernel_rfl) ?_
            refine Shift.rem .here ?_
            refine Shift.rem .here ?_
            refine Shift.done ?_
            exact ⟨[(4, (.bool false))], ⟨rfl, trivial⟩, false, rfl, rfl, rfl, H⟩
    rintro _ _ _ - ⟨t68, rfl, rfl, rfl, H⟩
    unfold M_ref4_Granted_J1 at H
    refine Cw_ret ?_
    obtain ey0 := inj1 H
    subst y0
    refine ⟨(by first | exact .inl rfl | exact .inr rfl), [(.bool t68)], ⟨(.bool t68), _, rfl, rfl, rfl⟩, ?_⟩
    refine Shift.done ?_
    exact ⟨rfl, rfl, rfl⟩
  · intro h48
    have h48 := dcd_f (h48)
    have H := iff_ h48 H
    refine Cw_skip ?_
    refine Cw_seq ?_
    refine Cw_region ?_
    refine Ow_q rfl rfl rfl (Qt_fieldAddr (m := 0) rfl rfl rfl rfl rfl) ?_
    refine Ow_q rfl rfl rfl (Qt_load1 (v := (.int .i64 p1.kind)) rfl rfl rfl (Rdc.blk (.head _) rfl)) ?_
    refine Ow_q rfl rfl rfl (Qt_cmp rfl rfl rfl) ?_
    refine Ow_q rfl rfl rfl (Qt_move rfl) ?_
    refine Ow_caseG rfl rfl rfl ?_ ?_
    · intro h89
      have h89 := dcd_t (h89)
      have H := ift h89 H
      refine Ow_qw rfl rfl rfl rfl rfl rfl (Qt_fieldAddr (m := 0) rfl rfl rfl rfl rfl) ?_
      refine Ow_qw rfl rfl rfl rfl rfl rfl (Qt_load1 (v := (.int .i64 p1.kind)) rfl rfl rfl (Rdc.blk (.head _) rfl)) ?_
      refine Ow_qw rfl rfl rfl rfl rfl rfl (Qt_cmp rfl rfl rfl) ?_
      refine Ow_q rfl rfl rfl (Qt_pick_t rfl rfl) ?_
      refine Ow_q rfl rfl rfl (Qt_assign rfl) ?_
      refine Ow_nil ?_
      refine Cw_ret ?_
      obtain ey0 := inj1 H
      subst y0
      refine ⟨(by first | exact .inl rfl | exact .inr rfl), [(.bool (dcd (p1.kind ≤ 9)))], ⟨(.bool (dcd (p1.kind ≤ 9))), _, rfl, rfl, rfl⟩, ?_⟩
      refine Shift.rem .here ?_
      refine Shift.rem .here ?_
      refine Shift.done ?_
      exact ⟨rfl, rfl, rfl⟩
    · intro h89
      have h89 := dcd_f (h89)
      have H := iff_ h89 H
      refine Ow_pass rfl rfl rfl rfl rfl rfl rfl ?_
      refine Ow_pass rfl rfl rfl rfl rfl rfl rfl ?_
      refine Ow_pass rfl rfl rfl rfl rfl rfl rfl ?_
      refine Ow_q rfl rfl rfl (Qt_pick_f rfl rfl) ?_
      refine Ow_q rfl rfl rfl (Qt_assign rfl) ?_
      refine Ow_nil ?_
      refine Cw_ret ?_
      obtain ey0 := inj1 H
      subst y0
      refine ⟨(by first | exact .inl rfl | exact .inr rfl), [(.bool false)], ⟨(.bool false), _, rfl, rfl, rfl⟩, ?_⟩
      refine Shift.rem .here ?_
      refine Shift.rem .here ?_
      refine Shift.done ?_
      exact ⟨rfl, rfl, rfl⟩

set_option maxHeartbeats 1000000 in
theorem c_M_ref4_list (p0 : Memory) (vp0_words : SV) (vp0_lists : SV) (p1 : Int) (y0 : Bool) (H : M_ref4_list p0 p1 = some y0) (K : Kp) (G : List Ent) (hp0_words : Slr Ty.u64 K (sv vp0_words) p0.words) (hp0_lists : Slr (Ty.sl Ty.i64) K (sv vp0_lists) p0.lists) :
    Fc Try.prog 55 #[(.agg (Memory.cells p0 vp0_words vp0_lists).toArray), (.int .i64 p1)] K (G) (fun v K' G' => v = (.bool y0) ∧ K = K' ∧ G = G') := by
  refine Fc_body Try.func55 rfl Try.ntmps55 Try.results55 rfl ?_
  unfold M_ref4_list at H
  refine Cw_seq ?_
  refine Cw_region ?_
  refine Ow_cons rfl (OpW_box (cs := (Memory.cells p0 vp0_words vp0_lists)) rfl rfl rfl (fun b3 => ?_))
  refine Ow_q rfl rfl rfl (Qt_assign rfl) ?_
  refine Ow_nil ?_
  refine Cw_seq ?_
  refine Cw_region ?_
  refine Ow_q rfl rfl rfl (Qt_move rfl) ?_
  refine Ow_q rfl rfl rfl (Qt_cmp rfl rfl rfl) ?_
  refine Ow_q rfl rfl rfl (Qt_move rfl) ?_
  refine Ow_caseG rfl rfl rfl ?_ ?_
  · intro h5
    have h5 := dcd_t (h5)
    have H := ift h5 H
    refine Ow_qw rfl rfl rfl rfl rfl rfl (Qt_move rfl) ?_
    refine Ow_qw rfl rfl rfl rfl rfl rfl (Qt_fieldAddr (m := 1) rfl rfl rfl rfl rfl) ?_
    refine Ow_qw rfl rfl rfl rfl rfl rfl (Qt_load1 (v := (sv vp0_lists)) rfl rfl rfl (Rdc.blk (.head _) rfl)) ?_
    refine Ow_qw rfl rfl rfl rfl rfl rfl (Q_len (T := (Ty.sl Ty.i64)) hp0_lists rfl rfl) ?_
    refine Ow_qw rfl rfl rfl rfl rfl rfl (Qt_cmp rfl rfl rfl) ?_
    refine Ow_q rfl rfl rfl (Qt_pick_t rfl rfl) ?_
    refine Ow_q rfl rfl rfl (Qt_assign rfl) ?_
    refine Ow_nil ?_
    refine Cw_ret ?_
    obtain ey0 := inj1 H
    subst y0
    refine ⟨(by first | exact .inl rfl | exact .inr rfl), [(.bool (dcd (p1 < (p0.lists.length : Int))))], ⟨(.bool (dcd (p1 < (p0.lists.length : Int)))), _, rfl, rfl, rfl⟩, ?_⟩
    refine Shift.rem .here ?_
    refine Shift.done ?_
    exact ⟨rfl, rfl, rfl⟩
  · intro h5
    have h5 := dcd_f (h5)
    have H := iff_ h5 H
    refine Ow_pass rfl rfl rfl rfl rfl rfl rfl ?_
    refine Ow_pass rfl rfl rfl rfl rfl rfl rfl ?_
    refine Ow_pass rfl rfl rfl rfl rfl rfl rfl ?_
    refine Ow_pass rfl rfl rfl rfl rfl rfl rfl ?_
    refine Ow_pass rfl rfl rfl rfl rfl rfl rfl ?_
    refine Ow_q rfl rfl rfl (Qt_pick_f rfl rfl) ?_
    refine Ow_q rfl rfl rfl (Qt_assign rfl) ?_
    refine Ow_nil ?_
    refine Cw_ret ?_
    obtain ey0 := inj1 H
    subst y0
    refine ⟨(by first | exact .inl rfl | exact .inr rfl), [(.bool false)], ⟨(.bool false), _, rfl, rfl, rfl⟩, ?_⟩
    refine Shift.rem .here ?_
    refine Shift.done ?_
    exact ⟨rfl, rfl, rfl⟩

set_option maxHeartbeats 1000000 in
theorem c_M_ref4_without (p0 : List Int) (vp0 : SV) (p1 : Int) (y0 : List Int) (H : M_ref4_without p0 p1 = some y0) (K : Kp) (G : List Ent) (hp0 : Slr Ty.i64 K (sv vp0) p0) :
    Fc Try.prog 56 #[(sv vp0), (.int .i64 p1)] K (G) (fun v K' G' => ∃ (wy0 : SV), v = (sv wy0) ∧ G = G' ∧ Slr Ty.i64 K' (sv wy0) y0) := by
  refine Fc_body Try.func56 rfl Try.ntmps56 Try.results56 rfl ?_
  unfold M_ref4_without at H
  refine Cw_seq ?_
  refine Cw_region ?_
  refine Ow_q rfl rfl rfl (Qt_assign rfl) ?_
  refine Ow_nil ?_
  refine Cw_join (fun env' K' G' => [(0, (sv vp0))] = env' ∧ G = G' ∧ M_ref4_without_J1 p0 = some y0) ?_ ?_
  · skip
    refine Cw_seq ?_
    refine Cw_region ?_
    refine Ow_q rfl rfl rfl (Qt_assign rfl) ?_
    refine Ow_nil ?_
    refine Cw_block ?_
    refine Cw_loopM (fun n249 env' K' G' => ∃ (i248 : Int), [(0, (sv vp0)), (1, (.int .i64 p1)), (5, (.int .i64 i248))] = env' ∧ K = K' ∧ G = G' ∧ lp1 (M_ref4_without_L1 p0 p1) n249 i248 = some y0) BIG ?_ ?_
    · skip
      refine Shift.done ?_
      exact ⟨[(0, (sv vp0)), (1, (.int .i64 p1)), (5, (.int .i64 0))], ⟨rfl, rfl, rfl, trivial⟩, 0, rfl, rfl, rfl, H⟩
    rintro n249 _ _ _ - ⟨i248, rfl, rfl, rfl, H⟩
    obtain ⟨m250, k251, rfl, hkk252, H⟩ := lps1 H
    unfold M_ref4_without_L1 at H
    refine Cw_seq ?_
    refine Cw_seq ?_
    refine Cw_region ?_
    refine Ow_q rfl rfl rfl (Qt_move rfl) ?_
    refine Ow_q rfl rfl rfl (Qt_move rfl) ?_
    refine Ow_q rfl rfl rfl (Q_len (T := Ty.i64) hp0 rfl rfl) ?_
    refine Ow_q rfl rfl rfl (Qt_cmp rfl rfl rfl) ?_
    refine Ow_nil ?_
    refine Cw_cond rfl ?_ ?_
    · intro h254
      have h254 := dcd_t (h254)
      have H := ift h254 H
      refine Cw_skip ?_
      refine Cw_seq ?_
      refine Cw_block ?_
      refine Cw_seq ?_
      refine Cw_region ?_
      refine Ow_q rfl rfl rfl (Qt_move rfl) ?_
      refine Ow_q rfl rfl rfl (Qt_move rfl) ?_
      obtain ⟨x291, hx292, H⟩ := bnd H
      obtain ⟨r293, hr294, hk295⟩ := Slr.at hp0 hx292
      obtain rfl := hr294
      refine Ow_q rfl rfl rfl (Q_ix (T := Ty.i64) hp0 hx292 rfl rfl rfl rfl rfl) ?_
      refine Ow_q rfl rfl rfl (Qt_load1 (v := (.int .i64 x291)) rfl rfl rfl (Rdc.k hk295 rfl)) ?_
      refine Ow_q rfl rfl rfl (Qt_move rfl) ?_
      refine Ow_q rfl rfl rfl (Qt_cmp rfl rfl rfl) ?_
      refine Ow_nil ?_
      refine Cw_cond rfl ?_ ?_
      · intro h296
        have h296 := dcd_t (h296)
        have H := ift h296 H
        refine Cw_seq ?_
        obtain ⟨x327, hx328, H⟩ := bnd H
        obtain ⟨x330, hx331, H⟩ := bnd H
        obtain ⟨x336, hx337, H⟩ := bnd H
        obtain ⟨x340, hx341, H⟩ := bnd H
        refine Cw_region_any [] rfl Inc.nil ?_
        refine Aw_q 0 rfl (by kernel_rfl) (by kernel_rfl) (by kernel_rfl) rfl rfl rfl (Qt_move rfl) ?_
        refine Aw_q 1 rfl (by kernel_rfl) (by kernel_rfl) (by kernel_rfl) rfl rfl rfl (Qt_move rfl) ?_
        have hs346 := Slr.cut hp0 hx328
        refine Aw_q 2 rfl (by kernel_rfl) (by kernel_rfl) (by kernel_rfl) rfl rfl rfl (Q_cutH (T := Ty.i64) hp0 hx328 rfl rfl rfl rfl) ?_
        refine Aw_q 4 rfl (by kernel_rfl) (by kernel_rfl) (by kernel_rfl) rfl rfl rfl (Qt_move rfl) ?_
        refine Aw_q 5 rfl (by kernel_rfl) (by kernel_rfl) (by kernel_rfl) rfl rfl rfl (Qt_move rfl) ?_
        refine Aw_q 6 rfl (by kernel_rfl) (by kernel_rfl) (by kernel_rfl) rfl rfl rfl (Qt_arith (e := wI (i248 + 1)) rfl rfl rfl rfl) ?_
        have hs347 := Slr.cutL hp0 hx337
        refine Aw_q 7 rfl (by kernel_rfl) (by kernel_rfl) (by kernel_rfl) rfl rfl rfl (Q_cutL (T := Ty.i64) hp0 hx337 rfl rfl rfl rfl rfl) ?_
        refine Aw_one 3 (by kernel_rfl) (Ax_mk rfl rfl ?_)
        refine OpW.shift (Shift.nilTok1 3 1 (Shift.done ?_))
        refine O_appTok (T := Ty.i64) (bytes := 8) (q := 0) rfl rfl rfl (Slr.nil Ty.i64 _) (.head _) rfl (SrcT.sl hs346) hx331 rfl rfl rfl rfl rfl rfl rfl rfl (fun v348 K349 hK350 hs351 => ⟨_, .here, ⟨Inc.nil, ?_⟩⟩)
        refine Aw_one 8 (by kernel_rfl) (Ax_mk rfl rfl ?_)
        have hs352 := (hs347).mono hK350
        refine O_appTok (T := Ty.i64) (bytes := 8) (q := 0) rfl rfl rfl hs351 (.head _) rfl (SrcT.sl hs352) hx341 rfl rfl rfl rfl rfl rfl rfl rfl (fun v353 K354 hK355 hs356 => ⟨_, .here, ⟨Inc.nil, ?_⟩⟩)
        refine Aw_q 9 rfl (by kernel_rfl) (by kernel_rfl) (by kernel_rfl) rfl rfl rfl (Qt_assign rfl) ?_
        refine Aw_done (by kernel_rfl) ?_
        refine Cw_ret ?_
        obtain ey0 := inj1 H
        subst y0
        refine ⟨(by first | exact .inl rfl | exact .inr rfl), [(sv v353)], ⟨(sv v353), _, rfl, rfl, rfl⟩, ?_⟩
        refine Shift.rem .here ?_
        refine Shift.done ?_
        exact ⟨v353, rfl, rfl, hs356⟩
      · intro h296
        have h296 := dcd_f (h296)
        have H := iff_ h296 H
        refine Cw_skip ?_
        refine Cw_region ?_
        refine Ow_q rfl rfl rfl (Qt_move rfl) ?_
        refine Ow_q rfl rfl rfl (Qt_arith (e := wI (i248 + 1)) rfl rfl rfl rfl) ?_
        refine Ow_q rfl rfl rfl (Qt_assign rfl) ?_
        refine Ow_nil ?_
        refine Shift.done ?_
        exact ⟨[(0, (sv vp0)), (1, (.int .i64 p1)), (5, (.int .i64 (wI (i248 + 1))))], ⟨rfl, rfl, rfl, trivial⟩, _, Nat.lt_succ_self _, (wI (i248 + 1)), rfl, rfl, rfl, (hkk252 ▸ H)⟩
    · intro h254
      have h254 := dcd_f (h254)
      have H := iff_ h254 H
      refine Cw_exit ?_
      refine Shift.done ?_
      exact ⟨[(0, (sv vp0))], ⟨rfl, trivial⟩, rfl, rfl, H⟩
  rintro _ K357 _ hK358 ⟨rfl, rfl, H⟩
  unfold M_ref4_without_J1 at H
  refine Cw_seq ?_
  refine Cw_region ?_
  refine Ow_q rfl rfl rfl (Qt_move rfl) ?_
  refine Ow_q rfl rfl rfl (Qt_assign rfl) ?_
  refine Ow_nil ?_
  refine Cw_ret ?_
  obtain ey0 := inj1 H
  subst y0
  refine ⟨(by first | exact .inl rfl | exact .inr rfl), [(sv vp0)], ⟨(sv vp0), _, rfl, rfl, rfl⟩, ?_⟩
  have hs359 := (hp0).mono hK358
  refine Shift.done ?_
  exact ⟨vp0, rfl, rfl, hs359⟩

set_option maxHeartbeats 1000000 in
theorem c_M_ref4_put (p0 : Memory) (vp0_words : SV) (vp0_lists : SV) (p1 : Int) (p2 : List Int) (vp2 : SV) (y0 : Memory) (H : M_ref4_put p0 p1 p2 = some y0) (K : Kp) (G : List Ent) (hp0_words : Slr Ty.u64 K (sv vp0_words) p0.words) (hp0_lists : Slr (Ty.sl Ty.i64) K (sv vp0_lists) p0.lists) (hp2 : Slr Ty.i64 K (sv vp2) p2) :
    Fc Try.prog 57 #[(.agg (Memory.cells p0 vp0_words vp0_lists).toArray), (.int .i64 p1), (sv vp2)] K (G) (fun v K' G' => ∃ (wy0_words : SV) (wy0_lists : SV) (rswy0_lists : List (List Value)), v = (.agg (Memory.cells y0 wy0_words wy0_lists).toArray) ∧ K = K' ∧ (.row (sv wy0_lists) 38 1 rswy0_lists.flatten) :: G = G' ∧ Slr Ty.u64 K' (sv wy0_words) y0.words ∧ RowR (Ty.sl Ty.i64) K' rswy0_lists y0.lists) := by
  refine Fc_body Try.func57 rfl Try.ntmps57 Try.results57 rfl ?_
  unfold M_ref4_put at H
  refine Cw_seq ?_
  refine Cw_region ?_
  refine Ow_cons rfl (OpW_box (cs := (Memory.cells p0 vp0_words vp0_lists)) rfl rfl rfl (fun b18 => ?_))
  refine Ow_cons rfl (OpW_alloc (cs := (Memory.cells (Memory.mk [] [] 0) nilS nilS)) rfl rfl rfl rfl (fun b19 => ?_))
  refine Ow_nil ?_
  refine Cw_seq ?_
  refine Cw_region ?_
  refine Ow_q rfl rfl rfl (Qt_fieldAddr (m := 1) rfl rfl rfl rfl rfl) ?_
  refine Ow_q rfl rfl rfl (Qt_load1 (v := (sv vp0_lists)) rfl rfl rfl (Rdc.blk (.tail _ (.head _)) rfl)) ?_
  have hR20 : RowR (Ty.sl Ty.i64) K [] [] := RowR.nil
  refine Ow.shift (Shift.nilRow 38 1 (Shift.done ?_))
  obtain ⟨x21, hx22, H⟩ := bnd H
  refine Ow_cons rfl (O_appRow (T := (Ty.sl Ty.i64)) (bytes := 24) rfl rfl rfl (.head _) hR20 (SrcT.sl hp0_lists) hx22 rfl rfl rfl rfl rfl rfl rfl rfl (fun v23 rs24 hR25 => ⟨_, .here, ?_⟩))
  refine Ow_q rfl rfl rfl (Qt_fieldAddr (m := 1) rfl rfl rfl rfl rfl) ?_
  refine Ow_cons rfl (OpW_store (vs := [(sv v23)]) (all' := (Memory.cells (Memory.mk p0.words x21 p0.tick) vp0_words v23)) rfl rfl rfl rfl rfl (.there (.there .here)) rfl rfl rfl ?_)
  refine Ow_nil ?_
  refine Cw_seq ?_
  refine Cw_region ?_
  refine Ow_q rfl rfl rfl (Qt_fieldAddr (m := 1) rfl rfl rfl rfl rfl) ?_
  refine Ow_q rfl rfl rfl (Qt_load1 (v := (sv v23)) rfl rfl rfl (Rdc.blk (.tail _ (.tail _ (.head _))) rfl)) ?_
  refine Ow_q rfl rfl rfl (Qt_move rfl) ?_
  refine Ow_q rfl rfl rfl (Qt_move rfl) ?_
  obtain ⟨x26, hx27, H⟩ := bnd H
  obtain ⟨r28, hq29, hr30⟩ := RowR.at hR25 hx27
  obtain ⟨v31, rfl, hs32⟩ := hr30
  refine Ow_q rfl rfl rfl (Q_ixR (T := (Ty.sl Ty.i64)) (.head _) hR25 hq29 (getI_ix hx27).1 rfl rfl rfl rfl rfl) ?_
  refine Ow_cons rfl (O_storeR (T := (Ty.sl Ty.i64)) (vs := [(sv vp2)]) (r' := [(sv vp2)]) (l' := (setI x21 p1 p2)) rfl rfl rfl rfl rfl .here hR25 hq29 rfl rfl rfl (RowR.set p1 hR25 ⟨vp2, rfl, hp2⟩) (fun hR33 => ?_))
  have hE34 := set_at hq29 (v := [(sv vp2)])
  refine Ow_nil ?_
  refine Cw_seq ?_
  refine Cw_region ?_
  refine Ow_q rfl rfl rfl (Qt_loadA (m := 3) (cs := (Memory.cells (Memory.mk p0.words (setI x21 p1 p2) p0.tick) vp0_words v23)) rfl rfl rfl rfl ⟨rfl, Rdc.blk (.tail _ (.tail _ (.head _))) rfl⟩) ?_
  refine Ow_cons rfl (OpW_store (vs := (Memory.cells (Memory.mk p0.words (setI x21 p1 p2) p0.tick) vp0_words v23)) (all' := (Memory.cells (Memory.mk p0.words (setI x21 p1 p2) p0.tick) vp0_words v23)) rfl rfl rfl rfl rfl (.there .here) rfl rfl rfl ?_)
  refine Ow_nil ?_
  refine Cw_ret ?_
  obtain ey0 := inj1 H
  subst y0
  refine ⟨(by first | exact .inl rfl | exact .inr rfl), [(.agg (Memory.cells (Memory.mk p0.words (setI x21 p1 p2) p0.tick) vp0_words v23).toArray)], ⟨(.agg (Memory.cells (Memory.mk p0.words (setI x21 p1 p2) p0.tick) vp0_words v23).toArray), _, rfl, ⟨_, 3, (Memory.cells (Memory.mk p0.words (setI x21 p1 p2) p0.tick) vp0_words v23), rfl, rfl, rfl, rfl, ⟨rfl, Rdc.blk (.tail _ (.head _)) rfl⟩, rfl⟩, rfl⟩, ?_⟩
  refine Shift.rem (.there .here) ?_
  refine Shift.rem (.there .here) ?_
  refine Shift.done ?_
  exact ⟨vp0_words, v23, (rs24.set p1.toNat [(sv vp2)]), rfl, rfl, rfl, hp0_words, hR33⟩

set_option maxHeartbeats 1000000 in
theorem c_M_ref4_set (p0 : Memory) (vp0_words : SV) (vp0_lists : SV) (p1 : Int) (p2 : Int) (y0 : Memory) (H : M_ref4_set p0 p1 p2 = some y0) (K : Kp) (G : List Ent) (hp0_words : Slr Ty.u64 K (sv vp0_words) p0.words) (hp0_lists : Slr (Ty.sl Ty.i64) K (sv vp0_lists) p0.lists) :
    Fc Try.prog 59 #[(.agg (Memory.cells p0 vp0_words vp0_lists).toArray), (.int .i64 p1), (.int .u64 p2)] K (G) (fun v K' G' => ∃ (wy0_words : SV) (rswy0_words : List (List Value)) (wy0_lists : SV), v = (.agg (Memory.cells y0 wy0_words wy0_lists).toArray) ∧ K = K' ∧ (.row (sv wy0_words) 22 1 rswy0_words.flatten) :: G = G' ∧ RowR Ty.u64 K' rswy0_words y0.words ∧ Slr (Ty.sl Ty.i64) K' (sv wy0_lists) y0.lists) := by
  refine Fc_body Try.func59 rfl Try.ntmps59 Try.results59 rfl ?_
  unfold M_ref4_set at H
  refine Cw_seq ?_
  refine Cw_region ?_
  refine Ow_cons rfl (OpW_box (cs := (Memory.cells p0 vp0_words vp0_lists)) rfl rfl rfl (fun b16 => ?_))
  refine Ow_cons rfl (OpW_alloc (cs := (Memory.cells (Memory.mk [] [] 0) nilS nilS)) rfl rfl rfl rfl (fun b17 => ?_))
  refine Ow_nil ?_
  refine Cw_seq ?_
  refine Cw_region ?_
  refine Ow_q rfl rfl rfl (Qt_fieldAddr (m := 0) rfl rfl rfl rfl rfl) ?_
  refine Ow_q rfl rfl rfl (Qt_load1 (v := (sv vp0_words)) rfl rfl rfl (Rdc.blk (.tail _ (.head _)) rfl)) ?_
  have hR18 : RowR Ty.u64 K [] [] := RowR.nil
  refine Ow.shift (Shift.nilRow 22 1 (Shift.done ?_))
  obtain ⟨x19, hx20, H⟩ := bnd H
  refine Ow_cons rfl (O_appRow (T := Ty.u64) (bytes := 8) rfl rfl rfl (.head _) hR18 (SrcT.sl hp0_words) hx20 rfl rfl rfl rfl rfl rfl rfl rfl (fun v21 rs22 hR23 => ⟨_, .here, ?_⟩))
  refine Ow_q rfl rfl rfl (Qt_fieldAddr (m := 0) rfl rfl rfl rfl rfl) ?_
  refine Ow_cons rfl (OpW_store (vs := [(sv v21)]) (all' := (Memory.cells (Memory.mk x19 p0.lists p0.tick) v21 vp0_lists)) rfl rfl rfl rfl rfl (.there (.there .here)) rfl rfl rfl ?_)
  refine Ow_nil ?_
  refine Cw_seq ?_
  refine Cw_region ?_
  refine Ow_q rfl rfl rfl (Qt_fieldAddr (m := 0) rfl rfl rfl rfl rfl) ?_
  refine Ow_q rfl rfl rfl (Qt_load1 (v := (sv v21)) rfl rfl rfl (Rdc.blk (.tail _ (.tail _ (.head _))) rfl)) ?_
  refine Ow_q rfl rfl rfl (Qt_move rfl) ?_
  refine Ow_q rfl rfl rfl (Qt_move rfl) ?_
  obtain ⟨x24, hx25, H⟩ := bnd H
  obtain ⟨r26, hq27, hr28⟩ := RowR.at hR23 hx25
  obtain rfl := hr28
  refine Ow_q rfl rfl rfl (Q_ixR (T := Ty.u64) (.head _) hR23 hq27 (getI_ix hx25).1 rfl rfl rfl rfl rfl) ?_
  refine Ow_cons rfl (O_storeR (T := Ty.u64) (vs := [(.int .u64 p2)]) (r' := [(.int .u64 p2)]) (l' := (setI x19 p1 p2)) rfl rfl rfl rfl rfl .here hR23 hq27 rfl rfl rfl (RowR.set p1 hR23 rfl) (fun hR29 => ?_))
  have hE30 := set_at hq27 (v := [(.int .u64 p2)])
  refine Ow_nil ?_
  refine Cw_seq ?_
  refine Cw_region ?_
  refine Ow_q rfl rfl rfl (Qt_loadA (m := 3) (cs := (Memory.cells (Memory.mk (setI x19 p1 p2) p0.lists p0.tick) v21 vp0_lists)) rfl rfl rfl rfl ⟨rfl, Rdc.blk (.tail _ (.tail _ (.head _))) rfl⟩) ?_
  refine Ow_cons rfl (OpW_store (vs := (Memory.cells (Memory.mk (setI x19 p1 p2) p0.lists p0.tick) v21 vp0_lists)) (all' := (Memory.cells (Memory.mk (setI x19 p1 p2) p0.lists p0.tick) v21 vp0_lists)) rfl rfl rfl rfl rfl (.there .here) rfl rfl rfl ?_)
  refine Ow_nil ?_
  refine Cw_ret ?_
  obtain ey0 := inj1 H
  subst y0
  refine ⟨(by first | exact .inl rfl | exact .inr rfl), [(.agg (Memory.cells (Memory.mk (setI x19 p1 p2) p0.lists p0.tick) v21 vp0_lists).toArray)], ⟨(.agg (Memory.cells (Memory.mk (setI x19 p1 p2) p0.lists p0.tick) v21 vp0_lists).toArray), _, rfl, ⟨_, 3, (Memory.cells (Memory.mk (setI x19 p1 p2) p0.lists p0.tick) v21 vp0_lists), rfl, rfl, rfl, rfl, ⟨rfl, Rdc.blk (.tail _ (.head _)) rfl⟩, rfl⟩, rfl⟩, ?_⟩
  refine Shift.rem (.there .here) ?_
  refine Shift.rem (.there .here) ?_
  refine Shift.done ?_
  exact ⟨v21, (rs22.set p1.toNat [(.int .u64 p2)]), vp0_lists, rfl, rfl, rfl, hR29, hp0_lists⟩

set_option maxHeartbeats 1000000 in
theorem c_M_ref4_Apply (p0 : Memory) (vp0_words : SV) (vp0_lists : SV) (p1 : Access) (y0 : Memory) (y1 : Answer) (y2 : Bool) (H : M_ref4_Apply p0 p1 = some (y0, y1, y2)) (K : Kp) (G : List Ent) (hp0_words : Slr Ty.u64 K (sv vp0_words) p0.words) (hp0_lists : Slr (Ty.sl Ty.i64) K (sv vp0_lists) p0.lists) :
    Fc Try.prog 35 #[(.agg (Memory.cells p0 vp0_words vp0_lists).toArray), (.agg (Access.cells p1).toArray)] K (G) (fun v K' G' => ∃ (wy0_words : SV) (wy0_lists : SV) (wy1_list : SV), v = (.tuple #[(.agg (Memory.cells y0 wy0_words wy0_lists).toArray), (.agg (Answer.cells y1 wy1_list).toArray), (.bool y2)]) ∧ G = G' ∧ Slr Ty.u64 K' (sv wy0_words) y0.words ∧ Slr (Ty.sl Ty.i64) K' (sv wy0_lists) y0.lists ∧ Slr Ty.i64 K' (sv wy1_list) y1.list) := by
  refine Fc_body Try.func35 rfl Try.ntmps35 Try.results35 rfl ?_
  unfold M_ref4_Apply at H
  refine Cw_seq ?_
  refine Cw_region ?_
  refine Ow_cons rfl (OpW_box (cs := (Memory.cells p0 vp0_words vp0_lists)) rfl rfl rfl (fun b115 => ?_))
  refine Ow_cons rfl (OpW_box (cs := (Access.cells p1)) rfl rfl rfl (fun b116 => ?_))
  refine Ow_cons rfl (OpW_alloc (cs := (Memory.cells (Memory.mk [] [] 0) nilS nilS)) rfl rfl rfl rfl (fun b117 => ?_))
  refine Ow_cons rfl (OpW_alloc (cs := (Answer.cells (Answer.mk 0 false false []) nilS)) rfl rfl rfl rfl (fun b118 => ?_))
  refine Ow_q rfl rfl rfl (Qt_assign rfl) ?_
  refine Ow_nil ?_
  refine Cw_seq ?_
  refine Cw_seq ?_
  refine Cw_region ?_
  refine Ow_q rfl rfl rfl (Qt_loadA (m := 3) (cs := (Memory.cells p0 vp0_words vp0_lists)) rfl rfl rfl rfl ⟨rfl, Rdc.blk (.tail _ (.tail _ (.tail _ (.head _)))) rfl⟩) ?_
  refine Ow_q rfl rfl rfl (Qt_loadA (m := 5) (cs := (Access.cells p1)) rfl rfl rfl rfl ⟨rfl, Rdc.blk (.tail _ (.tail _ (.head _))) rfl⟩) ?_
  obtain ⟨x122, hx123, H⟩ := bnd H
  refine Ow_cons rfl (OpW_call rfl Try.call37 rfl rfl (c_M_ref4_Granted p0 vp0_words vp0_lists p1 x122 hx123 _ _ hp0_words hp0_lists) ?_)
  rintro _ _ _ - ⟨rfl, rfl, rfl⟩
  refine Ow_q rfl rfl rfl (Qt_not rfl) ?_
  refine Ow_nil ?_
  refine Cw_cond rfl ?_ ?_
  · intro h124
    have h124 := nt_t (h124)
    have H := iff_ (btf h124) H
    refine Cw_seq ?_
    refine Cw_region ?_
    refine Ow_q rfl rfl rfl (Qt_loadA (m := 3) (cs := (Memory.cells p0 vp0_words vp0_lists)) rfl rfl rfl rfl ⟨rfl, Rdc.blk (.tail _ (.tail _ (.tail _ (.head _)))) rfl⟩) ?_
    refine Ow_q rfl rfl rfl (Qt_build (cs := (Answer.cells (Answer.mk 0 false false []) nilS)) rfl rfl rfl rfl rfl rfl) ?_
    refine Ow_cons rfl (OpW_store (vs := (Memory.cells p0 vp0_words vp0_lists)) (all' := (Memory.cells p0 vp0_words vp0_lists)) rfl rfl rfl rfl rfl (.there .here) rfl rfl rfl ?_)
    refine Ow_cons rfl (OpW_store (vs := (Answer.cells (Answer.mk 0 false false []) nilS)) (all' := (Answer.cells (Answer.mk 0 false false []) nilS)) rfl rfl rfl rfl rfl .here rfl rfl rfl ?_)
    refine Ow_q rfl rfl rfl (Qt_assign rfl) ?_
    refine Ow_nil ?_
    refine Cw_ret ?_
    obtain ⟨ey0, ey1, ey2⟩ := inj3 H
    subst y0 y1 y2
    refine ⟨(by first | exact .inl rfl | exact .inr rfl), [(.agg (Memory.cells p0 vp0_words vp0_lists).toArray), (.agg (Answer.cells (Answer.mk 0 false false []) nilS).toArray), (.bool false)], ⟨(.agg (Memory.cells p0 vp0_words vp0_lists).toArray), _, rfl, ⟨_, 3, (Memory.cells p0 vp0_words vp0_lists), rfl, rfl, rfl, rfl, ⟨rfl, Rdc.blk (.tail _ (.head _)) rfl⟩, rfl⟩, ⟨(.agg (Answer.cells (Answer.mk 0 false false []) nilS).toArray), _, rfl, ⟨_, 4, (Answer.cells (Answer.mk 0 false false []) nilS), rfl, rfl, rfl, rfl, ⟨rfl, Rdc.blk (.head _) rfl⟩, rfl⟩, ⟨(.bool false), _, rfl, rfl, rfl⟩⟩⟩, ?_⟩
    refine Shift.rem .here ?_
    refine Shift.rem .here ?_
    refine Shift.rem .here ?_
    refine Shift.rem .here ?_
    refine Shift.done ?_
    exact ⟨vp0_words, vp0_lists, nilS, rfl, rfl, hp0_words, hp0_lists, (Slr.nil Ty.i64 _)⟩
  · intro h124
    have h124 := nt_f (h124)
    have H := ift h124 H
    refine Cw_skip ?_
    refine Cw_seq ?_
    refine Cw_seq ?_
    refine Cw_region ?_
    refine Ow_q rfl rfl rfl (Qt_fieldAddr (m := 0) rfl rfl rfl rfl rfl) ?_
    refine Ow_q rfl rfl rfl (Qt_load1 (v := (.int .i64 p1.kind)) rfl rfl rfl (Rdc.blk (.tail _ (.tail _ (.head _))) rfl)) ?_
    refine Ow_q rfl rfl rfl (Qt_cmp rfl rfl rfl) ?_
    refine Ow_nil ?_
    refine Cw_cond rfl ?_ ?_
    · intro h196
      have h196 := dcd_t (h196)
      have H := ift h196 H
      refine Cw_seq ?_
      refine Cw_seq ?_
      refine Cw_region ?_
      refine Ow_q rfl rfl rfl (Qt_loadA (m := 3) (cs := (Memory.cells p0 vp0_words vp0_lists)) rfl rfl rfl rfl ⟨rfl, Rdc.blk (.tail _ (.tail _ (.tail _ (.head _)))) rfl⟩) ?_
      refine Ow_q rfl rfl rfl (Qt_fieldAddr (m := 1) rfl rfl rfl rfl rfl) ?_
      refine Ow_q rfl rfl rfl (Qt_load1 (v := (.int .i64 p1.address)) rfl rfl rfl (Rdc.blk (.tail _ (.tail _ (.head _))) rfl)) ?_
      obtain ⟨x200, hx201, H⟩ := bnd H
      refine Ow_cons rfl (OpW_call rfl Try.call55 rfl rfl (c_M_ref4_list p0 vp0_words vp0_lists p1.address x200 hx201 _ _ hp0_words hp0_lists) ?_)
      rintro _ _ _ - ⟨rfl, rfl, rfl⟩
      refine Ow_q rfl rfl rfl (Qt_not rfl) ?_
      refine Ow_nil ?_
      refine Cw_cond rfl ?_ ?_
      · intro h202
        have h202 := nt_t (h202)
        have H := iff_ (btf h202) H
        refine Cw_seq ?_
        refine Cw_region ?_
        refine Ow_q rfl rfl rfl (Qt_loadA (m := 3) (cs := (Memory.cells p0 vp0_words vp0_lists)) rfl rfl rfl rfl ⟨rfl, Rdc.blk (.tail _ (.tail _ (.tail _ (.head _)))) rfl⟩) ?_
        refine Ow_q rfl rfl rfl (Qt_build (cs := (Answer.cells (Answer.mk 0 false false []) nilS)) rfl rfl rfl rfl rfl rfl) ?_
        refine Ow_cons rfl (OpW_store (vs := (Memory.cells p0 vp0_words vp0_lists)) (all' := (Memory.cells p0 vp0_words vp0_lists)) rfl rfl rfl rfl rfl (.there .here) rfl rfl rfl ?_)
        refine Ow_cons rfl (OpW_store (vs := (Answer.cells (Answer.mk 0 false false []) nilS)) (all' := (Answer.cells (Answer.mk 0 false false []) nilS)) rfl rfl rfl rfl rfl .here rfl rfl rfl ?_)
        refine Ow_q rfl rfl rfl (Qt_assign rfl) ?_
        refine Ow_nil ?_
        refine Cw_ret ?_
        obtain ⟨ey0, ey1, ey2⟩ := inj3 H
        subst y0 y1 y2
        refine ⟨(by first | exact .inl rfl | exact .inr rfl), [(.agg (Memory.cells p0 vp0_words vp0_lists).toArray), (.agg (Answer.cells (Answer.mk 0 false false []) nilS).toArray), (.bool true)], ⟨(.agg (Memory.cells p0 vp0_words vp0_lists).toArray), _, rfl, ⟨_, 3, (Memory.cells p0 vp0_words vp0_lists), rfl, rfl, rfl, rfl, ⟨rfl, Rdc.blk (.tail _ (.head _)) rfl⟩, rfl⟩, ⟨(.agg (Answer.cells (Answer.mk 0 false false []) nilS).toArray), _, rfl, ⟨_, 4, (Answer.cells (Answer.mk 0 false false []) nilS), rfl, rfl, rfl, rfl, ⟨rfl, Rdc.blk (.head _) rfl⟩, rfl⟩, ⟨(.bool true), _, rfl, rfl, rfl⟩⟩⟩, ?_⟩
        refine Shift.rem .here ?_
        refine Shift.rem .here ?_
        refine Shift.rem .here ?_
        refine Shift.rem .here ?_
        refine Shift.done ?_
        exact ⟨vp0_words, vp0_lists, nilS, rfl, rfl, hp0_words, hp0_lists, (Slr.nil Ty.i64 _)⟩
      · intro h202
        have h202 := nt_f (h202)
        have H := ift h202 H
        refine Cw_skip ?_
        refine Cw_seq ?_
        refine Cw_region ?_
        refine Ow_q rfl rfl rfl (Qt_fieldAddr (m := 1) rfl rfl rfl rfl rfl) ?_
        refine Ow_q rfl rfl rfl (Qt_load1 (v := (sv vp0_lists)) rfl rfl rfl (Rdc.blk (.tail _ (.tail _ (.tail _ (.head _)))) rfl)) ?_
        refine Ow_q rfl rfl rfl (Qt_fieldAddr (m := 1) rfl rfl rfl rfl rfl) ?_
        refine Ow_q rfl rfl rfl (Qt_load1 (v := (.int .i64 p1.address)) rfl rfl rfl (Rdc.blk (.tail _ (.tail _ (.head _))) rfl)) ?_
        obtain ⟨x203, hx204, H⟩ := bnd H
        obtain ⟨r205, hr206, hk207⟩ := Slr.at hp0_lists hx204
        obtain ⟨v208, rfl, hs209⟩ := hr206
        refine Ow_q rfl rfl rfl (Q_ix (T := (Ty.sl Ty.i64)) hp0_lists hx204 rfl rfl rfl rfl rfl) ?_
        refine Ow_q rfl rfl rfl (Qt_load1 (v := (sv v208)) rfl rfl rfl (Rdc.k hk207 rfl)) ?_
        refine Ow_q rfl rfl rfl (Qt_assign rfl) ?_
        refine Ow_nil ?_
        refine Cw_join (fun env' K' G' => ∃ (v256 : SV) (l257 : List Int), [(2, (.pointer (some ((⟨b115, 0, none⟩ : Addr).add 0)))), (3, (.pointer (some ((⟨b116, 0, none⟩ : Addr).add 0)))), (4, (.pointer (some ((⟨b117, 0, none⟩ : Addr).add 0)))), (5, (.pointer (some ((⟨b118, 0, none⟩ : Addr).add 0)))), (7, (sv v256))] = env' ∧ (.blk b118 40 (Answer.cells (Answer.mk 0 false false []) nilS)) :: (.blk b117 49 (Memory.cells (Memory.mk [] [] 0) nilS nilS)) :: (.blk b116 24 (Access.cells p1)) :: (.blk b115 49 (Memory.cells p0 vp0_words vp0_lists)) :: G = G' ∧ M_ref4_Apply_J1 p1 p0 l257 = some (y0, y1, y2) ∧ Slr Ty.i64 K' (sv v256) l257) ?_ ?_
        · skip
          refine Cw_block ?_
          refine Cw_seq ?_
          refine Cw_region ?_
          refine Ow_q rfl rfl rfl (Qt_fieldAddr (m := 0) rfl rfl rfl rfl rfl) ?_
          refine Ow_q rfl rfl rfl (Qt_load1 (v := (.int .i64 p1.kind)) rfl rfl rfl (Rdc.blk (.tail _ (.tail _ (.head _))) rfl)) ?_
          refine Ow_q rfl rfl rfl (Qt_cmp rfl rfl rfl) ?_
          refine Ow_q rfl rfl rfl (Qt_assign rfl) ?_
          refine Ow_nil ?_
          refine Cw_cond rfl ?_ ?_
          · intro h259
            have h259 := dcd_t (h259)
            have H := ift h259 H
            refine Cw_seq ?_
            refine Cw_region ?_
            refine Ow_q rfl rfl rfl (Qt_loadA (m := 3) (cs := (Memory.cells p0 vp0_words vp0_lists)) rfl rfl rfl rfl ⟨rfl, Rdc.blk (.tail _ (.tail _ (.tail _ (.head _)))) rfl⟩) ?_
            refine Ow_q rfl rfl rfl (Qt_move rfl) ?_
            refine Ow_q rfl rfl rfl (Qt_build (cs := (Answer.cells (Answer.mk 0 false false x203) v208)) rfl rfl rfl rfl rfl rfl) ?_
            refine Ow_cons rfl (OpW_store (vs := (Memory.cells p0 vp0_words vp0_lists)) (all' := (Memory.cells p0 vp0_words vp0_lists)) rfl rfl rfl rfl rfl (.there .here) rfl rfl rfl ?_)
            refine Ow_cons rfl (OpW_store (vs := (Answer.cells (Answer.mk 0 false false x203) v208)) (all' := (Answer.cells (Answer.mk 0 false false x203) v208)) rfl rfl rfl rfl rfl .here rfl rfl rfl ?_)
            refine Ow_q rfl rfl rfl (Qt_assign rfl) ?_
            refine Ow_nil ?_
            refine Cw_ret ?_
            obtain ⟨ey0, ey1, ey2⟩ := inj3 H
            subst y0 y1 y2
            refine ⟨(by first | exact .inl rfl | exact .inr rfl), [(.agg (Memory.cells p0 vp0_words vp0_lists).toArray), (.agg (Answer.cells (Answer.mk 0 false false x203) v208).toArray), (.bool true)], ⟨(.agg (Memory.cells p0 vp0_words vp0_lists).toArray), _, rfl, ⟨_, 3, (Memory.cells p0 vp0_words vp0_lists), rfl, rfl, rfl, rfl, ⟨rfl, Rdc.blk (.tail _ (.head _)) rfl⟩, rfl⟩, ⟨(.agg (Answer.cells (Answer.mk 0 false false x203) v208).toArray), _, rfl, ⟨_, 4, (Answer.cells (Answer.mk 0 false false x203) v208), rfl, rfl, rfl, rfl, ⟨rfl, Rdc.blk (.head _) rfl⟩, rfl⟩, ⟨(.bool true), _, rfl, rfl, rfl⟩⟩⟩, ?_⟩
            refine Shift.rem .here ?_
            refine Shift.rem .here ?_
            refine Shift.rem .here ?_
            refine Shift.rem .here ?_
            refine Shift.done ?_
            exact ⟨vp0_words, vp0_lists, v208, rfl, rfl, hp0_words, hp0_lists, hs209⟩
          · intro h259
            have h259 := dcd_f (h259)
            have H := iff_ h259 H
            refine Cw_join (fun env' K' G' => ∃ (t261 : Bool), [(2, (.pointer (some ((⟨b115, 0, none⟩ : Addr).add 0)))), (3, (.pointer (some ((⟨b116, 0, none⟩ : Addr).add 0)))), (4, (.pointer (some ((⟨b117, 0, none⟩ : Addr).add 0)))), (5, (.pointer (some ((⟨b118, 0, none⟩ : Addr).add 0)))), (7, (sv v208)), (38, (.bool t261))] = env' ∧ K = K' ∧ (.blk b118 40 (Answer.cells (Answer.mk 0 false false []) nilS)) :: (.blk b117 49 (Memory.cells (Memory.mk [] [] 0) nilS nilS)) :: (.blk b116 24 (Access.cells p1)) :: (.blk b115 49 (Memory.cells p0 vp0_words vp0_lists)) :: G = G' ∧ M_ref4_Apply_J2 x203 p1 p0 t261 = some (y0, y1, y2)) ?_ ?_
            · skip
              refine Cw_region ?_
              refine Ow_q rfl rfl rfl (Qt_fieldAddr (m := 0) rfl rfl rfl rfl rfl) ?_
              refine Ow_q rfl rfl rfl (Qt_load1 (v := (.int .i64 p1.kind)) rfl rfl rfl (Rdc.blk (.tail _ (.tail _ (.head _))) rfl)) ?_
              refine Ow_q rfl rfl rfl (Qt_cmp rfl rfl rfl) ?_
              refine Ow_q rfl rfl rfl (Qt_move rfl) ?_
              refine Ow_caseG rfl rfl rfl ?_ ?_
              · intro h262
                have h262 := dcd_t (h262)
                have H := ift h262 H
                refine Ow_qw rfl rfl rfl rfl rfl rfl (Qt_move rfl) ?_
                refine Ow_qw rfl rfl rfl rfl rfl rfl (Q_len (T := Ty.i64) hs209 rfl rfl) ?_
                refine Ow_qw rfl rfl rfl rfl rfl rfl (Qt_cmp rfl rfl rfl) ?_
                refine Ow_q rfl rfl rfl (Qt_pick_t rfl rfl) ?_
                refine Ow_q rfl rfl rfl (Qt_assign rfl) ?_
                refine Ow_nil ?_
                refine Shift.pull (.there (.there (.there .here))) ?_
                refine Shift.pull (.there (.there (.there .here))) ?_
                refine Shift.pull (.there (.there (.there .here))) ?_
                refine Shift.pull (.there (.there (.there .here))) ?_
                refine Shift.done ?_
                exact ⟨[(2, (.pointer (some ((⟨b115, 0, none⟩ : Addr).add 0)))), (3, (.pointer (some ((⟨b116, 0, none⟩ : Addr).add 0)))), (4, (.pointer (some ((⟨b117, 0, none⟩ : Addr).add 0)))), (5, (.pointer (some ((⟨b118, 0, none⟩ : Addr).add 0)))), (7, (sv v208)), (38, (.bool (dcd ((x203.length : Int) < 1000))))], ⟨rfl, rfl, rfl, rfl, rfl, rfl, trivial⟩, (dcd ((x203.length : Int) < 1000)), rfl, rfl, rfl, H⟩
              · intro h262
                have h262 := dcd_f (h262)
                have H := iff_ h262 H
                refine Ow_pass rfl rfl rfl rfl rfl rfl rfl ?_
                refine Ow_pass rfl rfl rfl rfl rfl rfl rfl ?_
                refine Ow_pass rfl rfl rfl rfl rfl rfl rfl ?_
                refine Ow_q rfl rfl rfl (Qt_pick_f rfl rfl) ?_
                refine Ow_q rfl rfl rfl (Qt_assign rfl) ?_
                refine Ow_nil ?_
                refine Shift.pull (.there (.there (.there .here))) ?_
                refine Shift.pull (.there (.there (.there .here))) ?_
                refine Shift.pull (.there (.there (.there .here))) ?_
                refine Shift.pull (.there (.there (.there .here))) ?_
                refine Shift.done ?_
                exact ⟨[(2, (.pointer (some ((⟨b115, 0, none⟩ : Addr).add 0)))), (3, (.pointer (some ((⟨b116, 0, none⟩ : Addr).add 0)))), (4, (.pointer (some ((⟨b117, 0, none⟩ : Addr).add 0)))), (5, (.pointer (some ((⟨b118, 0, none⟩ : Addr).add 0)))), (7, (sv v208)), (38, (.bool false))], ⟨rfl, rfl, rfl, rfl, rfl, rfl, trivial⟩, false, rfl, rfl, rfl, H⟩
            rintro _ _ _ - ⟨t261, rfl, rfl, rfl, H⟩
            unfold M_ref4_Apply_J2 at H
            refine Cw_cond rfl ?_ ?_
            · intro h263
              have H := ift h263 H
              obtain ⟨x264, hx265, H⟩ := bnd H
              obtain ⟨x272, hx273, H⟩ := bnd H
              refine Cw_region_any [.blk b118 40 (Answer.cells (Answer.mk 0 false false []) nilS), .blk b117 49 (Memory.cells (Memory.mk [] [] 0) nilS nilS), .blk b116 24 (Access.cells p1), .blk b115 49 (Memory.cells p0 vp0_words vp0_lists)] rfl (Inc.cons (.head _) (Inc.cons (.tail _ (.head _)) (Inc.cons (.tail _ (.tail _ (.head _))) (Inc.cons (.tail _ (.tail _ (.tail _ (.head _)))) Inc.nil)))) ?_
              refine Aw_q 0 rfl (by kernel_rfl) (by kernel_rfl) (by kernel_rfl) rfl rfl rfl (Qt_move rfl) ?_
              refine Aw_q 2 rfl (by kernel_rfl) (by kernel_rfl) (by kernel_rfl) rfl rfl rfl (Qt_fieldAddr (m := 3) rfl rfl rfl rfl rfl) ?_
              refine Aw_q 3 rfl (by kernel_rfl) (by kernel_rfl) (by kernel_rfl) rfl rfl rfl (Qt_load1 (v := (.int .u64 p1.new)) rfl rfl rfl (Rdc.blk (.tail _ (.tail _ (.head _))) rfl)) ?_
              refine Aw_q 4 rfl (by kernel_rfl) (by kernel_rfl) (by kernel_rfl) rfl rfl rfl (Qt_conv (c := wI p1.new) rfl rfl rfl rfl) ?_
              refine Aw_two 1 5 (by kernel_rfl) ?_ ?_
              · skip
                refine id (Ax_mk rfl rfl ?_)
                refine OpW.shift (Shift.nilTok1 3 1 (Shift.done ?_))
                refine O_appTok (T := Ty.i64) (bytes := 8) (q := 0) rfl rfl rfl (Slr.nil Ty.i64 _) (.head _) rfl (SrcT.sl hs209) hx265 rfl rfl rfl rfl rfl rfl rfl rfl (fun v278 K279 hK280 hs281 => ⟨_, .here, ⟨(Inc.cons (.tail _ (.head _)) (Inc.cons (.tail _ (.tail _ (.head _))) (Inc.cons (.tail _ (.tail _ (.tail _ (.head _)))) (Inc.cons (.tail _ (.tail _ (.tail _ (.tail _ (.head _))))) Inc.nil)))), ?_⟩⟩)
                refine Aw_one 5 (by kernel_rfl) (Ax_mk rfl rfl ?_)
                have hR283 : RowR Ty.i64 K279 [[(.int .i64 (wI p1.new))]] [wI p1.new] := RowR.cons rfl (RowR.nil)
                refine O_lit (T := Ty.i64) (rows := [[(.int .i64 (wI p1.new))]]) (l := [wI p1.new]) rfl rfl rfl hR283 rfl rfl rfl rfl rfl rfl rfl rfl (fun v282 => ⟨(Inc.cons (.tail _ (.tail _ (.head _))) (Inc.cons (.tail _ (.tail _ (.tail _ (.head _)))) (Inc.cons (.tail _ (.tail _ (.tail _ (.tail _ (.head _))))) (Inc.cons (.tail _ (.tail _ (.tail _ (.tail _ (.tail _ (.head _)))))) Inc.nil)))), ?_⟩)
                refine Aw_one 6 (by kernel_rfl) (Ax_mk rfl rfl ?_)
                refine O_appTok (T := Ty.i64) (bytes := 8) (q := 0) rfl rfl rfl hs281 (.tail _ (.head _)) rfl (SrcT.row (.head _) hR283 rfl) hx273 rfl rfl rfl rfl rfl rfl rfl rfl (fun v284 K285 hK286 hs287 => ⟨_, (.there .here), ⟨(Inc.cons (.tail _ (.tail _ (.head _))) (Inc.cons (.tail _ (.tail _ (.tail _ (.head _)))) (Inc.cons (.tail _ (.tail _ (.tail _ (.tail _ (.head _))))) (Inc.cons (.tail _ (.tail _ (.tail _ (.tail _ (.tail _ (.head _)))))) Inc.nil)))), ?_⟩⟩)
                refine Aw.shift (Shift.rem .here (Shift.done ⟨(Inc.cons (.tail _ (.head _)) (Inc.cons (.tail _ (.tail _ (.head _))) (Inc.cons (.tail _ (.tail _ (.tail _ (.head _)))) (Inc.cons (.tail _ (.tail _ (.tail _ (.tail _ (.head _))))) Inc.nil)))), ?_⟩))
                refine Aw_q 7 rfl (by kernel_rfl) (by kernel_rfl) (by kernel_rfl) rfl rfl rfl (Qt_assign rfl) ?_
                refine Aw_done (by kernel_rfl) ?_
                refine Shift.pull (.there (.there (.there (.there .here)))) ?_
                refine Shift.pull (.there (.there (.there (.there .here)))) ?_
                refine Shift.pull (.there (.there (.there (.there .here)))) ?_
                refine Shift.pull (.there (.there (.there (.there .here)))) ?_
                refine Shift.rem (.there (.there (.there (.there .here)))) ?_
                refine Shift.done ?_
                exact ⟨[(2, (.pointer (some ((⟨b115, 0, none⟩ : Addr).add 0)))), (3, (.pointer (some ((⟨b116, 0, none⟩ : Addr).add 0)))), (4, (.pointer (some ((⟨b117, 0, none⟩ : Addr).add 0)))), (5, (.pointer (some ((⟨b118, 0, none⟩ : Addr).add 0)))), (7, (sv v284))], ⟨rfl, rfl, rfl, rfl, rfl, trivial⟩, v284, x272, rfl, rfl, H, hs287⟩
              · skip
                refine id (Ax_mk rfl rfl ?_)
                have hR289 : RowR Ty.i64 K [[(.int .i64 (wI p1.new))]] [wI p1.new] := RowR.cons rfl (RowR.nil)
                refine O_lit (T := Ty.i64) (rows := [[(.int .i64 (wI p1.new))]]) (l := [wI p1.new]) rfl rfl rfl hR289 rfl rfl rfl rfl rfl rfl rfl rfl (fun v288 => ⟨(Inc.cons (.tail _ (.head _)) (Inc.cons (.tail _ (.tail _ (.head _))) (Inc.cons (.tail _ (.tail _ (.tail _ (.head _)))) (Inc.cons (.tail _ (.tail _ (.tail _ (.tail _ (.head _))))) Inc.nil)))), ?_⟩)
                refine Aw_one 1 (by kernel_rfl) (Ax_mk rfl rfl ?_)
                refine OpW.shift (Shift.nilTok1 3 1 (Shift.done ?_))
                refine O_appTok (T := Ty.i64) (bytes := 8) (q := 0) rfl rfl rfl (Slr.nil Ty.i64 _) (.head _) rfl (SrcT.sl hs209) hx265 rfl rfl rfl rfl rfl rfl rfl rfl (fun v290 K291 hK292 hs293 => ⟨_, .here, ⟨(Inc.cons (.tail _ (.tail _ (.head _))) (Inc.cons (.tail _ (.tail _ (.tail _ (.head _)))) (Inc.cons (.tail _ (.tail _ (.tail _ (.tail _ (.head _))))) (Inc.cons (.tail _ (.tail _ (.tail _ (.tail _ (.tail _ (.head _)))))) Inc.nil)))), ?_⟩⟩)
                refine Aw_one 6 (by kernel_rfl) (Ax_mk rfl rfl ?_)
                have hs294 := (hR289).mono hK292
                refine O_appTok (T := Ty.i64) (bytes := 8) (q := 0) rfl rfl rfl hs293 (.head _) rfl (SrcT.row (.tail _ (.head _)) hs294 rfl) hx273 rfl rfl rfl rfl rfl rfl rfl rfl (fun v295 K296 hK297 hs298 => ⟨_, .here, ⟨(Inc.cons (.tail _ (.tail _ (.head _))) (Inc.cons (.tail _ (.tail _ (.tail _ (.head _)))) (Inc.cons (.tail _ (.tail _ (.tail _ (.tail _ (.head _))))) (Inc.cons (.tail _ (.tail _ (.tail _ (.tail _ (.tail _ (.head _)))))) Inc.nil)))), ?_⟩⟩)
                refine Aw.shift (Shift.rem (.there .here) (Shift.done ⟨(Inc.cons (.tail _ (.head _)) (Inc.cons (.tail _ (.tail _ (.head _))) (Inc.cons (.tail _ (.tail _ (.tail _ (.head _)))) (Inc.cons (.tail _ (.tail _ (.tail _ (.tail _ (.head _))))) Inc.nil)))), ?_⟩))
                refine Aw_q 7 rfl (by kernel_rfl) (by kernel_rfl) (by kernel_rfl) rfl rfl rfl (Qt_assign rfl) ?_
                refine Aw_done (by kernel_rfl) ?_
                refine Shift.pull (.there (.there (.there (.there .here)))) ?_
                refine Shift.pull (.there (.there (.there (.there .here)))) ?_
                refine Shift.pull (.there (.there (.there (.there .here)))) ?_
                refine Shift.pull (.there (.there (.there (.there .here)))) ?_
                refine Shift.rem (.there (.there (.there (.there .here)))) ?_
                refine Shift.done ?_
                exact ⟨[(2, (.pointer (some ((⟨b115, 0, none⟩ : Addr).add 0)))), (3, (.pointer (some ((⟨b116, 0, none⟩ : Addr).add 0)))), (4, (.pointer (some ((⟨b117, 0, none⟩ : Addr).add 0)))), (5, (.pointer (some ((⟨b118, 0, none⟩ : Addr).add 0)))), (7, (sv v295))], ⟨rfl, rfl, rfl, rfl, rfl, trivial⟩, v295, x272, rfl, rfl, H, hs298⟩
            · intro h263
              have H := iff_ (btf h263) H
              refine Cw_seq ?_
              refine Cw_region ?_
              refine Ow_q rfl rfl rfl (Qt_fieldAddr (m := 0) rfl rfl rfl rfl rfl) ?_
              refine Ow_q rfl rfl rfl (Qt_load1 (v := (.int .i64 p1.kind)) rfl rfl rfl (Rdc.blk (.tail _ (.tail _ (.head _))) rfl)) ?_
              refine Ow_q rfl rfl rfl (Qt_cmp rfl rfl rfl) ?_
              refine Ow_q rfl rfl rfl (Qt_assign rfl) ?_
              refine Ow_nil ?_
              refine Cw_cond rfl ?_ ?_
              · intro h299
                have h299 := dcd_t (h299)
                have H := ift h299 H
                refine Cw_region ?_
                refine Ow_q rfl rfl rfl (Qt_move rfl) ?_
                refine Ow_q rfl rfl rfl (Qt_fieldAddr (m := 3) rfl rfl rfl rfl rfl) ?_
                refine Ow_q rfl rfl rfl (Qt_load1 (v := (.int .u64 p1.new)) rfl rfl rfl (Rdc.blk (.tail _ (.tail _ (.head _))) rfl)) ?_
                refine Ow_q rfl rfl rfl (Qt_conv (c := wI p1.new) rfl rfl rfl rfl) ?_
                obtain ⟨x300, hx301, H⟩ := bnd H
                refine Ow_cons rfl (OpW_call rfl Try.call56 rfl rfl (c_M_ref4_without x203 v208 (wI p1.new) x300 hx301 _ _ hs209) ?_)
                rintro _ K303 _ hK304 ⟨v302, rfl, rfl, hs305⟩
                refine Ow_q rfl rfl rfl (Qt_assign rfl) ?_
                refine Ow_nil ?_
                refine Shift.pull (.there (.there (.there .here))) ?_
                refine Shift.pull (.there (.there (.there .here))) ?_
                refine Shift.pull (.there (.there (.there .here))) ?_
                refine Shift.pull (.there (.there (.there .here))) ?_
                refine Shift.done ?_
                exact ⟨[(2, (.pointer (some ((⟨b115, 0, none⟩ : Addr).add 0)))), (3, (.pointer (some ((⟨b116, 0, none⟩ : Addr).add 0)))), (4, (.pointer (some ((⟨b117, 0, none⟩ : Addr).add 0)))), (5, (.pointer (some ((⟨b118, 0, none⟩ : Addr).add 0)))), (7, (sv v302))], ⟨rfl, rfl, rfl, rfl, rfl, trivial⟩, v302, x300, rfl, rfl, H, hs305⟩
              · intro h299
                have h299 := dcd_f (h299)
                have H := iff_ h299 H
                refine Cw_skip ?_
                refine Shift.pull (.there (.there (.there .here))) ?_
                refine Shift.pull (.there (.there (.there .here))) ?_
                refine Shift.pull (.there (.there (.there .here))) ?_
                refine Shift.pull (.there (.there (.there .here))) ?_
                refine Shift.done ?_
                exact ⟨[(2, (.pointer (some ((⟨b115, 0, none⟩ : Addr).add 0)))), (3, (.pointer (some ((⟨b116, 0, none⟩ : Addr).add 0)))), (4, (.pointer (some ((⟨b117, 0, none⟩ : Addr).add 0)))), (5, (.pointer (some ((⟨b118, 0, none⟩ : Addr).add 0)))), (7, (sv v208))], ⟨rfl, rfl, rfl, rfl, rfl, trivial⟩, v208, x203, rfl, rfl, H, hs209⟩
        rintro _ K306 _ hK307 ⟨v256, l257, rfl, rfl, H, hs258⟩
        unfold M_ref4_Apply_J1 at H
        refine Cw_seq ?_
        refine Cw_region ?_
        refine Ow_q rfl rfl rfl (Qt_loadA (m := 3) (cs := (Memory.cells p0 vp0_words vp0_lists)) rfl rfl rfl rfl ⟨rfl, Rdc.blk (.tail _ (.tail _ (.tail _ (.head _)))) rfl⟩) ?_
        refine Ow_q rfl rfl rfl (Qt_fieldAddr (m := 1) rfl rfl rfl rfl rfl) ?_
        refine Ow_q rfl rfl rfl (Qt_load1 (v := (.int .i64 p1.address)) rfl rfl rfl (Rdc.blk (.tail _ (.tail _ (.head _))) rfl)) ?_
        refine Ow_q rfl rfl rfl (Qt_move rfl) ?_
        obtain ⟨x308, hx309, H⟩ := bnd H
        have hs310 := (hp0_words).mono hK307
        have hs311 := (hp0_lists).mono hK307
        refine Ow_cons rfl (OpW_call rfl Try.call57 rfl rfl (c_M_ref4_put p0 vp0_words vp0_lists p1.address l257 v256 x308 hx309 _ _ hs310 hs311 hs258) ?_)
        rintro _ _ _ - ⟨v312, v313, rs314, rfl, rfl, rfl, hs315, hs316⟩
        refine Ow_q rfl rfl rfl (Qt_move rfl) ?_
        refine Ow_q rfl rfl rfl (Q_len (T := Ty.i64) hs258 rfl rfl) ?_
        refine Ow_q rfl rfl rfl (Qt_conv (c := wU (l257.length : Int)) rfl rfl rfl rfl) ?_
        refine Ow_q rfl rfl rfl (Qt_build (cs := (Answer.cells (Answer.mk (wU (l257.length : Int)) false false []) nilS)) rfl rfl rfl rfl rfl rfl) ?_
        refine Ow_cons rfl (OpW_store (vs := (Memory.cells x308 v312 v313)) (all' := (Memory.cells x308 v312 v313)) rfl rfl rfl rfl rfl (.there (.there .here)) rfl rfl rfl ?_)
        refine Ow_cons rfl (OpW_store (vs := (Answer.cells (Answer.mk (wU (l257.length : Int)) false false []) nilS)) (all' := (Answer.cells (Answer.mk (wU (l257.length : Int)) false false []) nilS)) rfl rfl rfl rfl rfl (.there .here) rfl rfl rfl ?_)
        refine Ow_q rfl rfl rfl (Qt_assign rfl) ?_
        refine Ow_nil ?_
        refine Cw_ret ?_
        obtain ⟨ey0, ey1, ey2⟩ := inj3 H
        subst y0 y1 y2
        refine ⟨(by first | exact .inl rfl | exact .inr rfl), [(.agg (Memory.cells x308 v312 v313).toArray), (.agg (Answer.cells (Answer.mk (wU (l257.length : Int)) false false []) nilS).toArray), (.bool true)], ⟨(.agg (Memory.cells x308 v312 v313).toArray), _, rfl, ⟨_, 3, (Memory.cells x308 v312 v313), rfl, rfl, rfl, rfl, ⟨rfl, Rdc.blk (.tail _ (.tail _ (.head _))) rfl⟩, rfl⟩, ⟨(.agg (Answer.cells (Answer.mk (wU (l257.length : Int)) false false []) nilS).toArray), _, rfl, ⟨_, 4, (Answer.cells (Answer.mk (wU (l257.length : Int)) false false []) nilS), rfl, rfl, rfl, rfl, ⟨rfl, Rdc.blk (.tail _ (.head _)) rfl⟩, rfl⟩, ⟨(.bool true), _, rfl, rfl, rfl⟩⟩⟩, ?_⟩
        refine Shift.settle (T := (Ty.sl Ty.i64)) .here hs316 rfl ?_
        intro K317 hK318 hs319
        refine Shift.rem .here ?_
        refine Shift.rem .here ?_
        refine Shift.rem .here ?_
        refine Shift.rem .here ?_
        refine Shift.rem .here ?_
        have hs320 := (hs315).mono hK318
        refine Shift.done ?_
        exact ⟨v312, v313, nilS, rfl, rfl, hs320, hs319, (Slr.nil Ty.i64 _)⟩
    · intro h196
      have h196 := dcd_f (h196)
      have H := iff_ h196 H
      refine Cw_skip ?_
      refine Cw_seq ?_
      refine Cw_seq ?_
      refine Cw_region ?_
      refine Ow_q rfl rfl rfl (Qt_loadA (m := 3) (cs := (Memory.cells p0 vp0_words vp0_lists)) rfl rfl rfl rfl ⟨rfl, Rdc.blk (.tail _ (.tail _ (.tail _ (.head _)))) rfl⟩) ?_
      refine Ow_q rfl rfl rfl (Qt_fieldAddr (m := 1) rfl rfl rfl rfl rfl) ?_
      refine Ow_q rfl rfl rfl (Qt_load1 (v := (.int .i64 p1.address)) rfl rfl rfl (Rdc.blk (.tail _ (.tail _ (.head _))) rfl)) ?_
      obtain ⟨x324, hx325, H⟩ := bnd H
      refine Ow_cons rfl (OpW_call rfl Try.call58 rfl rfl (c_M_ref4_word p0 vp0_words vp0_lists p1.address x324 hx325 _ _ hp0_words hp0_lists) ?_)
      rintro _ _ _ - ⟨rfl, rfl, rfl⟩
      refine Ow_q rfl rfl rfl (Qt_not rfl) ?_
      refine Ow_nil ?_
      refine Cw_cond rfl ?_ ?_
      · intro h326
        have h326 := nt_t (h326)
        have H := iff_ (btf h326) H
        refine Cw_seq ?_
        refine Cw_region ?_
        refine Ow_q rfl rfl rfl (Qt_loadA (m := 3) (cs := (Memory.cells p0 vp0_words vp0_lists)) rfl rfl rfl rfl ⟨rfl, Rdc.blk (.tail _ (.tail _ (.tail _ (.head _)))) rfl⟩) ?_
        refine Ow_q rfl rfl rfl (Qt_build (cs := (Answer.cells (Answer.mk 0 false false []) nilS)) rfl rfl rfl rfl rfl rfl) ?_
        refine Ow_cons rfl (OpW_store (vs := (Memory.cells p0 vp0_words vp0_lists)) (all' := (Memory.cells p0 vp0_words vp0_lists)) rfl rfl rfl rfl rfl (.there .here) rfl rfl rfl ?_)
        refine Ow_cons rfl (OpW_store (vs := (Answer.cells (Answer.mk 0 false false []) nilS)) (all' := (Answer.cells (Answer.mk 0 false false []) nilS)) rfl rfl rfl rfl rfl .here rfl rfl rfl ?_)
        refine Ow_q rfl rfl rfl (Qt_assign rfl) ?_
        refine Ow_nil ?_
        refine Cw_ret ?_
        obtain ⟨ey0, ey1, ey2⟩ := inj3 H
        subst y0 y1 y2
        refine ⟨(by first | exact .inl rfl | exact .inr rfl), [(.agg (Memory.cells p0 vp0_words vp0_lists).toArray), (.agg (Answer.cells (Answer.mk 0 false false []) nilS).toArray), (.bool true)], ⟨(.agg (Memory.cells p0 vp0_words vp0_lists).toArray), _, rfl, ⟨_, 3, (Memory.cells p0 vp0_words vp0_lists), rfl, rfl, rfl, rfl, ⟨rfl, Rdc.blk (.tail _ (.head _)) rfl⟩, rfl⟩, ⟨(.agg (Answer.cells (Answer.mk 0 false false []) nilS).toArray), _, rfl, ⟨_, 4, (Answer.cells (Answer.mk 0 false false []) nilS), rfl, rfl, rfl, rfl, ⟨rfl, Rdc.blk (.head _) rfl⟩, rfl⟩, ⟨(.bool true), _, rfl, rfl, rfl⟩⟩⟩, ?_⟩
        refine Shift.rem .here ?_
        refine Shift.rem .here ?_
        refine Shift.rem .here ?_
        refine Shift.rem .here ?_
        refine Shift.done ?_
        exact ⟨vp0_words, vp0_lists, nilS, rfl, rfl, hp0_words, hp0_lists, (Slr.nil Ty.i64 _)⟩
      · intro h326
        have h326 := nt_f (h326)
        have H := ift h326 H
        refine Cw_skip ?_
        refine Cw_seq ?_
        refine Cw_region ?_
        refine Ow_q rfl rfl rfl (Qt_fieldAddr (m := 0) rfl rfl rfl rfl rfl) ?_
        refine Ow_q rfl rfl rfl (Qt_load1 (v := (sv vp0_words)) rfl rfl rfl (Rdc.blk (.tail _ (.tail _ (.tail _ (.head _)))) rfl)) ?_
        refine Ow_q rfl rfl rfl (Qt_fieldAddr (m := 1) rfl rfl rfl rfl rfl) ?_
        refine Ow_q rfl rfl rfl (Qt_load1 (v := (.int .i64 p1.address)) rfl rfl rfl (Rdc.blk (.tail _ (.tail _ (.head _))) rfl)) ?_
        obtain ⟨x327, hx328, H⟩ := bnd H
        obtain ⟨r329, hr330, hk331⟩ := Slr.at hp0_words hx328
        obtain rfl := hr330
        refine Ow_q rfl rfl rfl (Q_ix (T := Ty.u64) hp0_words hx328 rfl rfl rfl rfl rfl) ?_
        refine Ow_q rfl rfl rfl (Qt_load1 (v := (.int .u64 x327)) rfl rfl rfl (Rdc.k hk331 rfl)) ?_
        refine Ow_q rfl rfl rfl (Qt_assign rfl) ?_
        refine Ow_nil ?_
        refine Cw_seq ?_
        refine Cw_seq ?_
        refine Cw_region ?_
        refine Ow_q rfl rfl rfl (Qt_fieldAddr (m := 0) rfl rfl rfl rfl rfl) ?_
        refine Ow_q rfl rfl rfl (Qt_load1 (v := (.int .i64 p1.kind)) rfl rfl rfl (Rdc.blk (.tail _ (.tail _ (.head _))) rfl)) ?_
        refine Ow_nil ?_
        refine Cw_block ?_
        refine Cw_join (fun env' K' G' => ∃ (t353 : Bool), [(2, (.pointer (some ((⟨b115, 0, none⟩ : Addr).add 0)))), (3, (.pointer (some ((⟨b116, 0, none⟩ : Addr).add 0)))), (4, (.pointer (some ((⟨b117, 0, none⟩ : Addr).add 0)))), (5, (.pointer (some ((⟨b118, 0, none⟩ : Addr).add 0)))), (8, (.int .u64 x327)), (86, (.int .i64 p1.kind)), (87, (.bool t353))] = env' ∧ K = K' ∧ (.blk b118 40 (Answer.cells (Answer.mk 0 false false []) nilS)) :: (.blk b117 49 (Memory.cells (Memory.mk [] [] 0) nilS nilS)) :: (.blk b116 24 (Access.cells p1)) :: (.blk b115 49 (Memory.cells p0 vp0_words vp0_lists)) :: G = G' ∧ M_ref4_Apply_J3 x327 p1 p0 t353 = some (y0, y1, y2)) ?_ ?_
        · skip
          refine Cw_seq ?_
          refine Cw_region ?_
          refine Ow_q rfl rfl rfl (Qt_cmp rfl rfl rfl) ?_
          refine Ow_q rfl rfl rfl (Qt_assign rfl) ?_
          refine Ow_nil ?_
          refine Cw_cond rfl ?_ ?_
          · intro h354
            have h354 := dcd_t (h354)
            have H := ift h354 H
            refine Cw_skip ?_
            refine Shift.pull (.there (.there (.there .here))) ?_
            refine Shift.pull (.there (.there (.there .here))) ?_
            refine Shift.pull (.there (.there (.there .here))) ?_
            refine Shift.pull (.there (.there (.there .here))) ?_
            refine Shift.done ?_
            exact ⟨[(2, (.pointer (some ((⟨b115, 0, none⟩ : Addr).add 0)))), (3, (.pointer (some ((⟨b116, 0, none⟩ : Addr).add 0)))), (4, (.pointer (some ((⟨b117, 0, none⟩ : Addr).add 0)))), (5, (.pointer (some ((⟨b118, 0, none⟩ : Addr).add 0)))), (8, (.int .u64 x327)), (86, (.int .i64 p1.kind)), (87, (.bool (dcd (p1.kind = 2))))], ⟨rfl, rfl, rfl, rfl, rfl, rfl, rfl, trivial⟩, (dcd (p1.kind = 2)), rfl, rfl, rfl, H⟩
          · intro h354
            have h354 := dcd_f (h354)
            have H := iff_ h354 H
            refine Cw_region ?_
            refine Ow_q rfl rfl rfl (Qt_cmp rfl rfl rfl) ?_
            refine Ow_q rfl rfl rfl (Qt_assign rfl) ?_
            refine Ow_nil ?_
            refine Shift.pull (.there (.there (.there .here))) ?_
            refine Shift.pull (.there (.there (.there .here))) ?_
            refine Shift.pull (.there (.there (.there .here))) ?_
            refine Shift.pull (.there (.there (.there .here))) ?_
            refine Shift.done ?_
            exact ⟨[(2, (.pointer (some ((⟨b115, 0, none⟩ : Addr).add 0)))), (3, (.pointer (some ((⟨b116, 0, none⟩ : Addr).add 0)))), (4, (.pointer (some ((⟨b117, 0, none⟩ : Addr).add 0)))), (5, (.pointer (some ((⟨b118, 0, none⟩ : Addr).add 0)))), (8, (.int .u64 x327)), (86, (.int .i64 p1.kind)), (87, (.bool (dcd (p1.kind = 6))))], ⟨rfl, rfl, rfl, rfl, rfl, rfl, rfl, trivial⟩, (dcd (p1.kind = 6)), rfl, rfl, rfl, H⟩
        rintro _ _ _ - ⟨t353, rfl, rfl, rfl, H⟩
        unfold M_ref4_Apply_J3 at H
        refine Cw_cond rfl ?_ ?_
        · intro h355
          have H := ift h355 H
          refine Cw_seq ?_
          refine Cw_region ?_
          refine Ow_q rfl rfl rfl (Qt_loadA (m := 3) (cs := (Memory.cells p0 vp0_words vp0_lists)) rfl rfl rfl rfl ⟨rfl, Rdc.blk (.tail _ (.tail _ (.tail _ (.head _)))) rfl⟩) ?_
          refine Ow_q rfl rfl rfl (Qt_fieldAddr (m := 1) rfl rfl rfl rfl rfl) ?_
          refine Ow_q rfl rfl rfl (Qt_load1 (v := (.int .i64 p1.address)) rfl rfl rfl (Rdc.blk (.tail _ (.tail _ (.head _))) rfl)) ?_
          refine Ow_q rfl rfl rfl (Qt_fieldAddr (m := 3) rfl rfl rfl rfl rfl) ?_
          refine Ow_q rfl rfl rfl (Qt_load1 (v := (.int .u64 p1.new)) rfl rfl rfl (Rdc.blk (.tail _ (.tail _ (.head _))) rfl)) ?_
          obtain ⟨x356, hx357, H⟩ := bnd H
          refine Ow_cons rfl (OpW_call rfl Try.call59 rfl rfl (c_M_ref4_set p0 vp0_words vp0_lists p1.address p1.new x356 hx357 _ _ hp0_words hp0_lists) ?_)
          rintro _ _ _ - ⟨v358, rs359, v360, rfl, rfl, rfl, hs361, hs362⟩
          refine Ow_q rfl rfl rfl (Qt_build (cs := (Answer.cells (Answer.mk 0 false false []) nilS)) rfl rfl rfl rfl rfl rfl) ?_
          refine Ow_cons rfl (OpW_store (vs := (Memory.cells x356 v358 v360)) (all' := (Memory.cells x356 v358 v360)) rfl rfl rfl rfl rfl (.there (.there .here)) rfl rfl rfl ?_)
          refine Ow_cons rfl (OpW_store (vs := (Answer.cells (Answer.mk 0 false false []) nilS)) (all' := (Answer.cells (Answer.mk 0 false false []) nilS)) rfl rfl rfl rfl rfl (.there .here) rfl rfl rfl ?_)
          refine Ow_q rfl rfl rfl (Qt_assign rfl) ?_
          refine Ow_nil ?_
          refine Cw_ret ?_
          obtain ⟨ey0, ey1, ey2⟩ := inj3 H
          subst y0 y1 y2
          refine ⟨(by first | exact .inl rfl | exact .inr rfl), [(.agg (Memory.cells x356 v358 v360).toArray), (.agg (Answer.cells (Answer.mk 0 false false []) nilS).toArray), (.bool true)], ⟨(.agg (Memory.cells x356 v358 v360).toArray), _, rfl, ⟨_, 3, (Memory.cells x356 v358 v360), rfl, rfl, rfl, rfl, ⟨rfl, Rdc.blk (.tail _ (.tail _ (.head _))) rfl⟩, rfl⟩, ⟨(.agg (Answer.cells (Answer.mk 0 false false []) nilS).toArray), _, rfl, ⟨_, 4, (Answer.cells (Answer.mk 0 false false []) nilS), rfl, rfl, rfl, rfl, ⟨rfl, Rdc.blk (.tail _ (.head _)) rfl⟩, rfl⟩, ⟨(.bool true), _, rfl, rfl, rfl⟩⟩⟩, ?_⟩
          refine Shift.settle (T := Ty.u64) .here hs361 rfl ?_
          intro K363 hK364 hs365
          refine Shift.rem .here ?_
          refine Shift.rem .here ?_
          refine Shift.rem .here ?_
          refine Shift.rem .here ?_
          refine Shift.rem .here ?_
          have hs366 := (hs362).mono hK364
          refine Shift.done ?_
          exact ⟨v358, v360, nilS, rfl, rfl, hs365, hs366, (Slr.nil Ty.i64 _)⟩
        · intro h355
          have H := iff_ (btf h355) H
          refine Cw_seq ?_
          refine Cw_region ?_
          refine Ow_q rfl rfl rfl (Qt_cmp rfl rfl rfl) ?_
          refine Ow_q rfl rfl rfl (Qt_assign rfl) ?_
          refine Ow_nil ?_
          refine Cw_cond rfl ?_ ?_
          · intro h367
            have h367 := dcd_t (h367)
            have H := ift h367 H
            refine Cw_seq ?_
            refine Cw_seq ?_
            refine Cw_region ?_
            refine Ow_q rfl rfl rfl (Qt_move rfl) ?_
            refine Ow_q rfl rfl rfl (Qt_fieldAddr (m := 2) rfl rfl rfl rfl rfl) ?_
            refine Ow_q rfl rfl rfl (Qt_load1 (v := (.int .u64 p1.old)) rfl rfl rfl (Rdc.blk (.tail _ (.tail _ (.head _))) rfl)) ?_
            refine Ow_q rfl rfl rfl (Qt_cmp rfl rfl rfl) ?_
            refine Ow_nil ?_
            refine Cw_cond rfl ?_ ?_
            · intro h369
              have h369 := dcd_f (nt_t (h369))
              have H := iff_ h369 H
              refine Cw_seq ?_
              refine Cw_region ?_
              refine Ow_q rfl rfl rfl (Qt_loadA (m := 3) (cs := (Memory.cells p0 vp0_words vp0_lists)) rfl rfl rfl rfl ⟨rfl, Rdc.blk (.tail _ (.tail _ (.tail _ (.head _)))) rfl⟩) ?_
              refine Ow_q rfl rfl rfl (Qt_move rfl) ?_
              refine Ow_q rfl rfl rfl (Qt_build (cs := (Answer.cells (Answer.mk x327 false false []) nilS)) rfl rfl rfl rfl rfl rfl) ?_
              refine Ow_cons rfl (OpW_store (vs := (Memory.cells p0 vp0_words vp0_lists)) (all' := (Memory.cells p0 vp0_words vp0_lists)) rfl rfl rfl rfl rfl (.there .here) rfl rfl rfl ?_)
              refine Ow_cons rfl (OpW_store (vs := (Answer.cells (Answer.mk x327 false false []) nilS)) (all' := (Answer.cells (Answer.mk x327 false false []) nilS)) rfl rfl rfl rfl rfl .here rfl rfl rfl ?_)
              refine Ow_q rfl rfl rfl (Qt_assign rfl) ?_
              refine Ow_nil ?_
              refine Cw_ret ?_
              obtain ⟨ey0, ey1, ey2⟩ := inj3 H
              subst y0 y1 y2
              refine ⟨(by first | exact .inl rfl | exact .inr rfl), [(.agg (Memory.cells p0 vp0_words vp0_lists).toArray), (.agg (Answer.cells (Answer.mk x327 false false []) nilS).toArray), (.bool true)], ⟨(.agg (Memory.cells p0 vp0_words vp0_lists).toArray), _, rfl, ⟨_, 3, (Memory.cells p0 vp0_words vp0_lists), rfl, rfl, rfl, rfl, ⟨rfl, Rdc.blk (.tail _ (.head _)) rfl⟩, rfl⟩, ⟨(.agg (Answer.cells (Answer.mk x327 false false []) nilS).toArray), _, rfl, ⟨_, 4, (Answer.cells (Answer.mk x327 false false []) nilS), rfl, rfl, rfl, rfl, ⟨rfl, Rdc.blk (.head _) rfl⟩, rfl⟩, ⟨(.bool true), _, rfl, rfl, rfl⟩⟩⟩, ?_⟩
              refine Shift.rem .here ?_
              refine Shift.rem .here ?_
              refine Shift.rem .here ?_
              refine Shift.rem .here ?_
              refine Shift.done ?_
              exact ⟨vp0_words, vp0_lists, nilS, rfl, rfl, hp0_words, hp0_lists, (Slr.nil Ty.i64 _)⟩
            · intro h369
              have h369 := dcd_t (nt_f (h369))
              have H := ift h369 H
              refine Cw_skip ?_
              refine Cw_seq ?_
              refine Cw_region ?_
              refine Ow_q rfl rfl rfl (Qt_loadA (m := 3) (cs := (Memory.cells p0 vp0_words vp0_lists)) rfl rfl rfl rfl ⟨rfl, Rdc.blk (.tail _ (.tail _ (.tail _ (.head _)))) rfl⟩) ?_
              refine Ow_q rfl rfl rfl (Qt_fieldAddr (m := 1) rfl rfl rfl rfl rfl) ?_
              refine Ow_q rfl rfl rfl (Qt_load1 (v := (.int .i64 p1.address)) rfl rfl rfl (Rdc.blk (.tail _ (.tail _ (.head _))) rfl)) ?_
              refine Ow_q rfl rfl rfl (Qt_fieldAddr (m := 3) rfl rfl rfl rfl rfl) ?_
              refine Ow_q rfl rfl rfl (Qt_load1 (v := (.int .u64 p1.new)) rfl rfl rfl (Rdc.blk (.tail _ (.tail _ (.head _))) rfl)) ?_
              obtain ⟨x370, hx371, H⟩ := bnd H
              refine Ow_cons rfl (OpW_call rfl Try.call59 rfl rfl (c_M_ref4_set p0 vp0_words vp0_lists p1.address p1.new x370 hx371 _ _ hp0_words hp0_lists) ?_)
              rintro _ _ _ - ⟨v372, rs373, v374, rfl, rfl, rfl, hs375, hs376⟩
              refine Ow_q rfl rfl rfl (Qt_move rfl) ?_
              refine Ow_q rfl rfl rfl (Qt_build (cs := (Answer.cells (Answer.mk x327 true false []) nilS)) rfl rfl rfl rfl rfl rfl) ?_
              refine Ow_cons rfl (OpW_store (vs := (Memory.cells x370 v372 v374)) (all' := (Memory.cells x370 v372 v374)) rfl rfl rfl rfl rfl (.there (.there .here)) rfl rfl rfl ?_)
              refine Ow_cons rfl (OpW_store (vs := (Answer.cells (Answer.mk x327 true false []) nilS)) (all' := (Answer.cells (Answer.mk x327 true false []) nilS)) rfl rfl rfl rfl rfl (.there .here) rfl rfl rfl ?_)
              refine Ow_q rfl rfl rfl (Qt_assign rfl) ?_
              refine Ow_nil ?_
              refine Cw_ret ?_
              obtain ⟨ey0, ey1, ey2⟩ := inj3 H
              subst y0 y1 y2
              refine ⟨(by first | exact .inl rfl | exact .inr rfl), [(.agg (Memory.cells x370 v372 v374).toArray), (.agg (Answer.cells (Answer.mk x327 true false []) nilS).toArray), (.bool true)], ⟨(.agg (Memory.cells x370 v372 v374).toArray), _, rfl, ⟨_, 3, (Memory.cells x370 v372 v374), rfl, rfl, rfl, rfl, ⟨rfl, Rdc.blk (.tail _ (.tail _ (.head _))) rfl⟩, rfl⟩, ⟨(.agg (Answer.cells (Answer.mk x327 true false []) nilS).toArray), _, rfl, ⟨_, 4, (Answer.cells (Answer.mk x327 true false []) nilS), rfl, rfl, rfl, rfl, ⟨rfl, Rdc.blk (.tail _ (.head _)) rfl⟩, rfl⟩, ⟨(.bool true), _, rfl, rfl, rfl⟩⟩⟩, ?_⟩
              refine Shift.settle (T := Ty.u64) .here hs375 rfl ?_
              intro K377 hK378 hs379
              refine Shift.rem .here ?_
              refine Shift.rem .here ?_
              refine Shift.rem .here ?_
              refine Shift.rem .here ?_
              refine Shift.rem .here ?_
              have hs380 := (hs376).mono hK378
              refine Shift.done ?_
              exact ⟨v372, v374, nilS, rfl, rfl, hs379, hs380, (Slr.nil Ty.i64 _)⟩
          · intro h367
            have h367 := dcd_f (h367)
            have H := iff_ h367 H
            refine Cw_seq ?_
            refine Cw_region ?_
            refine Ow_q rfl rfl rfl (Qt_cmp rfl rfl rfl) ?_
            refine Ow_q rfl rfl rfl (Qt_assign rfl) ?_
            refine Ow_nil ?_
            refine Cw_cond rfl ?_ ?_
            · intro h381
              have h381 := dcd_t (h381)
              have H := ift h381 H
              refine Cw_seq ?_
              refine Cw_region_any [.blk b116 24 (Access.cells p1), .blk b115 49 (Memory.cells p0 vp0_words vp0_lists)] rfl (Inc.cons (.tail _ (.tail _ (.head _))) (Inc.cons (.tail _ (.tail _ (.tail _ (.head _)))) Inc.nil)) ?_
              refine Aw_q 0 rfl (by kernel_rfl) (by kernel_rfl) (by kernel_rfl) rfl rfl rfl (Qt_loadA (m := 3) (cs := (Memory.cells p0 vp0_words vp0_lists)) rfl rfl rfl rfl ⟨rfl, Rdc.blk (.tail _ (.head _)) rfl⟩) ?_
              refine Aw_q 1 rfl (by kernel_rfl) (by kernel_rfl) (by kernel_rfl) rfl rfl rfl (Qt_move rfl) ?_
              refine Aw_q 2 rfl (by kernel_rfl) (by kernel_rfl) (by kernel_rfl) rfl rfl rfl (Qt_move rfl) ?_
              refine Aw_q 3 rfl (by kernel_rfl) (by kernel_rfl) (by kernel_rfl) rfl rfl rfl (Qt_fieldAddr (m := 2) rfl rfl rfl rfl rfl) ?_
              refine Aw_q 4 rfl (by kernel_rfl) (by kernel_rfl) (by kernel_rfl) rfl rfl rfl (Qt_load1 (v := (.int .u64 p1.old)) rfl rfl rfl (Rdc.blk (.head _) rfl)) ?_
              refine Aw_q 5 rfl (by kernel_rfl) (by kernel_rfl) (by kernel_rfl) rfl rfl rfl (Qt_cmp rfl rfl rfl) ?_
              refine Aw_q 6 rfl (by kernel_rfl) (by kernel_rfl) (by kernel_rfl) rfl rfl rfl (Qt_build (cs := (Answer.cells (Answer.mk x327 false (dcd (x327 = p1.old)) []) nilS)) rfl rfl rfl rfl rfl rfl) ?_
              refine Aw_one 7 (by kernel_rfl) (Ax_mk rfl rfl ?_)
              refine OpW_store (vs := (Memory.cells p0 vp0_words vp0_lists)) (all' := (Memory.cells p0 vp0_words vp0_lists)) rfl rfl rfl rfl rfl (.there .here) rfl rfl rfl ⟨(Inc.cons (.tail _ (.tail _ (.head _))) (Inc.cons (.tail _ (.tail _ (.tail _ (.head _)))) Inc.nil)), ?_⟩
              refine Aw_one 8 (by kernel_rfl) (Ax_mk rfl rfl ?_)
              refine OpW_store (vs := (Answer.cells (Answer.mk x327 false (dcd (x327 = p1.old)) []) nilS)) (all' := (Answer.cells (Answer.mk x327 false (dcd (x327 = p1.old)) []) nilS)) rfl rfl rfl rfl rfl .here rfl rfl rfl ⟨(Inc.cons (.tail _ (.tail _ (.head _))) (Inc.cons (.tail _ (.tail _ (.tail _ (.head _)))) Inc.nil)), ?_⟩
              refine Aw_q 9 rfl (by kernel_rfl) (by kernel_rfl) (by kernel_rfl) rfl rfl rfl (Qt_assign rfl) ?_
              refine Aw_done (by kernel_rfl) ?_
              refine Cw_ret ?_
              obtain ⟨ey0, ey1, ey2⟩ := inj3 H
              subst y0 y1 y2
              refine ⟨(by first | exact .inl rfl | exact .inr rfl), [(.agg (Memory.cells p0 vp0_words vp0_lists).toArray), (.agg (Answer.cells (Answer.mk x327 false (dcd (x327 = p1.old)) []) nilS).toArray), (.bool true)], ⟨(.agg (Memory.cells p0 vp0_words vp0_lists).toArray), _, rfl, ⟨_, 3, (Memory.cells p0 vp0_words vp0_lists), rfl, rfl, rfl, rfl, ⟨rfl, Rdc.blk (.tail _ (.head _)) rfl⟩, rfl⟩, ⟨(.agg (Answer.cells (Answer.mk x327 false (dcd (x327 = p1.old)) []) nilS).toArray), _, rfl, ⟨_, 4, (Answer.cells (Answer.mk x327 false (dcd (x327 = p1.old)) []) nilS), rfl, rfl, rfl, rfl, ⟨rfl, Rdc.blk (.head _) rfl⟩, rfl⟩, ⟨(.bool true), _, rfl, rfl, rfl⟩⟩⟩, ?_⟩
              refine Shift.rem .here ?_
              refine Shift.rem .here ?_
              refine Shift.rem .here ?_
              refine Shift.rem .here ?_
              refine Shift.done ?_
              exact ⟨vp0_words, vp0_lists, nilS, rfl, rfl, hp0_words, hp0_lists, (Slr.nil Ty.i64 _)⟩
            · intro h381
              have h381 := dcd_f (h381)
              have H := iff_ h381 H
              refine Cw_skip ?_
              refine Cw_seq ?_
              refine Cw_region ?_
              refine Ow_q rfl rfl rfl (Qt_loadA (m := 3) (cs := (Memory.cells p0 vp0_words vp0_lists)) rfl rfl rfl rfl ⟨rfl, Rdc.blk (.tail _ (.tail _ (.tail _ (.head _)))) rfl⟩) ?_
              refine Ow_q rfl rfl rfl (Qt_move rfl) ?_
              refine Ow_q rfl rfl rfl (Qt_build (cs := (Answer.cells (Answer.mk x327 false false []) nilS)) rfl rfl rfl rfl rfl rfl) ?_
              refine Ow_cons rfl (OpW_store (vs := (Memory.cells p0 vp0_words vp0_lists)) (all' := (Memory.cells p0 vp0_words vp0_lists)) rfl rfl rfl rfl rfl (.there .here) rfl rfl rfl ?_)
              refine Ow_cons rfl (OpW_store (vs := (Answer.cells (Answer.mk x327 false false []) nilS)) (all' := (Answer.cells (Answer.mk x327 false false []) nilS)) rfl rfl rfl rfl rfl .here rfl rfl rfl ?_)
              refine Ow_q rfl rfl rfl (Qt_assign rfl) ?_
              refine Ow_nil ?_
              refine Cw_ret ?_
              obtain ⟨ey0, ey1, ey2⟩ := inj3 H
              subst y0 y1 y2
              refine ⟨(by first | exact .inl rfl | exact .inr rfl), [(.agg (Memory.cells p0 vp0_words vp0_lists).toArray), (.agg (Answer.cells (Answer.mk x327 false false []) nilS).toArray), (.bool true)], ⟨(.agg (Memory.cells p0 vp0_words vp0_lists).toArray), _, rfl, ⟨_, 3, (Memory.cells p0 vp0_words vp0_lists), rfl, rfl, rfl, rfl, ⟨rfl, Rdc.blk (.tail _ (.head _)) rfl⟩, rfl⟩, ⟨(.agg (Answer.cells (Answer.mk x327 false false []) nilS).toArray), _, rfl, ⟨_, 4, (Answer.cells (Answer.mk x327 false false []) nilS), rfl, rfl, rfl, rfl, ⟨rfl, Rdc.blk (.head _) rfl⟩, rfl⟩, ⟨(.bool true), _, rfl, rfl, rfl⟩⟩⟩, ?_⟩
              refine Shift.rem .here ?_
              refine Shift.rem .here ?_
              refine Shift.rem .here ?_
              refine Shift.rem .here ?_
              refine Shift.done ?_
              exact ⟨vp0_words, vp0_lists, nilS, rfl, rfl, hp0_words, hp0_lists, (Slr.nil Ty.i64 _)⟩

set_option maxHeartbeats 1000000 in
theorem c_M_ref4_Item (p0 : Int) (p1 : Access) (p2 : Answer) (vp2_list : SV) (y0 : Item) (H : M_ref4_Item p0 p1 p2 = some y0) (K : Kp) (G : List Ent) (hp2_list : Slr Ty.i64 K (sv vp2_list) p2.list) :
    Fc Try.prog 22 #[(.int .i64 p0), (.agg (Access.cells p1).toArray), (.agg (Answer.cells p2 vp2_list).toArray)] K (G) (fun v K' G' => v = (.agg (Item.cells y0).toArray) ∧ K = K' ∧ G = G') := by
  refine Fc_body Try.func22 rfl Try.ntmps22 Try.results22 rfl ?_
  unfold M_ref4_Item at H
  refine Cw_seq ?_
  refine Cw_region ?_
  refine Ow_cons rfl (OpW_box (cs := (Access.cells p1)) rfl rfl rfl (fun b4 => ?_))
  refine Ow_cons rfl (OpW_box (cs := (Answer.cells p2 vp2_list)) rfl rfl rfl (fun b5 => ?_))
  refine Ow_cons rfl (OpW_alloc (cs := (Item.cells (Item.mk 0 (Access.mk 0 0 0 0 0) 0 false))) rfl rfl rfl rfl (fun b6 => ?_))
  refine Ow_nil ?_
  refine Cw_seq ?_
  refine Cw_region ?_
  refine Ow_q rfl rfl rfl (Qt_move rfl) ?_
  refine Ow_q rfl rfl rfl (Qt_loadA (m := 5) (cs := (Access.cells p1)) rfl rfl rfl rfl ⟨rfl, Rdc.blk (.tail _ (.tail _ (.head _))) rfl⟩) ?_
  refine Ow_q rfl rfl rfl (Qt_fieldAddr (m := 0) rfl rfl rfl rfl rfl) ?_
  refine Ow_q rfl rfl rfl (Qt_load1 (v := (.int .u64 p2.value)) rfl rfl rfl (Rdc.blk (.tail _ (.head _)) rfl)) ?_
  refine Ow_q rfl rfl rfl (Qt_fieldAddr (m := 1) rfl rfl rfl rfl rfl) ?_
  refine Ow_q rfl rfl rfl (Qt_load1 (v := (.bool p2.ok)) rfl rfl rfl (Rdc.blk (.tail _ (.head _)) rfl)) ?_
  refine Ow_q rfl rfl rfl (Qt_build (cs := (Item.cells (Item.mk p0 p1 p2.value p2.ok))) rfl rfl rfl rfl rfl rfl) ?_
  refine Ow_cons rfl (OpW_store (vs := (Item.cells (Item.mk p0 p1 p2.value p2.ok))) (all' := (Item.cells (Item.mk p0 p1 p2.value p2.ok))) rfl rfl rfl rfl rfl .here rfl rfl rfl ?_)
  refine Ow_nil ?_
  refine Cw_ret ?_
  obtain ey0 := inj1 H
  subst y0
  refine ⟨(by first | exact .inl rfl | exact .inr rfl), [(.agg (Item.cells (Item.mk p0 p1 p2.value p2.ok)).toArray)], ⟨(.agg (Item.cells (Item.mk p0 p1 p2.value p2.ok)).toArray), _, rfl, ⟨_, 8, (Item.cells (Item.mk p0 p1 p2.value p2.ok)), rfl, rfl, rfl, rfl, ⟨rfl, Rdc.blk (.head _) rfl⟩, rfl⟩, rfl⟩, ?_⟩
  refine Shift.rem .here ?_
  refine Shift.rem .here ?_
  refine Shift.rem .here ?_
  refine Shift.done ?_
  exact ⟨rfl, rfl, rfl⟩

set_option maxHeartbeats 1000000 in
theorem c_M_ref4_SameWords (p0 : List Int) (vp0 : SV) (p1 : List Int) (vp1 : SV) (y0 : Bool) (H : M_ref4_SameWords p0 p1 = some y0) (K : Kp) (G : List Ent) (hp0 : Slr Ty.u64 K (sv vp0) p0) (hp1 : Slr Ty.u64 K (sv vp1) p1) :
    Fc Try.prog 60 #[(sv vp0), (sv vp1)] K (G) (fun v K' G' => v = (.bool y0) ∧ G = G') := by
  refine Fc_body Try.func60 rfl Try.ntmps60 Try.results60 rfl ?_
  unfold M_ref4_SameWords at H
  refine Cw_seq ?_
  refine Cw_region ?_
  refine Ow_q rfl rfl rfl (Qt_assign rfl) ?_
  refine Ow_nil ?_
  refine Cw_seq ?_
  refine Cw_seq ?_
  refine Cw_region ?_
  refine Ow_q rfl rfl rfl (Qt_move rfl) ?_
  refine Ow_q rfl rfl rfl (Q_len (T := Ty.u64) hp0 rfl rfl) ?_
  refine Ow_q rfl rfl rfl (Qt_move rfl) ?_
  refine Ow_q rfl rfl rfl (Q_len (T := Ty.u64) hp1 rfl rfl) ?_
  refine Ow_q rfl rfl rfl (Qt_cmp rfl rfl rfl) ?_
  refine Ow_nil ?_
  refine Cw_cond rfl ?_ ?_
  · intro h53
    have h53 := dcd_f (nt_t (h53))
    have H := iff_ h53 H
    refine Cw_seq ?_
    refine Cw_region ?_
    refine Ow_q rfl rfl rfl (Qt_assign rfl) ?_
    refine Ow_nil ?_
    refine Cw_ret ?_
    obtain ey0 := inj1 H
    subst y0
    refine ⟨(by first | exact .inl rfl | exact .inr rfl), [(.bool false)], ⟨(.bool false), _, rfl, rfl, rfl⟩, ?_⟩
    refine Shift.done ?_
    exact ⟨rfl, rfl⟩
  · intro h53
    have h53 := dcd_t (nt_f (h53))
    have H := ift h53 H
    refine Cw_skip ?_
    refine Cw_join (fun env' K' G' => [] = env' ∧ G = G' ∧ M_ref4_SameWords_J1 = some y0) ?_ ?_
    · skip
      refine Cw_seq ?_
      refine Cw_region ?_
      refine Ow_q rfl rfl rfl (Qt_assign rfl) ?_
      refine Ow_nil ?_
      refine Cw_block ?_
      refine Cw_loopM (fun n150 env' K' G' => ∃ (i149 : Int), [(0, (sv vp0)), (1, (sv vp1)), (5, (.int .i64 i149))] = env' ∧ K = K' ∧ G = G' ∧ lp1 (M_ref4_SameWords_L1 p0 p1) n150 i149 = some y0) BIG ?_ ?_
      · skip
        refine Shift.done ?_
        exact ⟨[(0, (sv vp0)), (1, (sv vp1)), (5, (.int .i64 0))], ⟨rfl, rfl, rfl, trivial⟩, 0, rfl, rfl, rfl, H⟩
      rintro n150 _ _ _ - ⟨i149, rfl, rfl, rfl, H⟩
      obtain ⟨m151, k152, rfl, hkk153, H⟩ := lps1 H
      unfold M_ref4_SameWords_L1 at H
      refine Cw_seq ?_
      refine Cw_seq ?_
      refine Cw_region ?_
      refine Ow_q rfl rfl rfl (Qt_move rfl) ?_
      refine Ow_q rfl rfl rfl (Qt_move rfl) ?_
      refine Ow_q rfl rfl rfl (Q_len (T := Ty.u64) hp0 rfl rfl) ?_
      refine Ow_q rfl rfl rfl (Qt_cmp rfl rfl rfl) ?_
      refine Ow_nil ?_
      refine Cw_cond rfl ?_ ?_
      · intro h155
        have h155 := dcd_t (h155)
        have H := ift h155 H
        refine Cw_skip ?_
        refine Cw_seq ?_
        refine Cw_block ?_
        refine Cw_seq ?_
        obtain ⟨x173, hx174, H⟩ := bnd H
        obtain ⟨x178, hx179, H⟩ := bnd H
        refine Cw_region_any [] rfl Inc.nil ?_
        refine Aw_q 0 rfl (by kernel_rfl) (by kernel_rfl) (by kernel_rfl) rfl rfl rfl (Qt_move rfl) ?_
        refine Aw_q 1 rfl (by kernel_rfl) (by kernel_rfl) (by kernel_rfl) rfl rfl rfl (Qt_move rfl) ?_
        obtain ⟨r183, hr184, hk185⟩ := Slr.at hp0 hx174
        obtain rfl := hr184
        refine Aw_q 2 rfl (by kernel_rfl) (by kernel_rfl) (by kernel_rfl) rfl rfl rfl (Q_ix (T := Ty.u64) hp0 hx174 rfl rfl rfl rfl rfl) ?_
        refine Aw_q 3 rfl (by kernel_rfl) (by kernel_rfl) (by kernel_rfl) rfl rfl rfl (Qt_load1 (v := (.int .u64 x173)) rfl rfl rfl (Rdc.k hk185 rfl)) ?_
        refine Aw_q 4 rfl (by kernel_rfl) (by kernel_rfl) (by kernel_rfl) rfl rfl rfl (Qt_move rfl) ?_
        refine Aw_q 5 rfl (by kernel_rfl) (by kernel_rfl) (by kernel_rfl) rfl rfl rfl (Qt_move rfl) ?_
        obtain ⟨r186, hr187, hk188⟩ := Slr.at hp1 hx179
        obtain rfl := hr187
        refine Aw_q 6 rfl (by kernel_rfl) (by kernel_rfl) (by kernel_rfl) rfl rfl rfl (Q_ix (T := Ty.u64) hp1 hx179 rfl rfl rfl rfl rfl) ?_
        refine Aw_q 7 rfl (by kernel_rfl) (by kernel_rfl) (by kernel_rfl) rfl rfl rfl (Qt_load1 (v := (.int .u64 x178)) rfl rfl rfl (Rdc.k hk188 rfl)) ?_
        refine Aw_q 8 rfl (by kernel_rfl) (by kernel_rfl) (by kernel_rfl) rfl rfl rfl (Qt_cmp rfl rfl rfl) ?_
        refine Aw_done (by kernel_rfl) ?_
        refine Cw_cond rfl ?_ ?_
        · intro h189
          have h189 := dcd_f (nt_t (h189))
          have H := iff_ h189 H
          refine Cw_seq ?_
          refine Cw_region ?_
          refine Ow_q rfl rfl rfl (Qt_assign rfl) ?_
          refine Ow_nil ?_
          refine Cw_ret ?_
          obtain ey0 := inj1 H
          subst y0
          refine ⟨(by first | exact .inl rfl | exact .inr rfl), [(.bool false)], ⟨(.bool false), _, rfl, rfl, rfl⟩, ?_⟩
          refine Shift.done ?_
          exact ⟨rfl, rfl⟩
        · intro h189
          have h189 := dcd_t (nt_f (h189))
          have H := ift h189 H
          refine Cw_skip ?_
          refine Cw_region ?_
          refine Ow_q rfl rfl rfl (Qt_move rfl) ?_
          refine Ow_q rfl rfl rfl (Qt_arith (e := wI (i149 + 1)) rfl rfl rfl rfl) ?_
          refine Ow_q rfl rfl rfl (Qt_assign rfl) ?_
          refine Ow_nil ?_
          refine Shift.done ?_
          exact ⟨[(0, (sv vp0)), (1, (sv vp1)), (5, (.int .i64 (wI (i149 + 1))))], ⟨rfl, rfl, rfl, trivial⟩, _, Nat.lt_succ_self _, (wI (i149 + 1)), rfl, rfl, rfl, (hkk153 ▸ H)⟩
      · intro h155
        have h155 := dcd_f (h155)
        have H := iff_ h155 H
        refine Cw_exit ?_
        refine Shift.done ?_
        exact ⟨[], trivial, rfl, rfl, H⟩
    rintro _ K190 _ hK191 ⟨rfl, rfl, H⟩
    unfold M_ref4_SameWords_J1 at H
    refine Cw_seq ?_
    refine Cw_region ?_
    refine Ow_q rfl rfl rfl (Qt_assign rfl) ?_
    refine Ow_nil ?_
    refine Cw_ret ?_
    obtain ey0 := inj1 H
    subst y0
    refine ⟨(by first | exact .inl rfl | exact .inr rfl), [(.bool true)], ⟨(.bool true), _, rfl, rfl, rfl⟩, ?_⟩
    refine Shift.done ?_
    exact ⟨rfl, rfl⟩

set_option maxHeartbeats 1000000 in
theorem c_M_ref4_Same (p0 : Memory) (vp0_words : SV) (vp0_lists : SV) (p1 : Memory) (vp1_words : SV) (vp1_lists : SV) (y0 : Bool) (H : M_ref4_Same p0 p1 = some y0) (K : Kp) (G : List Ent) (hp0_words : Slr Ty.u64 K (sv vp0_words) p0.words) (hp0_lists : Slr (Ty.sl Ty.i64) K (sv vp0_lists) p0.lists) (hp1_words : Slr Ty.u64 K (sv vp1_words) p1.words) (hp1_lists : Slr (Ty.sl Ty.i64) K (sv vp1_lists) p1.lists) :
    Fc Try.prog 38 #[(.agg (Memory.cells p0 vp0_words vp0_lists).toArray), (.agg (Memory.cells p1 vp1_words vp1_lists).toArray)] K (G) (fun v K' G' => v = (.bool y0) ∧ G = G') := by
  refine Fc_body Try.func38 rfl Try.ntmps38 Try.results38 rfl ?_
  unfold M_ref4_Same at H
  refine Cw_seq ?_
  refine Cw_region ?_
  refine Ow_cons rfl (OpW_box (cs := (Memory.cells p0 vp0_words vp0_lists)) rfl rfl rfl (fun b95 => ?_))
  refine Ow_cons rfl (OpW_box (cs := (Memory.cells p1 vp1_words vp1_lists)) rfl rfl rfl (fun b96 => ?_))
  refine Ow_q rfl rfl rfl (Qt_assign rfl) ?_
  refine Ow_nil ?_
  refine Cw_seq ?_
  refine Cw_join (fun env' K' G' => ∃ (t117 : Bool), [(2, (.pointer (some ((⟨b95, 0, none⟩ : Addr).add 0)))), (3, (.pointer (some ((⟨b96, 0, none⟩ : Addr).add 0)))), (27, (.bool t117))] = env' ∧ (.blk b96 49 (Memory.cells p1 vp1_words vp1_lists)) :: (.blk b95 49 (Memory.cells p0 vp0_words vp0_lists)) :: G = G' ∧ M_ref4_Same_J1 p1 p0 t117 = some y0) ?_ ?_
  · skip
    refine Cw_region ?_
    refine Ow_q rfl rfl rfl (Qt_fieldAddr (m := 2) rfl rfl rfl rfl rfl) ?_
    refine Ow_q rfl rfl rfl (Qt_load1 (v := (.int .i64 p0.tick)) rfl rfl rfl (Rdc.blk (.tail _ (.head _)) rfl)) ?_
    refine Ow_q rfl rfl rfl (Qt_fieldAddr (m := 2) rfl rfl rfl rfl rfl) ?_
    refine Ow_q rfl rfl rfl (Qt_load1 (v := (.int .i64 p1.tick)) rfl rfl rfl (Rdc.blk (.head _) rfl)) ?_
    refine Ow_q rfl rfl rfl (Qt_cmp rfl rfl rfl) ?_
    refine Ow_q rfl rfl rfl (Qt_move rfl) ?_
    refine Ow_caseG rfl rfl rfl ?_ ?_
    · intro h118
      have h118 := dcd_f (nt_t (h118))
      have H := iff_ h118 H
      refine Ow_pass rfl rfl rfl rfl rfl rfl rfl ?_
      refine Ow_pass rfl rfl rfl rfl rfl rfl rfl ?_
      refine Ow_pass rfl rfl rfl rfl rfl rfl rfl ?_
      refine Ow_pass rfl rfl rfl rfl rfl rfl rfl ?_
      refine Ow_pass rfl rfl rfl rfl rfl rfl rfl ?_
      refine Ow_pass rfl rfl rfl rfl rfl rfl rfl ?_
      refine Ow_q rfl rfl rfl (Qt_pick_t rfl rfl) ?_
      refine Ow_q rfl rfl rfl (Qt_move rfl) ?_
      refine Ow_pass rfl rfl rfl rfl rfl rfl rfl ?_
      refine Ow_pass rfl rfl rfl rfl rfl rfl rfl ?_
      refine Ow_pass rfl rfl rfl rfl rfl rfl rfl ?_
      refine Ow_pass rfl rfl rfl rfl rfl rfl rfl ?_
      refine Ow_pass rfl rfl rfl rfl rfl rfl rfl ?_
      refine Ow_pass rfl rfl rfl rfl rfl rfl rfl ?_
      refine Ow_pass rfl rfl rfl rfl rfl rfl rfl ?_
      refine Ow_q rfl rfl rfl (Qt_pick_t rfl rfl) ?_
      refine Ow_nil ?_
      refine Shift.pull (.there .here) ?_
      refine Shift.pull (.there .here) ?_
      refine Shift.done ?_
      exact ⟨[(2, (.pointer (some ((⟨b95, 0, none⟩ : Addr).add 0)))), (3, (.pointer (some ((⟨b96, 0, none⟩ : Addr).add 0)))), (27, (.bool true))], ⟨rfl, rfl, rfl, trivial⟩, true, rfl, rfl, H⟩
    · intro h118
      have h118 := dcd_t (nt_f (h118))
      have H := ift h118 H
      refine Ow_qw rfl rfl rfl rfl rfl rfl (Qt_fieldAddr (m := 0) rfl rfl rfl rfl rfl) ?_
      refine Ow_qw rfl rfl rfl rfl rfl rfl (Qt_load1 (v := (sv vp0_words)) rfl rfl rfl (Rdc.blk (.tail _ (.head _)) rfl)) ?_
      refine Ow_qw rfl rfl rfl rfl rfl rfl (Qt_fieldAddr (m := 0) rfl rfl rfl rfl rfl) ?_
      refine Ow_qw rfl rfl rfl rfl rfl rfl (Qt_load1 (v := (sv vp1_words)) rfl rfl rfl (Rdc.blk (.head _) rfl)) ?_
      obtain ⟨x119, hx120, H⟩ := bnd H
      refine Ow_want rfl rfl rfl rfl (OpW_call rfl Try.call60 rfl rfl (c_M_ref4_SameWords p0.words vp0_words p1.words vp1_words x119 hx120 _ _ hp0_words hp1_words) ?_)
      rintro _ K121 _ hK122 ⟨rfl, rfl⟩
      refine Ow_qw rfl rfl rfl rfl rfl rfl (Qt_not rfl) ?_
      refine Ow_q rfl rfl rfl (Qt_pick_f rfl rfl) ?_
      refine Ow_q rfl rfl rfl (Qt_move rfl) ?_
      refine Ow_caseG rfl rfl rfl ?_ ?_
      · intro h123
        have h123 := nt_t (h123)
        have H := iff_ (btf h123) H
        refine Ow_pass rfl rfl rfl rfl rfl rfl rfl ?_
        refine Ow_pass rfl rfl rfl rfl rfl rfl rfl ?_
        refine Ow_pass rfl rfl rfl rfl rfl rfl rfl ?_
        refine Ow_pass rfl rfl rfl rfl rfl rfl rfl ?_
        refine Ow_pass rfl rfl rfl rfl rfl rfl rfl ?_
        refine Ow_pass rfl rfl rfl rfl rfl rfl rfl ?_
        refine Ow_pass rfl rfl rfl rfl rfl rfl rfl ?_
        refine Ow_q rfl rfl rfl (Qt_pick_t rfl rfl) ?_
        refine Ow_nil ?_
        refine Shift.pull (.there .here) ?_
        refine Shift.pull (.there .here) ?_
        refine Shift.done ?_
        exact ⟨[(2, (.pointer (some ((⟨b95, 0, none⟩ : Addr).add 0)))), (3, (.pointer (some ((⟨b96, 0, none⟩ : Addr).add 0)))), (27, (.bool true))], ⟨rfl, rfl, rfl, trivial⟩, true, rfl, rfl, H⟩
      · intro h123
        have h123 := nt_f (h123)
        have H := ift h123 H
        refine Ow_qw rfl rfl rfl rfl rfl rfl (Qt_fieldAddr (m := 1) rfl rfl rfl rfl rfl) ?_
        refine Ow_qw rfl rfl rfl rfl rfl rfl (Qt_load1 (v := (sv vp0_lists)) rfl rfl rfl (Rdc.blk (.tail _ (.head _)) rfl)) ?_
        have hs124 := (hp0_lists).mono hK122
        refine Ow_qw rfl rfl rfl rfl rfl rfl (Q_len (T := (Ty.sl Ty.i64)) hs124 rfl rfl) ?_
        refine Ow_qw rfl rfl rfl rfl rfl rfl (Qt_fieldAddr (m := 1) rfl rfl rfl rfl rfl) ?_
        refine Ow_qw rfl rfl rfl rfl rfl rfl (Qt_load1 (v := (sv vp1_lists)) rfl rfl rfl (Rdc.blk (.head _) rfl)) ?_
        have hs125 := (hp1_lists).mono hK122
        refine Ow_qw rfl rfl rfl rfl rfl rfl (Q_len (T := (Ty.sl Ty.i64)) hs125 rfl rfl) ?_
        refine Ow_qw rfl rfl rfl rfl rfl rfl (Qt_cmp rfl rfl rfl) ?_
        refine Ow_q rfl rfl rfl (Qt_pick_f rfl rfl) ?_
        refine Ow_nil ?_
        refine Shift.pull (.there .here) ?_
        refine Shift.pull (.there .here) ?_
        refine Shift.done ?_
        exact ⟨[(2, (.pointer (some ((⟨b95, 0, none⟩ : Addr).add 0)))), (3, (.pointer (some ((⟨b96, 0, none⟩ : Addr).add 0)))), (27, (.bool (!(dcd ((p0.lists.length : Int) = (p1.lists.length : Int))))))], ⟨rfl, rfl, rfl, trivial⟩, (!(dcd ((p0.lists.length : Int) = (p1.lists.length : Int)))), rfl, rfl, H⟩
  rintro _ K126 _ hK127 ⟨t117, rfl, rfl, H⟩
  unfold M_ref4_Same_J1 at H
  refine Cw_cond rfl ?_ ?_
  · intro h128
    have H := ift h128 H
    refine Cw_seq ?_
    refine Cw_region ?_
    refine Ow_q rfl rfl rfl (Qt_assign rfl) ?_
    refine Ow_nil ?_
    refine Cw_ret ?_
    obtain ey0 := inj1 H
    subst y0
    refine ⟨(by first | exact .inl rfl | exact .inr rfl), [(.bool false)], ⟨(.bool false), _, rfl, rfl, rfl⟩, ?_⟩
    refine Shift.rem .here ?_
    refine Shift.rem .here ?_
    refine Shift.done ?_
    exact ⟨rfl, rfl⟩
  · intro h128
    have H := iff_ (btf h128) H
    refine Cw_skip ?_
    refine Cw_join (fun env' K' G' => [] = env' ∧ G = G' ∧ M_ref4_Same_J2 = some y0) ?_ ?_
    · skip
      refine Cw_seq ?_
      refine Cw_region ?_
      refine Ow_q rfl rfl rfl (Qt_assign rfl) ?_
      refine Ow_nil ?_
      refine Cw_block ?_
      refine Cw_loopM (fun n281 env' K' G' => ∃ (i280 : Int), [(2, (.pointer (some ((⟨b95, 0, none⟩ : Addr).add 0)))), (3, (.pointer (some ((⟨b96, 0, none⟩ : Addr).add 0)))), (5, (.int .i64 i280))] = env' ∧ (.blk b96 49 (Memory.cells p1 vp1_words vp1_lists)) :: (.blk b95 49 (Memory.cells p0 vp0_words vp0_lists)) :: G = G' ∧ lp1 (M_ref4_Same_L1 p1 p0) n281 i280 = some y0) BIG ?_ ?_
      · skip
        refine Shift.pull (.there .here) ?_
        refine Shift.pull (.there .here) ?_
        refine Shift.done ?_
        exact ⟨[(2, (.pointer (some ((⟨b95, 0, none⟩ : Addr).add 0)))), (3, (.pointer (some ((⟨b96, 0, none⟩ : Addr).add 0)))), (5, (.int .i64 0))], ⟨rfl, rfl, rfl, trivial⟩, 0, rfl, rfl, H⟩
      rintro n281 _ K282 _ hK283 ⟨i280, rfl, rfl, H⟩
      obtain ⟨m284, k285, rfl, hkk286, H⟩ := lps1 H
      unfold M_ref4_Same_L1 at H
      refine Cw_seq ?_
      refine Cw_seq ?_
      refine Cw_region ?_
      refine Ow_q rfl rfl rfl (Qt_move rfl) ?_
      refine Ow_q rfl rfl rfl (Qt_fieldAddr (m := 1) rfl rfl rfl rfl rfl) ?_
      refine Ow_q rfl rfl rfl (Qt_load1 (v := (sv vp0_lists)) rfl rfl rfl (Rdc.blk (.tail _ (.head _)) rfl)) ?_
      have hs289 := ((hp0_lists).mono hK127).mono hK283
      refine Ow_q rfl rfl rfl (Q_len (T := (Ty.sl Ty.i64)) hs289 rfl rfl) ?_
      refine Ow_q rfl rfl rfl (Qt_cmp rfl rfl rfl) ?_
      refine Ow_nil ?_
      refine Cw_cond rfl ?_ ?_
      · intro h290
        have h290 := dcd_t (h290)
        have H := ift h290 H
        refine Cw_skip ?_
        refine Cw_seq ?_
        refine Cw_block ?_
        refine Cw_seq ?_
        obtain ⟨x324, hx325, H⟩ := bnd H
        obtain ⟨x331, hx332, H⟩ := bnd H
        obtain ⟨x339, hx340, H⟩ := bnd H
        refine Cw_region_any [.blk b96 49 (Memory.cells p1 vp1_words vp1_lists), .blk b95 49 (Memory.cells p0 vp0_words vp0_lists)] rfl (Inc.cons (.head _) (Inc.cons (.tail _ (.head _)) Inc.nil)) ?_
        refine Aw_q 0 rfl (by kernel_rfl) (by kernel_rfl) (by kernel_rfl) rfl rfl rfl (Qt_fieldAddr (m := 1) rfl rfl rfl rfl rfl) ?_
        refine Aw_q 1 rfl (by kernel_rfl) (by kernel_rfl) (by kernel_rfl) rfl rfl rfl (Qt_load1 (v := (sv vp0_lists)) rfl rfl rfl (Rdc.blk (.tail _ (.head _)) rfl)) ?_
        refine Aw_q 2 rfl (by kernel_rfl) (by kernel_rfl) (by kernel_rfl) rfl rfl rfl (Qt_move rfl) ?_
        obtain ⟨r343, hr344, hk345⟩ := Slr.at hs289 hx325
        obtain ⟨v346, rfl, hs347⟩ := hr344
        refine Aw_q 3 rfl (by kernel_rfl) (by kernel_rfl) (by kernel_rfl) rfl rfl rfl (Q_ix (T := (Ty.sl Ty.i64)) hs289 hx325 rfl rfl rfl rfl rfl) ?_
        refine Aw_q 4 rfl (by kernel_rfl) (by kernel_rfl) (by kernel_rfl) rfl rfl rfl (Qt_load1 (v := (sv v346)) rfl rfl rfl (Rdc.k hk345 rfl)) ?_
        refine Aw_q 5 rfl (by kernel_rfl) (by kernel_rfl) (by kernel_rfl) rfl rfl rfl (Qt_fieldAddr (m := 1) rfl rfl rfl rfl rfl) ?_
        refine Aw_q 6 rfl (by kernel_rfl) (by kernel_rfl) (by kernel_rfl) rfl rfl rfl (Qt_load1 (v := (sv vp1_lists)) rfl rfl rfl (Rdc.blk (.head _) rfl)) ?_
        refine Aw_q 7 rfl (by kernel_rfl) (by kernel_rfl) (by kernel_rfl) rfl rfl rfl (Qt_move rfl) ?_
        have hs348 := ((hp1_lists).mono hK127).mono hK283
        obtain ⟨r349, hr350, hk351⟩ := Slr.at hs348 hx332
        obtain ⟨v352, rfl, hs353⟩ := hr350
        refine Aw_q 8 rfl (by kernel_rfl) (by kernel_rfl) (by kernel_rfl) rfl rfl rfl (Q_ix (T := (Ty.sl Ty.i64)) hs348 hx332 rfl rfl rfl rfl rfl) ?_
        refine Aw_q 9 rfl (by kernel_rfl) (by kernel_rfl) (by kernel_rfl) rfl rfl rfl (Qt_load1 (v := (sv v352)) rfl rfl rfl (Rdc.k hk351 rfl)) ?_
        refine Aw_one 10 (by kernel_rfl) (Ax_mk rfl rfl ?_)
        refine OpW_call rfl Try.call41 rfl rfl (c_M_ref2_Same x324 v346 x331 v352 x339 hx340 _ _ hs347 hs353) ?_
        rintro _ K354 _ hK355 ⟨rfl, rfl⟩
        refine ⟨(Inc.cons (.head _) (Inc.cons (.tail _ (.head _)) Inc.nil)), ?_⟩
        refine Aw_q 11 rfl (by kernel_rfl) (by kernel_rfl) (by kernel_rfl) rfl rfl rfl (Qt_not rfl) ?_
        refine Aw_done (by kernel_rfl) ?_
        refine Cw_cond rfl ?_ ?_
        · intro h356
          have h356 := nt_t (h356)
          have H := iff_ (btf h356) H
          refine Cw_seq ?_
          refine Cw_region ?_
          refine Ow_q rfl rfl rfl (Qt_assign rfl) ?_
          refine Ow_nil ?_
          refine Cw_ret ?_
          obtain ey0 := inj1 H
          subst y0
          refine ⟨(by first | exact .inl rfl | exact .inr rfl), [(.bool false)], ⟨(.bool false), _, rfl, rfl, rfl⟩, ?_⟩
          refine Shift.rem .here ?_
          refine Shift.rem .here ?_
          refine Shift.done ?_
          exact ⟨rfl, rfl⟩
        · intro h356
          have h356 := nt_f (h356)
          have H := ift h356 H
          refine Cw_skip ?_
          refine Cw_region ?_
          refine Ow_q rfl rfl rfl (Qt_move rfl) ?_
          refine Ow_q rfl rfl rfl (Qt_arith (e := wI (i280 + 1)) rfl rfl rfl rfl) ?_
          refine Ow_q rfl rfl rfl (Qt_assign rfl) ?_
          refine Ow_nil ?_
          refine Shift.pull (.there .here) ?_
          refine Shift.pull (.there .here) ?_
          refine Shift.done ?_
          exact ⟨[(2, (.pointer (some ((⟨b95, 0, none⟩ : Addr).add 0)))), (3, (.pointer (some ((⟨b96, 0, none⟩ : Addr).add 0)))), (5, (.int .i64 (wI (i280 + 1))))], ⟨rfl, rfl, rfl, trivial⟩, _, Nat.lt_succ_self _, (wI (i280 + 1)), rfl, rfl, (hkk286 ▸ H)⟩
      · intro h290
        have h290 := dcd_f (h290)
        have H := iff_ h290 H
        refine Cw_exit ?_
        refine Shift.rem .here ?_
        refine Shift.rem .here ?_
        refine Shift.done ?_
        exact ⟨[], trivial, rfl, rfl, H⟩
    rintro _ K357 _ hK358 ⟨rfl, rfl, H⟩
    unfold M_ref4_Same_J2 at H
    refine Cw_seq ?_
    refine Cw_region ?_
    refine Ow_q rfl rfl rfl (Qt_assign rfl) ?_
    refine Ow_nil ?_
    refine Cw_ret ?_
    obtain ey0 := inj1 H
    subst y0
    refine ⟨(by first | exact .inl rfl | exact .inr rfl), [(.bool true)], ⟨(.bool true), _, rfl, rfl, rfl⟩, ?_⟩
    refine Shift.done ?_
    exact ⟨rfl, rfl⟩


end Go.Hx
