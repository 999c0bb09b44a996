/- Printed by program. -/
import Derived.Test.YtgpoanmjkggijaaXCM
import Derived.Test.YtgpoanmjkggijaaXCWRef141
import Derived.Test.YtgpoanmjkggijaaXCWRef142
import Derived.Test.YtgpoanmjkggijaaXCWRef143
namespace Go.Hx
open Go Go.Proofs
set_option linter.unusedSimpArgs false
set_option linter.unusedVariables false
set_option maxRecDepth 10000
set_option maxHeartbeats 1000000 in
theorem c_M_ref14_apply (p0 : List Chan) (vp0 : SV) (p1 : Op) (vp1_cases : SV) (vp1_draws : SV) (p2 : Result) (y0 : List Chan) (y1 : Bool) (H : M_ref14_apply p0 p1 p2 = some (y0, y1)) (K : Kp) (G : List Ent) (hp0 : Slr TyChan K (sv vp0) p0) (hp1_cases : Slr TyCase K (sv vp1_cases) p1.cases) (hp1_draws : Slr Ty.i64 K (sv vp1_draws) p1.draws) :
    Fc Try.prog 62 #[(sv vp0), (.agg (Op.cells p1 vp1_cases vp1_draws).toArray), (.agg (Result.cells p2).toArray)] K (G) (fun v K' G' => ∃ (wy0 : SV), v = (.tuple #[(sv wy0), (.bool y1)]) ∧ G = G' ∧ Slr TyChan K' (sv wy0) y0) := by
  refine Fc_body Try.func62 rfl Try.ntmps62 Try.results62 rfl ?_
  unfold M_ref14_apply at H
  refine Cw_seq ?_
  refine Cw_region ?_
  refine Ow_cons rfl (OpW_box (cs := (Op.cells p1 vp1_cases vp1_draws)) rfl rfl rfl (fun b156 => ?_))
  refine Ow_cons rfl (OpW_box (cs := (Result.cells p2)) rfl rfl rfl (fun b157 => ?_))
  refine Ow_q rfl rfl rfl (Qt_assign rfl) ?_
  refine Ow_q rfl rfl rfl (Qt_assign rfl) ?_
  refine Ow_nil ?_
  refine Cw_join (fun env' K' G' => ∃ (t160 : Bool), [(0, (sv vp0)), (4, (.pointer (some ((⟨b156, 0, none⟩ : Addr).add 0)))), (5, (.pointer (some ((⟨b157, 0, none⟩ : Addr).add 0)))), (8, (.bool t160))] = env' ∧ K = K' ∧ (.blk b157 25 (Result.cells p2)) :: (.blk b156 38 (Op.cells p1 vp1_cases vp1_draws)) :: G = G' ∧ M_ref14_apply_J1 p0 p2 p1 t160 = some (y0, y1)) ?_ ?_
  · skip
    refine Cw_region ?_
    refine Ow_q rfl rfl rfl (Qt_fieldAddr (m := 0) rfl rfl rfl rfl rfl) ?_
    refine Ow_q rfl rfl rfl (Qt_load1 (v := (.int .i64 p1.kind)) rfl rfl rfl (Rdc.blk (.tail _ (.head _)) rfl)) ?_
    refine Ow_q rfl rfl rfl (Qt_cmp rfl rfl rfl) ?_
    refine Ow_q rfl rfl rfl (Qt_move rfl) ?_
    refine Ow_caseG rfl rfl rfl ?_ ?_
    · intro h161
      have h161 := dcd_t (h161)
      have H := ift h161 H
      refine Ow_pass rfl rfl rfl rfl rfl rfl rfl ?_
      refine Ow_pass rfl rfl rfl rfl rfl rfl rfl ?_
      refine Ow_pass rfl rfl rfl rfl rfl rfl rfl ?_
      refine Ow_q rfl rfl rfl (Qt_pick_t rfl rfl) ?_
      refine Ow_q rfl rfl rfl (Qt_move rfl) ?_
      refine Ow_pass rfl rfl rfl rfl rfl rfl rfl ?_
      refine Ow_pass rfl rfl rfl rfl rfl rfl rfl ?_
      refine Ow_pass rfl rfl rfl rfl rfl rfl rfl ?_
      refine Ow_q rfl rfl rfl (Qt_pick_t rfl rfl) ?_
      refine Ow_q rfl rfl rfl (Qt_assign rfl) ?_
      refine Ow_nil ?_
      refine Shift.pull (.there .here) ?_
      refine Shift.pull (.there .here) ?_
      refine Shift.done ?_
      exact ⟨[(0, (sv vp0)), (4, (.pointer (some ((⟨b156, 0, none⟩ : Addr).add 0)))), (5, (.pointer (some ((⟨b157, 0, none⟩ : Addr).add 0)))), (8, (.bool true))], ⟨rfl, rfl, rfl, rfl, trivial⟩, true, rfl, rfl, rfl, H⟩
    · intro h161
      have h161 := dcd_f (h161)
      have H := iff_ h161 H
      refine Ow_qw rfl rfl rfl rfl rfl rfl (Qt_fieldAddr (m := 0) rfl rfl rfl rfl rfl) ?_
      refine Ow_qw rfl rfl rfl rfl rfl rfl (Qt_load1 (v := (.int .i64 p1.kind)) rfl rfl rfl (Rdc.blk (.tail _ (.head _)) rfl)) ?_
      refine Ow_qw rfl rfl rfl rfl rfl rfl (Qt_cmp rfl rfl rfl) ?_
      refine Ow_q rfl rfl rfl (Qt_pick_f rfl rfl) ?_
      refine Ow_q rfl rfl rfl (Qt_move rfl) ?_
      refine Ow_caseG rfl rfl rfl ?_ ?_
      · intro h162
        have h162 := dcd_t (h162)
        have H := ift h162 H
        refine Ow_pass rfl rfl rfl rfl rfl rfl rfl ?_
        refine Ow_pass rfl rfl rfl rfl rfl rfl rfl ?_
        refine Ow_pass rfl rfl rfl rfl rfl rfl rfl ?_
        refine Ow_q rfl rfl rfl (Qt_pick_t rfl rfl) ?_
        refine Ow_q rfl rfl rfl (Qt_assign rfl) ?_
        refine Ow_nil ?_
        refine Shift.pull (.there .here) ?_
        refine Shift.pull (.there .here) ?_
        refine Shift.done ?_
        exact ⟨[(0, (sv vp0)), (4, (.pointer (some ((⟨b156, 0, none⟩ : Addr).add 0)))), (5, (.pointer (some ((⟨b157, 0, none⟩ : Addr).add 0)))), (8, (.bool true))], ⟨rfl, rfl, rfl, rfl, trivial⟩, true, rfl, rfl, rfl, H⟩
      · intro h162
        have h162 := dcd_f (h162)
        have H := iff_ h162 H
        refine Ow_qw rfl rfl rfl rfl rfl rfl (Qt_fieldAddr (m := 0) rfl rfl rfl rfl rfl) ?_
        refine Ow_qw rfl rfl rfl rfl rfl rfl (Qt_load1 (v := (.int .i64 p1.kind)) rfl rfl rfl (Rdc.blk (.tail _ (.head _)) rfl)) ?_
        refine Ow_qw rfl rfl rfl rfl rfl rfl (Qt_cmp rfl rfl rfl) ?_
        refine Ow_q rfl rfl rfl (Qt_pick_f rfl rfl) ?_
        refine Ow_q rfl rfl rfl (Qt_assign rfl) ?_
        refine Ow_nil ?_
        refine Shift.pull (.there .here) ?_
        refine Shift.pull (.there .here) ?_
        refine Shift.done ?_
        exact ⟨[(0, (sv vp0)), (4, (.pointer (some ((⟨b156, 0, none⟩ : Addr).add 0)))), (5, (.pointer (some ((⟨b157, 0, none⟩ : Addr).add 0)))), (8, (.bool (dcd (p1.kind = 4))))], ⟨rfl, rfl, rfl, rfl, trivial⟩, (dcd (p1.kind = 4)), rfl, rfl, rfl, H⟩
  rintro _ _ _ - ⟨t160, rfl, rfl, rfl, H⟩
  unfold M_ref14_apply_J1 at H
  refine Cw_seq ?_
  refine Cw_seq ?_
  refine Cw_region ?_
  refine Ow_q rfl rfl rfl (Qt_fieldAddr (m := 0) rfl rfl rfl rfl rfl) ?_
  refine Ow_q rfl rfl rfl (Qt_load1 (v := (.int .i64 p2.kind)) rfl rfl rfl (Rdc.blk (.head _) rfl)) ?_
  refine Ow_nil ?_
  refine Cw_block ?_
  refine Cw_join (fun env' K' G' => ∃ (t296 : Bool), [(0, (sv vp0)), (4, (.pointer (some ((⟨b156, 0, none⟩ : Addr).add 0)))), (5, (.pointer (some ((⟨b157, 0, none⟩ : Addr).add 0)))), (8, (.bool t160)), (29, (.int .i64 p2.kind)), (30, (.bool t296))] = env' ∧ K = K' ∧ (.blk b157 25 (Result.cells p2)) :: (.blk b156 38 (Op.cells p1 vp1_cases vp1_draws)) :: G = G' ∧ M_ref14_apply_J2 p0 t160 p2 p1 t296 = some (y0, y1)) ?_ ?_
  · skip
    refine Cw_seq ?_
    refine Cw_region ?_
    refine Ow_q rfl rfl rfl (Qt_cmp rfl rfl rfl) ?_
    refine Ow_q rfl rfl rfl (Qt_assign rfl) ?_
    refine Ow_nil ?_
    refine Cw_cond rfl ?_ ?_
    · intro h297
      have h297 := dcd_t (h297)
      have H := ift h297 H
      refine Cw_skip ?_
      refine Shift.pull (.there .here) ?_
      refine Shift.pull (.there .here) ?_
      refine Shift.done ?_
      exact ⟨[(0, (sv vp0)), (4, (.pointer (some ((⟨b156, 0, none⟩ : Addr).add 0)))), (5, (.pointer (some ((⟨b157, 0, none⟩ : Addr).add 0)))), (8, (.bool t160)), (29, (.int .i64 p2.kind)), (30, (.bool (dcd (p2.kind = 1))))], ⟨rfl, rfl, rfl, rfl, rfl, rfl, trivial⟩, (dcd (p2.kind = 1)), rfl, rfl, rfl, H⟩
    · intro h297
      have h297 := dcd_f (h297)
      have H := iff_ h297 H
      refine Cw_region ?_
      refine Ow_q rfl rfl rfl (Qt_cmp rfl rfl rfl) ?_
      refine Ow_q rfl rfl rfl (Qt_assign rfl) ?_
      refine Ow_nil ?_
      refine Shift.pull (.there .here) ?_
      refine Shift.pull (.there .here) ?_
      refine Shift.done ?_
      exact ⟨[(0, (sv vp0)), (4, (.pointer (some ((⟨b156, 0, none⟩ : Addr).add 0)))), (5, (.pointer (some ((⟨b157, 0, none⟩ : Addr).add 0)))), (8, (.bool t160)), (29, (.int .i64 p2.kind)), (30, (.bool (dcd (p2.kind = 2))))], ⟨rfl, rfl, rfl, rfl, rfl, rfl, trivial⟩, (dcd (p2.kind = 2)), rfl, rfl, rfl, H⟩
  rintro _ _ _ - ⟨t296, rfl, rfl, rfl, H⟩
  unfold M_ref14_apply_J2 at H
  refine Cw_cond rfl ?_ ?_
  · intro h298
    have H := ift h298 H
    refine Cw_seq ?_
    refine Cw_region ?_
    refine Ow_q rfl rfl rfl (Qt_loadA (m := 7) (cs := (Op.cells p1 vp1_cases vp1_draws)) rfl rfl rfl rfl ⟨rfl, Rdc.blk (.tail _ (.head _)) rfl⟩) ?_
    refine Ow_q rfl rfl rfl (Qt_loadA (m := 5) (cs := (Result.cells p2)) rfl rfl rfl rfl ⟨rfl, Rdc.blk (.head _) rfl⟩) ?_
    obtain ⟨x299, x300, hx301, H⟩ := bnd2 H
    refine Ow_cons rfl (OpW_call rfl Try.call95 rfl rfl (c_M_ref14_chosen p1 vp1_cases vp1_draws p2 x299 x300 hx301 _ _ hp1_cases hp1_draws) ?_)
    rintro _ _ _ - ⟨rfl, rfl, rfl⟩
    refine Ow_q rfl rfl rfl (Qt_move rfl) ?_
    refine Ow_q rfl rfl rfl (Qt_extract rfl rfl) ?_
    refine Ow_q rfl rfl rfl (Qt_extract rfl rfl) ?_
    refine Ow_cons rfl (OpW_alloc (cs := (Case.cells (Case.mk false 0 0))) rfl rfl rfl rfl (fun b302 => ?_))
    refine Ow_cons rfl (OpW_store (vs := (Case.cells x299)) (all' := (Case.cells x299)) rfl rfl rfl rfl rfl .here rfl rfl rfl ?_)
    refine Ow_q rfl rfl rfl (Qt_assign rfl) ?_
    refine Ow_nil ?_
    refine Cw_seq ?_
    refine Cw_seq ?_
    refine Cw_region ?_
    refine Ow_q rfl rfl rfl (Qt_move rfl) ?_
    refine Ow_q rfl rfl rfl (Qt_not rfl) ?_
    refine Ow_nil ?_
    refine Cw_cond rfl ?_ ?_
    · intro h304
      have h304 := nt_t (h304)
      have H := iff_ (btf h304) H
      refine Cw_seq ?_
      refine Cw_region ?_
      refine Ow_q rfl rfl rfl (Qt_assign rfl) ?_
      refine Ow_q rfl rfl rfl (Qt_assign rfl) ?_
      refine Ow_nil ?_
      refine Cw_ret ?_
      obtain ⟨ey0, ey1⟩ := inj2 H
      subst y0 y1
      refine ⟨(by first | exact .inl rfl | exact .inr rfl), [(sv nilS), (.bool false)], ⟨(sv nilS), _, rfl, rfl, ⟨(.bool false), _, rfl, rfl, rfl⟩⟩, ?_⟩
      refine Shift.rem .here ?_
      refine Shift.rem .here ?_
      refine Shift.rem .here ?_
      refine Shift.done ?_
      exact ⟨nilS, rfl, rfl, (Slr.nil TyChan _)⟩
    · intro h304
      have h304 := nt_f (h304)
      have H := ift h304 H
      refine Cw_skip ?_
      refine Cw_seq ?_
      refine Cw_region ?_
      refine Ow_q rfl rfl rfl (Qt_move rfl) ?_
      refine Ow_q rfl rfl rfl (Qt_loadA (m := 3) (cs := (Case.cells x299)) rfl rfl rfl rfl ⟨rfl, Rdc.blk (.head _) rfl⟩) ?_
      refine Ow_q rfl rfl rfl (Qt_loadA (m := 5) (cs := (Result.cells p2)) rfl rfl rfl rfl ⟨rfl, Rdc.blk (.tail _ (.head _)) rfl⟩) ?_
      obtain ⟨x305, x306, hx307, H⟩ := bnd2 H
      refine Ow_cons rfl (OpW_call rfl Try.call96 rfl rfl (c_M_ref14_do p0 vp0 x299 p2 x305 x306 hx307 _ _ hp0) ?_)
      rintro _ K309 _ hK310 ⟨v308, rfl, rfl, hs311⟩
      refine Ow_q rfl rfl rfl (Qt_extract rfl rfl) ?_
      refine Ow_q rfl rfl rfl (Qt_extract rfl rfl) ?_
      refine Ow_q rfl rfl rfl (Qt_assign rfl) ?_
      refine Ow_q rfl rfl rfl (Qt_assign rfl) ?_
      refine Ow_nil ?_
      refine Cw_ret ?_
      obtain ⟨ey0, ey1⟩ := inj2 H
      subst y0 y1
      refine ⟨(by first | exact .inl rfl | exact .inr rfl), [(sv v308), (.bool x306)], ⟨(sv v308), _, rfl, rfl, ⟨(.bool x306), _, rfl, rfl, rfl⟩⟩, ?_⟩
      refine Shift.rem .here ?_
      refine Shift.rem .here ?_
      refine Shift.rem .here ?_
      refine Shift.done ?_
      exact ⟨v308, rfl, rfl, hs311⟩
  · intro h298
    have H := iff_ (btf h298) H
    refine Cw_seq ?_
    refine Cw_region ?_
    refine Ow_q rfl rfl rfl (Qt_cmp rfl rfl rfl) ?_
    refine Ow_q rfl rfl rfl (Qt_assign rfl) ?_
    refine Ow_nil ?_
    refine Cw_cond rfl ?_ ?_
    · intro h312
      have h312 := dcd_t (h312)
      have H := ift h312 H
      refine Cw_seq ?_
      refine Cw_seq ?_
      refine Cw_region ?_
      refine Ow_q rfl rfl rfl (Qt_fieldAddr (m := 0) rfl rfl rfl rfl rfl) ?_
      refine Ow_q rfl rfl rfl (Qt_load1 (v := (.int .i64 p1.kind)) rfl rfl rfl (Rdc.blk (.tail _ (.head _)) rfl)) ?_
      refine Ow_q rfl rfl rfl (Qt_cmp rfl rfl rfl) ?_
      refine Ow_nil ?_
      refine Cw_cond rfl ?_ ?_
      · intro h334
        have h334 := dcd_t (h334)
        have H := ift h334 H
        refine Cw_join (fun env' K' G' => ∃ (t354 : Bool), [(6, (sv vp0)), (7, (.bool t354))] = env' ∧ K = K' ∧ G = G' ∧ M_ref14_apply_J3 p0 t354 = some (y0, y1)) ?_ ?_
        · skip
          rcases bool_ct (dcd (p2.case_ = (-1))) with hb_ | hb_ <;> revert hb_
          · intro h355
            have h355 := dcd_t (h355)
            have H := ift h355 H
            obtain ⟨x356, hx357, H⟩ := bnd H
            rcases bool_ct x356 with hb_ | hb_ <;> revert hb_
            · intro h358
              have H := ift h358 H
              obtain ⟨x359, hx360, H⟩ := bnd H
              rcases bool_ct (!(x359)) with hb_ | hb_ <;> revert hb_
              · intro h361
                have h361 := nt_t (h361)
                have H := iff_ (btf h361) H
                refine Cw_region_any [.blk b157 25 (Result.cells p2), .blk b156 38 (Op.cells p1 vp1_cases vp1_draws)] rfl (Inc.cons (.head _) (Inc.cons (.tail _ (.head _)) Inc.nil)) ?_
                refine Aw_q 0 rfl (by kernel_rfl) (by kernel_rfl) (by kernel_rfl) rfl rfl rfl (Qt_move rfl) ?_
                refine Aw_q 1 rfl (by kernel_rfl) (by kernel_rfl) (by kernel_rfl) rfl rfl rfl (Qt_fieldAddr (m := 1) rfl rfl rfl rfl rfl) ?_
                refine Aw_q 2 rfl (by kernel_rfl) (by kernel_rfl) (by kernel_rfl) rfl rfl rfl (Qt_load1 (v := (.int .i64 p2.case_)) rfl rfl rfl (Rdc.blk (.head _) rfl)) ?_
                refine Aw_q 3 rfl (by kernel_rfl) (by kernel_rfl) (by kernel_rfl) rfl rfl rfl (Qt_cmp rfl rfl rfl) ?_
                refine Aw_q 4 rfl (by kernel_rfl) (by kernel_rfl) (by kernel_rfl) rfl rfl rfl (Qt_move rfl) ?_
                refine Aw.known (d := 56) rfl (dcd_pos h355) ?_
                refine Aw_qw 5 rfl (by kernel_rfl) (by kernel_rfl) (by kernel_rfl) rfl rfl rfl rfl rfl rfl (Qt_loadA (m := 5) (cs := (Result.cells p2)) rfl rfl rfl rfl ⟨rfl, Rdc.blk (.head _) rfl⟩) ?_
                refine Aw_one 6 (by kernel_rfl) (Ax_mkw rfl rfl rfl rfl rfl ?_)
                refine OpW_call rfl Try.call97 rfl rfl (c_M_ref14_only p2 false false x356 hx357 _ _ ) ?_
                rintro _ _ _ - ⟨rfl, rfl, rfl⟩
                refine ⟨(Inc.cons (.head _) (Inc.cons (.tail _ (.head _)) Inc.nil)), ?_⟩
                refine Aw_q 7 rfl (by kernel_rfl) (by kernel_rfl) (by kernel_rfl) rfl rfl rfl (Qt_pick_t rfl rfl) ?_
                refine Aw_q 8 rfl (by kernel_rfl) (by kernel_rfl) (by kernel_rfl) rfl rfl rfl (Qt_move rfl) ?_
                refine Aw.known (d := 60) rfl (h358) ?_
                refine Aw_qw 9 rfl (by kernel_rfl) (by kernel_rfl) (by kernel_rfl) rfl rfl rfl rfl rfl rfl (Qt_move rfl) ?_
                refine Aw_qw 10 rfl (by kernel_rfl) (by kernel_rfl) (by kernel_rfl) rfl rfl rfl rfl rfl rfl (Qt_fieldAddr (m := 2) rfl rfl rfl rfl rfl) ?_
                refine Aw_qw 11 rfl (by kernel_rfl) (by kernel_rfl) (by kernel_rfl) rfl rfl rfl rfl rfl rfl (Qt_load1 (v := (.int .i64 p1.channel)) rfl rfl rfl (Rdc.blk (.tail _ (.head _)) rfl)) ?_
                refine Aw_one 12 (by kernel_rfl) (Ax_mkw rfl rfl rfl rfl rfl ?_)
                refine OpW_call rfl Try.call80 rfl rfl (c_M_ref14_exists p0 vp0 p1.channel x359 hx360 _ _ hp0) ?_
                rintro _ _ _ - ⟨rfl, rfl, rfl⟩
                refine ⟨(Inc.cons (.head _) (Inc.cons (.tail _ (.head _)) Inc.nil)), ?_⟩
                refine Aw_qw 13 rfl (by kernel_rfl) (by kernel_rfl) (by kernel_rfl) rfl rfl rfl rfl rfl rfl (Qt_not rfl) ?_
                refine Aw_qw 14 rfl (by kernel_rfl) (by kernel_rfl) (by kernel_rfl) rfl rfl rfl rfl rfl rfl (Qt_move rfl) ?_
                refine Aw.known (d := 66) rfl (nt_mt (h361)) ?_
                refine Aw_pass 15 rfl (by kernel_rfl) (by kernel_rfl) (by kernel_rfl) rfl rfl rfl rfl rfl rfl rfl ?_
                refine Aw_pass 16 rfl (by kernel_rfl) (by kernel_rfl) (by kernel_rfl) rfl rfl rfl rfl rfl rfl rfl ?_
                refine Aw_pass 17 rfl (by kernel_rfl) (by kernel_rfl) (by kernel_rfl) rfl rfl rfl rfl rfl rfl rfl ?_
                refine Aw_pass 18 rfl (by kernel_rfl) (by kernel_rfl) (by kernel_rfl) rfl rfl rfl rfl rfl rfl rfl ?_
                refine Aw_pass 19 rfl (by kernel_rfl) (by kernel_rfl) (by kernel_rfl) rfl rfl rfl rfl rfl rfl rfl ?_
                refine Aw_pass 20 rfl (by kernel_rfl) (by kernel_rfl) (by kernel_rfl) rfl rfl rfl rfl rfl rfl rfl ?_
                refine Aw_qw 21 rfl (by kernel_rfl) (by kernel_rfl) (by kernel_rfl) rfl rfl rfl rfl rfl rfl (Qt_pick_t rfl rfl) ?_
                refine Aw_q 22 rfl (by kernel_rfl) (by kernel_rfl) (by kernel_rfl) rfl rfl rfl (Qt_pick_t rfl rfl) ?_
                refine Aw_q 23 rfl (by kernel_rfl) (by kernel_rfl) (by kernel_rfl) rfl rfl rfl (Qt_assign rfl) ?_
                refine Aw_q 24 rfl (by kernel_rfl) (by kernel_rfl) (by kernel_rfl) rfl rfl rfl (Qt_assign rfl) ?_
                refine Aw_done (by kernel_rfl) ?_
                refine Shift.rem .here ?_
                refine Shift.rem .here ?_
                refine Shift.done ?_
                exact ⟨[(6, (sv vp0)), (7, (.bool true))], ⟨rfl, rfl, trivial⟩, true, rfl, rfl, rfl, H⟩
              · intro h361
                have h361 := nt_f (h361)
                have H := ift h361 H
                obtain ⟨x362, hx363, H⟩ := bnd H
                refine Cw_region_any [.blk b157 25 (Result.cells p2), .blk b156 38 (Op.cells p1 vp1_cases vp1_draws)] rfl (Inc.cons (.head _) (Inc.cons (.tail _ (.head _)) Inc.nil)) ?_
                refine Aw_q 0 rfl (by kernel_rfl) (by kernel_rfl) (by kernel_rfl) rfl rfl rfl (Qt_move rfl) ?_
                refine Aw_q 1 rfl (by kernel_rfl) (by kernel_rfl) (by kernel_rfl) rfl rfl rfl (Qt_fieldAddr (m := 1) rfl rfl rfl rfl rfl) ?_
                refine Aw_q 2 rfl (by kernel_rfl) (by kernel_rfl) (by kernel_rfl) rfl rfl rfl (Qt_load1 (v := (.int .i64 p2.case_)) rfl rfl rfl (Rdc.blk (.head _) rfl)) ?_
                refine Aw_q 3 rfl (by kernel_rfl) (by kernel_rfl) (by kernel_rfl) rfl rfl rfl (Qt_cmp rfl rfl rfl) ?_
                refine Aw_q 4 rfl (by kernel_rfl) (by kernel_rfl) (by kernel_rfl) rfl rfl rfl (Qt_move rfl) ?_
                refine Aw.known (d := 56) rfl (dcd_pos h355) ?_
                refine Aw_qw 5 rfl (by kernel_rfl) (by kernel_rfl) (by kernel_rfl) rfl rfl rfl rfl rfl rfl (Qt_loadA (m := 5) (cs := (Result.cells p2)) rfl rfl rfl rfl ⟨rfl, Rdc.blk (.head _) rfl⟩) ?_
                refine Aw_one 6 (by kernel_rfl) (Ax_mkw rfl rfl rfl rfl rfl ?_)
                refine OpW_call rfl Try.call97 rfl rfl (c_M_ref14_only p2 false false x356 hx357 _ _ ) ?_
                rintro _ _ _ - ⟨rfl, rfl, rfl⟩
                refine ⟨(Inc.cons (.head _) (Inc.cons (.tail _ (.head _)) Inc.nil)), ?_⟩
                refine Aw_q 7 rfl (by kernel_rfl) (by kernel_rfl) (by kernel_rfl) rfl rfl rfl (Qt_pick_t rfl rfl) ?_
                refine Aw_q 8 rfl (by kernel_rfl) (by kernel_rfl) (by kernel_rfl) rfl rfl rfl (Qt_move rfl) ?_
                refine Aw.known (d := 60) rfl (h358) ?_
                refine Aw_qw 9 rfl (by kernel_rfl) (by kernel_rfl) (by kernel_rfl) rfl rfl rfl rfl rfl rfl (Qt_move rfl) ?_
                refine Aw_qw 10 rfl (by kernel_rfl) (by kernel_rfl) (by kernel_rfl) rfl rfl rfl rfl rfl rfl (Qt_fieldAddr (m := 2) rfl rfl rfl rfl rfl) ?_
                refine Aw_qw 11 rfl (by kernel_rfl) (by kernel_rfl) (by kernel_rfl) rfl rfl rfl rfl rfl rfl (Qt_load1 (v := (.int .i64 p1.channel)) rfl rfl rfl (Rdc.blk (.tail _ (.head _)) rfl)) ?_
                refine Aw_one 12 (by kernel_rfl) (Ax_mkw rfl rfl rfl rfl rfl ?_)
                refine OpW_call rfl Try.call80 rfl rfl (c_M_ref14_exists p0 vp0 p1.channel x359 hx360 _ _ hp0) ?_
                rintro _ _ _ - ⟨rfl, rfl, rfl⟩
                refine ⟨(Inc.cons (.head _) (Inc.cons (.tail _ (.head _)) Inc.nil)), ?_⟩
                refine Aw_qw 13 rfl (by kernel_rfl) (by kernel_rfl) (by kernel_rfl) rfl rfl rfl rfl rfl rfl (Qt_not rfl) ?_
                refine Aw_qw 14 rfl (by kernel_rfl) (by kernel_rfl) (by kernel_rfl) rfl rfl rfl rfl rfl rfl (Qt_move rfl) ?_
                refine Aw.known (d := 66) rfl (nt_mf (h361)) ?_
                refine Aw_qw 15 rfl (by kernel_rfl) (by kernel_rfl) (by kernel_rfl) rfl rfl rfl rfl rfl rfl (Qt_move rfl) ?_
                refine Aw_qw 16 rfl (by kernel_rfl) (by kernel_rfl) (by kernel_rfl) rfl rfl rfl rfl rfl rfl (Qt_fieldAddr (m := 2) rfl rfl rfl rfl rfl) ?_
                refine Aw_qw 17 rfl (by kernel_rfl) (by kernel_rfl) (by kernel_rfl) rfl rfl rfl rfl rfl rfl (Qt_load1 (v := (.int .i64 p1.channel)) rfl rfl rfl (Rdc.blk (.tail _ (.head _)) rfl)) ?_
                obtain ⟨r369, hr370, hk371⟩ := Slr.at hp0 hx363
                obtain ⟨v372, rfl, hs373⟩ := hr370
                refine Aw_qw 18 rfl (by kernel_rfl) (by kernel_rfl) (by kernel_rfl) rfl rfl rfl rfl rfl rfl (Q_ix (T := TyChan) hp0 hx363 rfl rfl rfl rfl rfl) ?_
                refine Aw_qw 19 rfl (by kernel_rfl) (by kernel_rfl) (by kernel_rfl) rfl rfl rfl rfl rfl rfl (Qt_fieldAddr (m := 2) rfl rfl rfl rfl rfl) ?_
                refine Aw_qw 20 rfl (by kernel_rfl) (by kernel_rfl) (by kernel_rfl) rfl rfl rfl rfl rfl rfl (Qt_load1 (v := (.bool x362.closed)) rfl rfl rfl (Rdc.k hk371 rfl)) ?_
                refine Aw_qw 21 rfl (by kernel_rfl) (by kernel_rfl) (by kernel_rfl) rfl rfl rfl rfl rfl rfl (Qt_pick_f rfl rfl) ?_
                refine Aw_q 22 rfl (by kernel_rfl) (by kernel_rfl) (by kernel_rfl) rfl rfl rfl (Qt_pick_t rfl rfl) ?_
                refine Aw_q 23 rfl (by kernel_rfl) (by kernel_rfl) (by kernel_rfl) rfl rfl rfl (Qt_assign rfl) ?_
                refine Aw_q 24 rfl (by kernel_rfl) (by kernel_rfl) (by kernel_rfl) rfl rfl rfl (Qt_assign rfl) ?_
                refine Aw_done (by kernel_rfl) ?_
                refine Shift.rem .here ?_
                refine Shift.rem .here ?_
                refine Shift.done ?_
                exact ⟨[(6, (sv vp0)), (7, (.bool x362.closed))], ⟨rfl, rfl, trivial⟩, x362.closed, rfl, rfl, rfl, H⟩
            · intro h358
              have H := iff_ (btf h358) H
              refine Cw_region_any [.blk b157 25 (Result.cells p2), .blk b156 38 (Op.cells p1 vp1_cases vp1_draws)] rfl (Inc.cons (.head _) (Inc.cons (.tail _ (.head _)) Inc.nil)) ?_
              refine Aw_q 0 rfl (by kernel_rfl) (by kernel_rfl) (by kernel_rfl) rfl rfl rfl (Qt_move rfl) ?_
              refine Aw_q 1 rfl (by kernel_rfl) (by kernel_rfl) (by kernel_rfl) rfl rfl rfl (Qt_fieldAddr (m := 1) rfl rfl rfl rfl rfl) ?_
              refine Aw_q 2 rfl (by kernel_rfl) (by kernel_rfl) (by kernel_rfl) rfl rfl rfl (Qt_load1 (v := (.int .i64 p2.case_)) rfl rfl rfl (Rdc.blk (.head _) rfl)) ?_
              refine Aw_q 3 rfl (by kernel_rfl) (by kernel_rfl) (by kernel_rfl) rfl rfl rfl (Qt_cmp rfl rfl rfl) ?_
              refine Aw_q 4 rfl (by kernel_rfl) (by kernel_rfl) (by kernel_rfl) rfl rfl rfl (Qt_move rfl) ?_
              refine Aw.known (d := 56) rfl (dcd_pos h355) ?_
              refine Aw_qw 5 rfl (by kernel_rfl) (by kernel_rfl) (by kernel_rfl) rfl rfl rfl rfl rfl rfl (Qt_loadA (m := 5) (cs := (Result.cells p2)) rfl rfl rfl rfl ⟨rfl, Rdc.blk (.head _) rfl⟩) ?_
              refine Aw_one 6 (by kernel_rfl) (Ax_mkw rfl rfl rfl rfl rfl ?_)
              refine OpW_call rfl Try.call97 rfl rfl (c_M_ref14_only p2 false false x356 hx357 _ _ ) ?_
              rintro _ _ _ - ⟨rfl, rfl, rfl⟩
              refine ⟨(Inc.cons (.head _) (Inc.cons (.tail _ (.head _)) Inc.nil)), ?_⟩
              refine Aw_q 7 rfl (by kernel_rfl) (by kernel_rfl) (by kernel_rfl) rfl rfl rfl (Qt_pick_t rfl rfl) ?_
              refine Aw_q 8 rfl (by kernel_rfl) (by kernel_rfl) (by kernel_rfl) rfl rfl rfl (Qt_move rfl) ?_
              refine Aw.known (d := 60) rfl (h358) ?_
              refine Aw_pass 9 rfl (by kernel_rfl) (by kernel_rfl) (by kernel_rfl) rfl rfl rfl rfl rfl rfl rfl ?_
              refine Aw_pass 10 rfl (by kernel_rfl) (by kernel_rfl) (by kernel_rfl) rfl rfl rfl rfl rfl rfl rfl ?_
              refine Aw_pass 11 rfl (by kernel_rfl) (by kernel_rfl) (by kernel_rfl) rfl rfl rfl rfl rfl rfl rfl ?_
              refine Aw_pass 12 rfl (by kernel_rfl) (by kernel_rfl) (by kernel_rfl) rfl rfl rfl rfl rfl rfl rfl ?_
              refine Aw_pass 13 rfl (by kernel_rfl) (by kernel_rfl) (by kernel_rfl) rfl rfl rfl rfl rfl rfl rfl ?_
              refine Aw_pass 14 rfl (by kernel_rfl) (by kernel_rfl) (by kernel_rfl) rfl rfl rfl rfl rfl rfl rfl ?_
              refine Aw_passU 15 rfl (by kernel_rfl) (by kernel_rfl) (by kernel_rfl) rfl rfl rfl rfl rfl ?_
              refine Aw_passU 16 rfl (by kernel_rfl) (by kernel_rfl) (by kernel_rfl) rfl rfl rfl rfl rfl ?_
              refine Aw_passU 17 rfl (by kernel_rfl) (by kernel_rfl) (by kernel_rfl) rfl rfl rfl rfl rfl ?_
              refine Aw_passU 18 rfl (by kernel_rfl) (by kernel_rfl) (by kernel_rfl) rfl rfl rfl rfl rfl ?_
              refine Aw_passU 19 rfl (by kernel_rfl) (by kernel_rfl) (by kernel_rfl) rfl rfl rfl rfl rfl ?_
              refine Aw_passU 20 rfl (by kernel_rfl) (by kernel_rfl) (by kernel_rfl) rfl rfl rfl rfl rfl ?_
              refine Aw_pass 21 rfl (by kernel_rfl) (by kernel_rfl) (by kernel_rfl) rfl rfl rfl rfl rfl rfl rfl ?_
              refine Aw_q 22 rfl (by kernel_rfl) (by kernel_rfl) (by kernel_rfl) rfl rfl rfl (Qt_pick_f rfl rfl) ?_
              refine Aw_q 23 rfl (by kernel_rfl) (by kernel_rfl) (by kernel_rfl) rfl rfl rfl (Qt_assign rfl) ?_
              refine Aw_q 24 rfl (by kernel_rfl) (by kernel_rfl) (by kernel_rfl) rfl rfl rfl (Qt_assign rfl) ?_
              refine Aw_done (by kernel_rfl) ?_
              refine Shift.rem .here ?_
              refine Shift.rem .here ?_
              refine Shift.done ?_
              exact ⟨[(6, (sv vp0)), (7, (.bool false))], ⟨rfl, rfl, trivial⟩, false, rfl, rfl, rfl, H⟩
          · intro h355
            have h355 := dcd_f (h355)
            have H := iff_ h355 H
            refine Cw_region_any [.blk b157 25 (Result.cells p2), .blk b156 38 (Op.cells p1 vp1_cases vp1_draws)] rfl (Inc.cons (.head _) (Inc.cons (.tail _ (.head _)) Inc.nil)) ?_
            refine Aw_q 0 rfl (by kernel_rfl) (by kernel_rfl) (by kernel_rfl) rfl rfl rfl (Qt_move rfl) ?_
            refine Aw_q 1 rfl (by kernel_rfl) (by kernel_rfl) (by kernel_rfl) rfl rfl rfl (Qt_fieldAddr (m := 1) rfl rfl rfl rfl rfl) ?_
            refine Aw_q 2 rfl (by kernel_rfl) (by kernel_rfl) (by kernel_rfl) rfl rfl rfl (Qt_load1 (v := (.int .i64 p2.case_)) rfl rfl rfl (Rdc.blk (.head _) rfl)) ?_
            refine Aw_q 3 rfl (by kernel_rfl) (by kernel_rfl) (by kernel_rfl) rfl rfl rfl (Qt_cmp rfl rfl rfl) ?_
            refine Aw_q 4 rfl (by kernel_rfl) (by kernel_rfl) (by kernel_rfl) rfl rfl rfl (Qt_move rfl) ?_
            refine Aw.known (d := 56) rfl (dcd_neg h355) ?_
            refine Aw_pass 5 rfl (by kernel_rfl) (by kernel_rfl) (by kernel_rfl) rfl rfl rfl rfl rfl rfl rfl ?_
            refine Aw_pass 6 rfl (by kernel_rfl) (by kernel_rfl) (by kernel_rfl) rfl rfl rfl rfl rfl rfl rfl ?_
            refine Aw_q 7 rfl (by kernel_rfl) (by kernel_rfl) (by kernel_rfl) rfl rfl rfl (Qt_pick_f rfl rfl) ?_
            refine Aw_q 8 rfl (by kernel_rfl) (by kernel_rfl) (by kernel_rfl) rfl rfl rfl (Qt_move rfl) ?_
            refine Aw_pass 9 rfl (by kernel_rfl) (by kernel_rfl) (by kernel_rfl) rfl rfl rfl rfl rfl rfl rfl ?_
            refine Aw_pass 10 rfl (by kernel_rfl) (by kernel_rfl) (by kernel_rfl) rfl rfl rfl rfl rfl rfl rfl ?_
            refine Aw_pass 11 rfl (by kernel_rfl) (by kernel_rfl) (by kernel_rfl) rfl rfl rfl rfl rfl rfl rfl ?_
            refine Aw_pass 12 rfl (by kernel_rfl) (by kernel_rfl) (by kernel_rfl) rfl rfl rfl rfl rfl rfl rfl ?_
            refine Aw_pass 13 rfl (by kernel_rfl) (by kernel_rfl) (by kernel_rfl) rfl rfl rfl rfl rfl rfl rfl ?_
            refine Aw_pass 14 rfl (by kernel_rfl) (by kernel_rfl) (by kernel_rfl) rfl rfl rfl rfl rfl rfl rfl ?_
            refine Aw_passU 15 rfl (by kernel_rfl) (by kernel_rfl) (by kernel_rfl) rfl rfl rfl rfl rfl ?_
            refine Aw_passU 16 rfl (by kernel_rfl) (by kernel_rfl) (by kernel_rfl) rfl rfl rfl rfl rfl ?_
            refine Aw_passU 17 rfl (by kernel_rfl) (by kernel_rfl) (by kernel_rfl) rfl rfl rfl rfl rfl ?_
            refine Aw_passU 18 rfl (by kernel_rfl) (by kernel_rfl) (by kernel_rfl) rfl rfl rfl rfl rfl ?_
            refine Aw_passU 19 rfl (by kernel_rfl) (by kernel_rfl) (by kernel_rfl) rfl rfl rfl rfl rfl ?_
            refine Aw_passU 20 rfl (by kernel_rfl) (by kernel_rfl) (by kernel_rfl) rfl rfl rfl rfl rfl ?_
            refine Aw_pass 21 rfl (by kernel_rfl) (by kernel_rfl) (by kernel_rfl) rfl rfl rfl rfl rfl rfl rfl ?_
            refine Aw_q 22 rfl (by kernel_rfl) (by kernel_rfl) (by kernel_rfl) rfl rfl rfl (Qt_pick_f rfl rfl) ?_
            refine Aw_q 23 rfl (by kernel_rfl) (by kernel_rfl) (by kernel_rfl) rfl rfl rfl (Qt_assign rfl) ?_
            refine Aw_q 24 rfl (by kernel_rfl) (by kernel_rfl) (by kernel_rfl) rfl rfl rfl (Qt_assign rfl) ?_
            refine Aw_done (by kernel_rfl) ?_
            refine Shift.rem .here ?_
            refine Shift.rem .here ?_
            refine Shift.done ?_
            exact ⟨[(6, (sv vp0)), (7, (.bool false))], ⟨rfl, rfl, trivial⟩, false, rfl, rfl, rfl, H⟩
        rintro _ _ _ - ⟨t354, rfl, rfl, rfl, H⟩
        unfold M_ref14_apply_J3 at H
        refine Cw_ret ?_
        obtain ⟨ey0, ey1⟩ := inj2 H
        subst y0 y1
        refine ⟨(by first | exact .inl rfl | exact .inr rfl), [(sv vp0), (.bool t354)], ⟨(sv vp0), _, rfl, rfl, ⟨(.bool t354), _, rfl, rfl, rfl⟩⟩, ?_⟩
        refine Shift.done ?_
        exact ⟨vp0, rfl, rfl, hp0⟩
      · intro h334
        have h334 := dcd_f (h334)
        have H := iff_ h334 H
        refine Cw_skip ?_
        refine Cw_seq ?_
        refine Cw_region ?_
        refine Ow_q rfl rfl rfl (Qt_loadA (m := 7) (cs := (Op.cells p1 vp1_cases vp1_draws)) rfl rfl rfl rfl ⟨rfl, Rdc.blk (.tail _ (.head _)) rfl⟩) ?_
        refine Ow_q rfl rfl rfl (Qt_loadA (m := 5) (cs := (Result.cells p2)) rfl rfl rfl rfl ⟨rfl, Rdc.blk (.head _) rfl⟩) ?_
        obtain ⟨x374, x375, hx376, H⟩ := bnd2 H
        refine Ow_cons rfl (OpW_call rfl Try.call95 rfl rfl (c_M_ref14_chosen p1 vp1_cases vp1_draws p2 x374 x375 hx376 _ _ hp1_cases hp1_draws) ?_)
        rintro _ _ _ - ⟨rfl, rfl, rfl⟩
        refine Ow_q rfl rfl rfl (Qt_move rfl) ?_
        refine Ow_q rfl rfl rfl (Qt_extract rfl rfl) ?_
        refine Ow_q rfl rfl rfl (Qt_extract rfl rfl) ?_
        refine Ow_cons rfl (OpW_alloc (cs := (Case.cells (Case.mk false 0 0))) rfl rfl rfl rfl (fun b377 => ?_))
        refine Ow_cons rfl (OpW_store (vs := (Case.cells x374)) (all' := (Case.cells x374)) rfl rfl rfl rfl rfl .here rfl rfl rfl ?_)
        refine Ow_q rfl rfl rfl (Qt_assign rfl) ?_
        refine Ow_nil ?_
        refine Cw_seq ?_
        refine Cw_seq ?_
        refine Cw_region ?_
        refine Ow_q rfl rfl rfl (Qt_move rfl) ?_
        refine Ow_q rfl rfl rfl (Qt_not rfl) ?_
        refine Ow_nil ?_
        refine Cw_cond rfl ?_ ?_
        · intro h379
          have h379 := nt_t (h379)
          have H := iff_ (btf h379) H
          refine Cw_seq ?_
          refine Cw_region ?_
          refine Ow_q rfl rfl rfl (Qt_assign rfl) ?_
          refine Ow_q rfl rfl rfl (Qt_assign rfl) ?_
          refine Ow_nil ?_
          refine Cw_ret ?_
          obtain ⟨ey0, ey1⟩ := inj2 H
          subst y0 y1
          refine ⟨(by first | exact .inl rfl | exact .inr rfl), [(sv nilS), (.bool false)], ⟨(sv nilS), _, rfl, rfl, ⟨(.bool false), _, rfl, rfl, rfl⟩⟩, ?_⟩
          refine Shift.rem .here ?_
          refine Shift.rem .here ?_
          refine Shift.rem .here ?_
          refine Shift.done ?_
          exact ⟨nilS, rfl, rfl, (Slr.nil TyChan _)⟩
        · intro h379
          have h379 := nt_f (h379)
          have H := ift h379 H
          refine Cw_skip ?_
          refine Cw_seq ?_
          refine Cw_region ?_
          refine Ow_q rfl rfl rfl (Qt_move rfl) ?_
          refine Ow_q rfl rfl rfl (Qt_loadA (m := 3) (cs := (Case.cells x374)) rfl rfl rfl rfl ⟨rfl, Rdc.blk (.head _) rfl⟩) ?_
          refine Ow_q rfl rfl rfl (Qt_loadA (m := 5) (cs := (Result.cells p2)) rfl rfl rfl rfl ⟨rfl, Rdc.blk (.tail _ (.head _)) rfl⟩) ?_
          obtain ⟨x380, x381, hx382, H⟩ := bnd2 H
          refine Ow_cons rfl (OpW_call rfl Try.call96 rfl rfl (c_M_ref14_do p0 vp0 x374 p2 x380 x381 hx382 _ _ hp0) ?_)
          rintro _ K384 _ hK385 ⟨v383, rfl, rfl, hs386⟩
          refine Ow_q rfl rfl rfl (Qt_extract rfl rfl) ?_
          refine Ow_q rfl rfl rfl (Qt_extract rfl rfl) ?_
          refine Ow_q rfl rfl rfl (Qt_assign rfl) ?_
          refine Ow_q rfl rfl rfl (Qt_assign rfl) ?_
          refine Ow_nil ?_
          refine Cw_ret ?_
          obtain ⟨ey0, ey1⟩ := inj2 H
          subst y0 y1
          refine ⟨(by first | exact .inl rfl | exact .inr rfl), [(sv v383), (.bool x381)], ⟨(sv v383), _, rfl, rfl, ⟨(.bool x381), _, rfl, rfl, rfl⟩⟩, ?_⟩
          refine Shift.rem .here ?_
          refine Shift.rem .here ?_
          refine Shift.rem .here ?_
          refine Shift.done ?_
          exact ⟨v383, rfl, rfl, hs386⟩
    · intro h312
      have h312 := dcd_f (h312)
      have H := iff_ h312 H
      refine Cw_seq ?_
      refine Cw_region ?_
      refine Ow_q rfl rfl rfl (Qt_cmp rfl rfl rfl) ?_
      refine Ow_q rfl rfl rfl (Qt_assign rfl) ?_
      refine Ow_nil ?_
      refine Cw_cond rfl ?_ ?_
      · intro h387
        have h387 := dcd_t (h387)
        have H := ift h387 H
        refine Cw_seq ?_
        refine Cw_join (fun env' K' G' => ∃ (t420 : Bool), [(0, (sv vp0)), (4, (.pointer (some ((⟨b156, 0, none⟩ : Addr).add 0)))), (118, (.bool t420))] = env' ∧ K = K' ∧ (.blk b156 38 (Op.cells p1 vp1_cases vp1_draws)) :: G = G' ∧ M_ref14_apply_J4 p0 p1 t420 = some (y0, y1)) ?_ ?_
        · skip
          refine Cw_region ?_
          refine Ow_q rfl rfl rfl (Qt_fieldAddr (m := 0) rfl rfl rfl rfl rfl) ?_
          refine Ow_q rfl rfl rfl (Qt_load1 (v := (.int .i64 p1.kind)) rfl rfl rfl (Rdc.blk (.tail _ (.head _)) rfl)) ?_
          refine Ow_q rfl rfl rfl (Qt_cmp rfl rfl rfl) ?_
          refine Ow_q rfl rfl rfl (Qt_move rfl) ?_
          refine Ow_caseG rfl rfl rfl ?_ ?_
          · intro h421
            have h421 := dcd_f (nt_t (h421))
            have H := iff_ h421 H
            refine Ow_pass rfl rfl rfl rfl rfl rfl rfl ?_
            refine Ow_pass rfl rfl rfl rfl rfl rfl rfl ?_
            refine Ow_pass rfl rfl rfl rfl rfl rfl rfl ?_
            refine Ow_q rfl rfl rfl (Qt_pick_t rfl rfl) ?_
            refine Ow_q rfl rfl rfl (Qt_move rfl) ?_
            refine Ow_pass rfl rfl rfl rfl rfl rfl rfl ?_
            refine Ow_pass rfl rfl rfl rfl rfl rfl rfl ?_
            refine Ow_pass rfl rfl rfl rfl rfl rfl rfl ?_
            refine Ow_q rfl rfl rfl (Qt_pick_t rfl rfl) ?_
            refine Ow_q rfl rfl rfl (Qt_move rfl) ?_
            refine Ow_pass rfl rfl rfl rfl rfl rfl rfl ?_
            refine Ow_pass rfl rfl rfl rfl rfl rfl rfl ?_
            refine Ow_pass rfl rfl rfl rfl rfl rfl rfl ?_
            refine Ow_pass rfl rfl rfl rfl rfl rfl rfl ?_
            refine Ow_pass rfl rfl rfl rfl rfl rfl rfl ?_
            refine Ow_q rfl rfl rfl (Qt_pick_t rfl rfl) ?_
            refine Ow_q rfl rfl rfl (Qt_move rfl) ?_
            refine Ow_pass rfl rfl rfl rfl rfl rfl rfl ?_
            refine Ow_pass rfl rfl rfl rfl rfl rfl rfl ?_
            refine Ow_pass rfl rfl rfl rfl rfl rfl rfl ?_
            refine Ow_pass rfl rfl rfl rfl rfl rfl rfl ?_
            refine Ow_pass rfl rfl rfl rfl rfl rfl rfl ?_
            refine Ow_pass rfl rfl rfl rfl rfl rfl rfl ?_
            refine Ow_q rfl rfl rfl (Qt_pick_t rfl rfl) ?_
            refine Ow_nil ?_
            refine Shift.pull (.there .here) ?_
            refine Shift.rem (.there .here) ?_
            refine Shift.done ?_
            exact ⟨[(0, (sv vp0)), (4, (.pointer (some ((⟨b156, 0, none⟩ : Addr).add 0)))), (118, (.bool true))], ⟨rfl, rfl, rfl, trivial⟩, true, rfl, rfl, rfl, H⟩
          · intro h421
            have h421 := dcd_t (nt_f (h421))
            have H := ift h421 H
            refine Ow_qw rfl rfl rfl rfl rfl rfl (Qt_fieldAddr (m := 1) rfl rfl rfl rfl rfl) ?_
            refine Ow_qw rfl rfl rfl rfl rfl rfl (Qt_load1 (v := (.int .i64 p2.case_)) rfl rfl rfl (Rdc.blk (.head _) rfl)) ?_
            refine Ow_qw rfl rfl rfl rfl rfl rfl (Qt_cmp rfl rfl rfl) ?_
            refine Ow_q rfl rfl rfl (Qt_pick_f rfl rfl) ?_
            refine Ow_q rfl rfl rfl (Qt_move rfl) ?_
            refine Ow_caseG rfl rfl rfl ?_ ?_
            · intro h422
              have h422 := dcd_f (nt_t (h422))
              have H := iff_ h422 H
              refine Ow_pass rfl rfl rfl rfl rfl rfl rfl ?_
              refine Ow_pass rfl rfl rfl rfl rfl rfl rfl ?_
              refine Ow_pass rfl rfl rfl rfl rfl rfl rfl ?_
              refine Ow_q rfl rfl rfl (Qt_pick_t rfl rfl) ?_
              refine Ow_q rfl rfl rfl (Qt_move rfl) ?_
              refine Ow_pass rfl rfl rfl rfl rfl rfl rfl ?_
              refine Ow_pass rfl rfl rfl rfl rfl rfl rfl ?_
              refine Ow_pass rfl rfl rfl rfl rfl rfl rfl ?_
              refine Ow_pass rfl rfl rfl rfl rfl rfl rfl ?_
              refine Ow_pass rfl rfl rfl rfl rfl rfl rfl ?_
              refine Ow_q rfl rfl rfl (Qt_pick_t rfl rfl) ?_
              refine Ow_q rfl rfl rfl (Qt_move rfl) ?_
              refine Ow_pass rfl rfl rfl rfl rfl rfl rfl ?_
              refine Ow_pass rfl rfl rfl rfl rfl rfl rfl ?_
              refine Ow_pass rfl rfl rfl rfl rfl rfl rfl ?_
              refine Ow_pass rfl rfl rfl rfl rfl rfl rfl ?_
              refine Ow_pass rfl rfl rfl rfl rfl rfl rfl ?_
              refine Ow_pass rfl rfl rfl rfl rfl rfl rfl ?_
              refine Ow_q rfl rfl rfl (Qt_pick_t rfl rfl) ?_
              refine Ow_nil ?_
              refine Shift.pull (.there .here) ?_
              refine Shift.rem (.there .here) ?_
              refine Shift.done ?_
              exact ⟨[(0, (sv vp0)), (4, (.pointer (some ((⟨b156, 0, none⟩ : Addr).add 0)))), (118, (.bool true))], ⟨rfl, rfl, rfl, trivial⟩, true, rfl, rfl, rfl, H⟩
            · intro h422
              have h422 := dcd_t (nt_f (h422))
              have H := ift h422 H
              refine Ow_qw rfl rfl rfl rfl rfl rfl (Qt_loadA (m := 5) (cs := (Result.cells p2)) rfl rfl rfl rfl ⟨rfl, Rdc.blk (.head _) rfl⟩) ?_
              obtain ⟨x423, hx424, H⟩ := bnd H
              refine Ow_want rfl rfl rfl rfl (OpW_call rfl Try.call97 rfl rfl (c_M_ref14_only p2 false false x423 hx424 _ _ ) ?_)
              rintro _ _ _ - ⟨rfl, rfl, rfl⟩
              refine Ow_qw rfl rfl rfl rfl rfl rfl (Qt_not rfl) ?_
              refine Ow_q rfl rfl rfl (Qt_pick_f rfl rfl) ?_
              refine Ow_q rfl rfl rfl (Qt_move rfl) ?_
              refine Ow_caseG rfl rfl rfl ?_ ?_
              · intro h425
                have h425 := nt_t (h425)
                have H := iff_ (btf h425) H
                refine Ow_pass rfl rfl rfl rfl rfl rfl rfl ?_
                refine Ow_pass rfl rfl rfl rfl rfl rfl rfl ?_
                refine Ow_pass rfl rfl rfl rfl rfl rfl rfl ?_
                refine Ow_pass rfl rfl rfl rfl rfl rfl rfl ?_
                refine Ow_pass rfl rfl rfl rfl rfl rfl rfl ?_
                refine Ow_q rfl rfl rfl (Qt_pick_t rfl rfl) ?_
                refine Ow_q rfl rfl rfl (Qt_move rfl) ?_
                refine Ow_pass rfl rfl rfl rfl rfl rfl rfl ?_
                refine Ow_pass rfl rfl rfl rfl rfl rfl rfl ?_
                refine Ow_pass rfl rfl rfl rfl rfl rfl rfl ?_
                refine Ow_pass rfl rfl rfl rfl rfl rfl rfl ?_
                refine Ow_pass rfl rfl rfl rfl rfl rfl rfl ?_
                refine Ow_pass rfl rfl rfl rfl rfl rfl rfl ?_
                refine Ow_q rfl rfl rfl (Qt_pick_t rfl rfl) ?_
                refine Ow_nil ?_
                refine Shift.pull (.there .here) ?_
                refine Shift.rem (.there .here) ?_
                refine Shift.done ?_
                exact ⟨[(0, (sv vp0)), (4, (.pointer (some ((⟨b156, 0, none⟩ : Addr).add 0)))), (118, (.bool true))], ⟨rfl, rfl, rfl, trivial⟩, true, rfl, rfl, rfl, H⟩
              · intro h425
                have h425 := nt_f (h425)
                have H := ift h425 H
                refine Ow_qw rfl rfl rfl rfl rfl rfl (Qt_move rfl) ?_
                refine Ow_qw rfl rfl rfl rfl rfl rfl (Qt_fieldAddr (m := 2) rfl rfl rfl rfl rfl) ?_
                refine Ow_qw rfl rfl rfl rfl rfl rfl (Qt_load1 (v := (.int .i64 p1.channel)) rfl rfl rfl (Rdc.blk (.tail _ (.head _)) rfl)) ?_
                obtain ⟨x426, hx427, H⟩ := bnd H
                refine Ow_want rfl rfl rfl rfl (OpW_call rfl Try.call80 rfl rfl (c_M_ref14_exists p0 vp0 p1.channel x426 hx427 _ _ hp0) ?_)
                rintro _ _ _ - ⟨rfl, rfl, rfl⟩
                refine Ow_qw rfl rfl rfl rfl rfl rfl (Qt_not rfl) ?_
                refine Ow_q rfl rfl rfl (Qt_pick_f rfl rfl) ?_
                refine Ow_q rfl rfl rfl (Qt_move rfl) ?_
                refine Ow_caseG rfl rfl rfl ?_ ?_
                · intro h428
                  have h428 := nt_t (h428)
                  have H := iff_ (btf h428) H
                  refine Ow_pass rfl rfl rfl rfl rfl rfl rfl ?_
                  refine Ow_pass rfl rfl rfl rfl rfl rfl rfl ?_
                  refine Ow_pass rfl rfl rfl rfl rfl rfl rfl ?_
                  refine Ow_pass rfl rfl rfl rfl rfl rfl rfl ?_
                  refine Ow_pass rfl rfl rfl rfl rfl rfl rfl ?_
                  refine Ow_pass rfl rfl rfl rfl rfl rfl rfl ?_
                  refine Ow_q rfl rfl rfl (Qt_pick_t rfl rfl) ?_
                  refine Ow_nil ?_
                  refine Shift.pull (.there .here) ?_
                  refine Shift.rem (.there .here) ?_
                  refine Shift.done ?_
                  exact ⟨[(0, (sv vp0)), (4, (.pointer (some ((⟨b156, 0, none⟩ : Addr).add 0)))), (118, (.bool true))], ⟨rfl, rfl, rfl, trivial⟩, true, rfl, rfl, rfl, H⟩
                · intro h428
                  have h428 := nt_f (h428)
                  have H := ift h428 H
                  refine Ow_qw rfl rfl rfl rfl rfl rfl (Qt_move rfl) ?_
                  refine Ow_qw rfl rfl rfl rfl rfl rfl (Qt_fieldAddr (m := 2) rfl rfl rfl rfl rfl) ?_
                  refine Ow_qw rfl rfl rfl rfl rfl rfl (Qt_load1 (v := (.int .i64 p1.channel)) rfl rfl rfl (Rdc.blk (.tail _ (.head _)) rfl)) ?_
                  obtain ⟨x429, hx430, H⟩ := bnd H
                  obtain ⟨r431, hr432, hk433⟩ := Slr.at hp0 hx430
                  obtain ⟨v434, rfl, hs435⟩ := hr432
                  refine Ow_qw rfl rfl rfl rfl rfl rfl (Q_ix (T := TyChan) hp0 hx430 rfl rfl rfl rfl rfl) ?_
                  refine Ow_qw rfl rfl rfl rfl rfl rfl (Qt_fieldAddr (m := 2) rfl rfl rfl rfl rfl) ?_
                  refine Ow_qw rfl rfl rfl rfl rfl rfl (Qt_load1 (v := (.bool x429.closed)) rfl rfl rfl (Rdc.k hk433 rfl)) ?_
                  refine Ow_q rfl rfl rfl (Qt_pick_f rfl rfl) ?_
                  refine Ow_nil ?_
                  refine Shift.pull (.there .here) ?_
                  refine Shift.rem (.there .here) ?_
                  refine Shift.done ?_
                  exact ⟨[(0, (sv vp0)), (4, (.pointer (some ((⟨b156, 0, none⟩ : Addr).add 0)))), (118, (.bool x429.closed))], ⟨rfl, rfl, rfl, trivial⟩, x429.closed, rfl, rfl, rfl, H⟩
        rintro _ _ _ - ⟨t420, rfl, rfl, rfl, H⟩
        unfold M_ref14_apply_J4 at H
        refine Cw_cond rfl ?_ ?_
        · intro h436
          have H := ift h436 H
          refine Cw_seq ?_
          refine Cw_region ?_
          refine Ow_q rfl rfl rfl (Qt_assign rfl) ?_
          refine Ow_q rfl rfl rfl (Qt_assign rfl) ?_
          refine Ow_nil ?_
          refine Cw_ret ?_
          obtain ⟨ey0, ey1⟩ := inj2 H
          subst y0 y1
          refine ⟨(by first | exact .inl rfl | exact .inr rfl), [(sv nilS), (.bool false)], ⟨(sv nilS), _, rfl, rfl, ⟨(.bool false), _, rfl, rfl, rfl⟩⟩, ?_⟩
          refine Shift.rem .here ?_
          refine Shift.done ?_
          exact ⟨nilS, rfl, rfl, (Slr.nil TyChan _)⟩
        · intro h436
          have H := iff_ (btf h436) H
          refine Cw_skip ?_
          refine Cw_seq ?_
          refine Cw_region ?_
          refine Ow_q rfl rfl rfl (Qt_move rfl) ?_
          refine Ow_q rfl rfl rfl (Qt_fieldAddr (m := 2) rfl rfl rfl rfl rfl) ?_
          refine Ow_q rfl rfl rfl (Qt_load1 (v := (.int .i64 p1.channel)) rfl rfl rfl (Rdc.blk (.head _) rfl)) ?_
          obtain ⟨x437, hx438, H⟩ := bnd H
          obtain ⟨r439, hr440, hk441⟩ := Slr.at hp0 hx438
          obtain ⟨v442, rfl, hs443⟩ := hr440
          refine Ow_q rfl rfl rfl (Q_ix (T := TyChan) hp0 hx438 rfl rfl rfl rfl rfl) ?_
          refine Ow_q rfl rfl rfl (Qt_loadA (m := 3) (cs := (Chan.cells x437 v442)) rfl rfl rfl rfl ⟨rfl, Rdc.k hk441 rfl⟩) ?_
          refine Ow_cons rfl (OpW_alloc (cs := (Chan.cells (Chan.mk 0 [] false) nilS)) rfl rfl rfl rfl (fun b444 => ?_))
          refine Ow_cons rfl (OpW_store (vs := (Chan.cells x437 v442)) (all' := (Chan.cells x437 v442)) rfl rfl rfl rfl rfl .here rfl rfl rfl ?_)
          refine Ow_nil ?_
          refine Cw_seq ?_
          refine Cw_region ?_
          refine Ow_q rfl rfl rfl (Qt_fieldAddr (m := 2) rfl rfl rfl rfl rfl) ?_
          refine Ow_cons rfl (OpW_store (vs := [(.bool true)]) (all' := (Chan.cells (Chan.mk x437.capacity x437.buffer true) v442)) rfl rfl rfl rfl rfl .here rfl rfl rfl ?_)
          refine Ow_nil ?_
          refine Cw_seq ?_
          refine Cw_region ?_
          refine Ow_q rfl rfl rfl (Qt_move rfl) ?_
          refine Ow_q rfl rfl rfl (Qt_fieldAddr (m := 2) rfl rfl rfl rfl rfl) ?_
          refine Ow_q rfl rfl rfl (Qt_load1 (v := (.int .i64 p1.channel)) rfl rfl rfl (Rdc.blk (.tail _ (.head _)) rfl)) ?_
          refine Ow_q rfl rfl rfl (Qt_loadA (m := 3) (cs := (Chan.cells (Chan.mk x437.capacity x437.buffer true) v442)) rfl rfl rfl rfl ⟨rfl, Rdc.blk (.head _) rfl⟩) ?_
          obtain ⟨x445, hx446, H⟩ := bnd H
          refine Ow_cons rfl (OpW_call rfl Try.call98 rfl rfl (c_M_ref14_set p0 vp0 p1.channel (Chan.mk x437.capacity x437.buffer true) v442 x445 hx446 _ _ hp0 hs443) ?_)
          rintro _ _ _ - ⟨v447, rs448, rfl, rfl, rfl, hs449⟩
          refine Ow_q rfl rfl rfl (Qt_assign rfl) ?_
          refine Ow_q rfl rfl rfl (Qt_assign rfl) ?_
          refine Ow_nil ?_
          refine Cw_ret ?_
          obtain ⟨ey0, ey1⟩ := inj2 H
          subst y0 y1
          refine ⟨(by first | exact .inl rfl | exact .inr rfl), [(sv v447), (.bool true)], ⟨(sv v447), _, rfl, rfl, ⟨(.bool true), _, rfl, rfl, rfl⟩⟩, ?_⟩
          refine Shift.settle (T := TyChan) .here hs449 rfl ?_
          intro K450 hK451 hs452
          refine Shift.rem .here ?_
          refine Shift.rem .here ?_
          refine Shift.rem .here ?_
          refine Shift.done ?_
          exact ⟨v447, rfl, rfl, hs452⟩
      · intro h387
        have h387 := dcd_f (h387)
        have H := iff_ h387 H
        refine Cw_seq ?_
        refine Cw_region ?_
        refine Ow_q rfl rfl rfl (Qt_cmp rfl rfl rfl) ?_
        refine Ow_q rfl rfl rfl (Qt_assign rfl) ?_
        refine Ow_nil ?_
        refine Cw_cond rfl ?_ ?_
        · intro h453
          have h453 := dcd_t (h453)
          have H := ift h453 H
          refine Cw_join (fun env' K' G' => ∃ (t464 : Bool), [(6, (sv vp0)), (7, (.bool t464))] = env' ∧ G = G' ∧ M_ref14_apply_J5 p0 t464 = some (y0, y1)) ?_ ?_
          · skip
            refine Cw_region ?_
            refine Ow_q rfl rfl rfl (Qt_move rfl) ?_
            refine Ow_q rfl rfl rfl (Qt_move rfl) ?_
            refine Ow_q rfl rfl rfl (Qt_move rfl) ?_
            refine Ow_caseG rfl rfl rfl ?_ ?_
            · intro h465
              have H := ift h465 H
              refine Ow_qw rfl rfl rfl rfl rfl rfl (Qt_fieldAddr (m := 1) rfl rfl rfl rfl rfl) ?_
              refine Ow_qw rfl rfl rfl rfl rfl rfl (Qt_load1 (v := (.int .i64 p1.mode)) rfl rfl rfl (Rdc.blk (.tail _ (.head _)) rfl)) ?_
              refine Ow_qw rfl rfl rfl rfl rfl rfl (Qt_cmp rfl rfl rfl) ?_
              refine Ow_q rfl rfl rfl (Qt_pick_t rfl rfl) ?_
              refine Ow_q rfl rfl rfl (Qt_move rfl) ?_
              refine Ow_caseG rfl rfl rfl ?_ ?_
              · intro h466
                have h466 := dcd_t (h466)
                have H := ift h466 H
                refine Ow_qw rfl rfl rfl rfl rfl rfl (Qt_fieldAddr (m := 1) rfl rfl rfl rfl rfl) ?_
                refine Ow_qw rfl rfl rfl rfl rfl rfl (Qt_load1 (v := (.int .i64 p2.case_)) rfl rfl rfl (Rdc.blk (.head _) rfl)) ?_
                refine Ow_qw rfl rfl rfl rfl rfl rfl (Qt_cmp rfl rfl rfl) ?_
                refine Ow_q rfl rfl rfl (Qt_pick_t rfl rfl) ?_
                refine Ow_q rfl rfl rfl (Qt_move rfl) ?_
                refine Ow_caseG rfl rfl rfl ?_ ?_
                · intro h467
                  have h467 := dcd_t (h467)
                  have H := ift h467 H
                  refine Ow_qw rfl rfl rfl rfl rfl rfl (Qt_loadA (m := 5) (cs := (Result.cells p2)) rfl rfl rfl rfl ⟨rfl, Rdc.blk (.head _) rfl⟩) ?_
                  obtain ⟨x468, hx469, H⟩ := bnd H
                  refine Ow_want rfl rfl rfl rfl (OpW_call rfl Try.call97 rfl rfl (c_M_ref14_only p2 false false x468 hx469 _ _ ) ?_)
                  rintro _ _ _ - ⟨rfl, rfl, rfl⟩
                  refine Ow_q rfl rfl rfl (Qt_pick_t rfl rfl) ?_
                  refine Ow_q rfl rfl rfl (Qt_move rfl) ?_
                  refine Ow_caseG rfl rfl rfl ?_ ?_
                  · intro h470
                    have H := ift h470 H
                    refine Ow_qw rfl rfl rfl rfl rfl rfl (Qt_move rfl) ?_
                    refine Ow_qw rfl rfl rfl rfl rfl rfl (Qt_loadA (m := 7) (cs := (Op.cells p1 vp1_cases vp1_draws)) rfl rfl rfl rfl ⟨rfl, Rdc.blk (.tail _ (.head _)) rfl⟩) ?_
                    obtain ⟨x471, hx472, H⟩ := bnd H
                    refine Ow_want rfl rfl rfl rfl (OpW_call rfl Try.call99 rfl rfl (c_M_ref14_blocked p0 vp0 p1 vp1_cases vp1_draws x471 hx472 _ _ hp0 hp1_cases hp1_draws) ?_)
                    rintro _ K473 _ hK474 ⟨rfl, rfl⟩
                    refine Ow_q rfl rfl rfl (Qt_pick_t rfl rfl) ?_
                    refine Ow_q rfl rfl rfl (Qt_assign rfl) ?_
                    refine Ow_q rfl rfl rfl (Qt_assign rfl) ?_
                    refine Ow_nil ?_
                    refine Shift.rem .here ?_
                    refine Shift.rem .here ?_
                    refine Shift.done ?_
                    exact ⟨[(6, (sv vp0)), (7, (.bool x471))], ⟨rfl, rfl, trivial⟩, x471, rfl, rfl, H⟩
                  · intro h470
                    have H := iff_ (btf h470) H
                    refine Ow_pass rfl rfl rfl rfl rfl rfl rfl ?_
                    refine Ow_pass rfl rfl rfl rfl rfl rfl rfl ?_
                    refine Ow_pass rfl rfl rfl rfl rfl rfl rfl ?_
                    refine Ow_q rfl rfl rfl (Qt_pick_f rfl rfl) ?_
                    refine Ow_q rfl rfl rfl (Qt_assign rfl) ?_
                    refine Ow_q rfl rfl rfl (Qt_assign rfl) ?_
                    refine Ow_nil ?_
                    refine Shift.rem .here ?_
                    refine Shift.rem .here ?_
                    refine Shift.done ?_
                    exact ⟨[(6, (sv vp0)), (7, (.bool false))], ⟨rfl, rfl, trivial⟩, false, rfl, rfl, H⟩
                · intro h467
                  have h467 := dcd_f (h467)
                  have H := iff_ h467 H
                  refine Ow_pass rfl rfl rfl rfl rfl rfl rfl ?_
                  refine Ow_pass rfl rfl rfl rfl rfl rfl rfl ?_
                  refine Ow_q rfl rfl rfl (Qt_pick_f rfl rfl) ?_
                  refine Ow_q rfl rfl rfl (Qt_move rfl) ?_
                  refine Ow_pass rfl rfl rfl rfl rfl rfl rfl ?_
                  refine Ow_pass rfl rfl rfl rfl rfl rfl rfl ?_
                  refine Ow_pass rfl rfl rfl rfl rfl rfl rfl ?_
                  refine Ow_q rfl rfl rfl (Qt_pick_f rfl rfl) ?_
                  refine Ow_q rfl rfl rfl (Qt_assign rfl) ?_
                  refine Ow_q rfl rfl rfl (Qt_assign rfl) ?_
                  refine Ow_nil ?_
                  refine Shift.rem .here ?_
                  refine Shift.rem .here ?_
                  refine Shift.done ?_
                  exact ⟨[(6, (sv vp0)), (7, (.bool false))], ⟨rfl, rfl, trivial⟩, false, rfl, rfl, H⟩
              · intro h466
                have h466 := dcd_f (h466)
                have H := iff_ h466 H
                refine Ow_pass rfl rfl rfl rfl rfl rfl rfl ?_
                refine Ow_pass rfl rfl rfl rfl rfl rfl rfl ?_
                refine Ow_pass rfl rfl rfl rfl rfl rfl rfl ?_
                refine Ow_q rfl rfl rfl (Qt_pick_f rfl rfl) ?_
                refine Ow_q rfl rfl rfl (Qt_move rfl) ?_
                refine Ow_pass rfl rfl rfl rfl rfl rfl rfl ?_
                refine Ow_pass rfl rfl rfl rfl rfl rfl rfl ?_
                refine Ow_q rfl rfl rfl (Qt_pick_f rfl rfl) ?_
                refine Ow_q rfl rfl rfl (Qt_move rfl) ?_
                refine Ow_pass rfl rfl rfl rfl rfl rfl rfl ?_
                refine Ow_pass rfl rfl rfl rfl rfl rfl rfl ?_
                refine Ow_pass rfl rfl rfl rfl rfl rfl rfl ?_
                refine Ow_q rfl rfl rfl (Qt_pick_f rfl rfl) ?_
                refine Ow_q rfl rfl rfl (Qt_assign rfl) ?_
                refine Ow_q rfl rfl rfl (Qt_assign rfl) ?_
                refine Ow_nil ?_
                refine Shift.rem .here ?_
                refine Shift.rem .here ?_
                refine Shift.done ?_
                exact ⟨[(6, (sv vp0)), (7, (.bool false))], ⟨rfl, rfl, trivial⟩, false, rfl, rfl, H⟩
            · intro h465
              have H := iff_ (btf h465) H
              refine Ow_pass rfl rfl rfl rfl rfl rfl rfl ?_
              refine Ow_pass rfl rfl rfl rfl rfl rfl rfl ?_
              refine Ow_pass rfl rfl rfl rfl rfl rfl rfl ?_
              refine Ow_q rfl rfl rfl (Qt_pick_f rfl rfl) ?_
              refine Ow_q rfl rfl rfl (Qt_move rfl) ?_
              refine Ow_pass rfl rfl rfl rfl rfl rfl rfl ?_
              refine Ow_pass rfl rfl rfl rfl rfl rfl rfl ?_
              refine Ow_pass rfl rfl rfl rfl rfl rfl rfl ?_
              refine Ow_q rfl rfl rfl (Qt_pick_f rfl rfl) ?_
              refine Ow_q rfl rfl rfl (Qt_move rfl) ?_
              refine Ow_pass rfl rfl rfl rfl rfl rfl rfl ?_
              refine Ow_pass rfl rfl rfl rfl rfl rfl rfl ?_
              refine Ow_q rfl rfl rfl (Qt_pick_f rfl rfl) ?_
              refine Ow_q rfl rfl rfl (Qt_move rfl) ?_
              refine Ow_pass rfl rfl rfl rfl rfl rfl rfl ?_
              refine Ow_pass rfl rfl rfl rfl rfl rfl rfl ?_
              refine Ow_pass rfl rfl rfl rfl rfl rfl rfl ?_
              refine Ow_q rfl rfl rfl (Qt_pick_f rfl rfl) ?_
              refine Ow_q rfl rfl rfl (Qt_assign rfl) ?_
              refine Ow_q rfl rfl rfl (Qt_assign rfl) ?_
              refine Ow_nil ?_
              refine Shift.rem .here ?_
              refine Shift.rem .here ?_
              refine Shift.done ?_
              exact ⟨[(6, (sv vp0)), (7, (.bool false))], ⟨rfl, rfl, trivial⟩, false, rfl, rfl, H⟩
          rintro _ K475 _ hK476 ⟨t464, rfl, rfl, H⟩
          unfold M_ref14_apply_J5 at H
          refine Cw_ret ?_
          obtain ⟨ey0, ey1⟩ := inj2 H
          subst y0 y1
          refine ⟨(by first | exact .inl rfl | exact .inr rfl), [(sv vp0), (.bool t464)], ⟨(sv vp0), _, rfl, rfl, ⟨(.bool t464), _, rfl, rfl, rfl⟩⟩, ?_⟩
          have hs477 := (hp0).mono hK476
          refine Shift.done ?_
          exact ⟨vp0, rfl, rfl, hs477⟩
        · intro h453
          have h453 := dcd_f (h453)
          have H := iff_ h453 H
          refine Cw_seq ?_
          refine Cw_region ?_
          refine Ow_q rfl rfl rfl (Qt_cmp rfl rfl rfl) ?_
          refine Ow_q rfl rfl rfl (Qt_assign rfl) ?_
          refine Ow_nil ?_
          refine Cw_cond rfl ?_ ?_
          · intro h478
            have h478 := dcd_t (h478)
            have H := ift h478 H
            refine Cw_join (fun env' K' G' => ∃ (t484 : Bool), [(6, (sv vp0)), (7, (.bool t484))] = env' ∧ K = K' ∧ G = G' ∧ M_ref14_apply_J6 p0 t484 = some (y0, y1)) ?_ ?_
            · skip
              refine Cw_region ?_
              refine Ow_q rfl rfl rfl (Qt_move rfl) ?_
              refine Ow_q rfl rfl rfl (Qt_move rfl) ?_
              refine Ow_q rfl rfl rfl (Qt_move rfl) ?_
              refine Ow_caseG rfl rfl rfl ?_ ?_
              · intro h485
                have H := ift h485 H
                refine Ow_qw rfl rfl rfl rfl rfl rfl (Qt_fieldAddr (m := 1) rfl rfl rfl rfl rfl) ?_
                refine Ow_qw rfl rfl rfl rfl rfl rfl (Qt_load1 (v := (.int .i64 p1.mode)) rfl rfl rfl (Rdc.blk (.tail _ (.head _)) rfl)) ?_
                refine Ow_qw rfl rfl rfl rfl rfl rfl (Qt_cmp rfl rfl rfl) ?_
                refine Ow_q rfl rfl rfl (Qt_pick_t rfl rfl) ?_
                refine Ow_q rfl rfl rfl (Qt_move rfl) ?_
                refine Ow_caseG rfl rfl rfl ?_ ?_
                · intro h486
                  have h486 := dcd_t (h486)
                  have H := ift h486 H
                  refine Ow_qw rfl rfl rfl rfl rfl rfl (Qt_fieldAddr (m := 1) rfl rfl rfl rfl rfl) ?_
                  refine Ow_qw rfl rfl rfl rfl rfl rfl (Qt_load1 (v := (.int .i64 p2.case_)) rfl rfl rfl (Rdc.blk (.head _) rfl)) ?_
                  refine Ow_qw rfl rfl rfl rfl rfl rfl (Qt_cmp rfl rfl rfl) ?_
                  refine Ow_q rfl rfl rfl (Qt_pick_t rfl rfl) ?_
                  refine Ow_q rfl rfl rfl (Qt_move rfl) ?_
                  refine Ow_caseG rfl rfl rfl ?_ ?_
                  · intro h487
                    have h487 := dcd_t (h487)
                    have H := ift h487 H
                    refine Ow_qw rfl rfl rfl rfl rfl rfl (Qt_loadA (m := 5) (cs := (Result.cells p2)) rfl rfl rfl rfl ⟨rfl, Rdc.blk (.head _) rfl⟩) ?_
                    obtain ⟨x488, hx489, H⟩ := bnd H
                    refine Ow_want rfl rfl rfl rfl (OpW_call rfl Try.call97 rfl rfl (c_M_ref14_only p2 false false x488 hx489 _ _ ) ?_)
                    rintro _ _ _ - ⟨rfl, rfl, rfl⟩
                    refine Ow_q rfl rfl rfl (Qt_pick_t rfl rfl) ?_
                    refine Ow_q rfl rfl rfl (Qt_assign rfl) ?_
                    refine Ow_q rfl rfl rfl (Qt_assign rfl) ?_
                    refine Ow_nil ?_
                    refine Shift.rem .here ?_
                    refine Shift.rem .here ?_
                    refine Shift.done ?_
                    exact ⟨[(6, (sv vp0)), (7, (.bool x488))], ⟨rfl, rfl, trivial⟩, x488, rfl, rfl, rfl, H⟩
                  · intro h487
                    have h487 := dcd_f (h487)
                    have H := iff_ h487 H
                    refine Ow_pass rfl rfl rfl rfl rfl rfl rfl ?_
                    refine Ow_pass rfl rfl rfl rfl rfl rfl rfl ?_
                    refine Ow_q rfl rfl rfl (Qt_pick_f rfl rfl) ?_
                    refine Ow_q rfl rfl rfl (Qt_assign rfl) ?_
                    refine Ow_q rfl rfl rfl (Qt_assign rfl) ?_
                    refine Ow_nil ?_
                    refine Shift.rem .here ?_
                    refine Shift.rem .here ?_
                    refine Shift.done ?_
                    exact ⟨[(6, (sv vp0)), (7, (.bool false))], ⟨rfl, rfl, trivial⟩, false, rfl, rfl, rfl, H⟩
                · intro h486
                  have h486 := dcd_f (h486)
                  have H := iff_ h486 H
                  refine Ow_pass rfl rfl rfl rfl rfl rfl rfl ?_
                  refine Ow_pass rfl rfl rfl rfl rfl rfl rfl ?_
                  refine Ow_pass rfl rfl rfl rfl rfl rfl rfl ?_
                  refine Ow_q rfl rfl rfl (Qt_pick_f rfl rfl) ?_
                  refine Ow_q rfl rfl rfl (Qt_move rfl) ?_
                  refine Ow_pass rfl rfl rfl rfl rfl rfl rfl ?_
                  refine Ow_pass rfl rfl rfl rfl rfl rfl rfl ?_
                  refine Ow_q rfl rfl rfl (Qt_pick_f rfl rfl) ?_
                  refine Ow_q rfl rfl rfl (Qt_assign rfl) ?_
                  refine Ow_q rfl rfl rfl (Qt_assign rfl) ?_
                  refine Ow_nil ?_
                  refine Shift.rem .here ?_
                  refine Shift.rem .here ?_
                  refine Shift.done ?_
                  exact ⟨[(6, (sv vp0)), (7, (.bool false))], ⟨rfl, rfl, trivial⟩, false, rfl, rfl, rfl, H⟩
              · intro h485
                have H := iff_ (btf h485) H
                refine Ow_pass rfl rfl rfl rfl rfl rfl rfl ?_
                refine Ow_pass rfl rfl rfl rfl rfl rfl rfl ?_
                refine Ow_pass rfl rfl rfl rfl rfl rfl rfl ?_
                refine Ow_q rfl rfl rfl (Qt_pick_f rfl rfl) ?_
                refine Ow_q rfl rfl rfl (Qt_move rfl) ?_
                refine Ow_pass rfl rfl rfl rfl rfl rfl rfl ?_
                refine Ow_pass rfl rfl rfl rfl rfl rfl rfl ?_
                refine Ow_pass rfl rfl rfl rfl rfl rfl rfl ?_
                refine Ow_q rfl rfl rfl (Qt_pick_f rfl rfl) ?_
                refine Ow_q rfl rfl rfl (Qt_move rfl) ?_
                refine Ow_pass rfl rfl rfl rfl rfl rfl rfl ?_
                refine Ow_pass rfl rfl rfl rfl rfl rfl rfl ?_
                refine Ow_q rfl rfl rfl (Qt_pick_f rfl rfl) ?_
                refine Ow_q rfl rfl rfl (Qt_assign rfl) ?_
                refine Ow_q rfl rfl rfl (Qt_assign rfl) ?_
                refine Ow_nil ?_
                refine Shift.rem .here ?_
                refine Shift.rem .here ?_
                refine Shift.done ?_
                exact ⟨[(6, (sv vp0)), (7, (.bool false))], ⟨rfl, rfl, trivial⟩, false, rfl, rfl, rfl, H⟩
            rintro _ _ _ - ⟨t484, rfl, rfl, rfl, H⟩
            unfold M_ref14_apply_J6 at H
            refine Cw_ret ?_
            obtain ⟨ey0, ey1⟩ := inj2 H
            subst y0 y1
            refine ⟨(by first | exact .inl rfl | exact .inr rfl), [(sv vp0), (.bool t484)], ⟨(sv vp0), _, rfl, rfl, ⟨(.bool t484), _, rfl, rfl, rfl⟩⟩, ?_⟩
            refine Shift.done ?_
            exact ⟨vp0, rfl, rfl, hp0⟩
          · intro h478
            have h478 := dcd_f (h478)
            have H := iff_ h478 H
            refine Cw_seq ?_
            refine Cw_region ?_
            refine Ow_q rfl rfl rfl (Qt_cmp rfl rfl rfl) ?_
            refine Ow_q rfl rfl rfl (Qt_assign rfl) ?_
            refine Ow_nil ?_
            refine Cw_cond rfl ?_ ?_
            · intro h490
              have h490 := dcd_t (h490)
              have H := ift h490 H
              refine Cw_seq ?_
              refine Cw_region ?_
              refine Ow_q rfl rfl rfl (Qt_assign rfl) ?_
              refine Ow_nil ?_
              refine Cw_join (fun env' K' G' => ∃ (i509 : Int), [(0, (sv vp0)), (4, (.pointer (some ((⟨b156, 0, none⟩ : Addr).add 0)))), (5, (.pointer (some ((⟨b157, 0, none⟩ : Addr).add 0)))), (14, (.int .i64 i509))] = env' ∧ K = K' ∧ (.blk b157 25 (Result.cells p2)) :: (.blk b156 38 (Op.cells p1 vp1_cases vp1_draws)) :: G = G' ∧ M_ref14_apply_J7 p0 p2 p1 i509 = some (y0, y1)) ?_ ?_
              · skip
                refine Cw_seq ?_
                refine Cw_region ?_
                refine Ow_q rfl rfl rfl (Qt_move rfl) ?_
                refine Ow_q rfl rfl rfl (Qt_fieldAddr (m := 2) rfl rfl rfl rfl rfl) ?_
                refine Ow_q rfl rfl rfl (Qt_load1 (v := (.int .i64 p1.channel)) rfl rfl rfl (Rdc.blk (.tail _ (.head _)) rfl)) ?_
                obtain ⟨x510, hx511, H⟩ := bnd H
                refine Ow_cons rfl (OpW_call rfl Try.call80 rfl rfl (c_M_ref14_exists p0 vp0 p1.channel x510 hx511 _ _ hp0) ?_)
                rintro _ _ _ - ⟨rfl, rfl, rfl⟩
                refine Ow_nil ?_
                refine Cw_cond rfl ?_ ?_
                · intro h512
                  have H := ift h512 H
                  refine Cw_seq ?_
                  refine Cw_region ?_
                  refine Ow_q rfl rfl rfl (Qt_move rfl) ?_
                  refine Ow_q rfl rfl rfl (Qt_fieldAddr (m := 2) rfl rfl rfl rfl rfl) ?_
                  refine Ow_q rfl rfl rfl (Qt_load1 (v := (.int .i64 p1.channel)) rfl rfl rfl (Rdc.blk (.tail _ (.head _)) rfl)) ?_
                  obtain ⟨x513, hx514, H⟩ := bnd H
                  obtain ⟨r515, hr516, hk517⟩ := Slr.at hp0 hx514
                  obtain ⟨v518, rfl, hs519⟩ := hr516
                  refine Ow_q rfl rfl rfl (Q_ix (T := TyChan) hp0 hx514 rfl rfl rfl rfl rfl) ?_
                  refine Ow_q rfl rfl rfl (Qt_fieldAddr (m := 1) rfl rfl rfl rfl rfl) ?_
                  refine Ow_q rfl rfl rfl (Qt_load1 (v := (sv v518)) rfl rfl rfl (Rdc.k hk517 rfl)) ?_
                  refine Ow_q rfl rfl rfl (Q_len (T := Ty.u64) hs519 rfl rfl) ?_
                  refine Ow_q rfl rfl rfl (Qt_assign rfl) ?_
                  refine Ow_nil ?_
                  refine Cw_seq ?_
                  refine Cw_region ?_
                  refine Ow_q rfl rfl rfl (Qt_fieldAddr (m := 0) rfl rfl rfl rfl rfl) ?_
                  refine Ow_q rfl rfl rfl (Qt_load1 (v := (.int .i64 p1.kind)) rfl rfl rfl (Rdc.blk (.tail _ (.head _)) rfl)) ?_
                  refine Ow_q rfl rfl rfl (Qt_cmp rfl rfl rfl) ?_
                  refine Ow_nil ?_
                  refine Cw_cond rfl ?_ ?_
                  · intro h520
                    have h520 := dcd_t (h520)
                    have H := ift h520 H
                    refine Cw_region ?_
                    refine Ow_q rfl rfl rfl (Qt_move rfl) ?_
                    refine Ow_q rfl rfl rfl (Qt_fieldAddr (m := 2) rfl rfl rfl rfl rfl) ?_
                    refine Ow_q rfl rfl rfl (Qt_load1 (v := (.int .i64 p1.channel)) rfl rfl rfl (Rdc.blk (.tail _ (.head _)) rfl)) ?_
                    obtain ⟨x521, hx522, H⟩ := bnd H
                    obtain ⟨r523, hr524, hk525⟩ := Slr.at hp0 hx522
                    obtain ⟨v526, rfl, hs527⟩ := hr524
                    refine Ow_q rfl rfl rfl (Q_ix (T := TyChan) hp0 hx522 rfl rfl rfl rfl rfl) ?_
                    refine Ow_q rfl rfl rfl (Qt_fieldAddr (m := 0) rfl rfl rfl rfl rfl) ?_
                    refine Ow_q rfl rfl rfl (Qt_load1 (v := (.int .i64 x521.capacity)) rfl rfl rfl (Rdc.k hk525 rfl)) ?_
                    refine Ow_q rfl rfl rfl (Qt_assign rfl) ?_
                    refine Ow_nil ?_
                    refine Shift.pull (.there .here) ?_
                    refine Shift.pull (.there .here) ?_
                    refine Shift.done ?_
                    exact ⟨[(0, (sv vp0)), (4, (.pointer (some ((⟨b156, 0, none⟩ : Addr).add 0)))), (5, (.pointer (some ((⟨b157, 0, none⟩ : Addr).add 0)))), (14, (.int .i64 x521.capacity))], ⟨rfl, rfl, rfl, rfl, trivial⟩, x521.capacity, rfl, rfl, rfl, H⟩
                  · intro h520
                    have h520 := dcd_f (h520)
                    have H := iff_ h520 H
                    refine Cw_skip ?_
                    refine Shift.pull (.there .here) ?_
                    refine Shift.pull (.there .here) ?_
                    refine Shift.done ?_
                    exact ⟨[(0, (sv vp0)), (4, (.pointer (some ((⟨b156, 0, none⟩ : Addr).add 0)))), (5, (.pointer (some ((⟨b157, 0, none⟩ : Addr).add 0)))), (14, (.int .i64 (x513.buffer.length : Int)))], ⟨rfl, rfl, rfl, rfl, trivial⟩, (x513.buffer.length : Int), rfl, rfl, rfl, H⟩
                · intro h512
                  have H := iff_ (btf h512) H
                  refine Cw_skip ?_
                  refine Shift.pull (.there .here) ?_
                  refine Shift.pull (.there .here) ?_
                  refine Shift.done ?_
                  exact ⟨[(0, (sv vp0)), (4, (.pointer (some ((⟨b156, 0, none⟩ : Addr).add 0)))), (5, (.pointer (some ((⟨b157, 0, none⟩ : Addr).add 0)))), (14, (.int .i64 0))], ⟨rfl, rfl, rfl, rfl, trivial⟩, 0, rfl, rfl, rfl, H⟩
              rintro _ _ _ - ⟨i509, rfl, rfl, rfl, H⟩
              unfold M_ref14_apply_J7 at H
              refine Cw_join (fun env' K' G' => ∃ (t538 : Bool), [(6, (sv vp0)), (7, (.bool t538))] = env' ∧ K = K' ∧ G = G' ∧ M_ref14_apply_J8 p0 t538 = some (y0, y1)) ?_ ?_
              · skip
                rcases bool_ct (dcd (p1.kind = 5)) with hb_ | hb_ <;> revert hb_
                · intro h539
                  have h539 := dcd_t (h539)
                  have H := ift h539 H
                  rcases bool_ct (dcd (p2.case_ = (-1))) with hb_ | hb_ <;> revert hb_
                  · intro h540
                    have h540 := dcd_t (h540)
                    have H := ift h540 H
                    obtain ⟨x541, hx542, H⟩ := bnd H
                    rcases bool_ct x541 with hb_ | hb_ <;> revert hb_
                    · intro h543
                      have H := ift h543 H
                      refine Cw_region_any [.blk b157 25 (Result.cells p2), .blk b156 38 (Op.cells p1 vp1_cases vp1_draws)] rfl (Inc.cons (.head _) (Inc.cons (.tail _ (.head _)) Inc.nil)) ?_
                      refine Aw_q 0 rfl (by kernel_rfl) (by kernel_rfl) (by kernel_rfl) rfl rfl rfl (Qt_move rfl) ?_
                      refine Aw_q 1 rfl (by kernel_rfl) (by kernel_rfl) (by kernel_rfl) rfl rfl rfl (Qt_fieldAddr (m := 0) rfl rfl rfl rfl rfl) ?_
                      refine Aw_q 2 rfl (by kernel_rfl) (by kernel_rfl) (by kernel_rfl) rfl rfl rfl (Qt_load1 (v := (.int .i64 p1.kind)) rfl rfl rfl (Rdc.blk (.tail _ (.head _)) rfl)) ?_
                      refine Aw_q 3 rfl (by kernel_rfl) (by kernel_rfl) (by kernel_rfl) rfl rfl rfl (Qt_cmp rfl rfl rfl) ?_
                      refine Aw_q 4 rfl (by kernel_rfl) (by kernel_rfl) (by kernel_rfl) rfl rfl rfl (Qt_move rfl) ?_
                      refine Aw.known (d := 197) rfl (dcd_pos h539) ?_
                      refine Aw_pass 5 rfl (by kernel_rfl) (by kernel_rfl) (by kernel_rfl) rfl rfl rfl rfl rfl rfl rfl ?_
                      refine Aw_pass 6 rfl (by kernel_rfl) (by kernel_rfl) (by kernel_rfl) rfl rfl rfl rfl rfl rfl rfl ?_
                      refine Aw_pass 7 rfl (by kernel_rfl) (by kernel_rfl) (by kernel_rfl) rfl rfl rfl rfl rfl rfl rfl ?_
                      refine Aw_q 8 rfl (by kernel_rfl) (by kernel_rfl) (by kernel_rfl) rfl rfl rfl (Qt_pick_t rfl rfl) ?_
                      refine Aw_q 9 rfl (by kernel_rfl) (by kernel_rfl) (by kernel_rfl) rfl rfl rfl (Qt_move rfl) ?_
                      refine Aw_qw 10 rfl (by kernel_rfl) (by kernel_rfl) (by kernel_rfl) rfl rfl rfl rfl rfl rfl (Qt_fieldAddr (m := 1) rfl rfl rfl rfl rfl) ?_
                      refine Aw_qw 11 rfl (by kernel_rfl) (by kernel_rfl) (by kernel_rfl) rfl rfl rfl rfl rfl rfl (Qt_load1 (v := (.int .i64 p2.case_)) rfl rfl rfl (Rdc.blk (.head _) rfl)) ?_
                      refine Aw_qw 12 rfl (by kernel_rfl) (by kernel_rfl) (by kernel_rfl) rfl rfl rfl rfl rfl rfl (Qt_cmp rfl rfl rfl) ?_
                      refine Aw_q 13 rfl (by kernel_rfl) (by kernel_rfl) (by kernel_rfl) rfl rfl rfl (Qt_pick_t rfl rfl) ?_
                      refine Aw_q 14 rfl (by kernel_rfl) (by kernel_rfl) (by kernel_rfl) rfl rfl rfl (Qt_move rfl) ?_
                      refine Aw.known (d := 207) rfl (dcd_pos h540) ?_
                      refine Aw_qw 15 rfl (by kernel_rfl) (by kernel_rfl) (by kernel_rfl) rfl rfl rfl rfl rfl rfl (Qt_loadA (m := 5) (cs := (Result.cells p2)) rfl rfl rfl rfl ⟨rfl, Rdc.blk (.head _) rfl⟩) ?_
                      refine Aw_one 16 (by kernel_rfl) (Ax_mkw rfl rfl rfl rfl rfl ?_)
                      refine OpW_call rfl Try.call97 rfl rfl (c_M_ref14_only p2 false true x541 hx542 _ _ ) ?_
                      rintro _ _ _ - ⟨rfl, rfl, rfl⟩
                      refine ⟨(Inc.cons (.head _) (Inc.cons (.tail _ (.head _)) Inc.nil)), ?_⟩
                      refine Aw_q 17 rfl (by kernel_rfl) (by kernel_rfl) (by kernel_rfl) rfl rfl rfl (Qt_pick_t rfl rfl) ?_
                      refine Aw_q 18 rfl (by kernel_rfl) (by kernel_rfl) (by kernel_rfl) rfl rfl rfl (Qt_move rfl) ?_
                      refine Aw.known (d := 211) rfl (h543) ?_
                      refine Aw_qw 19 rfl (by kernel_rfl) (by kernel_rfl) (by kernel_rfl) rfl rfl rfl rfl rfl rfl (Qt_fieldAddr (m := 4) rfl rfl rfl rfl rfl) ?_
                      refine Aw_qw 20 rfl (by kernel_rfl) (by kernel_rfl) (by kernel_rfl) rfl rfl rfl rfl rfl rfl (Qt_load1 (v := (.int .i64 p2.number)) rfl rfl rfl (Rdc.blk (.head _) rfl)) ?_
                      refine Aw_qw 21 rfl (by kernel_rfl) (by kernel_rfl) (by kernel_rfl) rfl rfl rfl rfl rfl rfl (Qt_move rfl) ?_
                      refine Aw_qw 22 rfl (by kernel_rfl) (by kernel_rfl) (by kernel_rfl) rfl rfl rfl rfl rfl rfl (Qt_cmp rfl rfl rfl) ?_
                      refine Aw_q 23 rfl (by kernel_rfl) (by kernel_rfl) (by kernel_rfl) rfl rfl rfl (Qt_pick_t rfl rfl) ?_
                      refine Aw_q 24 rfl (by kernel_rfl) (by kernel_rfl) (by kernel_rfl) rfl rfl rfl (Qt_assign rfl) ?_
                      refine Aw_q 25 rfl (by kernel_rfl) (by kernel_rfl) (by kernel_rfl) rfl rfl rfl (Qt_assign rfl) ?_
                      refine Aw_done (by kernel_rfl) ?_
                      refine Shift.rem .here ?_
                      refine Shift.rem .here ?_
                      refine Shift.done ?_
                      exact ⟨[(6, (sv vp0)), (7, (.bool (dcd (p2.number = i509))))], ⟨rfl, rfl, trivial⟩, (dcd (p2.number = i509)), rfl, rfl, rfl, H⟩
                    · intro h543
                      have H := iff_ (btf h543) H
                      refine Cw_region_any [.blk b157 25 (Result.cells p2), .blk b156 38 (Op.cells p1 vp1_cases vp1_draws)] rfl (Inc.cons (.head _) (Inc.cons (.tail _ (.head _)) Inc.nil)) ?_
                      refine Aw_q 0 rfl (by kernel_rfl) (by kernel_rfl) (by kernel_rfl) rfl rfl rfl (Qt_move rfl) ?_
                      refine Aw_q 1 rfl (by kernel_rfl) (by kernel_rfl) (by kernel_rfl) rfl rfl rfl (Qt_fieldAddr (m := 0) rfl rfl rfl rfl rfl) ?_
                      refine Aw_q 2 rfl (by kernel_rfl) (by kernel_rfl) (by kernel_rfl) rfl rfl rfl (Qt_load1 (v := (.int .i64 p1.kind)) rfl rfl rfl (Rdc.blk (.tail _ (.head _)) rfl)) ?_
                      refine Aw_q 3 rfl (by kernel_rfl) (by kernel_rfl) (by kernel_rfl) rfl rfl rfl (Qt_cmp rfl rfl rfl) ?_
                      refine Aw_q 4 rfl (by kernel_rfl) (by kernel_rfl) (by kernel_rfl) rfl rfl rfl (Qt_move rfl) ?_
                      refine Aw.known (d := 197) rfl (dcd_pos h539) ?_
                      refine Aw_pass 5 rfl (by kernel_rfl) (by kernel_rfl) (by kernel_rfl) rfl rfl rfl rfl rfl rfl rfl ?_
                      refine Aw_pass 6 rfl (by kernel_rfl) (by kernel_rfl) (by kernel_rfl) rfl rfl rfl rfl rfl rfl rfl ?_
                      refine Aw_pass 7 rfl (by kernel_rfl) (by kernel_rfl) (by kernel_rfl) rfl rfl rfl rfl rfl rfl rfl ?_
                      refine Aw_q 8 rfl (by kernel_rfl) (by kernel_rfl) (by kernel_rfl) rfl rfl rfl (Qt_pick_t rfl rfl) ?_
                      refine Aw_q 9 rfl (by kernel_rfl) (by kernel_rfl) (by kernel_rfl) rfl rfl rfl (Qt_move rfl) ?_
                      refine Aw_qw 10 rfl (by kernel_rfl) (by kernel_rfl) (by kernel_rfl) rfl rfl rfl rfl rfl rfl (Qt_fieldAddr (m := 1) rfl rfl rfl rfl rfl) ?_
                      refine Aw_qw 11 rfl (by kernel_rfl) (by kernel_rfl) (by kernel_rfl) rfl rfl rfl rfl rfl rfl (Qt_load1 (v := (.int .i64 p2.case_)) rfl rfl rfl (Rdc.blk (.head _) rfl)) ?_
                      refine Aw_qw 12 rfl (by kernel_rfl) (by kernel_rfl) (by kernel_rfl) rfl rfl rfl rfl rfl rfl (Qt_cmp rfl rfl rfl) ?_
                      refine Aw_q 13 rfl (by kernel_rfl) (by kernel_rfl) (by kernel_rfl) rfl rfl rfl (Qt_pick_t rfl rfl) ?_
                      refine Aw_q 14 rfl (by kernel_rfl) (by kernel_rfl) (by kernel_rfl) rfl rfl rfl (Qt_move rfl) ?_
                      refine Aw.known (d := 207) rfl (dcd_pos h540) ?_
                      refine Aw_qw 15 rfl (by kernel_rfl) (by kernel_rfl) (by kernel_rfl) rfl rfl rfl rfl rfl rfl (Qt_loadA (m := 5) (cs := (Result.cells p2)) rfl rfl rfl rfl ⟨rfl, Rdc.blk (.head _) rfl⟩) ?_
                      refine Aw_one 16 (by kernel_rfl) (Ax_mkw rfl rfl rfl rfl rfl ?_)
                      refine OpW_call rfl Try.call97 rfl rfl (c_M_ref14_only p2 false true x541 hx542 _ _ ) ?_
                      rintro _ _ _ - ⟨rfl, rfl, rfl⟩
                      refine ⟨(Inc.cons (.head _) (Inc.cons (.tail _ (.head _)) Inc.nil)), ?_⟩
                      refine Aw_q 17 rfl (by kernel_rfl) (by kernel_rfl) (by kernel_rfl) rfl rfl rfl (Qt_pick_t rfl rfl) ?_
                      refine Aw_q 18 rfl (by kernel_rfl) (by kernel_rfl) (by kernel_rfl) rfl rfl rfl (Qt_move rfl) ?_
                      refine Aw.known (d := 211) rfl (h543) ?_
                      refine Aw_pass 19 rfl (by kernel_rfl) (by kernel_rfl) (by kernel_rfl) rfl rfl rfl rfl rfl rfl rfl ?_
                      refine Aw_pass 20 rfl (by kernel_rfl) (by kernel_rfl) (by kernel_rfl) rfl rfl rfl rfl rfl rfl rfl ?_
                      refine Aw_pass 21 rfl (by kernel_rfl) (by kernel_rfl) (by kernel_rfl) rfl rfl rfl rfl rfl rfl rfl ?_
                      refine Aw_pass 22 rfl (by kernel_rfl) (by kernel_rfl) (by kernel_rfl) rfl rfl rfl rfl rfl rfl rfl ?_
                      refine Aw_q 23 rfl (by kernel_rfl) (by kernel_rfl) (by kernel_rfl) rfl rfl rfl (Qt_pick_f rfl rfl) ?_
                      refine Aw_q 24 rfl (by kernel_rfl) (by kernel_rfl) (by kernel_rfl) rfl rfl rfl (Qt_assign rfl) ?_
                      refine Aw_q 25 rfl (by kernel_rfl) (by kernel_rfl) (by kernel_rfl) rfl rfl rfl (Qt_assign rfl) ?_
                      refine Aw_done (by kernel_rfl) ?_
                      refine Shift.rem .here ?_
                      refine Shift.rem .here ?_
                      refine Shift.done ?_
                      exact ⟨[(6, (sv vp0)), (7, (.bool false))], ⟨rfl, rfl, trivial⟩, false, rfl, rfl, rfl, H⟩
                  · intro h540
                    have h540 := dcd_f (h540)
                    have H := iff_ h540 H
                    refine Cw_region_any [.blk b157 25 (Result.cells p2), .blk b156 38 (Op.cells p1 vp1_cases vp1_draws)] rfl (Inc.cons (.head _) (Inc.cons (.tail _ (.head _)) Inc.nil)) ?_
                    refine Aw_q 0 rfl (by kernel_rfl) (by kernel_rfl) (by kernel_rfl) rfl rfl rfl (Qt_move rfl) ?_
                    refine Aw_q 1 rfl (by kernel_rfl) (by kernel_rfl) (by kernel_rfl) rfl rfl rfl (Qt_fieldAddr (m := 0) rfl rfl rfl rfl rfl) ?_
                    refine Aw_q 2 rfl (by kernel_rfl) (by kernel_rfl) (by kernel_rfl) rfl rfl rfl (Qt_load1 (v := (.int .i64 p1.kind)) rfl rfl rfl (Rdc.blk (.tail _ (.head _)) rfl)) ?_
                    refine Aw_q 3 rfl (by kernel_rfl) (by kernel_rfl) (by kernel_rfl) rfl rfl rfl (Qt_cmp rfl rfl rfl) ?_
                    refine Aw_q 4 rfl (by kernel_rfl) (by kernel_rfl) (by kernel_rfl) rfl rfl rfl (Qt_move rfl) ?_
                    refine Aw.known (d := 197) rfl (dcd_pos h539) ?_
                    refine Aw_pass 5 rfl (by kernel_rfl) (by kernel_rfl) (by kernel_rfl) rfl rfl rfl rfl rfl rfl rfl ?_
                    refine Aw_pass 6 rfl (by kernel_rfl) (by kernel_rfl) (by kernel_rfl) rfl rfl rfl rfl rfl rfl rfl ?_
                    refine Aw_pass 7 rfl (by kernel_rfl) (by kernel_rfl) (by kernel_rfl) rfl rfl rfl rfl rfl rfl rfl ?_
                    refine Aw_q 8 rfl (by kernel_rfl) (by kernel_rfl) (by kernel_rfl) rfl rfl rfl (Qt_pick_t rfl rfl) ?_
                    refine Aw_q 9 rfl (by kernel_rfl) (by kernel_rfl) (by kernel_rfl) rfl rfl rfl (Qt_move rfl) ?_
                    refine Aw_qw 10 rfl (by kernel_rfl) (by kernel_rfl) (by kernel_rfl) rfl rfl rfl rfl rfl rfl (Qt_fieldAddr (m := 1) rfl rfl rfl rfl rfl) ?_
                    refine Aw_qw 11 rfl (by kernel_rfl) (by kernel_rfl) (by kernel_rfl) rfl rfl rfl rfl rfl rfl (Qt_load1 (v := (.int .i64 p2.case_)) rfl rfl rfl (Rdc.blk (.head _) rfl)) ?_
                    refine Aw_qw 12 rfl (by kernel_rfl) (by kernel_rfl) (by kernel_rfl) rfl rfl rfl rfl rfl rfl (Qt_cmp rfl rfl rfl) ?_
                    refine Aw_q 13 rfl (by kernel_rfl) (by kernel_rfl) (by kernel_rfl) rfl rfl rfl (Qt_pick_t rfl rfl) ?_
                    refine Aw_q 14 rfl (by kernel_rfl) (by kernel_rfl) (by kernel_rfl) rfl rfl rfl (Qt_move rfl) ?_
                    refine Aw.known (d := 207) rfl (dcd_neg h540) ?_
                    refine Aw_pass 15 rfl (by kernel_rfl) (by kernel_rfl) (by kernel_rfl) rfl rfl rfl rfl rfl rfl rfl ?_
                    refine Aw_pass 16 rfl (by kernel_rfl) (by kernel_rfl) (by kernel_rfl) rfl rfl rfl rfl rfl rfl rfl ?_
                    refine Aw_q 17 rfl (by kernel_rfl) (by kernel_rfl) (by kernel_rfl) rfl rfl rfl (Qt_pick_f rfl rfl) ?_
                    refine Aw_q 18 rfl (by kernel_rfl) (by kernel_rfl) (by kernel_rfl) rfl rfl rfl (Qt_move rfl) ?_
                    refine Aw_pass 19 rfl (by kernel_rfl) (by kernel_rfl) (by kernel_rfl) rfl rfl rfl rfl rfl rfl rfl ?_
                    refine Aw_pass 20 rfl (by kernel_rfl) (by kernel_rfl) (by kernel_rfl) rfl rfl rfl rfl rfl rfl rfl ?_
                    refine Aw_pass 21 rfl (by kernel_rfl) (by kernel_rfl) (by kernel_rfl) rfl rfl rfl rfl rfl rfl rfl ?_
                    refine Aw_pass 22 rfl (by kernel_rfl) (by kernel_rfl) (by kernel_rfl) rfl rfl rfl rfl rfl rfl rfl ?_
                    refine Aw_q 23 rfl (by kernel_rfl) (by kernel_rfl) (by kernel_rfl) rfl rfl rfl (Qt_pick_f rfl rfl) ?_
                    refine Aw_q 24 rfl (by kernel_rfl) (by kernel_rfl) (by kernel_rfl) rfl rfl rfl (Qt_assign rfl) ?_
                    refine Aw_q 25 rfl (by kernel_rfl) (by kernel_rfl) (by kernel_rfl) rfl rfl rfl (Qt_assign rfl) ?_
                    refine Aw_done (by kernel_rfl) ?_
                    refine Shift.rem .here ?_
                    refine Shift.rem .here ?_
                    refine Shift.done ?_
                    exact ⟨[(6, (sv vp0)), (7, (.bool false))], ⟨rfl, rfl, trivial⟩, false, rfl, rfl, rfl, H⟩
                · intro h539
                  have h539 := dcd_f (h539)
                  have H := iff_ h539 H
                  rcases bool_ct (dcd (p1.kind = 6)) with hb_ | hb_ <;> revert hb_
                  · intro h544
                    have h544 := dcd_t (h544)
                    have H := ift h544 H
                    rcases bool_ct (dcd (p2.case_ = (-1))) with hb_ | hb_ <;> revert hb_
                    · intro h545
                      have h545 := dcd_t (h545)
                      have H := ift h545 H
                      obtain ⟨x546, hx547, H⟩ := bnd H
                      rcases bool_ct x546 with hb_ | hb_ <;> revert hb_
                      · intro h548
                        have H := ift h548 H
                        refine Cw_region_any [.blk b157 25 (Result.cells p2), .blk b156 38 (Op.cells p1 vp1_cases vp1_draws)] rfl (Inc.cons (.head _) (Inc.cons (.tail _ (.head _)) Inc.nil)) ?_
                        refine Aw_q 0 rfl (by kernel_rfl) (by kernel_rfl) (by kernel_rfl) rfl rfl rfl (Qt_move rfl) ?_
                        refine Aw_q 1 rfl (by kernel_rfl) (by kernel_rfl) (by kernel_rfl) rfl rfl rfl (Qt_fieldAddr (m := 0) rfl rfl rfl rfl rfl) ?_
                        refine Aw_q 2 rfl (by kernel_rfl) (by kernel_rfl) (by kernel_rfl) rfl rfl rfl (Qt_load1 (v := (.int .i64 p1.kind)) rfl rfl rfl (Rdc.blk (.tail _ (.head _)) rfl)) ?_
                        refine Aw_q 3 rfl (by kernel_rfl) (by kernel_rfl) (by kernel_rfl) rfl rfl rfl (Qt_cmp rfl rfl rfl) ?_
                        refine Aw_q 4 rfl (by kernel_rfl) (by kernel_rfl) (by kernel_rfl) rfl rfl rfl (Qt_move rfl) ?_
                        refine Aw.known (d := 197) rfl (dcd_neg h539) ?_
                        refine Aw_qw 5 rfl (by kernel_rfl) (by kernel_rfl) (by kernel_rfl) rfl rfl rfl rfl rfl rfl (Qt_fieldAddr (m := 0) rfl rfl rfl rfl rfl) ?_
                        refine Aw_qw 6 rfl (by kernel_rfl) (by kernel_rfl) (by kernel_rfl) rfl rfl rfl rfl rfl rfl (Qt_load1 (v := (.int .i64 p1.kind)) rfl rfl rfl (Rdc.blk (.tail _ (.head _)) rfl)) ?_
                        refine Aw_qw 7 rfl (by kernel_rfl) (by kernel_rfl) (by kernel_rfl) rfl rfl rfl rfl rfl rfl (Qt_cmp rfl rfl rfl) ?_
                        refine Aw_q 8 rfl (by kernel_rfl) (by kernel_rfl) (by kernel_rfl) rfl rfl rfl (Qt_pick_f rfl rfl) ?_
                        refine Aw_q 9 rfl (by kernel_rfl) (by kernel_rfl) (by kernel_rfl) rfl rfl rfl (Qt_move rfl) ?_
                        refine Aw.known (d := 202) rfl (dcd_pos h544) ?_
                        refine Aw_qw 10 rfl (by kernel_rfl) (by kernel_rfl) (by kernel_rfl) rfl rfl rfl rfl rfl rfl (Qt_fieldAddr (m := 1) rfl rfl rfl rfl rfl) ?_
                        refine Aw_qw 11 rfl (by kernel_rfl) (by kernel_rfl) (by kernel_rfl) rfl rfl rfl rfl rfl rfl (Qt_load1 (v := (.int .i64 p2.case_)) rfl rfl rfl (Rdc.blk (.head _) rfl)) ?_
                        refine Aw_qw 12 rfl (by kernel_rfl) (by kernel_rfl) (by kernel_rfl) rfl rfl rfl rfl rfl rfl (Qt_cmp rfl rfl rfl) ?_
                        refine Aw_q 13 rfl (by kernel_rfl) (by kernel_rfl) (by kernel_rfl) rfl rfl rfl (Qt_pick_t rfl rfl) ?_
                        refine Aw_q 14 rfl (by kernel_rfl) (by kernel_rfl) (by kernel_rfl) rfl rfl rfl (Qt_move rfl) ?_
                        refine Aw.known (d := 207) rfl (dcd_pos h545) ?_
                        refine Aw_qw 15 rfl (by kernel_rfl) (by kernel_rfl) (by kernel_rfl) rfl rfl rfl rfl rfl rfl (Qt_loadA (m := 5) (cs := (Result.cells p2)) rfl rfl rfl rfl ⟨rfl, Rdc.blk (.head _) rfl⟩) ?_
                        refine Aw_one 16 (by kernel_rfl) (Ax_mkw rfl rfl rfl rfl rfl ?_)
                        refine OpW_call rfl Try.call97 rfl rfl (c_M_ref14_only p2 false true x546 hx547 _ _ ) ?_
                        rintro _ _ _ - ⟨rfl, rfl, rfl⟩
                        refine ⟨(Inc.cons (.head _) (Inc.cons (.tail _ (.head _)) Inc.nil)), ?_⟩
                        refine Aw_q 17 rfl (by kernel_rfl) (by kernel_rfl) (by kernel_rfl) rfl rfl rfl (Qt_pick_t rfl rfl) ?_
                        refine Aw_q 18 rfl (by kernel_rfl) (by kernel_rfl) (by kernel_rfl) rfl rfl rfl (Qt_move rfl) ?_
                        refine Aw.known (d := 211) rfl (h548) ?_
                        refine Aw_qw 19 rfl (by kernel_rfl) (by kernel_rfl) (by kernel_rfl) rfl rfl rfl rfl rfl rfl (Qt_fieldAddr (m := 4) rfl rfl rfl rfl rfl) ?_
                        refine Aw_qw 20 rfl (by kernel_rfl) (by kernel_rfl) (by kernel_rfl) rfl rfl rfl rfl rfl rfl (Qt_load1 (v := (.int .i64 p2.number)) rfl rfl rfl (Rdc.blk (.head _) rfl)) ?_
                        refine Aw_qw 21 rfl (by kernel_rfl) (by kernel_rfl) (by kernel_rfl) rfl rfl rfl rfl rfl rfl (Qt_move rfl) ?_
                        refine Aw_qw 22 rfl (by kernel_rfl) (by kernel_rfl) (by kernel_rfl) rfl rfl rfl rfl rfl rfl (Qt_cmp rfl rfl rfl) ?_
                        refine Aw_q 23 rfl (by kernel_rfl) (by kernel_rfl) (by kernel_rfl) rfl rfl rfl (Qt_pick_t rfl rfl) ?_
                        refine Aw_q 24 rfl (by kernel_rfl) (by kernel_rfl) (by kernel_rfl) rfl rfl rfl (Qt_assign rfl) ?_
                        refine Aw_q 25 rfl (by kernel_rfl) (by kernel_rfl) (by kernel_rfl) rfl rfl rfl (Qt_assign rfl) ?_
                        refine Aw_done (by kernel_rfl) ?_
                        refine Shift.rem .here ?_
                        refine Shift.rem .here ?_
                        refine Shift.done ?_
                        exact ⟨[(6, (sv vp0)), (7, (.bool (dcd (p2.number = i509))))], ⟨rfl, rfl, trivial⟩, (dcd (p2.number = i509)), rfl, rfl, rfl, H⟩
                      · intro h548
                        have H := iff_ (btf h548) H
                        refine Cw_region_any [.blk b157 25 (Result.cells p2), .blk b156 38 (Op.cells p1 vp1_cases vp1_draws)] rfl (Inc.cons (.head _) (Inc.cons (.tail _ (.head _)) Inc.nil)) ?_
                        refine Aw_q 0 rfl (by kernel_rfl) (by kernel_rfl) (by kernel_rfl) rfl rfl rfl (Qt_move rfl) ?_
                        refine Aw_q 1 rfl (by kernel_rfl) (by kernel_rfl) (by kernel_rfl) rfl rfl rfl (Qt_fieldAddr (m := 0) rfl rfl rfl rfl rfl) ?_
                        refine Aw_q 2 rfl (by kernel_rfl) (by kernel_rfl) (by kernel_rfl) rfl rfl rfl (Qt_load1 (v := (.int .i64 p1.kind)) rfl rfl rfl (Rdc.blk (.tail _ (.head _)) rfl)) ?_
                        refine Aw_q 3 rfl (by kernel_rfl) (by kernel_rfl) (by kernel_rfl) rfl rfl rfl (Qt_cmp rfl rfl rfl) ?_
                        refine Aw_q 4 rfl (by kernel_rfl) (by kernel_rfl) (by kernel_rfl) rfl rfl rfl (Qt_move rfl) ?_
                        refine Aw.known (d := 197) rfl (dcd_neg h539) ?_
                        refine Aw_qw 5 rfl (by kernel_rfl) (by kernel_rfl) (by kernel_rfl) rfl rfl rfl rfl rfl rfl (Qt_fieldAddr (m := 0) rfl rfl rfl rfl rfl) ?_
                        refine Aw_qw 6 rfl (by kernel_rfl) (by kernel_rfl) (by kernel_rfl) rfl rfl rfl rfl rfl rfl (Qt_load1 (v := (.int .i64 p1.kind)) rfl rfl rfl (Rdc.blk (.tail _ (.head _)) rfl)) ?_
                        refine Aw_qw 7 rfl (by kernel_rfl) (by kernel_rfl) (by kernel_rfl) rfl rfl rfl rfl rfl rfl (Qt_cmp rfl rfl rfl) ?_
                        refine Aw_q 8 rfl (by kernel_rfl) (by kernel_rfl) (by kernel_rfl) rfl rfl rfl (Qt_pick_f rfl rfl) ?_
                        refine Aw_q 9 rfl (by kernel_rfl) (by kernel_rfl) (by kernel_rfl) rfl rfl rfl (Qt_move rfl) ?_
                        refine Aw.known (d := 202) rfl (dcd_pos h544) ?_
                        refine Aw_qw 10 rfl (by kernel_rfl) (by kernel_rfl) (by kernel_rfl) rfl rfl rfl rfl rfl rfl (Qt_fieldAddr (m := 1) rfl rfl rfl rfl rfl) ?_
                        refine Aw_qw 11 rfl (by kernel_rfl) (by kernel_rfl) (by kernel_rfl) rfl rfl rfl rfl rfl rfl (Qt_load1 (v := (.int .i64 p2.case_)) rfl rfl rfl (Rdc.blk (.head _) rfl)) ?_
                        refine Aw_qw 12 rfl (by kernel_rfl) (by kernel_rfl) (by kernel_rfl) rfl rfl rfl rfl rfl rfl (Qt_cmp rfl rfl rfl) ?_
                        refine Aw_q 13 rfl (by kernel_rfl) (by kernel_rfl) (by kernel_rfl) rfl rfl rfl (Qt_pick_t rfl rfl) ?_
                        refine Aw_q 14 rfl (by kernel_rfl) (by kernel_rfl) (by kernel_rfl) rfl rfl rfl (Qt_move rfl) ?_
                        refine Aw.known (d := 207) rfl (dcd_pos h545) ?_
                        refine Aw_qw 15 rfl (by kernel_rfl) (by kernel_rfl) (by kernel_rfl) rfl rfl rfl rfl rfl rfl (Qt_loadA (m := 5) (cs := (Result.cells p2)) rfl rfl rfl rfl ⟨rfl, Rdc.blk (.head _) rfl⟩) ?_
                        refine Aw_one 16 (by kernel_rfl) (Ax_mkw rfl rfl rfl rfl rfl ?_)
                        refine OpW_call rfl Try.call97 rfl rfl (c_M_ref14_only p2 false true x546 hx547 _ _ ) ?_
                        rintro _ _ _ - ⟨rfl, rfl, rfl⟩
                        refine ⟨(Inc.cons (.head _) (Inc.cons (.tail _ (.head _)) Inc.nil)), ?_⟩
                        refine Aw_q 17 rfl (by kernel_rfl) (by kernel_rfl) (by kernel_rfl) rfl rfl rfl (Qt_pick_t rfl rfl) ?_
                        refine Aw_q 18 rfl (by kernel_rfl) (by kernel_rfl) (by kernel_rfl) rfl rfl rfl (Qt_move rfl) ?_
                        refine Aw.known (d := 211) rfl (h548) ?_
                        refine Aw_pass 19 rfl (by kernel_rfl) (by kernel_rfl) (by kernel_rfl) rfl rfl rfl rfl rfl rfl rfl ?_
                        refine Aw_pass 20 rfl (by kernel_rfl) (by kernel_rfl) (by kernel_rfl) rfl rfl rfl rfl rfl rfl rfl ?_
                        refine Aw_pass 21 rfl (by kernel_rfl) (by kernel_rfl) (by kernel_rfl) rfl rfl rfl rfl rfl rfl rfl ?_
                        refine Aw_pass 22 rfl (by kernel_rfl) (by kernel_rfl) (by kernel_rfl) rfl rfl rfl rfl rfl rfl rfl ?_
                        refine Aw_q 23 rfl (by kernel_rfl) (by kernel_rfl) (by kernel_rfl) rfl rfl rfl (Qt_pick_f rfl rfl) ?_
                        refine Aw_q 24 rfl (by kernel_rfl) (by kernel_rfl) (by kernel_rfl) rfl rfl rfl (Qt_assign rfl) ?_
                        refine Aw_q 25 rfl (by kernel_rfl) (by kernel_rfl) (by kernel_rfl) rfl rfl rfl (Qt_assign rfl) ?_
                        refine Aw_done (by kernel_rfl) ?_
                        refine Shift.rem .here ?_
                        refine Shift.rem .here ?_
                        refine Shift.done ?_
                        exact ⟨[(6, (sv vp0)), (7, (.bool false))], ⟨rfl, rfl, trivial⟩, false, rfl, rfl, rfl, H⟩
                    · intro h545
                      have h545 := dcd_f (h545)
                      have H := iff_ h545 H
                      refine Cw_region_any [.blk b157 25 (Result.cells p2), .blk b156 38 (Op.cells p1 vp1_cases vp1_draws)] rfl (Inc.cons (.head _) (Inc.cons (.tail _ (.head _)) Inc.nil)) ?_
                      refine Aw_q 0 rfl (by kernel_rfl) (by kernel_rfl) (by kernel_rfl) rfl rfl rfl (Qt_move rfl) ?_
                      refine Aw_q 1 rfl (by kernel_rfl) (by kernel_rfl) (by kernel_rfl) rfl rfl rfl (Qt_fieldAddr (m := 0) rfl rfl rfl rfl rfl) ?_
                      refine Aw_q 2 rfl (by kernel_rfl) (by kernel_rfl) (by kernel_rfl) rfl rfl rfl (Qt_load1 (v := (.int .i64 p1.kind)) rfl rfl rfl (Rdc.blk (.tail _ (.head _)) rfl)) ?_
                      refine Aw_q 3 rfl (by kernel_rfl) (by kernel_rfl) (by kernel_rfl) rfl rfl rfl (Qt_cmp rfl rfl rfl) ?_
                      refine Aw_q 4 rfl (by kernel_rfl) (by kernel_rfl) (by kernel_rfl) rfl rfl rfl (Qt_move rfl) ?_
                      refine Aw.known (d := 197) rfl (dcd_neg h539) ?_
                      refine Aw_qw 5 rfl (by kernel_rfl) (by kernel_rfl) (by kernel_rfl) rfl rfl rfl rfl rfl rfl (Qt_fieldAddr (m := 0) rfl rfl rfl rfl rfl) ?_
                      refine Aw_qw 6 rfl (by kernel_rfl) (by kernel_rfl) (by kernel_rfl) rfl rfl rfl rfl rfl rfl (Qt_load1 (v := (.int .i64 p1.kind)) rfl rfl rfl (Rdc.blk (.tail _ (.head _)) rfl)) ?_
                      refine Aw_qw 7 rfl (by kernel_rfl) (by kernel_rfl) (by kernel_rfl) rfl rfl rfl rfl rfl rfl (Qt_cmp rfl rfl rfl) ?_
                      refine Aw_q 8 rfl (by kernel_rfl) (by kernel_rfl) (by kernel_rfl) rfl rfl rfl (Qt_pick_f rfl rfl) ?_
                      refine Aw_q 9 rfl (by kernel_rfl) (by kernel_rfl) (by kernel_rfl) rfl rfl rfl (Qt_move rfl) ?_
                      refine Aw.known (d := 202) rfl (dcd_pos h544) ?_
                      refine Aw_qw 10 rfl (by kernel_rfl) (by kernel_rfl) (by kernel_rfl) rfl rfl rfl rfl rfl rfl (Qt_fieldAddr (m := 1) rfl rfl rfl rfl rfl) ?_
                      refine Aw_qw 11 rfl (by kernel_rfl) (by kernel_rfl) (by kernel_rfl) rfl rfl rfl rfl rfl rfl (Qt_load1 (v := (.int .i64 p2.case_)) rfl rfl rfl (Rdc.blk (.head _) rfl)) ?_
                      refine Aw_qw 12 rfl (by kernel_rfl) (by kernel_rfl) (by kernel_rfl) rfl rfl rfl rfl rfl rfl (Qt_cmp rfl rfl rfl) ?_
                      refine Aw_q 13 rfl (by kernel_rfl) (by kernel_rfl) (by kernel_rfl) rfl rfl rfl (Qt_pick_t rfl rfl) ?_
                      refine Aw_q 14 rfl (by kernel_rfl) (by kernel_rfl) (by kernel_rfl) rfl rfl rfl (Qt_move rfl) ?_
                      refine Aw.known (d := 207) rfl (dcd_neg h545) ?_
                      refine Aw_pass 15 rfl (by kernel_rfl) (by kernel_rfl) (by kernel_rfl) rfl rfl rfl rfl rfl rfl rfl ?_
                      refine Aw_pass 16 rfl (by kernel_rfl) (by kernel_rfl) (by kernel_rfl) rfl rfl rfl rfl rfl rfl rfl ?_
                      refine Aw_q 17 rfl (by kernel_rfl) (by kernel_rfl) (by kernel_rfl) rfl rfl rfl (Qt_pick_f rfl rfl) ?_
                      refine Aw_q 18 rfl (by kernel_rfl) (by kernel_rfl) (by kernel_rfl) rfl rfl rfl (Qt_move rfl) ?_
                      refine Aw_pass 19 rfl (by kernel_rfl) (by kernel_rfl) (by kernel_rfl) rfl rfl rfl rfl rfl rfl rfl ?_
                      refine Aw_pass 20 rfl (by kernel_rfl) (by kernel_rfl) (by kernel_rfl) rfl rfl rfl rfl rfl rfl rfl ?_
                      refine Aw_pass 21 rfl (by kernel_rfl) (by kernel_rfl) (by kernel_rfl) rfl rfl rfl rfl rfl rfl rfl ?_
                      refine Aw_pass 22 rfl (by kernel_rfl) (by kernel_rfl) (by kernel_rfl) rfl rfl rfl rfl rfl rfl rfl ?_
                      refine Aw_q 23 rfl (by kernel_rfl) (by kernel_rfl) (by kernel_rfl) rfl rfl rfl (Qt_pick_f rfl rfl) ?_
                      refine Aw_q 24 rfl (by kernel_rfl) (by kernel_rfl) (by kernel_rfl) rfl rfl rfl (Qt_assign rfl) ?_
                      refine Aw_q 25 rfl (by kernel_rfl) (by kernel_rfl) (by kernel_rfl) rfl rfl rfl (Qt_assign rfl) ?_
                      refine Aw_done (by kernel_rfl) ?_
                      refine Shift.rem .here ?_
                      refine Shift.rem .here ?_
                      refine Shift.done ?_
                      exact ⟨[(6, (sv vp0)), (7, (.bool false))], ⟨rfl, rfl, trivial⟩, false, rfl, rfl, rfl, H⟩
                  · intro h544
                    have h544 := dcd_f (h544)
                    have H := iff_ h544 H
                    refine Cw_region_any [.blk b157 25 (Result.cells p2), .blk b156 38 (Op.cells p1 vp1_cases vp1_draws)] rfl (Inc.cons (.head _) (Inc.cons (.tail _ (.head _)) Inc.nil)) ?_
                    refine Aw_q 0 rfl (by kernel_rfl) (by kernel_rfl) (by kernel_rfl) rfl rfl rfl (Qt_move rfl) ?_
                    refine Aw_q 1 rfl (by kernel_rfl) (by kernel_rfl) (by kernel_rfl) rfl rfl rfl (Qt_fieldAddr (m := 0) rfl rfl rfl rfl rfl) ?_
                    refine Aw_q 2 rfl (by kernel_rfl) (by kernel_rfl) (by kernel_rfl) rfl rfl rfl (Qt_load1 (v := (.int .i64 p1.kind)) rfl rfl rfl (Rdc.blk (.tail _ (.head _)) rfl)) ?_
                    refine Aw_q 3 rfl (by kernel_rfl) (by kernel_rfl) (by kernel_rfl) rfl rfl rfl (Qt_cmp rfl rfl rfl) ?_
                    refine Aw_q 4 rfl (by kernel_rfl) (by kernel_rfl) (by kernel_rfl) rfl rfl rfl (Qt_move rfl) ?_
                    refine Aw.known (d := 197) rfl (dcd_neg h539) ?_
                    refine Aw_qw 5 rfl (by kernel_rfl) (by kernel_rfl) (by kernel_rfl) rfl rfl rfl rfl rfl rfl (Qt_fieldAddr (m := 0) rfl rfl rfl rfl rfl) ?_
                    refine Aw_qw 6 rfl (by kernel_rfl) (by kernel_rfl) (by kernel_rfl) rfl rfl rfl rfl rfl rfl (Qt_load1 (v := (.int .i64 p1.kind)) rfl rfl rfl (Rdc.blk (.tail _ (.head _)) rfl)) ?_
                    refine Aw_qw 7 rfl (by kernel_rfl) (by kernel_rfl) (by kernel_rfl) rfl rfl rfl rfl rfl rfl (Qt_cmp rfl rfl rfl) ?_
                    refine Aw_q 8 rfl (by kernel_rfl) (by kernel_rfl) (by kernel_rfl) rfl rfl rfl (Qt_pick_f rfl rfl) ?_
                    refine Aw_q 9 rfl (by kernel_rfl) (by kernel_rfl) (by kernel_rfl) rfl rfl rfl (Qt_move rfl) ?_
                    refine Aw.known (d := 202) rfl (dcd_neg h544) ?_
                    refine Aw_pass 10 rfl (by kernel_rfl) (by kernel_rfl) (by kernel_rfl) rfl rfl rfl rfl rfl rfl rfl ?_
                    refine Aw_pass 11 rfl (by kernel_rfl) (by kernel_rfl) (by kernel_rfl) rfl rfl rfl rfl rfl rfl rfl ?_
                    refine Aw_pass 12 rfl (by kernel_rfl) (by kernel_rfl) (by kernel_rfl) rfl rfl rfl rfl rfl rfl rfl ?_
                    refine Aw_q 13 rfl (by kernel_rfl) (by kernel_rfl) (by kernel_rfl) rfl rfl rfl (Qt_pick_f rfl rfl) ?_
                    refine Aw_q 14 rfl (by kernel_rfl) (by kernel_rfl) (by kernel_rfl) rfl rfl rfl (Qt_move rfl) ?_
                    refine Aw_pass 15 rfl (by kernel_rfl) (by kernel_rfl) (by kernel_rfl) rfl rfl rfl rfl rfl rfl rfl ?_
                    refine Aw_pass 16 rfl (by kernel_rfl) (by kernel_rfl) (by kernel_rfl) rfl rfl rfl rfl rfl rfl rfl ?_
                    refine Aw_q 17 rfl (by kernel_rfl) (by kernel_rfl) (by kernel_rfl) rfl rfl rfl (Qt_pick_f rfl rfl) ?_
                    refine Aw_q 18 rfl (by kernel_rfl) (by kernel_rfl) (by kernel_rfl) rfl rfl rfl (Qt_move rfl) ?_
                    refine Aw_pass 19 rfl (by kernel_rfl) (by kernel_rfl) (by kernel_rfl) rfl rfl rfl rfl rfl rfl rfl ?_
                    refine Aw_pass 20 rfl (by kernel_rfl) (by kernel_rfl) (by kernel_rfl) rfl rfl rfl rfl rfl rfl rfl ?_
                    refine Aw_pass 21 rfl (by kernel_rfl) (by kernel_rfl) (by kernel_rfl) rfl rfl rfl rfl rfl rfl rfl ?_
                    refine Aw_pass 22 rfl (by kernel_rfl) (by kernel_rfl) (by kernel_rfl) rfl rfl rfl rfl rfl rfl rfl ?_
                    refine Aw_q 23 rfl (by kernel_rfl) (by kernel_rfl) (by kernel_rfl) rfl rfl rfl (Qt_pick_f rfl rfl) ?_
                    refine Aw_q 24 rfl (by kernel_rfl) (by kernel_rfl) (by kernel_rfl) rfl rfl rfl (Qt_assign rfl) ?_
                    refine Aw_q 25 rfl (by kernel_rfl) (by kernel_rfl) (by kernel_rfl) rfl rfl rfl (Qt_assign rfl) ?_
                    refine Aw_done (by kernel_rfl) ?_
                    refine Shift.rem .here ?_
                    refine Shift.rem .here ?_
                    refine Shift.done ?_
                    exact ⟨[(6, (sv vp0)), (7, (.bool false))], ⟨rfl, rfl, trivial⟩, false, rfl, rfl, rfl, H⟩
              rintro _ _ _ - ⟨t538, rfl, rfl, rfl, H⟩
              unfold M_ref14_apply_J8 at H
              refine Cw_ret ?_
              obtain ⟨ey0, ey1⟩ := inj2 H
              subst y0 y1
              refine ⟨(by first | exact .inl rfl | exact .inr rfl), [(sv vp0), (.bool t538)], ⟨(sv vp0), _, rfl, rfl, ⟨(.bool t538), _, rfl, rfl, rfl⟩⟩, ?_⟩
              refine Shift.done ?_
              exact ⟨vp0, rfl, rfl, hp0⟩
            · intro h490
              have h490 := dcd_f (h490)
              have H := iff_ h490 H
              refine Cw_skip ?_
              refine Cw_seq ?_
              refine Cw_region ?_
              refine Ow_q rfl rfl rfl (Qt_assign rfl) ?_
              refine Ow_q rfl rfl rfl (Qt_assign rfl) ?_
              refine Ow_nil ?_
              refine Cw_ret ?_
              obtain ⟨ey0, ey1⟩ := inj2 H
              subst y0 y1
              refine ⟨(by first | exact .inl rfl | exact .inr rfl), [(sv nilS), (.bool false)], ⟨(sv nilS), _, rfl, rfl, ⟨(.bool false), _, rfl, rfl, rfl⟩⟩, ?_⟩
              refine Shift.rem .here ?_
              refine Shift.rem .here ?_
              refine Shift.done ?_
              exact ⟨nilS, rfl, rfl, (Slr.nil TyChan _)⟩

set_option maxHeartbeats 1000000 in
theorem c_M_ref14_Apply (p0 : List Chan) (vp0 : SV) (p1 : Op) (vp1_cases : SV) (vp1_draws : SV) (p2 : Result) (y0 : List Chan) (y1 : Bool) (H : M_ref14_Apply p0 p1 p2 = some (y0, y1)) (K : Kp) (G : List Ent) (hp0 : Slr TyChan K (sv vp0) p0) (hp1_cases : Slr TyCase K (sv vp1_cases) p1.cases) (hp1_draws : Slr Ty.i64 K (sv vp1_draws) p1.draws) :
    Fc Try.prog 20 #[(sv vp0), (.agg (Op.cells p1 vp1_cases vp1_draws).toArray), (.agg (Result.cells p2).toArray)] K (G) (fun v K' G' => ∃ (wy0 : SV), v = (.tuple #[(sv wy0), (.bool y1)]) ∧ G = G' ∧ Slr TyChan K' (sv wy0) y0) := by
  refine Fc_body Try.func20 rfl Try.ntmps20 Try.results20 rfl ?_
  unfold M_ref14_Apply at H
  refine Cw_seq ?_
  refine Cw_region ?_
  refine Ow_cons rfl (OpW_box (cs := (Op.cells p1 vp1_cases vp1_draws)) rfl rfl rfl (fun b11 => ?_))
  refine Ow_cons rfl (OpW_box (cs := (Result.cells p2)) rfl rfl rfl (fun b12 => ?_))
  refine Ow_q rfl rfl rfl (Qt_assign rfl) ?_
  refine Ow_q rfl rfl rfl (Qt_assign rfl) ?_
  refine Ow_nil ?_
  refine Cw_seq ?_
  refine Cw_region ?_
  refine Ow_q rfl rfl rfl (Qt_move rfl) ?_
  refine Ow_q rfl rfl rfl (Qt_loadA (m := 7) (cs := (Op.cells p1 vp1_cases vp1_draws)) rfl rfl rfl rfl ⟨rfl, Rdc.blk (.tail _ (.head _)) rfl⟩) ?_
  refine Ow_q rfl rfl rfl (Qt_loadA (m := 5) (cs := (Result.cells p2)) rfl rfl rfl rfl ⟨rfl, Rdc.blk (.head _) rfl⟩) ?_
  obtain ⟨x13, x14, hx15, H⟩ := bnd2 H
  refine Ow_cons rfl (OpW_call rfl Try.call62 rfl rfl (c_M_ref14_apply p0 vp0 p1 vp1_cases vp1_draws p2 x13 x14 hx15 _ _ hp0 hp1_cases hp1_draws) ?_)
  rintro _ K17 _ hK18 ⟨v16, rfl, rfl, hs19⟩
  refine Ow_q rfl rfl rfl (Qt_move rfl) ?_
  refine Ow_q rfl rfl rfl (Qt_extract rfl rfl) ?_
  refine Ow_q rfl rfl rfl (Qt_extract rfl rfl) ?_
  refine Ow_q rfl rfl rfl (Qt_assign rfl) ?_
  refine Ow_q rfl rfl rfl (Qt_assign rfl) ?_
  refine Ow_nil ?_
  refine Cw_seq ?_
  refine Cw_seq ?_
  refine Cw_region ?_
  refine Ow_q rfl rfl rfl (Qt_move rfl) ?_
  refine Ow_q rfl rfl rfl (Qt_not rfl) ?_
  refine Ow_nil ?_
  refine Cw_cond rfl ?_ ?_
  · intro h21
    have h21 := nt_t (h21)
    have H := iff_ (btf h21) H
    refine Cw_seq ?_
    refine Cw_region ?_
    refine Ow_q rfl rfl rfl (Qt_assign rfl) ?_
    refine Ow_q rfl rfl rfl (Qt_assign rfl) ?_
    refine Ow_nil ?_
    refine Cw_ret ?_
    obtain ⟨ey0, ey1⟩ := inj2 H
    subst y0 y1
    refine ⟨(by first | exact .inl rfl | exact .inr rfl), [(sv nilS), (.bool false)], ⟨(sv nilS), _, rfl, rfl, ⟨(.bool false), _, rfl, rfl, rfl⟩⟩, ?_⟩
    refine Shift.rem .here ?_
    refine Shift.rem .here ?_
    refine Shift.done ?_
    exact ⟨nilS, rfl, rfl, (Slr.nil TyChan _)⟩
  · intro h21
    have h21 := nt_f (h21)
    have H := ift h21 H
    refine Cw_skip ?_
    refine Cw_seq ?_
    refine Cw_region ?_
    refine Ow_q rfl rfl rfl (Qt_move rfl) ?_
    refine Ow_q rfl rfl rfl (Qt_assign rfl) ?_
    refine Ow_q rfl rfl rfl (Qt_assign rfl) ?_
    refine Ow_nil ?_
    refine Cw_ret ?_
    obtain ⟨ey0, ey1⟩ := inj2 H
    subst y0 y1
    refine ⟨(by first | exact .inl rfl | exact .inr rfl), [(sv v16), (.bool true)], ⟨(sv v16), _, rfl, rfl, ⟨(.bool true), _, rfl, rfl, rfl⟩⟩, ?_⟩
    refine Shift.rem .here ?_
    refine Shift.rem .here ?_
    refine Shift.done ?_
    exact ⟨v16, rfl, rfl, hs19⟩



end Go.Hx
